/- A part of the proof. -/
import Derived.Test.YtndegphojkiblaaGreatDoorG15
import Derived.Test.YtndegphojkiblaaGreatDoorG17
import Derived.Test.YtndegphojkiblaaGreatDoorG18
import Derived.Test.YtndegphojkiblaaGreatDoorG24
import Derived.Test.YtndegphojkiblaaGreatDoorG25
import Derived.Test.YtndegphojkiblaaGreatDoorG26
import Derived.Test.YtndegphojkiblaaGreatDoorG27
import Derived.WalkKit
set_option linter.all false
set_option maxHeartbeats 4000000
set_option maxRecDepth 100000
namespace Go.Proofs.YtndegphojkiblaaGreatDoor
noncomputable section
section
open Go.RowKit
open Classical
theorem Tf:∀{ks} {r} {cs},ks.length=r.length→(ks.zip r).mapM (fun x=>x.1.of x.2)=some cs→cs.length=ks.length∧r=List.zipWith Kd.pv ks cs
 |[],[],cs,_,h=>by simp_all
 | k::ks,q::r,cs,hl,h=>by
  cases h1:k.of q with
  |none=>simp[h1]at h
  | some x=>
   cases h2:(ks.zip r).mapM (fun x=>x.1.of x.2)with
   |none=>simp[h1,h2]at h
   |some ys=>
    simp[h1,h2]at h;subst h;obtain⟨k1,k2⟩:=Tf (by simpa using hl) h2;exact⟨by simp[k1],by rw[List.zipWith_cons_cons,Kd.Gb h1,←k2]⟩
def BE (r:List PV):Option (List L):=if r.length=14 then(Ch.zip r).mapM (fun x=>x.1.of x.2)else none
theorem agD {r} {cs} (h:BE r=some cs):cs.length=14∧r.length=14∧r=List.zipWith Kd.pv Ch cs:=by
 unfold BE at h;split at h
 · rename_i hl;obtain⟨h1,h2⟩:=Tf (by rw[hl];rfl) h;simp_all
 · cases h
def sB (F113:List L→Option (List L)) (t113:Nat):ae:=
 .op (.call t113 F113 [(.v 13),(.v 14),(.v 15),(.v 16),(.v 17),(.v 18),(.v 19),(.v 20),(.v 21),(.v 22),(.v 4)] 5 [])<|
 .ite (.v 23)
  (.op (.lit [[((.int .i64),(.v 9)),((.int .i64),(.v 11)),((.int .i64),(.v 10)),((.int .u64),(.v 24)),((.int .u32),(.v 25)),((.int .i64),(.v 26)),((.int .i64),(.v 27)),((.int .i64),(.v 8))]])<|
   .op (.app (.v 7) (.v 28) 8 64)<|
   .ak (.jump 0 [.v 29]))
  (.ak (.jump 0 [.v 7]))
noncomputable def uA (F113:List L→Option (List L)) (t113:Nat) (ρ:List L) (acc:List (List PV)) (k:Nat) (r:List PV):Option (List (List PV)):=
 match BE r with
 |some cs=>match(sB F113 t113).aa (ρ++ [.r acc,.i k]++cs)with
  |some (.jump 0 [a],ρ')=>some (a.ev ρ').az
  |_=>none
 |none=>none
noncomputable def kx (F113:List L→Option (List L)) (t113:Nat) (ρ:List L) (gens:List (List PV)):Nat→Option (List (List PV))
 |0=>some []
 |k+1=>match kx F113 t113 ρ gens k,gens[gens.length-1-k]? with
  |some acc,some g=>uA F113 t113 ρ acc (gens.length-1-k) g
  |_,_=>none
theorem agk {F113:List L→Option (List L)} {t113:Nat} {ρ:List L} {gens acc:List (List PV)} {n:Nat} (h:kx F113 t113 ρ gens n=some acc) {k:Nat} (hk:k≤n):∃a,kx F113 t113 ρ gens k=some a:=by
 induction n generalizing acc with
 |zero=>simp_all
 |succ n ih=>
  grind[kx]
noncomputable def vd (F40 F112 F113:List L→Option (List L)) (t113:Nat):List L→Option (List L):=fun ls=>match ls with
 | [n,r,m,.r gens,key]=>match F40 [n,r,m,.r gens]with
  | some [ok]=>if ok.bx=true then
   (if gens.length≤4611686018427387904 then match F112 [.r gens]with
    |some []=> (kx F113 t113 [n,r,m,.r gens,key,ok,.b (!ok.bx)] gens gens.length).map fun acc=> [.r acc]
    |_=>none
   else none)else some [.r []]
  |_=>none
 |_=>none
noncomputable def Ub (F40 F112 F113:List L→Option (List L)) (t113 tag:Nat):au:=⟨58,[.agg [.p (.int .i64) (.v 0),.p (.int .i64) (.v 1),.p .bool (.v 2),.p .sl (.v 3)],.c (.p (.int .u64) (.v 4))],[],5,1,.v (.c (.own 0)),[(0,.row 165 (.v 5))],vd F40 F112 F113 t113,tag⟩
section
variable {F40 F112 F113:List L→Option (List L)} {t40 t112 t113:Nat}
theorem anm (hC:cK.ok Tryz.prog (kC F40 F112 F113 t40 t112 t113)) {n r m key ok nok:L} {gens:List (List PV)} {acc:List (List PV)} {k:Nat} {l0 l1 l2 l3 l4 l5 l6 l7 l8 l9 l10 l11 l12 l13:L} {a:At} {ρ':List L}
   (hd:(sB F113 t113).aa [n,r,m,.r gens,key,ok,nok,.r acc,.i k,l0,l1,l2,l3,l4,l5,l6,l7,l8,l9,l10,l11,l12,l13]=some (.jump 0 [a],ρ')) {X:Fx} (hP:X.P=Tryz.prog) (hk:X.k0=3) {l d:Nat}:
   iD l d X (.block 1 ((Code.region 7 zX false).seq ((Code.region 8 zM false).seq (.cond (.tmp 25) (.region 9 Ao false) .skip)))) (fun e st=>e= .normal∧st=lh.aa [n,r,m,.r gens,key,ok,nok,.r (a.ev ρ').az])
    (DD.aa [n,r,m,.r gens,key,ok,nok,.r acc,.i k,l0,l1,l2,l3,l4,l5,l6,l7,l8,l9,l10,l11,l12,l13]):=by
 rw[sB,ae.aa]at hd;split at hd
 · rename_i o ho;have ho5:o.length=5:=by
    grind[Nd.ev]
   match o,ho5 with
   | [o0,o1,o2,o3,o4],_=>
    have h7:(ae.op (.call t113 F113 [(.v 13),(.v 14),(.v 15),(.v 16),(.v 17),(.v 18),(.v 19),(.v 20),(.v 21),(.v 22),(.v 4)] 5 []) (.ak (.st .normal Gt))).aa [n,r,m,.r gens,key,ok,nok,.r acc,.i k,l0,l1,l2,l3,l4,l5,l6,l7,l8,l9,l10,l11,l12,l13]=
        some (.st .normal Gt,[n,r,m,.r gens,key,ok,nok,.r acc,.i k,l0,l1,l2,l3,l4,l5,l6,l7,l8,l9,l10,l11,l12,l13,o0,o1,o2,o3,o4]):=by
      rw[ae.aa,ho];rfl
    refine VH (wR (qy hC (by rfl) (acp F40 F112 F113 t40 t112 t113) rfl h7 hP ?_));refine wR (qy hC (by rfl) (adu F40 F112 F113 t40 t112 t113) rfl (ρ':=[n,r,m,.r gens,key,ok,nok,.r acc,.i k,l0,l1,l2,l3,l4,l5,l6,l7,l8,l9,l10,l11,l12,l13,o0,o1,o2,o3,o4]) rfl hP ?_);refine YZ (t:=o0.bx) rfl (fun hb=> ?_) (fun hb=> ?_)
    · rw [ae.aa,show(At.v 23).ev ([n,r,m,.r gens,key,ok,nok,.r acc,.i k,l0,l1,l2,l3,l4,l5,l6,l7,l8,l9,l10,l11,l12,l13]++ [o0,o1,o2,o3,o4])=o0 from rfl,ay hb]at hd;have aFu:=hd;rw[ae.aa]at hd;split at hd
      · rename_i lt hlt;have e1:lt=[.r [[.sc (.int .i64 l0.ah),.sc (.int .i64 l2.ah),.sc (.int .i64 l1.ah),.sc (.int .u64 o1.ah),.sc (.int .u32 o2.ah),.sc (.int .i64 o3.ah),.sc (.int .i64 o4.ah),.sc (.int .i64 (k:Int))]]]:=by
          simp only[Nd.ev,jd]at hlt;rw[←hlt];rfl
        rw[ae.aa]at hd;split at hd
        · rename_i ap hap;have e2:∃x,ap=[x]:=by
            simp only[Nd.ev]at hap;grind
          obtain⟨x,rfl⟩:=e2;subst e1;rw[ae.aa]at hd;have e3:a= .v 29∧ρ'=[n,r,m,.r gens,key,ok,nok,.r acc,.i k,l0,l1,l2,l3,l4,l5,l6,l7,l8,l9,l10,l11,l12,l13,o0,o1,o2,o3,o4,.r [[.sc (.int .i64 l0.ah),.sc (.int .i64 l2.ah),.sc (.int .i64 l1.ah),.sc (.int .u64 o1.ah),.sc (.int .u32 o2.ah),.sc (.int .i64 o3.ah),.sc (.int .i64 o4.ah),.sc (.int .i64 (k:Int))]],x]:=by
            simp_all
          obtain⟨rfl,rfl⟩:=e3;have hx:x= .r x.az:=by
            simp only[Nd.ev]at hap;split at hap
            · cases hap;rfl
            · cases hap
          refine Lr ?_;refine qy (e:= .normal) (S':=M8) hC (by rfl) (ahe F40 F112 F113 t40 t112 t113) rfl (ρ':=[n,r,m,.r gens,key,ok,nok,.r acc,.i k,l0,l1,l2,l3,l4,l5,l6,l7,l8,l9,l10,l11,l12,l13,o0,o1,o2,o3,o4,.r [[.sc (.int .i64 l0.ah),.sc (.int .i64 l2.ah),.sc (.int .i64 l1.ah),.sc (.int .u64 o1.ah),.sc (.int .u32 o2.ah),.sc (.int .i64 o3.ah),.sc (.int .i64 o4.ah),.sc (.int .i64 (k:Int))]],x]) ?_ hP ?_
          · simp only[tg,mm]at hlt hap;rw[ae.aa,hlt];simp only[tg,mm];rw[ae.aa,hap];rfl
          · obtain⟨xs1,zs,j1,_,_,j4⟩:=km fO (ρ:=[n,r,m,.r gens,key,ok,nok]) (ys:=[.r acc,.i k,l0,l1,l2,l3,l4,l5,l6,l7,l8,l9,l10,l11,l12,l13,o0,o1,o2,o3,o4,.r [[.sc (.int .i64 l0.ah),.sc (.int .i64 l2.ah),.sc (.int .i64 l1.ah),.sc (.int .u64 o1.ah),.sc (.int .u32 o2.ah),.sc (.int .i64 o3.ah),.sc (.int .i64 o4.ah),.sc (.int .i64 (k:Int))]],x]) rfl rfl rfl aua rfl;cases j1;refine⟨_,j4 X hP hk,rfl,?_⟩;rfl
        · cases hd
      · cases hd
    · rw[ae.aa,show(At.v 23).ev ([n,r,m,.r gens,key,ok,nok,.r acc,.i k,l0,l1,l2,l3,l4,l5,l6,l7,l8,l9,l10,l11,l12,l13]++ [o0,o1,o2,o3,o4])=o0 from rfl,hb]at hd;simp only[pO,if_false,ae.aa]at hd;cases hd;refine Lr (RI ?_);obtain⟨xs1,zs,j1,_,_,j4⟩:=km fO (ρ:=[n,r,m,.r gens,key,ok,nok]) (ys:=[.r acc,.i k,l0,l1,l2,l3,l4,l5,l6,l7,l8,l9,l10,l11,l12,l13,o0,o1,o2,o3,o4]) rfl rfl rfl apU rfl;cases j1;exact⟨_,j4 X hP hk,rfl,rfl⟩
 · cases hd
theorem atX (hC:cK.ok Tryz.prog (kC F40 F112 F113 t40 t112 t113)) {n r m key ok nok} {gens} {acc} {k:Nat} {l0 l1 l2 l3 l4 l5 l6 l7 l8 l9 l10 l11 l12 l13} {X} (hP:X.P=Tryz.prog) {l d}:
  iD l d X ((Code.region 5 BN false).seq (.region 6 Ae false)) (fun e st=>e= .normal∧st=DD.aa [n,r,m,.r gens,key,ok,nok,.r acc,.i k,l0,l1,l2,l3,l4,l5,l6,l7,l8,l9,l10,l11,l12,l13])
   (K0.aa [n,r,m,.r gens,key,ok,nok,.r acc,.i k,l0,l1,l2,l3,l4,l5,l6,l7,l8,l9,l10,l11,l12,l13]):=by
 refine wR (qy hC (by rfl) (ayM F40 F112 F113 t40 t112 t113) rfl (ρ':=[n,r,m,.r gens,key,ok,nok,.r acc,.i k,l0,l1,l2,l3,l4,l5,l6,l7,l8,l9,l10,l11,l12,l13]) rfl hP ?_);exact qy hC (by rfl) (aow F40 F112 F113 t40 t112 t113) rfl (ρ':=[n,r,m,.r gens,key,ok,nok,.r acc,.i k,l0,l1,l2,l3,l4,l5,l6,l7,l8,l9,l10,l11,l12,l13]) rfl hP ⟨rfl,rfl⟩
def Gu (F113:List L→Option (List L)) (t113:Nat) (ρ:List L) (gens:List (List PV)) (Xb:Fx) (a0:Act) (l D:Nat) (rec:Loop) (k:Nat) (W:a7):Prop:=
 ∃E acc,kx F113 t113 ρ gens k=some acc∧Rel Xb E (lh.aa (ρ++ [.r acc])) a0 W∧E.off [l,D]∧W.heap[l]? =some (.loop rec)∧W.heap[D]? =some (.deferred (some []))
theorem aAT {ρ} {gens acc} (h:kx F113 t113 ρ gens gens.length=some acc) {k} (hk:k<gens.length):
  ∃a g b,kx F113 t113 ρ gens k=some a∧gens[gens.length-1-k]? =some g∧uA F113 t113 ρ a (gens.length-1-k) g=some b∧kx F113 t113 ρ gens (k+1)=some b:=by
 grind[agk,kx]
theorem VN (ρ):(lh.aa ρ).ar=[]:=rfl
theorem ayA (hC:cK.ok Tryz.prog (kC F40 F112 F113 t40 t112 t113)) {n r m key ok nok:L} {gens accN:List (List PV)} (hN:kx F113 t113 [n,r,m,.r gens,key,ok,nok] gens gens.length=some accN)
   {Xb:Fx} (hP:Xb.P=Tryz.prog) (bK:Xb.k0=3) {E0:Env} {a0:Act} {w0:a7} {aDt:List (List PV)} (h0:Rel Xb E0 (lh.aa [n,r,m,.r gens,key,ok,nok,.r aDt]) a0 w0) (ob:∀k,k<Xb.k0→E0.N k=Xb.N0 k) (OJ:a0.defers=[])
   {l D gB:Nat} (hlD:D<l) (hlw:Xb.w0.heap.size≤l) {rec:Loop} (OY:∃x,E0.N 2=some x∧x.g=some gB) (fn:FuncId)
   (fl:rec={state:= .ready,pending:=none,fn,tmps:=a0.tmps,params:= #[16,17],assign:=(Code.region 5 BN false).seq (.region 6 Ae false),body:= .block 1 ((Code.region 7 zX false).seq ((Code.region 8 zM false).seq (.cond (.tmp 25) (.region 9 Ao false) .skip))),defers:=D})
   (k:Nat) (W:a7) (hJ:Gu F113 t113 [n,r,m,.r gens,key,ok,nok] gens Xb a0 l D rec k W) (hk:k≤gens.length):
   ∃ A cap,W.cell? ⟨gB,0,none⟩=some (.slice A gens.length cap)∧(k<gens.length→∃(g o:Nat) (f:Nat→bh),A=some ⟨g,o,none⟩∧(∀j,j<14→W.cell? ⟨g,o+(gens.length-1-k)*14+j,none⟩=some (f j))∧
     YieldAt Fence.wide 1 Tryz.prog l #[.int .i64 ((gens.length-1-k:Nat):Int),.agg #[f 0,f 1,f 2,f 3,f 4,f 5,f 6,f 7,f 8,f 9,f 10,f 11,f 12,f 13]] W
       (fun e W'=>e= .returned (.bool true)∧Gu F113 t113 [n,r,m,.r gens,key,ok,nok] gens Xb a0 l D rec (k+1) W')):=by
 obtain⟨E,acc,aDu,hR,rk,hl,hd⟩:=hJ;obtain⟨xB,hxB,ig⟩:=OY;obtain⟨x,g,cur,e,q1,q2,q3,q4,q5⟩:=hR.row (n:=2) (b:= .box [.p (.sl gens)]) (by simp[VN]) rfl;have eE:x=xB:=by
   rcases hR.dz 2 om with h|h
   · simp_all
   simp_all
 subst eE;rw[ig]at q2;cases q2;obtain⟨u,q6,q7,_⟩:=q5 0 (.p (.sl gens)) rfl;have hcell:W.cell? ⟨gB,0,none⟩=some u:=by rw[cell_of_row W gB 0 cur e (0,0) q3];exact q6
 rcases RP.rows q7 with⟨hnil,A,cap,rfl⟩| ⟨g,o,cap,sz,f,rfl,hne,hlc,hmx,zd,hf⟩
 · simp_all
 · refine ⟨_,cap,hcell,fun hlt=> ?_⟩;obtain⟨a1,gr,b,k1,k2,k3,k4⟩:=aAT hN hlt;rw[aDu]at k1;cases k1;obtain⟨p,hp⟩:∃p,gens.length-1-k=p:=⟨_,rfl⟩
   rw[hp]at k2 k3⊢;unfold uA at k3;split at k3;rotate_left
   · cases k3
   rename_i cs hcs;obtain⟨c1,c2,c3⟩:=agD hcs;have hsz:sz=14:=by rw[←zd gr (dn k2),c2]
   subst hsz
   match cs,c1 with
   | [l0,l1,l2,l3,l4,l5,l6,l7,l8,l9,l10,l11,l12,l13],_=>
     split at k3;rotate_left
     · cases k3
     rename_i at1 ρ' tc;cases k3;have zc:∀j q,gr[j]? =some q→W.cell? ⟨g,o+p*14+j,none⟩=some (f p j)∧RP (bad Xb.M E) W q (f p j):=fun j q hj=>hf p gr j q k2 hj
     refine⟨g,o,f p,rfl,fun j hj=> ?_,?_⟩
     · simp_all
     · have hy:=run_yield (P:=Tryz.prog) (args:= #[.int .i64 (p:Int),.agg #[f p 0,f p 1,f p 2,f p 3,f p 4,f p 5,f p 6,f p 7,f p 8,f p 9,f p 10,f p 11,f p 12,f p 13]]) hl (by rw[fl];rfl);rw[fl]at hy;refine⟨fn,_,_,_,hy,roundIn_of_wpIn trivial ?_⟩;have OK:a0=⟨a0.tmps,[]⟩:=by
         cases a0;subst OJ;rfl
       have hS:Rel Xb E (K0.aa [n,r,m,.r gens,key,ok,nok,.r acc,.i p,l0,l1,l2,l3,l4,l5,l6,l7,l8,l9,l10,l11,l12,l13])
           {tmps:=(a0.tmps.setIfInBounds 16 (.int .i64 (p:Int))).setIfInBounds 17 (.agg #[f p 0,f p 1,f p 2,f p 3,f p 4,f p 5,f p 6,f p 7,f p 8,f p 9,f p 10,f p 11,f p 12,f p 13]),defers:=[]} W:=by
         rw[OK]at hR;have Ot:RV Xb.M E W ((Sl 9 Ch).aa [n,r,m,.r gens,key,ok,nok,.r acc,.i p,l0,l1,l2,l3,l4,l5,l6,l7,l8,l9,l10,l11,l12,l13]) (.agg #[f p 0,f p 1,f p 2,f p 3,f p 4,f p 5,f p 6,f p 7,f p 8,f p 9,f p 10,f p 11,f p 12,f p 13]):=by
           refine⟨_,rfl,rfl,fun i c hi=> ?_⟩;have aFw:i<14:=(dr.1 hi).1;have CL:∀q,(List.zipWith Kd.pv Ch [l0,l1,l2,l3,l4,l5,l6,l7,l8,l9,l10,l11,l12,l13])[i]? =some q→RP (bad Xb.M E) W q (f p i):=fun q hq=> (zc i q (by rw[c3];exact hq)).2
           have h14:i=0∨i=1∨i=2∨i=3∨i=4∨i=5∨i=6∨i=7∨i=8∨i=9∨i=10∨i=11∨i=12∨i=13:=om;rcases h14 with rfl|rfl|rfl|rfl|rfl|rfl|rfl|rfl|rfl|rfl|rfl|rfl|rfl|rfl<;>
            (cases hi;exact⟨_,rfl,CL _ rfl,(CL _ rfl).ux⟩)
         exact(hR.put (some 16) (v:= .v (.c (.p (.sc (.int .i64 (p:Int)))))) (u:= .int .i64 (p:Int)) (RP.sc rfl)).put (some 17) Ot
       have ta:∀{W':a7},l<W'.heap.size→∀g∈ [l,D],g<W'.heap.size:=fun h g hg=>by
         simp at hg;omega
       have HF:l<W.heap.size:=(fc.1 hl).1;have hput:∀(W':a7) (r1 r2:Loop),W'.heap[l]? =some (.loop r1)→∀g o,W'.heap[g]? =some o→(g<Xb.w0.heap.size∨o.isCells=true∨∃en c,o= .map en c)→(W'.putObj l (.loop r2)).heap[g]? =W'.heap[g]?:=fun W' r1 r2 h g o ho hi=>by
         refine World.putObj_heap_other fun kQ=> ?_
         subst kQ;rw[h]at ho;cases ho;rcases hi with hi|hi| ⟨_,_,hi⟩
         · omega
         · cases hi
         · cases hi
       have h1:=G_ (l:=l) (n:=1) (fun X' e1 e2=>atX (n:=n) (r:=r) (m:=m) (key:=key) (ok:=ok) (nok:=nok) (gens:=gens) (acc:=acc) (k:=p) (l0:=l0) (l1:=l1) (l2:=l2) (l3:=l3) (l4:=l4) (l5:=l5) (l6:=l6) (l7:=l7) (l8:=l8) (l9:=l9) (l10:=l10) (l11:=l11) (l12:=l12) (l13:=l13) (l:=l) (d:=1) hC (e1.trans hP)) hS rfl rk (ta HF);rw[hP]at h1;have OL:∀v1 v2:bh,((#[16,17]:Array Tmp).zip #[v1,v2]).foldl (fun t (p,v)=>t.setIfInBounds p v) a0.tmps=(a0.tmps.setIfInBounds 16 v1).setIfInBounds 17 v2:=fun v1 v2=>by
         simp[Array.zip,Array.zipWith,Array.zipWithMAux]
       rw[OL];refine wpIn_mono h1 ?_;rintro e1 a1 w1 ⟨st1,E1,⟨rfl,rfl⟩,_,Cw,OM,fZ,hs1⟩;have dQ:w1.heap[l]? =some (.loop rec):=(fZ l (by simp)).trans hl;have ON:w1.heap[D]? =some (.deferred (some [])):=(fZ D (by simp)).trans hd;have CG:l<w1.heap.size:=(fc.1 dQ).1;refine⟨_,run_beginRound dQ (by rw[fl]),?_⟩;have hl2:(w1.putObj l (.loop {rec with state:= .busy})).heap[l]? =some (.loop {rec with state:= .busy}):=World.putObj_heap_same CG;have v7:(w1.putObj l (.loop {rec with state:= .busy})).heap[D]? =some (.deferred (some [])):=(World.putObj_heap_other om).trans ON;have OO:=Cw.other (w':=w1.putObj l (.loop {rec with state:= .busy})) rfl rfl rfl (by simp) (hput _ _ _ dQ);have OP:l< (w1.putObj l (.loop {rec with state:= .busy})).heap.size:=by simpa using CG
       have h2:=G_ (l:=l) (n:=1) (fun X' e1 e2=>anm (l:=l) (d:=1) hC tc (e1.trans hP) (e2.trans bK)) OO rfl OM (ta OP);rw[hP]at h2;refine wpIn_mono h2 ?_;rintro e3 a3 w3 ⟨st3,E3,⟨rfl,rfl⟩,_,HG,HH,hk3,hs3⟩;have lH:w3.heap[l]? =some (.loop {rec with state:= .busy}):=(hk3 l (by simp)).trans hl2;have oi:w3.heap[D]? =some (.deferred (some [])):=(hk3 D (by simp)).trans v7;refine⟨_,_,run_endRound none lH,rfl,E3,_,k4,?_,HH,?_,?_⟩
       · exact(h0.again HG ob rfl rfl rfl (by rw[bK];rfl)).other rfl rfl rfl (by simp) (hput _ _ _ lH)
       · rw[World.putObj_heap_same (fc.1 lH).1,fl];rfl
       · exact(World.putObj_heap_other om).trans oi
theorem ahg {n r m key ok} {gens} (vR:F40 [n,r,m,.r gens]=some [ok]):
  (ae.op (.call t40 F40 [(.v 0),(.v 1),(.v 2),(.v 3)] 1 []) (.op (.not (.v 5)) (.ite (.v 6) (.ak (.st .ret Hd)) (.ak (.st .normal z_))))).aa [n,r,m,.r gens,key]=
   some (if ok.bx=true then .st .normal z_ else .st .ret Hd,[n,r,m,.r gens,key,ok,.b (!ok.bx)]):=by
 have e1:Nd.ev [n,r,m,.r gens,key] (.call t40 F40 [(.v 0),(.v 1),(.v 2),(.v 3)] 1 [])=some [ok]:=by
  simp only[Nd.ev];rw[show[At.v 0,.v 1,.v 2,.v 3].map (At.ev [n,r,m,.r gens,key])=[n,r,m,.r gens]from rfl,vR];rfl
 rw[ae.aa,e1];show(match Nd.ev [n,r,m,.r gens,key,ok] (.not (.v 5))with|some ls=>ae.aa _ ([n,r,m,.r gens,key,ok]++ls)|none=>none)=_;rw[show Nd.ev [n,r,m,.r gens,key,ok] (.not (.v 5))=some [.b (!ok.bx)]from rfl];cases ok.bx<;>rfl
set_option maxRecDepth 100000 in
theorem ayK (vR:(tY F40 t40).ok Tryz.prog) (OZ:(ue F112 t112).ok Tryz.prog) (CM:(iT F113 t113).ok Tryz.prog) (tag):(Ub F40 F112 F113 t113 tag).ok Tryz.prog:=by
 have hC:cK.ok Tryz.prog (kC F40 F112 F113 t40 t112 t113):=fun s hs=>by
   simp only[kC,dL,Px,or_false]at hs;grind
 intro ls os hl hF cg;have hF:vd F40 F112 F113 t113 ls=some os:=hF;unfold vd at hF;split at hF;rotate_left
 · cases hF
 rename_i n r m gens key _;split at hF;rotate_left
 · cases hF
 rename_i ok aDw;have td:=ahg (F40:=F40) (t40:=t40) (key:=key) aDw;refine eJ.ZE (H:=[]) Tryz.func58 kr atu amm (rs:=[.tmp 4]) (by rw[auk]) ?_;intro X hP hk hD a w ht;have hk:X.k0=0:=hk;have A0:=(piece hC (k0:=0) (n:=0) (r:=0) (ex:=[]) (show exec TT _ 0 (.region 0 Kh false) 0 [] 0 WE=_ from asM F40 F112 F113 t40 t112 t113) rfl rfl (ρ:=[n,r,m,.r gens,key]) rfl hP hk).2.2 a w ht;rw[hP]at A0;refine wp_seq (wp_mono A0 ?_);rintro e1 a1 w1 ⟨st1,⟨rfl,rfl⟩,CH⟩;by_cases aO:ok.bx=true
 · rw [ay aO]at hF td;split at hF;rotate_left
   · cases hF
   rename_i hlen;split at hF;rotate_left
   · cases hF
   rename_i aDx;simp only[aT]at hF;obtain⟨accN,aaT,rfl⟩:=hF;have A1:=(piece hC (R9 F40 F112 F113 t40 t112 t113) rfl rfl td hP hk).2.2 a1 w1 CH;rw[hP]at A1;refine wp_seq (wp_mono A1 ?_);rintro e2 a2 w2 ⟨st2,⟨rfl,rfl⟩,rl⟩;generalize (L.b (!ok.bx))=nok at*;have A2:=(piece hC (k0:=0) (n:=0) (r:=0) (ex:=[]) (show exec TT _ 0 (.region 3 Ji false) 0 [] 0 z_=_ from adI F40 F112 F113 t40 t112 t113) rfl rfl (ρ:=[n,r,m,.r gens,key,ok,nok]) rfl hP hk).2.2 a2 w2 rl;rw[hP]at A2;refine wp_seq (wp_mono A2 ?_);rintro e3 a3 w3 ⟨st3,⟨rfl,rfl⟩,OG⟩;have qI:(ae.op (.call t112 F112 [(.v 3)] 0 []) (.ak (.st .normal Da))).aa [n,r,m,.r gens,key,ok,nok]=some (.st .normal Da,[n,r,m,.r gens,key,ok,nok]):=by
     have e1:Nd.ev [n,r,m,.r gens,key,ok,nok] (.call t112 F112 [(.v 3)] 0 [])=some []:=by
       simp only[Nd.ev];rw[show[At.v 3].map (At.ev [n,r,m,.r gens,key,ok,nok])=[.r gens]from rfl,aDx];rfl
     rw[ae.aa,e1];rfl
   have A3:=(piece hC (k0:=0) (n:=0) (r:=0) (ex:=[]) (show exec TT _ 0 (.region 4 Nq false) 0 [] 0 Ko=_ from atS F40 F112 F113 t40 t112 t113) rfl rfl (ρ:=[n,r,m,.r gens,key,ok,nok]) qI hP hk).2.2 a3 w3 OG;rw[hP]at A3;refine wp_seq (wp_seq (wp_mono A3 ?_));rintro e4 a4 w4 ⟨st4,⟨rfl,rfl⟩,OR⟩;have OS:Told X (lh.aa [n,r,m,.r gens,key,ok,nok,.r []]) a4 w4:=by
     obtain⟨xs1,zs,j1,_,_,j4⟩:=km fO (ρ:=[n,r,m,.r gens,key,ok,nok]) (ys:=[]) rfl rfl rfl aiQ rfl;cases j1;exact j4 X hP hk a4 w4 OR
   obtain⟨E0,R0,_⟩:=OS;have OT:a4.defers=[]:=R0.defers.trans hD;obtain⟨u15,h15,aDA⟩:=R0.tmps 15 _ rfl;obtain⟨us,rfl,fi,jB⟩:=(show RC X.M E0 w4 (.fn 169 [2]) u15 from aDA)
   obtain⟨u,hu,hNu⟩:=jB 0 2 rfl;obtain⟨xB,hxB,gB,OY,rfl⟩:=bO.get hNu (by rw[R0.ar];simp[VN]);obtain rfl:us= #[.pointer (some ⟨gB,0,none⟩)]:=by
     grind
   have vU:a4.eval (.tmp 15)= .func (.func 169) #[] #[.pointer (some ⟨gB,0,none⟩)]:=by
     simp[Act.eval,wg,h15]
   refine wp_block ((wpIn_wide (n:=3)).1 (wpIn_rangeFunc ?_));intro fn hfn;obtain⟨rec,fl⟩:∃rec:Loop,rec={state:= .ready,pending:=none,fn,tmps:=a4.tmps,params:= #[16,17],assign:=(Code.region 5 BN false).seq (.region 6 Ae false),body:= .block 1 ((Code.region 7 zX false).seq ((Code.region 8 zM false).seq (.cond (.tmp 25) (.region 9 Ao false) .skip))),defers:=w4.heap.size}:=⟨_,rfl⟩
   obtain⟨W1,hW1⟩:∃W1,(w4.alloc (.deferred (some []))).alloc (.loop rec)=W1:=⟨_,rfl⟩
   have hs1:W1.heap.size=w4.heap.size+2:=by rw[←hW1];simp
   have CE:W1.heap[w4.heap.size+1]? =some (.loop rec):=by
     rw[←hW1];have:=World.alloc_heap_new (w4.alloc (.deferred (some []))) (.loop rec);simp_all
   have CF:W1.heap[w4.heap.size]? =some (.deferred (some [])):=by
     rw[←hW1];exact(Below.heap_alloc _ _ _ (by simp)).trans (World.alloc_heap_new w4 _)
   have hold:∀g,g<w4.heap.size→W1.heap[g]? =w4.heap[g]?:=fun g hg=>by
     grind[Below.heap_alloc]
   let Xb:Fx:=⟨X.P,X.M,X.K,X.w0,E0.N,3,[]⟩
   have h0:Rel Xb E0 (lh.aa [n,r,m,.r gens,key,ok,nok,.r []]) ⟨a4.tmps,[]⟩ w4:={
     defers:=rfl,ar:=R0.ar,frame:=R0.frame,eB:=R0.eB,cO:=R0.cO,names:=R0.names,inj:=R0.inj,dz:=fun _ _=> .inr rfl
     fq:=by show 3≤4;omega
     fg:=R0.fg,size:=R0.size,tmps:=R0.tmps,heap:=R0.heap}
   have hW0:X.w0.heap.size≤w4.heap.size:=R0.frame.size;have OU:Gu F113 t113 [n,r,m,.r gens,key,ok,nok] gens Xb ⟨a4.tmps,[]⟩ (w4.heap.size+1) w4.heap.size rec 0 W1:=by
     refine⟨E0,[],rfl,h0.other ?_ ?_ ?_ om fun g o ho _=>hold g (fc.1 ho).1,fun n x g h1 h2 hg=> ?_,CE,CF⟩
     · rw[←hW1];rfl
     · rw[←hW1];rfl
     · rw[←hW1];rfl
     · have:=(R0.names n x g h1 h2).1;simp at hg;omega
   refine⟨w4.heap.size+1,[{target:= .collected w4.heap.size,args:= #[]}],W1,{target:= .fn (.func 169) #[.pointer (some ⟨gB,0,none⟩)],args:= #[.func (.yield (w4.heap.size+1)) #[] #[]]},W1,169,
     #[.func (.yield (w4.heap.size+1)) #[] #[],.pointer (some ⟨gB,0,none⟩)],W1,?_,?_,?_,?_,fun _=>by omega,?_⟩
   · rw[←hW1,fl];exact run_enterLoop_outer _ _ _ _ _
   · simp only[resolve,vU];simp[go_sem]
   · intro f' _;trivial
   · rfl
   · refine(anZ 2 om (w4.heap.size+1) gB gens.length hlen (Gu F113 t113 [n,r,m,.r gens,key,ok,nok] gens Xb ⟨a4.tmps,[]⟩ (w4.heap.size+1) w4.heap.size rec)
       (fun k W hJ hk=>ayA hC aaT (Xb:=Xb) hP rfl h0 (fun _ _=>rfl) rfl om (by grind) ⟨xB,hxB,OY⟩ fn fl k W hJ hk) W1 OU).mono ?_
     rintro e5 W5 ⟨⟨v,rfl⟩,E5,aFx,aaU,CI,HI,pL,CJ⟩;rw[aaT]at aaU;cases aaU;refine⟨_,_,run_endLoop pL (by rw[fl];simp),?_⟩;have fa:=CI.other (w':=W5.putObj (w4.heap.size+1) (.loop {rec with state:= .exhausted})) rfl rfl rfl (by simp) (fun g o ho hi=>World.putObj_heap_other fun kQ=>by
        subst kQ;rw[pL]at ho;cases ho;rcases hi with hi|hi| ⟨_,_,hi⟩
        · grind
        · cases hi
        · cases hi)
     have te:(W5.putObj (w4.heap.size+1) (.loop {rec with state:= .exhausted})).heap[w4.heap.size]? =some (.deferred (some [])):=(World.putObj_heap_other om).trans CJ;generalize W5.putObj (w4.heap.size+1) (.loop {rec with state:= .exhausted})=W6 at fa te⊢;rw[show rec.pending=none by rw[fl]]
     let X2:Fx:=⟨X.P,X.M,X.K,X.w0,X.N0,X.k0,[{target:= .collected w4.heap.size,args:= #[]}]⟩
     have h7:Rel X2 E5 (lh.aa [n,r,m,.r gens,key,ok,nok,.r accN]) {a4 with defers:=[{target:= .collected w4.heap.size,args:= #[]}]++a4.defers} W6:={
       defers:=by rw[OT];rfl
       ar:=fa.ar,frame:=fa.frame,eB:=fa.eB,cO:=fa.cO,names:=fa.names,inj:=fa.inj
       dz:=fun k fZ=>absurd (show k<X.k0 from fZ) om
       fq:=by grind
       fg:=fa.fg,size:=fa.size,tmps:=fa.tmps,heap:=fa.heap}
     have h8:=Yc (X:=X2) (c:=(Code.region 10 Ee false).seq .ret) (Q:=fun e st=>e= .ret∧st=Lt.aa [n,r,m,.r gens,key,ok,nok,.r accN]) (fun X' e1 e2=>by
        have:=(piece hC (k0:=0) (n:=0) (r:=0) (ex:=[]) (show exec TT _ 0 (.region 10 Ee false) 0 [] 0 lh=_ from axW F40 F112 F113 t40 t112 t113) rfl rfl (ρ:=[n,r,m,.r gens,key,ok,nok,.r accN]) rfl (e1.trans hP) (e2.trans hk)).2.2;refine fJ (lN this ?_);rintro e st ⟨rfl,rfl⟩;exact tN ⟨rfl,rfl⟩) h7 rfl (S:=[w4.heap.size]) (fun n x g h1 h2 hg=>HI n x g h1 h2 (by simp_all)) (fun g hg=>by
        grind)
     rw[show X2.P=Tryz.prog from hP]at h8;refine wp_mono h8 ?_;rintro e9 a9 w9 ⟨st9,E9,⟨rfl,rfl⟩,_,OW,aDj,OX,hs9⟩;refine⟨.inr rfl,FF.aa [n,r,m,.r gens,key,.r accN],[{target:= .collected w4.heap.size,args:= #[]}],?_,rfl,fun _ _ h=>h,.inr ⟨_,rfl,hW0,(OX _ (by simp)).trans te⟩⟩;obtain⟨xs1,zs,j1,_,_,j4⟩:=km fO (ρ:=[n,r,m,.r gens,key]) (ys:=[ok,nok,.r accN]) rfl rfl rfl aom rfl;cases j1;exact j4 X2 hP hk a9 w9 ⟨E9,OW,rfl⟩
 · rw[aC aO]at hF td;cases hF;have A1:=(piece hC (R9 F40 F112 F113 t40 t112 t113) rfl rfl td hP hk).2.2 a1 w1 CH;rw[hP]at A1;refine wp_seq (wp_mono A1 ?_);rintro e2 a2 w2 ⟨st2,⟨rfl,rfl⟩,rl⟩;refine⟨.inr rfl,FF.aa [n,r,m,.r gens,key,.r []],[],?_,rfl,fun _ _ h=>h,.inl rfl⟩;have OQ:({X with D:=[]}:Fx)=X:=by
     cases X;subst hD;rfl
   rw[OQ];obtain⟨xs1,zs,j1,_,_,j4⟩:=km fO (ρ:=[n,r,m,.r gens,key]) (ys:=[ok,.b (!ok.bx)]) rfl rfl rfl azo rfl;cases j1;exact j4 X hP hk a2 w2 rl
end
end
section
attribute [local irreducible] Fo
open Go.RowKit
def ZJ:ae:= .join (.bI .lss U0 (.i 0)<|.ite U4 (.j [.b true]) (.bI .geq U0 (.i 4)<|.ite U5 (.j [.b true]) (.cA 5 F5 [.i 4096] 1<|.bI .add (.i 16) U6<|.bI .lss U1 U7<|.ite U8 (.j [.b true]) (.bI .gtr U1 (.i 262144)<|.j [U9])))) (.ite U4 (.j [.b false]) (.join (.ln U3<|.bI .lss U5 (.i 1)<|.ite U6 (.j [.b true]) (.ln U3<|.bI .gtr U7 (.i 8)<|.j [U8])) (.ite U5 (.j [.b false]) (.join (.ln U3<|.loop [.i 0] (.bI .lss U7 U6<|.ite U8 (.rw U3 U7 14<|.cl U9 0 (.int .i64)<|.cl U9 1 (.int .i64)<|.cl U9 2 (.int .i64)<|.cl U9 3 (.int .i64)<|.cl U9 4 .sl<|.cl U9 5 .sl<|.cl U9 6 .sl<|.cl U9 7 .sl<|.cl U9 8 .sl<|.cl U9 9 .sl<|.cl U9 10 .sl<|.cl U9 11 .sl<|.cl U9 12 (.int .i64)<|.cl U9 13 (.int .i64)<|.ln U3<|.bI .sub bm (.i 1)<|.bI .eql U7 bA<|.join (.cA 187 vA [ax,aw,aD,aE,aG,aJ,aN,aM,aL,aX,a8,bk,be,bp] 1<|.no bw<|.ite b9 (.j [.b true]) (.bI .gtr U7 (.i 0)<|.ite cC (.bI .sub U7 (.i 1)<|.rw U3 cP 14<|.cl dq 0 (.int .i64)<|.bI .leq ax cq<|.ite eP (.j [.b true]) (.bI .eql aD (.i 1)<|.op (.bb .neq eT bq)<|.ite fT (.j [.b true]) (.bI .mul (.i 2) U1<|.bI .gtr aE gI<|.j [iZ]))) (.bI .eql aD (.i 1)<|.op (.bb .neq cP bq)<|.ite dq (.j [.b true]) (.bI .mul (.i 2) U1<|.bI .gtr aE cq<|.j [eP])))) (.ite bw (.ak (.jump 2 [.b false])) (.bI .add U7 (.i 1)<|.j [b9]))) (.ak (.jump 1 [])))) (.ln U3<|.bI .sub U6 (.i 1)<|.rw U3 U7 14<|.cl U8 0 (.int .i64)<|.cl U8 1 (.int .i64)<|.cl U8 2 (.int .i64)<|.cl U8 3 (.int .i64)<|.cl U8 4 .sl<|.cl U8 5 .sl<|.cl U8 6 .sl<|.cl U8 7 .sl<|.cl U8 8 .sl<|.cl U8 9 .sl<|.cl U8 10 .sl<|.cl U8 11 .sl<|.cl U8 12 (.int .i64)<|.cl U8 13 (.int .i64)<|.cA 171 uK [aE,aG,aJ,aN,aM,aL,aX,a8,bk,be] 1<|.cA 5 F5 [.i 0] 1<|.bI .mul bp bm<|.bI .add aD bA<|.bI .mul (.i 2) U1<|.bI .leq bq bw<|.j [b9])))))
def qg:=Fo ZJ
def axl:au:=⟨40,[.agg [pi 0,pi 1,.p .bool U2,ps 3]],[],4,1,.v (.c (.p .bool U4)),[],qg,190⟩
theorem NY:Ok axl:=oS (.cons Zw (.cons Xl (.cons JR (.cons sj .nil))))
noncomputable def z8:List L→Option (List L):=vd qg F4 nN 125
def agv:au:=Ub qg F4 nN 125 2002
theorem aAa:agv.ok Tryz.prog:=ayK (F40:=qg) (t40:=190) (F112:=F4) (t112:=4) (F113:=nN) (t113:=125) NY ok4 ahH 2002
def V_:ae:= .cA 2002 z8 [U0,U1,U2,U3,U4] 1<|.ln U5<|.bI .eql U6 (.i 0)<|.ite U7 (.j [.b false,.i 0,.i 0,.i 0,.i 0,.i 0,.i 0,.i 0]) (.rw U5 (.i 0) 8<|.op (.rc U5 (.i 0) 0 (.int .i64))<|.op (.rc U5 (.i 0) 1 (.int .i64))<|.op (.rc U5 (.i 0) 2 (.int .i64))<|.op (.rc U5 (.i 0) 3 (.int .u64))<|.op (.rc U5 (.i 0) 4 (.int .u32))<|.op (.rc U5 (.i 0) 5 (.int .i64))<|.op (.rc U5 (.i 0) 6 (.int .i64))<|.j [.b true,U9,ax,aw,aD,aE,aG,aJ])
def yF:=Fo V_
def aqT:au:=⟨29,[.agg [pi 0,pi 1,.p .bool U2,ps 3],.c (.p (.int .u64) U4)],[],5,8,.aj [.agg [pi 6,pi 7,pi 8,.p (.int .u64) U9,.p (.int .u32) ax,pi 11,pi 12],.c (.p .bool U5)],[],yF,192⟩
theorem awI:Ok aqT:=oS (.cons aAa .nil)
def QS:ae:= .join (.bI .lss U0 (.i 0)<|.ite U4 (.j [.b true]) (.bI .geq U0 (.i 4)<|.ite U5 (.j [.b true]) (.cA 5 F5 [.i 4096] 1<|.bI .add (.i 16) U6<|.bI .lss U1 U7<|.ite U8 (.j [.b true]) (.bI .gtr U1 (.i 262144)<|.j [U9])))) (.ite U4 (.j [.b false]) (.join (.ln U3<|.bI .lss U5 (.i 1)<|.ite U6 (.j [.b true]) (.ln U3<|.bI .gtr U7 (.i 8)<|.j [U8])) (.ite U5 (.j [.b false]) (.join (.ln U3<|.loop [.i 0] (.bI .lss U7 U6<|.ite U8 (.rw U3 U7 14<|.op (.rc U3 U7 0 (.int .i64))<|.op (.rc U3 U7 1 (.int .i64))<|.op (.rc U3 U7 2 (.int .i64))<|.op (.rc U3 U7 3 (.int .i64))<|.op (.rc U3 U7 4 .sl)<|.op (.rc U3 U7 5 .sl)<|.op (.rc U3 U7 6 .sl)<|.op (.rc U3 U7 7 .sl)<|.op (.rc U3 U7 8 .sl)<|.op (.rc U3 U7 9 .sl)<|.op (.rc U3 U7 10 .sl)<|.op (.rc U3 U7 11 .sl)<|.op (.rc U3 U7 12 (.int .i64))<|.op (.rc U3 U7 13 (.int .i64))<|.ln U3<|.bI .sub bm (.i 1)<|.bI .eql U7 bA<|.join (.cA 187 vA [ax,aw,aD,aE,aG,aJ,aN,aM,aL,aX,a8,bk,be,bp] 1<|.no bw<|.ite b9 (.j [.b true]) (.bI .gtr U7 (.i 0)<|.ite cC (.bI .sub U7 (.i 1)<|.rw U3 cP 14<|.op (.rc U3 cP 0 (.int .i64))<|.bI .leq ax cq<|.ite eP (.j [.b true]) (.bI .eql aD (.i 1)<|.op (.bb .neq eT bq)<|.ite fT (.j [.b true]) (.bI .mul (.i 2) U1<|.bI .gtr aE gI<|.j [iZ]))) (.bI .eql aD (.i 1)<|.op (.bb .neq cP bq)<|.ite dq (.j [.b true]) (.bI .mul (.i 2) U1<|.bI .gtr aE cq<|.j [eP])))) (.ite bw (.ak (.jump 2 [.b false])) (.bI .add U7 (.i 1)<|.j [b9]))) (.ak (.jump 1 [])))) (.ln U3<|.bI .sub U6 (.i 1)<|.rw U3 U7 14<|.op (.rc U3 U7 0 (.int .i64))<|.op (.rc U3 U7 1 (.int .i64))<|.op (.rc U3 U7 2 (.int .i64))<|.op (.rc U3 U7 3 (.int .i64))<|.op (.rc U3 U7 4 .sl)<|.op (.rc U3 U7 5 .sl)<|.op (.rc U3 U7 6 .sl)<|.op (.rc U3 U7 7 .sl)<|.op (.rc U3 U7 8 .sl)<|.op (.rc U3 U7 9 .sl)<|.op (.rc U3 U7 10 .sl)<|.op (.rc U3 U7 11 .sl)<|.op (.rc U3 U7 12 (.int .i64))<|.op (.rc U3 U7 13 (.int .i64))<|.cA 171 uK [aE,aG,aJ,aN,aM,aL,aX,a8,bk,be] 1<|.cA 5 F5 [.i 0] 1<|.bI .mul bp bm<|.bI .add aD bA<|.bI .mul (.i 2) U1<|.bI .leq bq bw<|.j [b9])))))
def Dv:=Fo QS
def atC:au:=⟨40,[.agg [pi 0,pi 1,.p .bool U2,.own 0]],[.row 131 U3],4,1,.v (.c (.p .bool U4)),[(0,(.row 131 U3))],Dv,418⟩
theorem RE:Ok atC:=oS (.cons Zw (.cons Xl (.cons JR (.cons sj .nil))))
def UD:ae:= .cA 189 Ed [.i 1] 4<|.op (.lit [[((.int .i64),U3),((.int .i64),(.i 0)),((.int .i64),U4),((.int .i64),U5),(.sl,.r0),(.sl,.r0),(.sl,.r0),(.sl,.r0),(.sl,.r0),(.sl,.r0),(.sl,.r0),(.sl,.r0),((.int .i64),(.i 0)),((.int .i64),(.i 0))]])<|.cA 418 Dv [U0,U1,.b false,U6] 1<|.no U7<|.ite U8 (.j [.i 1,.i 0,.i 0,.r0]) (.j [.i 0,U0,U1,U6])
def DF:=Fo UD
def Y0:au:=⟨32,[ci 0,ci 1],[],2,4,.aj [.agg [pi 3,pi 4,.p .bool (.b false),.own 0],ci 2],[(0,(.row 131 U5))],DF,191⟩
theorem WL:Ok Y0:=oS (.cons RE (.cons NY (.cons aws .nil)))
noncomputable def N2:List L→Option (List L):=DF
def auD:au:=⟨32,[ci 0,ci 1],[],2,4,.aj [.agg [pi 3,pi 4,.p .bool (.b false),ps 5],ci 2],[],DF,2050⟩
theorem awq:auD.ok Tryz.prog:=B3 (s:=Y0) WL rfl (x:=(.v 5)) (e:=131) rfl rfl 2050
def S7:ae:= .cA 192 yF [aw,aD,aE,aG,U0] 8<|.join (.no aJ<|.ite bp (.j [.b true]) (.op (.bi .neq .u32 a8 U1)<|.j [bm])) (.ite bp (.op (.lit [[((.int .u64),(.i 0)),((.int .u32),(.i 0)),(.bool,(.b false)),(.sl,.r0),((.int .i64),(.i 6))]])<|.j [U2,U3,U4,U5,U6,U7,U8,U9,bm]) (.j [.i 1,aN,aM,aL,aX,a8,bk,be,.r0]))
def uQ:=Fo S7
def aev:au:=⟨41,[.agg ([.p (.int .u64) U0,.p (.int .u32) U1]++cX 2 4++ [.p (.int .u64) U6,.p (.int .u32) U7,pi 8,pi 9,pi 10]),.agg [pi 11,pi 12,.p .bool aE,ps 14]],[],15,9,.aj [.agg ([.p (.int .u64) U0,.p (.int .u32) U1]++cX 15 4++ [.p (.int .u64) aX,.p (.int .u32) a8,pi 21,pi 22,pi 10]),.c (.own 0)],[(0,(.row 75 bp))],uQ,419⟩
theorem akR:Ok aev:=oS (.cons awI .nil)
def Zk:ae:= .join (.cA 190 qg [U3,U4,U5,U6] 1<|.no aL<|.ite aX (.j [.i 1]) (.join (.bI .neq U9 (.i 0)<|.ite a8 (.bI .neq U9 (.i 1)<|.j [bk]) (.j [.b false])) (.ite a8 (.j [.i 12]) (.join (.bI .eql U9 (.i 1)<|.ite bk (.bI .eql U1 (.i 0)<|.j [be]) (.j [.b false])) (.ite bk (.j [.i 13]) (.j [.i 0])))))) (.bI .neq aL (.i 0)<|.ite aX (.j [aL,.i 0,.i 0,.i 0,.i 0,.i 0,.i 0,.i 0,.i 0,.i 0,.i 0,.i 0,.r0]) (.join (.bI .eql U9 (.i 0)<|.ite a8 (.cA 419 uQ [U7,U8,U9,ax,aw,aD,aE,aG,aJ,aN,aM,U3,U4,U5,U6] 9<|.j [bk,be,bp,bm,bA,bq,bw,b9,aM,cC]) (.cA 1200 Ad [U7,U8,U9,ax,aw,aD,aE,aG,aJ,aN,aM,U0,U1,U2,U3,U4,U5,U6] 3<|.j [bk,ax,aw,aD,aE,aG,aJ,aN,be,bp])) (.j [.i 0,U7,U8,a8,bk,be,bp,bm,bA,bq,bw,b9,cC])))
def qi:=Fo Zk
def avu:au:=⟨15,[.agg [pi 0,pi 1,ps 2],.agg [pi 3,pi 4,.p .bool U5,ps 6],.agg ([.p (.int .u64) U7,.p (.int .u32) U8]++cX 9 4++ [.p (.int .u64) aE,.p (.int .u32) aG,pi 15,pi 16,pi 17])],[],18,13,.aj [.agg ([.p (.int .u64) aX,.p (.int .u32) a8]++cX 21 4++ [.p (.int .u64) bA,.p (.int .u32) bq,pi 27,pi 28,pi 29]),.c (.own 0),ci 18],[(0,(.row 75 cP))],qi,420⟩
theorem Q6:Ok avu:=oS (.cons akR (.cons RE (.cons NY (.cons awr .nil))))
def R':ae:= .cA 2050 N2 [.i 0,.i 9000] 4<|.cA 35 xq [.i 0] 1<|.cA 2051 BU [U4,.i (-1),.r0] 1<|.cA 14 xR [.i 1,.i 2] 0<|.cA 420 qi [U4,.i (-1),U5,U1,U2,.b false,U3,.i 1,.i 2,.i 0,.i 0,.i 0,.i 0,.i 0,.i 0,.i 0,.i 0,.i 0] 13<|.cA 420 qi [U4,.i (-1),U5,U1,U2,.b false,U3,.i 0,.i 0,.i 2,.i 0,.i 0,.i 0,.i 0,.i 0,.i 0,.i 0,.i 0] 13<|.join (.bI .eql U0 (.i 0)<|.ite cq (.bI .eql U6 (.i 0)<|.ite eP (.ln aL<|.bI .eql eT (.i 1)<|.ite fT (.rw aL (.i 0) 5<|.op (.rc aL (.i 0) 4 (.int .i64))<|.bI .eql iZ (.i 6)<|.ite j_ (.bI .eql aX (.i 12)<|.j [kE]) (.j [.b false])) (.j [.b false])) (.j [.b false])) (.j [.b false])) (.j [cq])
def Ez:=Fo R'
def ajF:au:=⟨10,[],[],0,1,.v (.c (.p .bool U0)),[],Ez,195⟩
theorem aud:Ok ajF:=oS (.cons Q6 (.cons awq (.cons WL (.cons SZ (.cons WC (.cons JX (.cons Rn .nil)))))))
def avk:ae:= .cA 14 xR [aD,aE] 0<|.join (.loop [.i 0,aD,aE,.i 0,.i 0,.i 0,.i 0,.i 0,.i 0,.i 0,.i 0,.i 0] (.bI .lss aG (.i 2)<|.ite bq (.cA 2051 BU [U0,U1,U2] 1<|.cA 420 qi [U0,U1,bw,U8,U9,ax,aw,aJ,aN,aM,aL,aX,a8,bk,be,bp,bm,bA] 13<|.join (.bI .neq b9 (.i 0)<|.ite my (.j [.b true]) (.ln gq<|.bI .gtr sq (.i 1)<|.j [pU])) (.ite my (.ak (.jump 2 [.b false,.i 0,.i 0,.b false,.r0,.i 0])) (.ln gq<|.bI .eql sq (.i 1)<|.ite pU (.rw gq (.i 0) 5<|.op (.rc gq (.i 0) 0 (.int .u64))<|.op (.rc gq (.i 0) 1 (.int .u32))<|.op (.rc gq (.i 0) 2 .bool)<|.op (.rc gq (.i 0) 3 .sl)<|.op (.rc gq (.i 0) 4 (.int .i64))<|.ak (.jump 2 [.b true,ku,sy,wY,mD,pf])) (.bI .add aG (.i 1)<|.j [tW,cC,cP,dq,cq,eP,eT,fT,gI,iZ,j_,kE])))) (.ak (.jump 1 [])))) (.j [.b false,.i 0,.i 0,.b false,.r0,.i 0])
def Bh:=Fo avk
def aAn:au:=⟨28,[.agg [pi 0,pi 1,ps 2,pi 3,pi 4,.p .bool U5,ps 6,.mp 0],.agg [pi 8,pi 9,.p .bool ax,ps 11],.c (.p (.int .u64) aD),.c (.p (.int .u32) aE)],[.map U7],14,6,.aj [.agg [.p (.int .u64) aJ,.p (.int .u32) aN,.p .bool aM,ps 18,pi 19],.c (.p .bool aG)],[(0,(.map U7))],Bh,627⟩
theorem agd:Ok aAn:=oS (.cons Q6 (.cons WC (.cons JX (.cons Rn .nil))))
def aAf:ae:= .cA 156 Iq [U0,.i 12] 8<|.cA 2052 aqp [U5,U6,U7,U8] 1<|.join (.loop [.i 0] (.op (.bi .lss .u64 aw (.i 8))<|.ite aD (.join (.op (.lit [[((.int .u64),(.i 0)),((.int .u32),(.i 0)),(.bool,(.b false)),(.sl,.r0)]])<|.cA 3003 TR [U9,aw,aE] 2<|.cl aG 0 (.int .u64)<|.cl aG 1 (.int .u32)<|.cl aG 2 .bool<|.cl aG 3 .sl<|.op (.bi .add .u32 aM (.i 1))<|.op (.lit [[((.int .u32),U1)],[((.int .u32),aM)],[((.int .u32),a8)]])<|.ln bk<|.loop [.i 0] (.bI .lss bp be<|.ite bm (.join (.rw bk bp 1<|.op (.rc bk bp 0 (.int .u32))<|.cA 627 Bh [U2,U3,U4,U5,U6,U7,U8,U9,U5,U6,U7,ax,aw,bq] 6<|.no bw<|.ite eP (.ak (.jump 5 [.b false])) (.join (.ite aJ (.op (.bi .eql .u32 bq aM)<|.j [eT]) (.j [.b false])) (.ite eT (.join (.bI .neq cq (.i 0)<|.ite fT (.j [.b true]) (.cA 338 GR [b9,cC,cP,dq,aN,aM,aL,aX] 1<|.no gI<|.j [iZ])) (.ite fT (.ak (.jump 5 [.b false])) (.j []))) (.join (.bI .neq cq (.i 6)<|.ite fT (.j [.b true]) (.cA 338 GR [b9,cC,cP,dq,.i 0,.i 0,.b false,.r0] 1<|.no gI<|.j [iZ])) (.ite fT (.ak (.jump 5 [.b false])) (.j [])))))) (.bI .add bp (.i 1)<|.j [bA])) (.ak (.jump 1 [])))) (.op (.bi .add .u64 aw (.i 1))<|.j [aE])) (.ak (.jump 1 [])))) (.cA 195 Ez [] 1<|.j [aw])
def AA:=Fo aAf
def EF:au:=⟨5,[cs 0,.c (.p (.int .u32) U1)],[],2,1,.v (.c (.p .bool U2)),[],AA,629⟩
theorem adq:Ok EF:=oS (.cons agd (.cons aud (.cons avA (.cons YX (.cons amw (.cons azu .nil))))))
end
section

end
section
open Go.RowKit AI
attribute [local irreducible] ae.wp
def b1 (n:Nat):List PV:=[.sc (.int .u8 (n:Int))]
def rI (o:Option L):Int:=match o with|some (.i n)=>n|_=>0
def pX (r:Int):Int:=if rI (cU .and .u32 r 1)=1 then rI (cU .xor .u32 (rI (cU .shr .u32 r 1)) 2197175160)else rI (cU .shr .u32 r 1)
def iw (r:Int):Nat→Int
 |0=>r
 |n+1=>pX (iw r n)
def jV (r:Int) (x:Nat):Int:=iw (rI (cU .xor .u32 r (IntKind.wrap .u32 (x:Int)))) 8
def gh (r:Int):Int:=rI (TI .xor .u32 r)
def ff (l:List Nat):Int:=gh (l.foldl jV (gh 0))
theorem ast (r):Js [.i r]=some [.i (iw r 8)]:=by
 refine aH ?_;refine aB (fun xs=>xs=[.i (iw r 8)]) ?_ ?_;rotate_left
 · rintro _ rfl;refine nW ?_;exact ad rfl
 refine wp_loop (I:=fun a=>∃i:Nat,a=[.i (iw r i),.i i]∧i≤8) (mu:=fun a=>match a with|[_,.i i]=>8-i.toNat|_=>0) ⟨0,rfl,om⟩ ?_;rintro a ⟨i,rfl,e1⟩;refine uR ?_;refine aI rfl (fun hc=> ?_) (fun hc=> ?_)
 · refine aB (fun xs=>xs=[.i (iw r (i+1))]) ?_ ?_
   · refine cv (l:= .i (rI (cU .and .u32 (iw r i) 1))) rfl (uR ?_);refine aI rfl (fun hx=> ?_) (fun hx=> ?_)
     · refine cv (l:= .i (rI (cU .shr .u32 (iw r i) 1))) rfl (nW ?_);refine cv (l:= .i (rI (cU .xor .u32 (rI (cU .shr .u32 (iw r i) 1)) 2197175160))) rfl (nW ?_);refine ad ?_;show[L.i _]=[L.i (pX (iw r i))]
       unfold pX;rw[ay hx]
     · refine cv (l:= .i (rI (cU .shr .u32 (iw r i) 1))) rfl (nW ?_);refine ad ?_;show[L.i _]=[L.i (pX (iw r i))]
       unfold pX;rw[aC hx]
   · rintro _ rfl;refine nW ?_;refine bg (i:=i) rfl om (nW ?_);refine ad ⟨⟨i+1,rfl,om⟩,?_⟩;show 8- ((i+1:Nat):Int).toNat<8-i;omega
 · obtain rfl:i=8:=om;exact ad rfl
theorem awc (c) (l:List Nat) (hl:l.length≤4294967296):MM [.i c,.r (l.map b1)]=some [.i (gh (l.foldl jV (gh c)))]:=by
 refine aH ?_;refine jW (ls:=[.i (gh c)]) rfl (nW ?_);refine aB (fun xs=>xs=[.i (l.foldl jV (gh c))]) ?_ ?_;rotate_left
 · rintro _ rfl;refine nW ?_;refine jW (ls:=[.i (gh (l.foldl jV (gh c)))]) rfl (nW ?_);exact ad rfl
 refine wp_loop (I:=fun a=>∃i:Nat,a=[.i ((l.take i).foldl jV (gh c)),.i i]∧i≤l.length) (mu:=fun a=>match a with|[_,.i i]=>l.length-i.toNat|_=>0) ⟨0,rfl,om⟩ ?_;rintro a ⟨i,rfl,e1⟩;refine uR ?_;refine aI rfl (fun hc=> ?_) (fun hc=> ?_)
 · rw[aA]at hc;have hi:i<l.length:=om;refine aP (f:=b1) (j:=i) rfl rfl hi rfl (uR ?_);refine jM (nW ?_);refine cv (l:= .i (rI (cU .xor .u32 ((l.take i).foldl jV (gh c)) (IntKind.wrap .u32 (l[i]:Int))))) rfl (nW ?_);refine ag (ast _) rfl rfl (nW ?_);refine bg (i:=i) rfl om (nW ?_);refine ad ⟨⟨i+1,?_,om⟩,?_⟩
   · rw[gX hi,zn];rfl
   · show l.length- ((i+1:Nat):Int).toNat<l.length-i;omega
 · rw[aA]at hc;obtain rfl:i=l.length:=om;refine ad ?_;show[L.i ((l.take l.length).foldl jV (gh c))]=_;rw[ju]
theorem Qf (l) (hl:l.length≤4294967296):D' [.r (l.map b1)]=some [.i (ff l)]:=by
 refine aH ?_;refine ag (awc 0 l hl) rfl rfl (nW ?_);exact ad rfl
theorem akY (c) (l:List Nat) (hl:l.length≤4294967296):Ju [.i c,.r (l.map b1)]=some [.i (gh (l.foldl jV (gh c)))]:=by
 refine aH ?_;refine jW (ls:=[.i (gh c)]) rfl (nW ?_);refine aB (fun xs=>xs=[.i (l.foldl jV (gh c))]) ?_ ?_;rotate_left
 · rintro _ rfl;refine nW ?_;refine jW (ls:=[.i (gh (l.foldl jV (gh c)))]) rfl (nW ?_);exact ad rfl
 refine uR ?_;refine wp_loop (I:=fun a=>∃i:Nat,a=[.i ((l.take i).foldl jV (gh c)),.i i]∧i≤l.length) (mu:=fun a=>match a with|[_,.i i]=>l.length-i.toNat|_=>0) ⟨0,rfl,om⟩ ?_;rintro a ⟨i,rfl,e1⟩;refine uR ?_;refine aI rfl (fun hc=> ?_) (fun hc=> ?_)
 · rw [aA]at hc;have hi:i<l.length:=om;refine aB (fun xs=>xs=[.i ((l.take (i+1)).foldl jV (gh c))]) ?_ ?_;rotate_left
   · rintro _ rfl;refine nW ?_;refine bg (i:=i) rfl om (nW ?_);refine ad ⟨⟨i+1,rfl,om⟩,?_⟩;show l.length- ((i+1:Nat):Int).toNat<l.length-i;omega
   refine aP (f:=b1) (j:=i) rfl rfl hi rfl (uR ?_);refine jM (nW ?_);refine cv (l:= .i (rI (cU .xor .u32 ((l.take i).foldl jV (gh c)) (IntKind.wrap .u32 (l[i]:Int))))) rfl ?_;rw[gX hi,zn];generalize (l.take i).foldl jV (gh c)=r;show ae.wp _ _ (jQ (fun xs=>xs=[.i (iw (rI (cU .xor .u32 r (IntKind.wrap .u32 (l[i]:Int)))) 8)]) _);generalize rI (cU .xor .u32 r (IntKind.wrap .u32 (l[i]:Int)))=r';refine nW ?_;refine wp_loop (I:=fun a=>∃i:Nat,a=[.i (iw r' i),.i i]∧i≤8) (mu:=fun a=>match a with|[_,.i i]=>8-i.toNat|_=>0) ⟨0,rfl,om⟩ ?_;rintro a ⟨j,rfl,e1⟩;refine uR ?_;refine aI rfl (fun hc=> ?_) (fun hc=> ?_)
   · refine aB (fun xs=>xs=[.i (iw r' (j+1))]) ?_ ?_
     · refine cv (l:= .i (rI (cU .and .u32 (iw r' j) 1))) rfl (nW ?_);refine cv (l:= .i (rI (cU .shr .u32 (iw r' j) 1))) rfl (uR ?_);refine aI rfl (fun hx=> ?_) (fun hx=> ?_)
       · refine cv (l:= .i (rI (cU .xor .u32 (rI (cU .shr .u32 (iw r' j) 1)) 2197175160))) rfl (nW ?_);refine ad ?_;show[L.i _]=[L.i (pX (iw r' j))]
         unfold pX;rw[ay hx]
       · refine ad ?_;show[L.i _]=[L.i (pX (iw r' j))]
         unfold pX;rw[aC hx]
     · rintro _ rfl;refine nW ?_;refine bg (i:=j) rfl om (nW ?_);refine ad ⟨⟨j+1,rfl,om⟩,?_⟩;show 8- ((j+1:Nat):Int).toNat<8-j;omega
   · obtain rfl:j=8:=om;exact ad rfl
 · rw[aA]at hc;obtain rfl:i=l.length:=om;refine ad ?_;show[L.i ((l.take l.length).foldl jV (gh c))]=_;rw[ju]
theorem Ux (l) (hl:l.length≤4294967296):BB [.r (l.map b1)]=some [.i (ff l)]:=by
 refine aH ?_;refine ag (akY 0 l hl) rfl rfl (nW ?_);exact ad rfl
theorem Rk (l):0≤ff l∧ff l≤4294967295:=by
 have:=avS .u32 (((BitVec.ofInt 32 (4294967295:Int) ^^^BitVec.ofInt 32 (l.foldl jV (gh 0))).toNat:Nat):Int);exact this
def kq (c:Int) (k:Nat):Nat:=(c/2^k%256).toNat
theorem o7 (c) (k):[PV.sc (.int .u8 (IntKind.wrap .u8 (c.fdiv (2^k))))]=b1 (kq c k):=by
 unfold b1 kq;have h:(0:Int)≤c/2^k%256:=Int.emod_nonneg _ dc;rw[PA _ (Int.pow_nonneg dc),abG h];congr 3
def cf (l:List Nat):List Nat:=[kq (ff l) 0,kq (ff l) 8,kq (ff l) 16,kq (ff l) 24]
theorem yv (l) (hl:l.length≤4294967296):sE [.r (l.map b1)]=some [.r ((cf l).map b1)]:=by
 refine aH ?_;refine ag (Qf l hl) rfl rfl (nW ?_);refine jM (nW ?_);refine cv (l:= .i ((ff l).fdiv (2^8))) rfl (nW ?_);refine jM (nW ?_);refine cv (l:= .i ((ff l).fdiv (2^16))) rfl (nW ?_);refine jM (nW ?_);refine cv (l:= .i ((ff l).fdiv (2^24))) rfl (nW ?_);refine jM (uR ?_);refine ad ?_;have h0:=o7 (ff l) 0;rw[show(ff l).fdiv (2^0)=ff l by simp]at h0;show[L.r [[PV.sc _],[PV.sc _],[PV.sc _],[PV.sc _]]]=[L.r [b1 _,b1 _,b1 _,b1 _]]
 rw[←h0,←o7,←o7,←o7]
theorem Va (l) (hl:l.length≤4294967296):K_ [.r (l.map b1)]=some [.r ((cf l).map b1)]:=by
 refine aH ?_;refine ag (Ux l hl) rfl rfl (nW ?_);refine jM (nW ?_);refine cv (l:= .i ((ff l).fdiv (2^8))) rfl (nW ?_);refine jM (nW ?_);refine cv (l:= .i ((ff l).fdiv (2^16))) rfl (nW ?_);refine jM (nW ?_);refine cv (l:= .i ((ff l).fdiv (2^24))) rfl (nW ?_);refine jM (uR ?_);refine ad ?_;have h0:=o7 (ff l) 0;rw[show(ff l).fdiv (2^0)=ff l by simp]at h0;show[L.r [[PV.sc _],[PV.sc _],[PV.sc _],[PV.sc _]]]=[L.r [b1 _,b1 _,b1 _,b1 _]]
 rw[←h0,←o7,←o7,←o7]
theorem auM (l) (hl:l.length≤4294967296):IH [.r (l.map b1)]=some [.r ((cf l).map b1)]:=by
 rw[←Va l hl];rfl
def val (l:List Nat):BitVec 64:=l.foldl (fun v x=> (v<<<8)|||BitVec.ofNat 64 x) 0
theorem RZ (n):IntKind.wrap .u64 n=((BitVec.ofInt 64 n).toNat:Int):=by
 simp[IntKind.wrap,IntKind.bits,IntKind.signed,H7];omega
theorem I8 (n):IntKind.wrap .i64 n=(BitVec.ofInt 64 n).toInt:=by
 simp[IntKind.wrap,IntKind.bits,IntKind.signed,Int.bmod];split<;>split<;>omega
theorem Bx (v):BitVec.ofInt 64 (v.toNat:Int)=v:=by
 simp
theorem ofInt_toInt (v):BitVec.ofInt 64 v.toInt=v:=BitVec.ofInt_toInt
theorem Uk (v) (n) (h:BitVec.ofInt 64 n=v):BitVec.ofInt 64 (n*256)=v<<<8:=by
 subst h;apply BitVec.eq_of_toNat_eq;rw[BitVec.toNat_shiftLeft,H7,H7,abS];omega
theorem S8 (v:BitVec 64):cU .shl .u64 v.toNat 8=some (.i ((v<<<8).toNat:Int)):=by
 show some (L.i (IntKind.wrap .u64 ((v.toNat:Int)*2^8)))=_;rw[show(2:Int) ^8=256 by decide,RZ,Uk v _ (Bx v)]
theorem afp (v:BitVec 64):cU .shl .i64 v.toInt 8=some (.i ((v<<<8).toInt)):=by
 show some (L.i (IntKind.wrap .i64 (v.toInt*2^8)))=_;rw[show(2:Int) ^8=256 by decide,I8,Uk v _ (ofInt_toInt v)]
theorem Vz (x:Nat):BitVec.ofInt 64 (x:Int)=BitVec.ofNat 64 x:=by
 simp
theorem Se (v) (x:Nat):cU .or .u64 v.toNat (x:Int)=some (.i ((v|||BitVec.ofNat 64 x).toNat:Int)):=by
 show some (L.i (IntKind.wrap .u64 ((BitVec.ofInt 64 _|||BitVec.ofInt 64 _).toNat:Int)))=_;rw[Bx,Vz,RZ,Bx]
theorem alJ (v) (x:Nat):cU .or .i64 v.toInt (x:Int)=some (.i ((v|||BitVec.ofNat 64 x).toInt)):=by
 show some (L.i (IntKind.wrap .i64 ((BitVec.ofInt 64 _|||BitVec.ofInt 64 _).toNat:Int)))=_;rw[ofInt_toInt,Vz,I8,Bx]
theorem LX {l:List Nat} {i} (hi):val (l.take (i+1))=(val (l.take i)<<<8)|||BitVec.ofNat 64 l[i]:=by
 unfold val;rw[gX hi,zn];rfl
def B8 (l:List Nat):Prop:=∀x∈l,x<256
theorem LP (l) (hb:B8 l) (hl:l.length≤4294967296):F40 [.r (l.map b1)]=some [.i ((val l).toNat:Int)]:=by
 refine aH ?_;refine aB (fun xs=>xs=[.i ((val l).toNat:Int)]) ?_ ?_;rotate_left
 · rintro _ rfl;refine nW ?_;exact ad rfl
 refine wp_loop (I:=fun a=>∃i:Nat,a=[.i ((val (l.take i)).toNat:Int),.i i]∧i≤l.length) (mu:=fun a=>match a with|[_,.i i]=>l.length-i.toNat|_=>0) ⟨0,rfl,om⟩ ?_;rintro a ⟨i,rfl,e1⟩;refine uR ?_;refine aI rfl (fun hc=> ?_) (fun hc=> ?_)
 · rw[aA]at hc;have hi:i<l.length:=om;have hx:=hb _ (b8 hi);refine cv (S8 _) (nW ?_);refine aP (f:=b1) (j:=i) rfl rfl hi rfl (uR ?_);refine fU (n:=(l[i]:Int)) rfl om om (nW ?_);refine cv (Se _ _) (nW ?_);refine bg (i:=i) rfl om (nW ?_);refine ad ⟨⟨i+1,?_,om⟩,?_⟩
   · show[L.i _,L.i _]=_;rw[LX hi]
   · show l.length- ((i+1:Nat):Int).toNat<l.length-i;omega
 · rw[aA]at hc;obtain rfl:i=l.length:=om;refine ad ?_;show[L.i ((val (l.take l.length)).toNat:Int)]=_;rw[ju]
theorem Bq (l) (hb:B8 l) (hl:l.length≤4294967296):xn [.r (l.map b1)]=some [.i ((val l).toNat:Int)]:=by
 refine aH ?_;refine aB (fun xs=>xs=[.i ((val l).toNat:Int)]) ?_ ?_;rotate_left
 · rintro _ rfl;refine nW ?_;exact ad rfl
 refine uR ?_;refine wp_loop (I:=fun a=>∃i:Nat,a=[.i ((val (l.take i)).toNat:Int),.i i]∧i≤l.length) (mu:=fun a=>match a with|[_,.i i]=>l.length-i.toNat|_=>0) ⟨0,rfl,om⟩ ?_;rintro a ⟨i,rfl,e1⟩;refine uR ?_;refine aI rfl (fun hc=> ?_) (fun hc=> ?_)
 · rw[aA]at hc;have hi:i<l.length:=om;have hx:=hb _ (b8 hi);refine aP (f:=b1) (j:=i) rfl rfl hi rfl (uR ?_);refine cv (S8 _) (nW ?_);refine fU (n:=(l[i]:Int)) rfl om om (nW ?_);refine cv (Se _ _) (nW ?_);refine bg (i:=i) rfl om (nW ?_);refine ad ⟨⟨i+1,?_,om⟩,?_⟩
   · show[L.i _,L.i _]=_;rw[LX hi]
   · show l.length- ((i+1:Nat):Int).toNat<l.length-i;omega
 · rw[aA]at hc;obtain rfl:i=l.length:=om;refine ad ?_;show[L.i ((val (l.take l.length)).toNat:Int)]=_;rw[ju]
theorem NI (l) (hb:B8 l) (hl:l.length≤4294967296):Bg [.r (l.map b1)]=some [.i ((val l).toNat:Int)]:=by
 rw[←Bq l hb hl];rfl
theorem xI (l) (hb:B8 l) (hl:l.length≤4294967296):sK [.r (l.map b1)]=some [.i (val l).toInt]:=by
 refine aH ?_;refine aB (fun xs=>xs=[.i (val l).toInt]) ?_ ?_;rotate_left
 · rintro _ rfl;refine nW ?_;exact ad rfl
 refine uR ?_;refine wp_loop (I:=fun a=>∃i:Nat,a=[.i (val (l.take i)).toInt,.i i]∧i≤l.length) (mu:=fun a=>match a with|[_,.i i]=>l.length-i.toNat|_=>0) ⟨0,rfl,om⟩ ?_;rintro a ⟨i,rfl,e1⟩;refine uR ?_;refine aI rfl (fun hc=> ?_) (fun hc=> ?_)
 · rw[aA]at hc;have hi:i<l.length:=om;have hx:=hb _ (b8 hi);refine aP (f:=b1) (j:=i) rfl rfl hi rfl (uR ?_);refine cv (afp _) (nW ?_);refine po (n:=(l[i]:Int)) rfl om om (nW ?_);refine cv (alJ _ _) (nW ?_);refine bg (i:=i) rfl om (nW ?_);refine ad ⟨⟨i+1,?_,om⟩,?_⟩
   · show[L.i _,L.i _]=_;rw[LX hi]
   · show l.length- ((i+1:Nat):Int).toNat<l.length-i;omega
 · rw[aA]at hc;obtain rfl:i=l.length:=om;refine ad ?_;show[L.i (val (l.take l.length)).toInt]=_;rw[ju]
theorem IA (a b) (ha:B8 a) (hb:B8 b) (hl:a.length≤4294967296) {t} (ht:t=true ↔ a=b):B6 [.r (a.map b1),.r (b.map b1)]=some [.b t]:=by
 refine aH ?_;refine uR ?_;refine aI rfl (fun hc=> ?_) (fun hc=> ?_)
 · refine ad ?_;show[L.b false]=[.b t]
   rw[fu ht fun h=>hc (by rw[h])]
 rw[aA,aA]at hc;have hlen:a.length=b.length:=om;refine aB (fun xs=>xs=[]∧t=true) ?_ ?_;rotate_left
 · rintro _ ⟨rfl,h⟩;refine nW ?_;refine ad ?_;show[L.b true]=[.b t]
   rw[h]
 refine uR ?_;refine wp_loop (I:=fun x=>∃i:Nat,x=[.i i]∧i≤a.length∧∀(j:Nat) (h:j<a.length),j<i→a[j]=b[j]'om) (mu:=fun x=>match x with|[.i i]=>a.length-i.toNat|_=>0) ⟨0,rfl,om,fun j _ hj=>by omega⟩ ?_;rintro x ⟨i,rfl,e1,e2⟩;refine uR ?_;refine aI rfl (fun hx=> ?_) (fun hx=> ?_)
 · rw [aA]at hx;have hi:i<a.length:=om;refine aP (f:=b1) (j:=i) rfl rfl hi rfl (uR ?_);refine aP (f:=b1) (j:=i) rfl rfl (show i<b.length by omega) rfl (uR ?_);refine aI rfl (fun hy=> ?_) (fun hy=> ?_)
   · refine ad ?_;show[L.b false]=[.b t]
     rw[fu ht fun h=>hy (by subst h;rfl)]
   · have heq:a[i]=b[i]'om:=om;refine bg (i:=i) rfl om (nW ?_);refine ad ⟨⟨i+1,rfl,om,fun j hj jI=> ?_⟩,?_⟩
     · by_cases he:j=i
       · subst he;exact heq
       · exact e2 j hj om
     · show a.length- ((i+1:Nat):Int).toNat<a.length-i;omega
 · rw[aA]at hx;exact ad ⟨rfl,ht.2 (PI hlen fun j h1 h2=>e2 j h1 om)⟩
theorem pA (l:List Nat):bu 1 (l.map b1)=true:=by
 unfold bu;rw[bC];intro r hr;obtain⟨n,_,rfl⟩:=fe.1 hr;rfl
theorem Td (l:List Nat):ny (l.map b1)=some (l.map fun n=> ((n:Nat):Int)):=by
 have:=axj (l.map fun n=> ((n:Nat):Int));rw[←this,gO,gd];rfl
theorem auz (l):LF [.i (ff l),.i 4]=some [.r ((cf l).map b1)]:=by
 refine aH ?_;have key:∀i:Nat,i≤4→((cf l).take i).length=i:=fun i h=>by rw[cL];show min i 4=i;omega
 refine wp_loop (I:=fun a=>∃i:Nat,a=[.i i,.r (((cf l).take i).map b1)]∧i≤4) (mu:=fun a=>match a with|[.i i,_]=>4-i.toNat|_=>0) ⟨0,rfl,om⟩ ?_;rintro a ⟨i,rfl,e1⟩;refine uR ?_;refine aI rfl (fun hc=> ?_) (fun hc=> ?_)
 · have hi:i<4:=om;refine iS (n:=8*(i:Int)) rfl om om (nW ?_);refine cv (l:= .i ((ff l).fdiv (2^ (8*i)))) (by
    show(if(0:Int)≤8*(i:Int)then some (L.i ((ff l).fdiv (2^min (8*(i:Int)).toNat 64)))else none)=_;rw[ay om,show min (8*(i:Int)).toNat 64=8*i by omega]) ?_
   refine nW ?_;refine jM (uR ?_);have hrow:[PV.sc (.int .u8 (IntKind.wrap .u8 ((ff l).fdiv (2^ (8*i)))))]=b1 ((cf l)[i]'(by show i<4;omega)):=by
    rw[o7]
    match i,hi with
    |0,_=>rfl
    |1,_=>rfl
    |2,_=>rfl
    |3,_=>rfl
   have ma:((cf l).take i).map b1++ [b1 ((cf l)[i]'(by show i<4;omega))]=((cf l).take (i+1)).map b1:=by
    rw[gX (show i< (cf l).length from hi),dk];rfl
   refine dC (r:=((cf l).take (i+1)).map b1) (pA _) rfl (by show(((cf l).take i).map b1).length≤_;rw[aA,key i om];omega) oO om (by rw[←ma,←hrow];rfl) (nW ?_);refine bg (i:=i) rfl om (nW ?_);refine ad ⟨⟨i+1,rfl,om⟩,?_⟩;show 4- ((i+1:Nat):Int).toNat<4-i;omega
 · obtain rfl:i=4:=om;exact ad rfl
end
end
end Go.Proofs.YtndegphojkiblaaGreatDoor
