/- Towards the last file's theorem: part 15. -/
import Derived.Test.YtndegphojkiblaaGreatDoorG12
import Derived.Test.YtndegphojkiblaaGreatDoorG14
import Derived.Test.YtndegphojkiblaaGreatDoorProg
import Derived.WalkKit
import Derived.WalkSpells
import Derived.WalkLawsBesides
import Derived.RangeFuncBox
import Derived.RangeFuncCalls
import Derived.RangeFuncLeaves
import Derived.Shelf.Abstract
import Derived.OwnWalkIn
import Derived.TacticsInMore
import Derived.LoopNIn
import Derived.LoopIn
import Derived.Maps.AppendAt
import Derived.Deep.AppendLies
import Derived.Deep.Onto
import Derived.Lib.Hide
set_option linter.all false
set_option maxHeartbeats 4000000
set_option maxRecDepth 100000
namespace Go.Proofs.YtndegphojkiblaaGreatDoor
noncomputable section
section
open Go.RowKit
open Classical
theorem afA:∀{ks:List Kd} {r:List PV} {cs:List L},ks.length=r.length→(ks.zip r).mapM (fun x=>x.1.of x.2)=some cs→cs.length=ks.length∧r=List.zipWith Kd.pv ks cs
 |[],[],cs,_,h=>by simp_all
 | k::ks,q::r,cs,hl,h=>by
  simp only[List.zip_cons_cons,je]at h
  cases h1:k.of q with
  |none=>simp[h1]at h
  | some x=>
   cases h2:(ks.zip r).mapM (fun x=>x.1.of x.2)with
   |none=>simp[h1,h2]at h
   |some ys=>
    simp[h1,h2]at h;subst h;obtain⟨k1,k2⟩:=afA (by simpa using hl) h2;exact⟨by simp[k1],by rw[List.zipWith_cons_cons,Kd.EH h1,←k2]⟩
def D8 (r:List PV):Option (List L):=if r.length=14 then(zP.zip r).mapM (fun x=>x.1.of x.2)else none
theorem aqk {r:List PV} {cs:List L} (h:D8 r=some cs):cs.length=14∧r.length=14∧r=List.zipWith Kd.pv zP cs:=by
 unfold D8 at h;split at h
 · rename_i hl;obtain⟨h1,h2⟩:=afA (by rw[hl];rfl) h;simp_all
 · cases h
def yI (F113:List L→Option (List L)) (t113:Nat):ad:=
 .op (.call t113 F113 [(.v 13),(.v 14),(.v 15),(.v 16),(.v 17),(.v 18),(.v 19),(.v 20),(.v 21),(.v 22),(.v 4)] 5 [])<|
 .ite (.v 23)
  (.op (.lit [[((.int .i64),(.v 9)),((.int .i64),(.v 11)),((.int .i64),(.v 10)),((.int .u64),(.v 24)),((.int .u32),(.v 25)),((.int .i64),(.v 26)),((.int .i64),(.v 27)),((.int .i64),(.v 8))]])<|
   .op (.app (.v 7) (.v 28) 8 64)<|
   .ar (.jump 0 [.v 29]))
  (.ar (.jump 0 [.v 7]))
noncomputable def Bg (F113:List L→Option (List L)) (t113:Nat) (ρ:List L) (acc:List (List PV)) (k:Nat) (r:List PV):Option (List (List PV)):=
 match D8 r with
 |some cs=>match(yI F113 t113).aa (ρ++ [.r acc,.i k]++cs)with
  |some (.jump 0 [a],ρ')=>some (a.ev ρ').ah
  |_=>none
 |none=>none
noncomputable def lX (F113:List L→Option (List L)) (t113:Nat) (ρ:List L) (gens:List (List PV)):Nat→Option (List (List PV))
 |0=>some []
 |k+1=>match lX F113 t113 ρ gens k,gens[gens.length-1-k]? with
  |some acc,some g=>Bg F113 t113 ρ acc (gens.length-1-k) g
  |_,_=>none
theorem apw {F113:List L→Option (List L)} {t113:Nat} {ρ:List L} {gens acc:List (List PV)} {n:Nat} (h:lX F113 t113 ρ gens n=some acc) {k:Nat} (hk:k≤n):∃a,lX F113 t113 ρ gens k=some a:=by
 induction n generalizing acc with
 |zero=>simp_all
 |succ n ih=>
  by_cases he:k=n+1
  · subst he;exact⟨_,h⟩
  · rw[lX]at h;split at h
    · rename_i h1 _;exact ih h1 om
    · cases h
noncomputable def xh (F40 F112 F113:List L→Option (List L)) (t113:Nat):List L→Option (List L):=fun ls=>match ls with
 | [n,r,m,.r gens,key]=>match F40 [n,r,m,.r gens]with
  | some [ok]=>if ok.br=true then
   (if gens.length≤4611686018427387904 then match F112 [.r gens]with
    |some []=> (lX F113 t113 [n,r,m,.r gens,key,ok,.b (!ok.br)] gens gens.length).map fun acc=> [.r acc]
    |_=>none
   else none)else some [.r []]
  |_=>none
 |_=>none
noncomputable def WU (F40 F112 F113:List L→Option (List L)) (t113 tag:Nat):az:=⟨58,[.agg [.p (.int .i64) (.v 0),.p (.int .i64) (.v 1),.p .bool (.v 2),.p .sl (.v 3)],.c (.p (.int .u64) (.v 4))],[],5,1,.v (.c (.own 0)),[(0,.row 165 (.v 5))],xh F40 F112 F113 t113,tag⟩
section
variable {F40 F112 F113:List L→Option (List L)} {t40 t112 t113:Nat}
theorem aAp (hC:cm.ok Tryz.prog (ku F40 F112 F113 t40 t112 t113)) {n r m key ok nok:L} {gens:List (List PV)} {acc:List (List PV)} {k:Nat} {l0 l1 l2 l3 l4 l5 l6 l7 l8 l9 l10 l11 l12 l13:L} {a:At} {ρ':List L}
   (hd:(yI F113 t113).aa [n,r,m,.r gens,key,ok,nok,.r acc,.i k,l0,l1,l2,l3,l4,l5,l6,l7,l8,l9,l10,l11,l12,l13]=some (.jump 0 [a],ρ')) {X:Fx} (hP:X.P=Tryz.prog) (hk:X.k0=3) {l d:Nat}:
   ij l d X (.block 1 ((Code.region 7 AX false).seq ((Code.region 8 Ba false).seq (.cond (.tmp 25) (.region 9 B5 false) .skip)))) (fun e st=>e= .normal∧st=kS.aa [n,r,m,.r gens,key,ok,nok,.r (a.ev ρ').ah])
    (Hr.aa [n,r,m,.r gens,key,ok,nok,.r acc,.i k,l0,l1,l2,l3,l4,l5,l6,l7,l8,l9,l10,l11,l12,l13]):=by
 rw[yI,ad.aa]at hd;split at hd
 · rename_i o ho;have Ii:o.length=5:=by
    simp only[Nd.ev]at ho;split at ho
    · split at ho
      · rename_i hc;cases ho;exact hc.1
      · cases ho
    · cases ho
   match o,Ii with
   | [o0,o1,o2,o3,o4],_=>
    have h7:(ad.op (.call t113 F113 [(.v 13),(.v 14),(.v 15),(.v 16),(.v 17),(.v 18),(.v 19),(.v 20),(.v 21),(.v 22),(.v 4)] 5 []) (.ar (.st .normal Ew))).aa [n,r,m,.r gens,key,ok,nok,.r acc,.i k,l0,l1,l2,l3,l4,l5,l6,l7,l8,l9,l10,l11,l12,l13]=
        some (.st .normal Ew,[n,r,m,.r gens,key,ok,nok,.r acc,.i k,l0,l1,l2,l3,l4,l5,l6,l7,l8,l9,l10,l11,l12,l13,o0,o1,o2,o3,o4]):=by
      rw[ad.aa,ho];rfl
    refine X1 (w8 (qo hC (by rfl) (aoi F40 F112 F113 t40 t112 t113) rfl h7 hP ?_));refine w8 (qo hC (by rfl) (aFC F40 F112 F113 t40 t112 t113) rfl (ρ':=[n,r,m,.r gens,key,ok,nok,.r acc,.i k,l0,l1,l2,l3,l4,l5,l6,l7,l8,l9,l10,l11,l12,l13,o0,o1,o2,o3,o4]) rfl hP ?_);refine T5 (t:=o0.br) rfl (fun hb=> ?_) (fun hb=> ?_)
    · rw [ad.aa,show(At.v 23).ev ([n,r,m,.r gens,key,ok,nok,.r acc,.i k,l0,l1,l2,l3,l4,l5,l6,l7,l8,l9,l10,l11,l12,l13]++ [o0,o1,o2,o3,o4])=o0 from rfl,au hb]at hd;have aJZ:=hd;rw[ad.aa]at hd;split at hd
      · rename_i lt hlt;have e1:lt=[.r [[.sc (.int .i64 l0.af),.sc (.int .i64 l2.af),.sc (.int .i64 l1.af),.sc (.int .u64 o1.af),.sc (.int .u32 o2.af),.sc (.int .i64 o3.af),.sc (.int .i64 o4.af),.sc (.int .i64 (k:Int))]]]:=by
          simp only[Nd.ev,im]at hlt;rw[←hlt];rfl
        rw[ad.aa]at hd;split at hd
        · rename_i ap hap;have e2:∃x,ap=[x]:=by
            simp only[Nd.ev]at hap;split at hap
            · cases hap;exact⟨_,rfl⟩
            · cases hap
          obtain⟨x,rfl⟩:=e2;subst e1;rw[ad.aa]at hd;have e3:a= .v 29∧ρ'=[n,r,m,.r gens,key,ok,nok,.r acc,.i k,l0,l1,l2,l3,l4,l5,l6,l7,l8,l9,l10,l11,l12,l13,o0,o1,o2,o3,o4,.r [[.sc (.int .i64 l0.af),.sc (.int .i64 l2.af),.sc (.int .i64 l1.af),.sc (.int .u64 o1.af),.sc (.int .u32 o2.af),.sc (.int .i64 o3.af),.sc (.int .i64 o4.af),.sc (.int .i64 (k:Int))]],x]:=by
            simp_all
          obtain⟨rfl,rfl⟩:=e3;have hx:x= .r x.ah:=by
            simp only[Nd.ev]at hap;split at hap
            · cases hap;rfl
            · cases hap
          refine Oz ?_;refine qo (e:= .normal) (S':=Qb) hC (by rfl) (aAm F40 F112 F113 t40 t112 t113) rfl (ρ':=[n,r,m,.r gens,key,ok,nok,.r acc,.i k,l0,l1,l2,l3,l4,l5,l6,l7,l8,l9,l10,l11,l12,l13,o0,o1,o2,o3,o4,.r [[.sc (.int .i64 l0.af),.sc (.int .i64 l2.af),.sc (.int .i64 l1.af),.sc (.int .u64 o1.af),.sc (.int .u32 o2.af),.sc (.int .i64 o3.af),.sc (.int .i64 o4.af),.sc (.int .i64 (k:Int))]],x]) ?_ hP ?_
          · simp only[fv,fa]at hlt hap;rw[ad.aa,hlt];simp only[fv,fa];rw[ad.aa,hap];rfl
          · obtain⟨xs1,zs,j1,_,_,j4⟩:=kB iU (ρ:=[n,r,m,.r gens,key,ok,nok]) (ys:=[.r acc,.i k,l0,l1,l2,l3,l4,l5,l6,l7,l8,l9,l10,l11,l12,l13,o0,o1,o2,o3,o4,.r [[.sc (.int .i64 l0.af),.sc (.int .i64 l2.af),.sc (.int .i64 l1.af),.sc (.int .u64 o1.af),.sc (.int .u32 o2.af),.sc (.int .i64 o3.af),.sc (.int .i64 o4.af),.sc (.int .i64 (k:Int))]],x]) rfl rfl rfl atc rfl;cases j1;refine⟨_,j4 X hP hk,rfl,?_⟩;rfl
        · cases hd
      · cases hd
    · rw[ad.aa,show(At.v 23).ev ([n,r,m,.r gens,key,ok,nok,.r acc,.i k,l0,l1,l2,l3,l4,l5,l6,l7,l8,l9,l10,l11,l12,l13]++ [o0,o1,o2,o3,o4])=o0 from rfl,hb]at hd;simp only[lP,if_false,ad.aa]at hd;cases hd;refine Oz (X8 ?_);obtain⟨xs1,zs,j1,_,_,j4⟩:=kB iU (ρ:=[n,r,m,.r gens,key,ok,nok]) (ys:=[.r acc,.i k,l0,l1,l2,l3,l4,l5,l6,l7,l8,l9,l10,l11,l12,l13,o0,o1,o2,o3,o4]) rfl rfl rfl alN rfl;cases j1;exact⟨_,j4 X hP hk,rfl,rfl⟩
 · cases hd
theorem akv (hC:cm.ok Tryz.prog (ku F40 F112 F113 t40 t112 t113)) {n r m key ok nok:L} {gens:List (List PV)} {acc:List (List PV)} {k:Nat} {l0 l1 l2 l3 l4 l5 l6 l7 l8 l9 l10 l11 l12 l13:L} {X:Fx} (hP:X.P=Tryz.prog) {l d:Nat}:
  ij l d X ((Code.region 5 zO false).seq (.region 6 Ca false)) (fun e st=>e= .normal∧st=Hr.aa [n,r,m,.r gens,key,ok,nok,.r acc,.i k,l0,l1,l2,l3,l4,l5,l6,l7,l8,l9,l10,l11,l12,l13])
   (QT.aa [n,r,m,.r gens,key,ok,nok,.r acc,.i k,l0,l1,l2,l3,l4,l5,l6,l7,l8,l9,l10,l11,l12,l13]):=by
 refine w8 (qo hC (by rfl) (anR F40 F112 F113 t40 t112 t113) rfl (ρ':=[n,r,m,.r gens,key,ok,nok,.r acc,.i k,l0,l1,l2,l3,l4,l5,l6,l7,l8,l9,l10,l11,l12,l13]) rfl hP ?_);exact qo hC (by rfl) (aAc F40 F112 F113 t40 t112 t113) rfl (ρ':=[n,r,m,.r gens,key,ok,nok,.r acc,.i k,l0,l1,l2,l3,l4,l5,l6,l7,l8,l9,l10,l11,l12,l13]) rfl hP ⟨rfl,rfl⟩
def FB (F113:List L→Option (List L)) (t113:Nat) (ρ:List L) (gens:List (List PV)) (Xb:Fx) (a0:Act) (l D:Nat) (rec:Loop) (k:Nat) (W:av):Prop:=
 ∃E acc,lX F113 t113 ρ gens k=some acc∧Rel Xb E (kS.aa (ρ++ [.r acc])) a0 W∧E.off [l,D]∧W.heap[l]? =some (.loop rec)∧W.heap[D]? =some (.deferred (some []))
theorem asf {ρ:List L} {gens acc:List (List PV)} (h:lX F113 t113 ρ gens gens.length=some acc) {k:Nat} (hk:k<gens.length):
   ∃a g b,lX F113 t113 ρ gens k=some a∧gens[gens.length-1-k]? =some g∧Bg F113 t113 ρ a (gens.length-1-k) g=some b∧lX F113 t113 ρ gens (k+1)=some b:=by
 obtain⟨b,hb⟩:=apw h (k:=k+1) om;have hb':=hb;rw[lX]at hb;split at hb
 · rename_i a g h1 h2;exact⟨a,g,b,h1,h2,hb,hb'⟩
 · cases hb
theorem VO (ρ:List L):(kS.aa ρ).ao=[]:=rfl
theorem aoe (hC:cm.ok Tryz.prog (ku F40 F112 F113 t40 t112 t113)) {n r m key ok nok:L} {gens accN:List (List PV)} (hN:lX F113 t113 [n,r,m,.r gens,key,ok,nok] gens gens.length=some accN)
   {Xb:Fx} (hP:Xb.P=Tryz.prog) (bR:Xb.k0=3) {E0:Env} {a0:Act} {w0:av} {aHW:List (List PV)} (h0:Rel Xb E0 (kS.aa [n,r,m,.r gens,key,ok,nok,.r aHW]) a0 w0) (nK:∀k,k<Xb.k0→E0.N k=Xb.N0 k) (CS:a0.defers=[])
   {l D gB:Nat} (hlD:D<l) (hlw:Xb.w0.heap.size≤l) {rec:Loop} (R5:∃x,E0.N 2=some x∧x.g=some gB) (fn:FuncId)
   (eX:rec={state:= .ready,pending:=none,fn,tmps:=a0.tmps,params:= #[16,17],assign:=(Code.region 5 zO false).seq (.region 6 Ca false),body:= .block 1 ((Code.region 7 AX false).seq ((Code.region 8 Ba false).seq (.cond (.tmp 25) (.region 9 B5 false) .skip))),defers:=D})
   (k:Nat) (W:av) (hJ:FB F113 t113 [n,r,m,.r gens,key,ok,nok] gens Xb a0 l D rec k W) (hk:k≤gens.length):
   ∃ A cap,W.cell? ⟨gB,0,none⟩=some (.slice A gens.length cap)∧(k<gens.length→∃(g o:Nat) (f:Nat→aD),A=some ⟨g,o,none⟩∧(∀j,j<14→W.cell? ⟨g,o+(gens.length-1-k)*14+j,none⟩=some (f j))∧
     YieldAt Fence.wide 1 Tryz.prog l #[.int .i64 ((gens.length-1-k:Nat):Int),.agg #[f 0,f 1,f 2,f 3,f 4,f 5,f 6,f 7,f 8,f 9,f 10,f 11,f 12,f 13]] W
       (fun e W'=>e= .returned (.bool true)∧FB F113 t113 [n,r,m,.r gens,key,ok,nok] gens Xb a0 l D rec (k+1) W')):=by
 obtain⟨E,acc,aHZ,hR,rJ,hl,hd⟩:=hJ;obtain⟨xB,R6,gZ⟩:=R5;have hEg:E.ao=[]:=hR.ao;obtain⟨x,g,cur,e,q1,q2,q3,q4,q5⟩:=hR.row (n:=2) (b:= .box [.p (.sl gens)]) (by simp[VO]) rfl;have fg:x=xB:=by
   rcases hR.dw 2 om with h|h
   · rw[q1]at h;cases h
   · rw[←nK 2 om,R6,q1]at h;cases h;rfl
 subst fg;rw[gZ]at q2;cases q2;obtain⟨u,q6,q7,_⟩:=q5 0 (.p (.sl gens)) rfl;have hcell:W.cell? ⟨gB,0,none⟩=some u:=by rw[cell_of_row W gB 0 cur e (0,0) q3];exact q6
 have q7:RP (bad Xb.M E) W (.sl gens) u:=q7;rcases RP.rows q7 with⟨hnil,A,cap,rfl⟩| ⟨g,o,cap,sz,f,rfl,hne,hlc,hmx,zi,hf⟩
 · subst hnil;exact⟨A,cap,hcell,fun h=>absurd h (qb _)⟩
 · refine ⟨_,cap,hcell,fun hlt=> ?_⟩;obtain⟨a1,gr,b,k1,k2,k3,k4⟩:=asf hN hlt;rw[aHZ]at k1;cases k1;obtain⟨p,hp⟩:∃p,gens.length-1-k=p:=⟨_,rfl⟩
   rw[hp]at k2 k3⊢;unfold Bg at k3;split at k3;rotate_left
   · cases k3
   rename_i cs hcs;obtain⟨c1,c2,c3⟩:=aqk hcs;have bj:sz=14:=by rw[←zi gr (cH k2),c2]
   subst bj
   match cs,c1 with
   | [l0,l1,l2,l3,l4,l5,l6,l7,l8,l9,l10,l11,l12,l13],_=>
     split at k3;rotate_left
     · cases k3
     rename_i at1 ρ' oJ;cases k3;have CT:∀j q,gr[j]? =some q→W.cell? ⟨g,o+p*14+j,none⟩=some (f p j)∧RP (bad Xb.M E) W q (f p j):=fun j q hj=>hf p gr j q k2 hj
     refine⟨g,o,f p,rfl,fun j hj=> ?_,?_⟩
     · obtain⟨q,hq⟩:∃q,gr[j]? =some q:=⟨_,bX om⟩
       exact(CT j q hq).1
     · have hy:=run_yield (P:=Tryz.prog) (args:= #[.int .i64 (p:Int),.agg #[f p 0,f p 1,f p 2,f p 3,f p 4,f p 5,f p 6,f p 7,f p 8,f p 9,f p 10,f p 11,f p 12,f p 13]]) hl (by rw[eX];rfl);rw[eX]at hy;refine⟨fn,_,_,_,hy,roundIn_of_wpIn trivial ?_⟩;have R7:a0=⟨a0.tmps,[]⟩:=by
         cases a0;simp only at CS;subst CS;rfl
       have hS:Rel Xb E (QT.aa [n,r,m,.r gens,key,ok,nok,.r acc,.i p,l0,l1,l2,l3,l4,l5,l6,l7,l8,l9,l10,l11,l12,l13])
           {tmps:=(a0.tmps.setIfInBounds 16 (.int .i64 (p:Int))).setIfInBounds 17 (.agg #[f p 0,f p 1,f p 2,f p 3,f p 4,f p 5,f p 6,f p 7,f p 8,f p 9,f p 10,f p 11,f p 12,f p 13]),defers:=[]} W:=by
         rw[R7]at hR;have RE:RV Xb.M E W ((Uc 9 zP).aa [n,r,m,.r gens,key,ok,nok,.r acc,.i p,l0,l1,l2,l3,l4,l5,l6,l7,l8,l9,l10,l11,l12,l13]) (.agg #[f p 0,f p 1,f p 2,f p 3,f p 4,f p 5,f p 6,f p 7,f p 8,f p 9,f p 10,f p 11,f p 12,f p 13]):=by
           refine⟨_,rfl,rfl,fun i c hi=> ?_⟩;have aKc:i<14:=(cN.1 hi).1;have fu:∀q,(List.zipWith Kd.pv zP [l0,l1,l2,l3,l4,l5,l6,l7,l8,l9,l10,l11,l12,l13])[i]? =some q→RP (bad Xb.M E) W q (f p i):=fun q hq=> (CT i q (by rw[c3];exact hq)).2
           have h14:i=0∨i=1∨i=2∨i=3∨i=4∨i=5∨i=6∨i=7∨i=8∨i=9∨i=10∨i=11∨i=12∨i=13:=om;rcases h14 with rfl|rfl|rfl|rfl|rfl|rfl|rfl|rfl|rfl|rfl|rfl|rfl|rfl|rfl<;>
            (cases hi;exact⟨_,rfl,fu _ rfl,(fu _ rfl).tF⟩)
         exact(hR.put (some 16) (v:= .v (.c (.p (.sc (.int .i64 (p:Int)))))) (u:= .int .i64 (p:Int)) (RP.sc rfl)).put (some 17) RE
       have nN:∀{W':av},l<W'.heap.size→∀g∈ [l,D],g<W'.heap.size:=fun h g hg=>by
         simp at hg;omega
       have zj:l<W.heap.size:=(dY.1 hl).1;have hput:∀(W':av) (r1 r2:Loop),W'.heap[l]? =some (.loop r1)→∀g o,W'.heap[g]? =some o→(g<Xb.w0.heap.size∨o.isCells=true∨∃en c,o= .map en c)→(W'.putObj l (.loop r2)).heap[g]? =W'.heap[g]?:=fun W' r1 r2 h g o ho hi=>by
         refine World.putObj_heap_other fun rL=> ?_
         subst rL;rw[h]at ho;cases ho;rcases hi with hi|hi| ⟨_,_,hi⟩
         · omega
         · cases hi
         · cases hi
       have h1:=Eb (l:=l) (n:=1) (fun X' e1 e2=>akv (n:=n) (r:=r) (m:=m) (key:=key) (ok:=ok) (nok:=nok) (gens:=gens) (acc:=acc) (k:=p) (l0:=l0) (l1:=l1) (l2:=l2) (l3:=l3) (l4:=l4) (l5:=l5) (l6:=l6) (l7:=l7) (l8:=l8) (l9:=l9) (l10:=l10) (l11:=l11) (l12:=l12) (l13:=l13) (l:=l) (d:=1) hC (e1.trans hP)) hS rfl rJ (nN zj);rw[hP]at h1;have R8:∀v1 v2:aD,((#[16,17]:Array Tmp).zip #[v1,v2]).foldl (fun t (p,v)=>t.setIfInBounds p v) a0.tmps=(a0.tmps.setIfInBounds 16 v1).setIfInBounds 17 v2:=fun v1 v2=>by
         simp[Array.zip,Array.zipWith,Array.zipWithMAux]
       dsimp only;rw[R8];refine wpIn_mono h1 ?_;rintro e1 a1 w1 ⟨lI,E1,⟨rfl,rfl⟩,_,pP,R9,nG,hs1⟩;have eE:w1.heap[l]? =some (.loop rec):=(nG l (by simp)).trans hl;have R_:w1.heap[D]? =some (.deferred (some [])):=(nG D (by simp)).trans hd;have CU:l<w1.heap.size:=(dY.1 eE).1;refine⟨_,run_beginRound eE (by rw[eX]),?_⟩;have hl2:(w1.putObj l (.loop {rec with state:= .busy})).heap[l]? =some (.loop {rec with state:= .busy}):=World.putObj_heap_same CU;have wE:(w1.putObj l (.loop {rec with state:= .busy})).heap[D]? =some (.deferred (some [])):=(World.putObj_heap_other om).trans R_;have ua:=pP.other (w':=w1.putObj l (.loop {rec with state:= .busy})) rfl rfl rfl (by simp) (hput _ _ _ eE);have CV:l< (w1.putObj l (.loop {rec with state:= .busy})).heap.size:=by simpa using CU
       generalize w1.putObj l (.loop {rec with state:= .busy})=w2 at hl2 wE ua CV⊢;have h2:=Eb (l:=l) (n:=1) (fun X' e1 e2=>aAp (l:=l) (d:=1) hC oJ (e1.trans hP) (e2.trans bR)) ua rfl R9 (nN CV);rw[hP]at h2;refine wpIn_mono h2 ?_;rintro e3 a3 w3 ⟨st3,E3,⟨rfl,rfl⟩,_,Ij,Ik,hk3,hs3⟩;have kh:w3.heap[l]? =some (.loop {rec with state:= .busy}):=(hk3 l (by simp)).trans hl2;have rM:w3.heap[D]? =some (.deferred (some [])):=(hk3 D (by simp)).trans wE;refine⟨_,_,run_endRound none kh,rfl,E3,_,k4,?_,Ik,?_,?_⟩
       · exact(h0.again Ij nK rfl rfl rfl (by rw[bR];rfl)).other rfl rfl rfl (by simp) (hput _ _ _ kh)
       · rw[World.putObj_heap_same (dY.1 kh).1,eX];rfl
       · exact(World.putObj_heap_other om).trans rM
theorem azr {n r m key ok:L} {gens:List (List PV)} (wk:F40 [n,r,m,.r gens]=some [ok]):
  (ad.op (.call t40 F40 [(.v 0),(.v 1),(.v 2),(.v 3)] 1 []) (.op (.not (.v 5)) (.ite (.v 6) (.ar (.st .ret FA)) (.ar (.st .normal zU))))).aa [n,r,m,.r gens,key]=
   some (if ok.br=true then .st .normal zU else .st .ret FA,[n,r,m,.r gens,key,ok,.b (!ok.br)]):=by
 have e1:Nd.ev [n,r,m,.r gens,key] (.call t40 F40 [(.v 0),(.v 1),(.v 2),(.v 3)] 1 [])=some [ok]:=by
  simp only[Nd.ev];rw[show[At.v 0,.v 1,.v 2,.v 3].map (At.ev [n,r,m,.r gens,key])=[n,r,m,.r gens]from rfl,wk];rfl
 rw[ad.aa,e1];show(match Nd.ev [n,r,m,.r gens,key,ok] (.not (.v 5))with|some ls=>ad.aa _ ([n,r,m,.r gens,key,ok]++ls)|none=>none)=_;rw[show Nd.ev [n,r,m,.r gens,key,ok] (.not (.v 5))=some [.b (!ok.br)]from rfl];simp only[fv,fa];rw[ad.aa,show((At.v 6).ev [n,r,m,.r gens,key,ok,.b (!ok.br)]).br= !ok.br from rfl];cases ok.br<;>rfl
set_option maxRecDepth 100000 in
theorem aub (wk:(vc F40 t40).ok Tryz.prog) (R':(uN F112 t112).ok Tryz.prog) (CW:(iD F113 t113).ok Tryz.prog) (tag:Nat):(WU F40 F112 F113 t113 tag).ok Tryz.prog:=by
 have hC:cm.ok Tryz.prog (ku F40 F112 F113 t40 t112 t113):=fun s hs=>by
   simp only[ku,cU,lS,or_false]at hs;rcases hs with rfl|rfl|rfl<;>assumption
 intro ls os hl hF dr;have hF:xh F40 F112 F113 t113 ls=some os:=hF;unfold xh at hF;split at hF;rotate_left
 · cases hF
 rename_i n r m gens key _;split at hF;rotate_left
 · cases hF
 rename_i ok aIa;have ub:=azr (F40:=F40) (t40:=t40) (key:=key) aIa;refine eI.Uu (H:=[]) Tryz.func58 kr auZ aqr (rs:=[.tmp 4]) (by rw[aoy]) ?_;intro X hP hk hD a w ht;have hk:X.k0=0:=hk;have ht:Told X (Jt.aa [n,r,m,.r gens,key]) a w:=ht;have A0:=(piece hC (k0:=0) (n:=0) (r:=0) (ex:=[]) (show exec TT _ 0 (.region 0 P8 false) 0 [] 0 Jt=_ from axe F40 F112 F113 t40 t112 t113) rfl rfl (ρ:=[n,r,m,.r gens,key]) rfl hP hk).2.2 a w ht;rw[hP]at A0;refine wp_seq (wp_mono A0 ?_);clear A0;rintro e1 a1 w1 ⟨lI,⟨rfl,rfl⟩,wF⟩;show(K4.seq _).wp _ _ _ _;by_cases aX:ok.br=true
 · rw [au aX]at hF ub;split at hF;rotate_left
   · cases hF
   rename_i hlen;split at hF;rotate_left
   · cases hF
   rename_i aIb;simp only[aW]at hF;obtain⟨accN,ahR,rfl⟩:=hF;have A1:=(piece hC (aaO F40 F112 F113 t40 t112 t113) rfl rfl ub hP hk).2.2 a1 w1 wF;rw[hP]at A1;refine wp_seq (wp_mono A1 ?_);clear A1;rintro e2 a2 w2 ⟨wj,⟨rfl,rfl⟩,oK⟩;generalize (L.b (!ok.br))=nok at*;show(Code.seq _ _).wp _ _ _ _;have A2:=(piece hC (k0:=0) (n:=0) (r:=0) (ex:=[]) (show exec TT _ 0 (.region 3 Pc false) 0 [] 0 zU=_ from amf F40 F112 F113 t40 t112 t113) rfl rfl (ρ:=[n,r,m,.r gens,key,ok,nok]) rfl hP hk).2.2 a2 w2 oK;rw[hP]at A2;refine wp_seq (wp_mono A2 ?_);clear A2;rintro e3 a3 w3 ⟨st3,⟨rfl,rfl⟩,Ig⟩;show(Code.seq _ _).wp _ _ _ _;have qJ:(ad.op (.call t112 F112 [(.v 3)] 0 []) (.ar (.st .normal HB))).aa [n,r,m,.r gens,key,ok,nok]=some (.st .normal HB,[n,r,m,.r gens,key,ok,nok]):=by
     have e1:Nd.ev [n,r,m,.r gens,key,ok,nok] (.call t112 F112 [(.v 3)] 0 [])=some []:=by
       simp only[Nd.ev];rw[show[At.v 3].map (At.ev [n,r,m,.r gens,key,ok,nok])=[.r gens]from rfl,aIb];rfl
     rw[ad.aa,e1];rfl
   have A3:=(piece hC (k0:=0) (n:=0) (r:=0) (ex:=[]) (show exec TT _ 0 (.region 4 J9 false) 0 [] 0 OV=_ from azk F40 F112 F113 t40 t112 t113) rfl rfl (ρ:=[n,r,m,.r gens,key,ok,nok]) qJ hP hk).2.2 a3 w3 Ig;rw[hP]at A3;refine wp_seq (wp_seq (wp_mono A3 ?_));clear A3;rintro e4 a4 w4 ⟨st4,⟨rfl,rfl⟩,CX⟩;show(Code.block 0 Xc).wp _ _ _ _;have Sa:Told X (kS.aa [n,r,m,.r gens,key,ok,nok,.r []]) a4 w4:=by
     obtain⟨xs1,zs,j1,_,_,j4⟩:=kB iU (ρ:=[n,r,m,.r gens,key,ok,nok]) (ys:=[]) rfl rfl rfl aEu rfl;cases j1;exact j4 X hP hk a4 w4 CX
   obtain⟨E0,R0,_⟩:=Sa;clear ht wF oK Ig CX;have Sb:a4.defers=[]:=R0.defers.trans hD;obtain⟨u15,h15,aIf⟩:=R0.tmps 15 _ rfl;obtain⟨us,rfl,cS,lF⟩:=(show RC X.M E0 w4 (.fn 169 [2]) u15 from aIf)
   obtain⟨u,hu,hNu⟩:=lF 0 2 rfl;obtain⟨xB,R6,gB,R5,rfl⟩:=bT.get hNu (by rw[R0.ao];simp[VO]);obtain rfl:us= #[.pointer (some ⟨gB,0,none⟩)]:=by
     apply Array.ext_getElem?;intro i
     cases i with
     |zero=>rw[hu];rfl
     |succ i=>rw[Array.getElem?_eq_none (by simp at cS;omega)];rfl
   have wu:a4.eval (.tmp 15)= .func (.func 169) #[] #[.pointer (some ⟨gB,0,none⟩)]:=by
     simp[Act.eval,ug,h15]
   refine wp_block ((wpIn_wide (n:=3)).1 (wpIn_rangeFunc ?_));intro fn hfn;obtain⟨rec,eX⟩:∃rec:Loop,rec={state:= .ready,pending:=none,fn,tmps:=a4.tmps,params:= #[16,17],assign:=(Code.region 5 zO false).seq (.region 6 Ca false),body:= .block 1 ((Code.region 7 AX false).seq ((Code.region 8 Ba false).seq (.cond (.tmp 25) (.region 9 B5 false) .skip))),defers:=w4.heap.size}:=⟨_,rfl⟩
   obtain⟨W1,hW1⟩:∃W1,(w4.alloc (.deferred (some []))).alloc (.loop rec)=W1:=⟨_,rfl⟩
   have hs1:W1.heap.size=w4.heap.size+2:=by rw[←hW1];simp
   have CY:W1.heap[w4.heap.size+1]? =some (.loop rec):=by
     rw[←hW1];have:=World.alloc_heap_new (w4.alloc (.deferred (some []))) (.loop rec);rwa [World.size_alloc]at this
   have CZ:W1.heap[w4.heap.size]? =some (.deferred (some [])):=by
     rw[←hW1];exact(Below.heap_alloc _ _ _ (by simp)).trans (World.alloc_heap_new w4 _)
   have hold:∀g,g<w4.heap.size→W1.heap[g]? =w4.heap[g]?:=fun g hg=>by
     rw[←hW1];exact(Below.heap_alloc _ _ _ (by simp;omega)).trans (Below.heap_alloc _ _ _ hg)
   let Xb:Fx:=⟨X.P,X.M,X.K,X.w0,E0.N,3,[]⟩
   have h0:Rel Xb E0 (kS.aa [n,r,m,.r gens,key,ok,nok,.r []]) ⟨a4.tmps,[]⟩ w4:={
     defers:=rfl,ao:=R0.ao,frame:=R0.frame,mlt:=R0.mlt,cR:=R0.cR,names:=R0.names,inj:=R0.inj,dw:=fun _ _=> .inr rfl
     fh:=by show 3≤4;omega
     fe:=R0.fe,size:=R0.size,tmps:=R0.tmps,heap:=R0.heap}
   have hW0:X.w0.heap.size≤w4.heap.size:=R0.frame.size;have Sc:FB F113 t113 [n,r,m,.r gens,key,ok,nok] gens Xb ⟨a4.tmps,[]⟩ (w4.heap.size+1) w4.heap.size rec 0 W1:=by
     refine⟨E0,[],rfl,h0.other ?_ ?_ ?_ om fun g o ho _=>hold g (dY.1 ho).1,fun n x g h1 h2 hg=> ?_,CY,CZ⟩
     · rw[←hW1];rfl
     · rw[←hW1];rfl
     · rw[←hW1];rfl
     · have:=(R0.names n x g h1 h2).1;simp at hg;omega
   refine⟨w4.heap.size+1,[{target:= .collected w4.heap.size,args:= #[]}],W1,{target:= .fn (.func 169) #[.pointer (some ⟨gB,0,none⟩)],args:= #[.func (.yield (w4.heap.size+1)) #[] #[]]},W1,169,
     #[.func (.yield (w4.heap.size+1)) #[] #[],.pointer (some ⟨gB,0,none⟩)],W1,?_,?_,?_,?_,fun _=>by omega,?_⟩
   · rw[←hW1,eX];exact run_enterLoop_outer _ _ _ _ _
   · simp only[resolve,wu];simp[go_sem]
   · intro f' _;trivial
   · simp[invoke,go_sem]
   · refine(asv 2 om (w4.heap.size+1) gB gens.length hlen (FB F113 t113 [n,r,m,.r gens,key,ok,nok] gens Xb ⟨a4.tmps,[]⟩ (w4.heap.size+1) w4.heap.size rec)
       (fun k W hJ hk=>aoe hC ahR (Xb:=Xb) hP rfl h0 (fun _ _=>rfl) rfl om (by show X.w0.heap.size≤_;omega) ⟨xB,R6,R5⟩ fn eX k W hJ hk) W1 Sc).mono ?_
     rintro e5 W5 ⟨⟨v,rfl⟩,E5,aKd,ahS,uc,Il,oM,C0⟩;rw[ahR]at ahS;cases ahS;refine⟨_,_,run_endLoop oM (by rw[eX];simp),?_⟩;have zj:w4.heap.size+1<W5.heap.size:=(dY.1 oM).1;have eY:=uc.other (w':=W5.putObj (w4.heap.size+1) (.loop {rec with state:= .exhausted})) rfl rfl rfl (by simp) (fun g o ho hi=>World.putObj_heap_other fun rL=>by
        subst rL;rw[oM]at ho;cases ho;rcases hi with hi|hi| ⟨_,_,hi⟩
        · have:w4.heap.size+1<X.w0.heap.size:=hi;omega
        · cases hi
        · cases hi)
     have pR:(W5.putObj (w4.heap.size+1) (.loop {rec with state:= .exhausted})).heap[w4.heap.size]? =some (.deferred (some [])):=(World.putObj_heap_other om).trans C0;generalize W5.putObj (w4.heap.size+1) (.loop {rec with state:= .exhausted})=W6 at eY pR⊢;rw[show rec.pending=none by rw[eX]];show((Code.region 10 zM false).seq .ret).wp _ _ _ _
     let X2:Fx:=⟨X.P,X.M,X.K,X.w0,X.N0,X.k0,[{target:= .collected w4.heap.size,args:= #[]}]⟩
     have h7:Rel X2 E5 (kS.aa [n,r,m,.r gens,key,ok,nok,.r accN]) {a4 with defers:=[{target:= .collected w4.heap.size,args:= #[]}]++a4.defers} W6:={
       defers:=by rw[Sb];rfl
       ao:=eY.ao,frame:=eY.frame,mlt:=eY.mlt,cR:=eY.cR,names:=eY.names,inj:=eY.inj
       dw:=fun k nG=>absurd (show k<X.k0 from nG) om
       fh:=by show X.k0≤4;omega
       fe:=eY.fe,size:=eY.size,tmps:=eY.tmps,heap:=eY.heap}
     have h8:=seg (X:=X2) (c:=(Code.region 10 zM false).seq .ret) (Q:=fun e st=>e= .ret∧st=NQ.aa [n,r,m,.r gens,key,ok,nok,.r accN]) (fun X' e1 e2=>by
        have:=(piece hC (k0:=0) (n:=0) (r:=0) (ex:=[]) (show exec TT _ 0 (.region 10 zM false) 0 [] 0 kS=_ from aqc F40 F112 F113 t40 t112 t113) rfl rfl (ρ:=[n,r,m,.r gens,key,ok,nok,.r accN]) rfl (e1.trans hP) (e2.trans hk)).2.2;refine fA (lV this ?_);rintro e st ⟨rfl,rfl⟩;exact vd ⟨rfl,rfl⟩) h7 rfl (S:=[w4.heap.size]) (fun n x g h1 h2 hg=>Il n x g h1 h2 (by simp at hg⊢;exact .inr hg)) (fun g hg=>by
        simp at hg;subst hg;exact(dY.1 pR).1)
     rw[show X2.P=Tryz.prog from hP]at h8;refine wp_mono h8 ?_;rintro e9 a9 w9 ⟨st9,E9,⟨rfl,rfl⟩,_,Sd,aIi,Se,hs9⟩;refine⟨.inr rfl,Dz.aa [n,r,m,.r gens,key,.r accN],[{target:= .collected w4.heap.size,args:= #[]}],?_,rfl,fun _ _ h=>h,.inr ⟨_,rfl,hW0,(Se _ (by simp)).trans pR⟩⟩;obtain⟨xs1,zs,j1,_,_,j4⟩:=kB iU (ρ:=[n,r,m,.r gens,key]) (ys:=[ok,nok,.r accN]) rfl rfl rfl arN rfl;cases j1;exact j4 X2 hP hk a9 w9 ⟨E9,Sd,rfl⟩
 · rw[aE aX]at hF ub;cases hF;have A1:=(piece hC (aaO F40 F112 F113 t40 t112 t113) rfl rfl ub hP hk).2.2 a1 w1 wF;rw[hP]at A1;refine wp_seq (wp_mono A1 ?_);clear A1;rintro e2 a2 w2 ⟨wj,⟨rfl,rfl⟩,oK⟩;refine⟨.inr rfl,Dz.aa [n,r,m,.r gens,key,.r []],[],?_,rfl,fun _ _ h=>h,.inl rfl⟩;have Sf:({X with D:=[]}:Fx)=X:=by
     cases X;simp only at hD;subst hD;rfl
   rw[Sf];obtain⟨xs1,zs,j1,_,_,j4⟩:=kB iU (ρ:=[n,r,m,.r gens,key]) (ys:=[ok,.b (!ok.br)]) rfl rfl rfl aBE rfl;cases j1;exact j4 X hP hk a2 w2 oK
end
end
section
open Go.RowKit Go.Shelf
attribute [local go_sem] Oper.semAt_some
def eV (n:Int):Int:=n/64%4
def dP (n:Int):Int:=n/64/4*64+n%64
def iV (n:Int):Int:=if n≤0 then 0 else((n-1) /256+1)*64
theorem afz (n:Int):0≤eV n∧eV n≤3:=by unfold eV;omega
theorem VZ (n:Int) (h:0≤n):0≤dP n∧dP n≤n:=by unfold dP;omega
def dC (e s:Int):Int:=min (64-s%64) (e-s)
def bQ (off e:Int):Nat→Int
 |0=>off
 |k+1=>bQ off e k+dC e (bQ off e k)
theorem FZ (e s:Int) (h:s<e):1≤dC e s∧dC e s≤64-s%64∧dC e s≤e-s:=by unfold dC;omega
theorem aeE (e s:Int) (h:s≤e):0≤dC e s∧dC e s≤e-s:=by unfold dC;omega
theorem sv (off e:Int) (h:off≤e):∀k,off≤bQ off e k∧bQ off e k≤e
 |0=> ⟨IL _,h⟩
 |k+1=>by
  have h1:=sv off e h k;have h2:=aeE e (bQ off e k) h1.2;unfold bQ;omega
theorem HK (off e:Int) (h:off≤e):∀k,bQ off e k<e→off+k≤bQ off e k
 |0,_=>by simp[bQ]
 | k+1,hk=>by
  have h1:=sv off e h k;have h2:=aeE e (bQ off e k) h1.2;have hlt:bQ off e k<e:=by
   rcases Int.lt_or_le (bQ off e k) e with hl|hl
   · exact hl
   · unfold bQ at hk;omega
  have h3:=FZ e (bQ off e k) hlt;have h4:=HK off e h k hlt;unfold bQ;omega
def Full (off e:Int) (K:Nat):Prop:=bQ off e K=e∧∀j,j<K→bQ off e j<e
theorem Full.uniq {off e:Int} {K L:Nat} (h:Full off e K) (h':Full off e L):K=L:=by
 rcases IN K L with hl|hl|hl
 · have:=h'.2 K hl;have:=h.1;omega
 · exact hl
 · have:=h.2 L hl;have:=h'.1;omega
theorem Full.le {off e:Int} {K:Nat} (h:Full off e K) (ho:off≤e):(K:Int)≤e-off:=by
 cases K with
 |zero=>simp;omega
 |succ k=>
  have h1:=h.2 k om;have h2:=HK off e ho k h1;omega
set_option maxHeartbeats 400000 in
theorem UD (n:Int) (w:av) (h0:0≤n) (h1:n≤9223372036854775807):
  Calls Tryz.prog 283 #[.int .i64 n] w fun e w'=>e= .returned (.tuple #[.int .i64 (eV n),.int .i64 (dP n)])∧w=w':=by
 go_enter Tryz.func283,Tryz.ntmps283
 go_wp2
 go_ret2
 exact⟨rfl,rfl⟩
def Mo (w:av) (B:Nat):Int:=match w.cell? ⟨B,0,none⟩with|some v=>intOf v|none=>0
theorem DW {w:av} {B:Nat} {t:aw} {s:Int} (h:Boxed w B t (.int .i64 s)):Mo w B=s:=by unfold Mo;rw[h.cell];rfl
set_option maxRecDepth 100000 in
set_option maxHeartbeats 1000000 in
theorem ajF (m:Nat) (hm:1≤m) (l Bo Bn:Nat) (off n:Int) (h0:0≤off) (lH:0≤n) (hs:off+n≤9223372036854775807) (J:Nat→av→Prop)
  (hst:∀k W v,J k W→J k (W.setCell ⟨Bo,0,none⟩ v))
  (hY:∀k W s p,bQ off (off+n) k=s→dC (off+n) s=p→J k W→s<off+n→YieldAt Fence.wide (m-1) Tryz.prog l
    #[.int .i64 s,.agg #[.int .i64 (eV s),.int .i64 (dP s),.int .i64 p]] W
    fun e W'=>e= .returned (.bool true)∧J (k+1) W'∧W'.heap[Bo]? =W.heap[Bo]?)
  (W:av) (ho:Boxed W Bo 2 (.int .i64 off)) (hn:Boxed W Bn 2 (.int .i64 n)) (hJ:J 0 W):
  CallsIn Fence.wide m Tryz.prog 282 #[.func (.yield l) #[] #[],.pointer (some ⟨Bo,0,none⟩),.pointer (some ⟨Bn,0,none⟩)] W
    fun e W'=> (∃v,e= .returned v)∧∃K,Full off (off+n) K∧J K W':=by
 have hco:=ho.cell;have gy:=hn.cell;refine callsIn_of_wp Tryz.func282 rfl trivial ?_ rfl;simp only[Tryz.ntmps282,rT,km,oT,Nat.reduceAdd,Nat.reduceSub,SQ,SR,SS,SU,fa,fv]
 gi_wp2
 gi_loopw [5] (fun _ wr=>∃(k:Nat) (s:Int),Hid (bQ off (off+n) k=s)∧Hid (∀j,j<k→bQ off (off+n) j<off+n)∧off≤s∧s≤off+n∧Boxed wr Bo 2 (.int .i64 s)∧J k wr)
  (fun _ wr=> (off+n-Mo wr Bo).toNat)
 case atStart=>exact⟨0,off,rfl,fun j hj=>absurd hj om,om,om,ho,hJ⟩
 case round=>
  obtain⟨k,s,hk,hall,hs1,hs2,hb,hJs⟩:=hrel;clear ho hn hco gy;have hcs:=hb.cell;have kK:=hb.frozen;by_cases hlt:s<off+n
  · by_cases hc:64-s%64≤off+n-s
    · have hp:dC (off+n) s=64-s%64:=by unfold dC;omega
      obtain⟨fn,tmps,assign,body,hy,hR⟩:=hY k wr s _ hk.out hp hJs hlt;have eD:Hid (bQ off (off+n) (k+1)=s+(64-s%64)):=by
       have e:=hk.out;show bQ off (off+n) k+dC (off+n) (bQ off (off+n) k)=_;rw[e,hp]
      have Sg:Hid (∀j,j<k+1→bQ off (off+n) j<off+n):=fun j hj=>by
       rcases pX j k with h|h
       · exact hall.out j h
       · obtain rfl:j=k:=om;have e:=hk.out;omega
      clear hp
      gi_wp2_with (refine⟨trivial,?_⟩;gi_at_call 283;refine(callsIn_wide.2 (UD s _ om om)).mono ?_;rintro e w' ⟨rfl,rfl⟩)
      refine hR.mono ?_;rintro e W3 ⟨rfl,hJ3,hk3⟩;have hb3:Boxed W3 Bo 2 (.int .i64 s):=hk3.trans hb;have hc3:=hb3.cell;have hf3:=hb3.frozen
      gi_wp2
      go_roundw
      case rel=>exact⟨k+1,_,eD,Sg,om,om,hb3.set _,hst _ _ _ hJ3⟩
      case measure=>rw[DW hb,DW (hb3.set _)];omega
    · have hp:dC (off+n) s=off+n-s:=by unfold dC;omega
      obtain⟨fn,tmps,assign,body,hy,hR⟩:=hY k wr s _ hk.out hp hJs hlt;have eD:Hid (bQ off (off+n) (k+1)=s+(off+n-s)):=by
       have e:=hk.out;show bQ off (off+n) k+dC (off+n) (bQ off (off+n) k)=_;rw[e,hp]
      have Sg:Hid (∀j,j<k+1→bQ off (off+n) j<off+n):=fun j hj=>by
       rcases pX j k with h|h
       · exact hall.out j h
       · obtain rfl:j=k:=om;have e:=hk.out;omega
      clear hp
      gi_wp2_with (refine⟨trivial,?_⟩;gi_at_call 283;refine(callsIn_wide.2 (UD s _ om om)).mono ?_;rintro e w' ⟨rfl,rfl⟩)
      refine hR.mono ?_;rintro e W3 ⟨rfl,hJ3,hk3⟩;have hb3:Boxed W3 Bo 2 (.int .i64 s):=hk3.trans hb;have hc3:=hb3.cell;have hf3:=hb3.frozen
      gi_wp2
      go_roundw
      case rel=>exact⟨k+1,_,eD,Sg,om,om,hb3.set _,hst _ _ _ hJ3⟩
      case measure=>rw[DW hb,DW (hb3.set _)];omega
  · obtain rfl:s=off+n:=om
    gi_wp2
    go_end0
    exact⟨⟨_,rfl⟩,k,⟨hk.out,hall.out⟩,hJs⟩
def aCl (Bo:Nat) (I:av→Prop) (W:av) (ex:Exit) (_:Act) (W':av):Prop:=
 ex= .normal∧KeepsOthers W W'∧W'.heap[Bo]? =W.heap[Bo]?∧I W'
theorem ayX {g:aM} {ps:Array Tmp} {assign body:Code} {Q:Exit→Act→av→Prop} {a:Act} {w:av}
   (m:Nat) (hm:2≤m) (Bo Bn:Nat) (off n:Int) (h0:0≤off) (lH:0≤n) (hs:off+n≤9223372036854775807)
   (hg:a.eval g= .func (.func 282) #[] #[.pointer (some ⟨Bo,0,none⟩),.pointer (some ⟨Bn,0,none⟩)])
   (ho:Boxed w Bo 2 (.int .i64 off)) (hn:Boxed w Bn 2 (.int .i64 n)) (fM:ps.size=2)
   (I:Nat→av→Prop)
   (hI:∀k W W' row,I k W→W.grownBy W' row→(∀r,row=some r→r=Bo∨(w.heap.size≤r∧∃o:Obj,W.heap[r]? =some o∧o.isCells=false))→I k W')
   (hi0:I 0 w) (Ax:Int→Int→Nat→Act)
   (aIl:∀(l:Nat) (s p:Int) (W:av) (K:Act→av→Prop),
     K (Ax s p W.heap.size) (W.alloc (.cells #[.int .i64 (eV s),.int .i64 (dP s),.int .i64 p] 315))→
     assign.wpIn (Fence.wide.inRound l) (m-1-1) Tryz.prog (Exit.then K (fun _ _ _=>False))
      {tmps:=(ps.zip #[.int .i64 s,.agg #[.int .i64 (eV s),.int .i64 (dP s),.int .i64 p]]).foldl (fun t (p,v)=>t.setIfInBounds p v) a.tmps,defers:=[]} W)
   (RU:∀(l k:Nat) (s p:Int) (W:av) (B:Nat),bQ off (off+n) k=s→dC (off+n) s=p→off≤s→s<off+n→I k W→
     W.heap[B]? =some (.cells #[.int .i64 (eV s),.int .i64 (dP s),.int .i64 p] 315 (0,0))→w.heap.size+2≤B→
     body.wpIn (Fence.wide.inRound l) (m-1-1) Tryz.prog (aCl Bo (I (k+1)) W) (Ax s p B) W)
   (hdone:∀(D K:Nat) (W:av),Full off (off+n) K→I K W→w.heap.size≤D→W.heap[D]? =some (.deferred (some []))→
     Q .normal {a with defers:={target:= .collected D,args:= #[]}::a.defers} W):
   (Code.rangeFunc g ps assign body).wpIn Fence.wide m Tryz.prog Q a w:=by
 have hBo:=ho.lt;refine wpIn_rangeFunc ?_;intro fn hfn;obtain⟨rec,eX⟩:∃rec:LoopState→Option Code→Loop,rec=fun st pe=> {state:=st,pending:=pe,fn,tmps:=a.tmps,params:=ps,assign,body,defers:=w.heap.size}:=⟨_,rfl⟩
 obtain⟨W1,hW1⟩:∃W1,(w.alloc (.deferred (some []))).alloc (.loop (rec .ready none))=W1:=⟨_,rfl⟩
 have hg1:w.grownBy (w.alloc (.deferred (some []))) none:=World.grownBy_alloc _ _ _;have hg2:(w.alloc (.deferred (some []))).grownBy W1 none:=by rw[←hW1];exact World.grownBy_alloc _ _ _
 have hs1:W1.heap.size=w.heap.size+2:=by rw[←hW1];simp
 have CY:W1.heap[w.heap.size+1]? =some (.loop (rec .ready none)):=by
   rw[←hW1];have:=World.alloc_heap_new (w.alloc (.deferred (some []))) (.loop (rec .ready none));rwa [World.size_alloc]at this
 have CZ:W1.heap[w.heap.size]? =some (.deferred (some [])):=by
   rw[←hW1];exact(Below.heap_alloc _ _ _ (by simp)).trans (World.alloc_heap_new w _)
 have il:I 0 W1:=hI _ _ _ none (hI _ _ _ none hi0 hg1 (fun r e=>by cases e)) hg2 (fun r e=>by cases e);have kO:Boxed W1 Bo 2 (.int .i64 off):=(ho.kept hg1 (by simp)).kept hg2 (by simp);have zk:Boxed W1 Bn 2 (.int .i64 n):=(hn.kept hg1 (by simp)).kept hg2 (by simp);refine⟨w.heap.size+1,[{target:= .collected w.heap.size,args:= #[]}],W1,
   {target:= .fn (.func 282) #[.pointer (some ⟨Bo,0,none⟩),.pointer (some ⟨Bn,0,none⟩)],args:= #[.func (.yield (w.heap.size+1)) #[] #[]]},W1,282,
   #[.func (.yield (w.heap.size+1)) #[] #[],.pointer (some ⟨Bo,0,none⟩),.pointer (some ⟨Bn,0,none⟩)],W1,?_,?_,?_,?_,fun _=>by omega,?_⟩
 · rw[←hW1,eX];exact run_enterLoop_outer _ _ _ _ _
 · simp only[resolve,hg];simp[go_sem]
 · intro f' _;trivial
 · simp[invoke,go_sem]
 · refine(ajF (m-1) om (w.heap.size+1) Bo Bn off n h0 lH hs
     (fun k W=>I k W∧W.heap[w.heap.size+1]? =some (.loop (rec .ready none))∧W.heap[w.heap.size]? =some (.deferred (some [])))
     ?_ ?_ W1 kO zk ⟨il,CY,CZ⟩).mono ?_
   · rintro k W v ⟨hi,hl,hd⟩;exact⟨hI _ _ _ (some Bo) hi (grownBy_setCell' W Bo v) (fun r e=>by cases e;exact .inl rfl),
      (Below.heap_setCell _ _ _ _ (by simp;omega)).trans hl,(Below.heap_setCell _ _ _ _ (by simp;omega)).trans hd⟩
   ·
     rintro k W s p hk hp ⟨hi,hl,hd⟩ hlt;have aIm:w.heap.size+1<W.heap.size:=(dY.1 hl).1;have hsb:=sv off (off+n) om k;rw[hk]at hsb;have hy:=run_yield (P:=Tryz.prog) (args:= #[.int .i64 s,.agg #[.int .i64 (eV s),.int .i64 (dP s),.int .i64 p]]) hl (by rw[eX];simp[fM]);rw[eX]at hy;refine⟨fn,_,assign,body,hy,roundIn_of_wpIn hfn (aIl _ s p W _ ?_)⟩;generalize hA:W.alloc (.cells #[.int .i64 (eV s),.int .i64 (dP s),.int .i64 p] 315)=W2;have Im:W.grownBy W2 none:=by rw[←hA];exact World.grownBy_alloc _ _ _
     have hsA:W2.heap.size=W.heap.size+1:=by rw[←hA];simp
     have hnA:W2.heap[W.heap.size]? =some (.cells #[.int .i64 (eV s),.int .i64 (dP s),.int .i64 p] 315 (0,0)):=by rw[←hA];exact World.alloc_heap_new _ _
     have hl2:W2.heap[w.heap.size+1]? =some (.loop (rec .ready none)):=(Im.block _ aIm (by simp)).trans hl;have wE:W2.heap[w.heap.size]? =some (.deferred (some [])):=(Im.block _ om (by simp)).trans hd;refine⟨_,run_beginRound hl2 (by rw[eX]),?_⟩;have kh:(W2.putObj (w.heap.size+1) (.loop {rec .ready none with state:= .busy})).heap[w.heap.size+1]? =some (.loop {rec .ready none with state:= .busy}):=World.putObj_heap_same om;have rM:(W2.putObj (w.heap.size+1) (.loop {rec .ready none with state:= .busy})).heap[w.heap.size]? =some (.deferred (some [])):=(World.putObj_heap_other om).trans wE;have hn3:(W2.putObj (w.heap.size+1) (.loop {rec .ready none with state:= .busy})).heap[W.heap.size]? =some (.cells #[.int .i64 (eV s),.int .i64 (dP s),.int .i64 p] 315 (0,0)):=(World.putObj_heap_other om).trans hnA;have hi3:I k (W2.putObj (w.heap.size+1) (.loop {rec .ready none with state:= .busy})):=
      hI _ _ _ (some (w.heap.size+1)) (hI _ _ _ none hi Im (fun r e=>by cases e)) (grownBy_putObj' _ _ _) (fun r e=>by cases e;exact .inr ⟨om,_,hl2,rfl⟩)
     have ahW:(W2.putObj (w.heap.size+1) (.loop {rec .ready none with state:= .busy})).heap[Bo]? =W.heap[Bo]?:=(World.putObj_heap_other om).trans (Im.block _ om (by simp));generalize W2.putObj (w.heap.size+1) (.loop {rec .ready none with state:= .busy})=W3 at kh rM hn3 hi3 ahW;refine wpIn_mono (RU _ k s p W3 W.heap.size hk hp hsb.1 hlt hi3 hn3 om) ?_;rintro ex a4 W4 ⟨rfl,hk4,aIo,CR⟩;have hl4:=hk4.same _ _ kh rfl;have qJ:=hk4.same _ _ rM rfl;have hend:=run_endRound (P:=Tryz.prog) none hl4;refine⟨_,_,hend,rfl,⟨hI _ _ _ (some (w.heap.size+1)) CR (grownBy_putObj' _ _ _) (fun r e=>by cases e;exact .inr ⟨om,_,hl4,rfl⟩),?_,(World.putObj_heap_other om).trans qJ⟩,
      ((World.putObj_heap_other om).trans aIo).trans ahW⟩
     rw[World.putObj_heap_same (dY.1 hl4).1,eX];rfl
   · rintro e W2 ⟨⟨v,rfl⟩,K,hK,hi,hl,hd⟩;have hend:=run_endLoop (P:=Tryz.prog) hl (by rw[eX];simp);refine⟨_,_,hend,?_⟩;rw[eX];exact hdone w.heap.size K _ hK (hI _ _ _ (some (w.heap.size+1)) hi (grownBy_putObj' _ _ _) (fun r e=>by cases e;exact .inr ⟨om,_,hl,rfl⟩)) (cT _) ((World.putObj_heap_other om).trans hd)
theorem axo {W W':av} {row:Option Nat} {base:Nat} {e:aw} {size:Nat} {v:aD} {n:Nat} {xs:List aD} (h:W.ownsRow base e size v n xs) (hg:W.grownBy W' row)
   (hr:∀r,row=some r→r<base∨∃o:Obj,W.heap[r]? =some o∧o.isCells=false):W'.ownsRow base e size v n xs:=by
 refine h.kept hg ?_;rcases h.2 with⟨rfl,_⟩| ⟨g,cap,cur,rfl,hb,hgb,_⟩
 · exact .inl rfl
 · refine .inr fun e'=> ?_
   rcases hr g (by simpa[Value.ownBlock]using e'.symm)with hlt| ⟨o,ho,hc⟩
   · omega
   · rw[hgb]at ho;cases ho;cases hc
theorem aCv {W W':av} {row:Option Nat} {B:Nat} {t:aw} {v:aD} (h:Boxed W B t v) (hg:W.grownBy W' row)
   (hr:∀r,row=some r→r≠B∨∃o:Obj,W.heap[r]? =some o∧o.isCells=false):Boxed W' B t v:=by
 refine h.kept hg fun e'=> ?_
 rcases hr B e'.symm with hne| ⟨o,ho,hc⟩
 · exact hne rfl
 · rw[show W.heap[B]? =_ from h]at ho;cases ho;cases hc
theorem aks:(Tryz.prog.info? 315).map (fun i=> (i.zero,i.size,i.bytes))=some (some (.agg #[.int .i64 0,.int .i64 0,.int .i64 0]),3,24):=kr
def pc (e s:Int):List aD:=[.int .i64 (eV s),.int .i64 (dP s),.int .i64 (dC e s)]
def mf (off e:Int):Nat→List aD
 |0=> []
 |k+1=>mf off e k++pc e (bQ off e k)
theorem Zc (off e:Int):∀k,(mf off e k).length=k*3
 |0=>rfl
 |k+1=>by simp[mf,pc,Zc off e k];omega
def ayK (E:aw) (off n:Int) (w:av) (e:Ending) (w':av):Prop:=
 ∃v K,e= .returned (.tuple #[v,.int .i64 0])∧Full off (off+n) K∧w'.ownsRow w.heap.size E 3 v K (mf off (off+n) K)∧Below w.heap.size w w'
set_option maxHeartbeats 400000 in
theorem ajv (off n:Int) (w:av):
  Calls Tryz.prog 242 #[.int .i64 off,.int .i64 n] w fun e w'=>e= .returned (.func (.func 282) #[] #[.pointer (some ⟨w.heap.size,0,none⟩),.pointer (some ⟨w.heap.size+1,0,none⟩)])∧
   (w.alloc (.cells #[.int .i64 off] 2)).alloc (.cells #[.int .i64 n] 2)=w':=by
 go_enter Tryz.func242,Tryz.ntmps242
 go_wp2
 go_ret
 exact⟨rfl,rfl⟩
set_option maxRecDepth 100000 in
set_option maxHeartbeats 1000000 in
theorem apd (off n:Int) (w:av) (h0:0≤off) (h1:off≤4611686018427387904) (lH:0≤n) (zk:n≤1048576):
  Calls Tryz.prog 213 #[.int .i64 off,.int .i64 n] w (ayK 315 off n w):=by
 obtain⟨i0,hi,hz0,hz1,hz2⟩:=info_parts aks;refine(callsIn_wide (n:=3)).1 ?_;refine callsIn_of_wp_marks Tryz.func213 rfl trivial ?_ rfl;simp only[Tryz.ntmps213,rT,km,oT,Nat.reduceAdd,Nat.reduceSub,SQ,SR,SS,SU,fa,fv]
 gi_wp2_with (refine⟨trivial,?_⟩;gi_at_call 242;refine(callsIn_wide.2 (ajv off n _)).mono ?_;rintro e w' ⟨rfl,rfl⟩)
 rename_i jA _ _;clear jA;refine ayX 3 om (w.heap.size+1) (w.heap.size+1+1) off n h0 lH om rfl ?ho ?hn rfl
  (fun k W=>∃v,Boxed W w.heap.size 311 v∧W.ownsRow (w.heap.size+3) 315 3 v k (mf off (off+n) k)∧Below w.heap.size w W∧w.heap.size+3≤W.heap.size) ?hI ?hi0
  (fun s p B=> {tmps:= #[.int .i64 off,.int .i64 n,undef,undef,.slice none 0 0,.int .i64 0,.pointer (some {block:=w.heap.size,off:=0}),undef,.pointer (some ⟨B,0,none⟩),
      .int .i64 off,.bool (decide (off<0)),.bool (decide (off<0)),.int .i64 n,.bool (decide (n<0)),.bool (decide (off<0)||decide (n<0)),
      .bool (decide (off<0)||decide (n<0)),.int .i64 n,.bool (decide (1048576<n)),.bool (decide (off<0)||decide (n<0)||decide (1048576<n)),
      .bool (decide (off<0)||decide (n<0)||decide (1048576<n)),.int .i64 off,.bool (decide (4611686018427387904<off)),
      .bool (decide (off<0)||decide (n<0)||decide (1048576<n)||decide (4611686018427387904<off)),.int .i64 off,.int .i64 n,
      .func (.func 282) #[] #[.pointer (some {block:=w.heap.size+1,off:=0}),.pointer (some {block:=w.heap.size+1+1,off:=0})],
      .int .i64 s,.agg #[.int .i64 (eV s),.int .i64 (dP s),.int .i64 p],undef,undef,undef,undef,undef],defers:=[]}) ?assign ?body ?done
 case ho=>have:=Boxed.new (w.alloc (.cells #[.slice none 0 0] 311)) 2 (.int .i64 off);rw[World.size_alloc]at this;exact this.alloc _
 case hn=>have:=Boxed.new ((w.alloc (.cells #[.slice none 0 0] 311)).alloc (.cells #[.int .i64 off] 2)) 2 (.int .i64 n);rw[World.size_alloc,World.size_alloc]at this;exact this
 case hI=>
  rintro k W W' row ⟨v,hv,hrow,hB,bj⟩ hg hr;refine⟨v,aCv hv hg ?_,axo hrow hg ?_,hB.grown hg hB.size ?_,uf bj hg.size⟩
  · intro r e;rcases hr r e with rfl| ⟨_,h⟩
    · exact .inl om
    · exact .inr h
  · intro r e;rcases hr r e with rfl| ⟨_,h⟩
    · exact .inl om
    · exact .inr h
  · intro r e;rcases hr r e with rfl| ⟨h,_⟩
    · omega
    · simp at h;omega
 case hi0=>
  exact⟨_,((Boxed.new w 311 _).alloc _).alloc _,World.ownsRow_nil _ _ _ _,(((Below.refl _ w).alloc (cT _) _).alloc (by simp) _).alloc (by simp;omega) _,by simp⟩
 case assign=>
  intro l s p W K hK
  gi_wp2
  exact hK
 case body=>
  rintro l k s p W B hk hp hs1 hlt ⟨v,hv,hrow,hB,bj⟩ fL hBB;have fJ:(k:Int)<n:=by
    have:=HK off (off+n) om k om;omega
  have ahX:mf off (off+n) (k+1)=mf off (off+n) k++ [.int .i64 (eV s),.int .i64 (dP s),.int .i64 p]:=by
    simp only[mf,pc];rw[hk,hp]
  have Hsnoc:=Lib.hid ahX;clear ahX hk hp;have hc:=hv.cell;have hb0:W.cell? ⟨B,0,none⟩=some (.int .i64 (eV s)):=cell_of_row W B 0 _ _ _ fL;have hb1:W.cell? ⟨B,1,none⟩=some (.int .i64 (dP s)):=cell_of_row W B 1 _ _ _ fL;have hb2:W.cell? ⟨B,2,none⟩=some (.int .i64 p):=cell_of_row W B 2 _ _ _ fL;clear fL
  gi_wp2_with (gi_at_builtin;refine wpListIn_append_own _ rfl _ _ 311 rfl (w.heap.size+3) 315 i0 (.agg #[.int .i64 0,.int .i64 0,.int .i64 0]) 3 24 Tryz.underlying311 hi hz0 hz1 hz2 rfl dc _ _ _ rfl (hrow.alloc _) ⟨W.heap.size,0,none⟩ 1 1 [.int .i64 (eV s),.int .i64 (dP s),.int .i64 p] rfl rfl (World.news_of_block (World.alloc_heap_new W _)) (by simp[Value.oneCell']) (by unfold maxLen;omega) om (by simp;omega) ?_;intro v' w1 hown' hgrow _;obtain⟨g',cap',rfl⟩:=ownsRow_succ hown';obtain⟨kL,hv2,hr2,hk2,hb2⟩:=hv.appended dc (hrow.mono om) hB.size (cT _) (hown'.mono om) hgrow;have hc1:=kL.cell;have y_:=kL.frozen)
  have hgb:∀r,v.ownBlock=some r→w.heap.size+3≤r:=fun r e=> (hrow.lt r e).1
  refine⟨rfl,hk2,?_,_,hv2,?_,hB.trans hb2,?_⟩
  · have h1:(W.alloc (.cells #[.int .i64 (eV s),.int .i64 (dP s),.int .i64 p] 315)).heap[w.heap.size+1]? =W.heap[w.heap.size+1]?:=Below.heap_alloc _ _ _ om;have h2:=hgrow.block (w.heap.size+1) (by simp;omega) (fun e=>by have:=hgb _ e.symm;omega);exact(Below.heap_setCell _ _ _ _ (by simp)).trans (h2.trans h1)
  · rw[Hsnoc.out];exact hown'.kept (grownBy_setCell' w1 w.heap.size _) (.inr (kL.not_row dc hown').symm)
  · exact uf bj hk2.size
 case done=>
  rintro D K W hK ⟨v,hv,hrow,hB,bj⟩ hD hd;have hc:=hv.cell
  gi_wp2
  refine⟨by simp,.inl ⟨_,_,rfl,run_takeDeferred hd,?_⟩⟩;exact⟨_,results_tmp2 rfl _ _ _,v,K,rfl,hK,(ownsRow_putObj hrow _ hd rfl).mono om,hB.trans (belowK_b (w:=w) (cT _) W D _ _ (by simp at hD;omega) hd rfl rfl)⟩
def mE (off n:Int):Prop:=off<0∨n<0∨1048576<n∨4611686018427387904<off
set_option maxHeartbeats 400000 in
theorem ajs (off n:Int) (w:av) (h:mE off n):
   Calls Tryz.prog 213 #[.int .i64 off,.int .i64 n] w fun e w'=>e= .returned (.tuple #[.slice none 0 0,.int .i64 1])∧w=w':=by
 unfold mE at h;by_cases h1:off<0
 · clear h
   go_enter Tryz.func213,Tryz.ntmps213
   go_wp2
   go_ret2
   exact⟨rfl,rfl⟩
 · by_cases h2:n<0
   · clear h
     go_enter Tryz.func213,Tryz.ntmps213
     go_wp2
     go_ret2
     exact⟨rfl,rfl⟩
   · by_cases h3:1048576<n
     · clear h
       go_enter Tryz.func213,Tryz.ntmps213
       go_wp2
       go_ret2
       exact⟨rfl,rfl⟩
     · have h4:4611686018427387904<off:=om;clear h
       go_enter Tryz.func213,Tryz.ntmps213
       go_wp2
       go_ret2
       exact⟨rfl,rfl⟩
theorem ZX (off e:Int) (k:Nat):∀K,k<K→(mf off e K)[k*3]? =some (.int .i64 (eV (bQ off e k)))∧(mf off e K)[k*3+1]? =some (.int .i64 (dP (bQ off e k)))∧(mf off e K)[k*3+2]? =some (.int .i64 (dC e (bQ off e k)))
 |K+1,h=>by
  have hl:=Zc off e K;rcases pX k K with hk|hk
  · obtain⟨h1,h2,h3⟩:=ZX off e k K hk;simp only[mf];rw[nS om,nS om,nS om];exact⟨h1,h2,h3⟩
  · obtain rfl:k=K:=om;simp only[mf];rw[lR om,lR om,lR om,hl];rw[show k*3-k*3=0 by omega,show k*3+1-k*3=1 by omega,show k*3+2-k*3=2 by omega];exact⟨rfl,rfl,rfl⟩
def xy (e s:Int):List PV:=[.sc (.int .i64 (eV s)),.sc (.int .i64 (dP s)),.sc (.int .i64 (dC e s))]
def gI (off e:Int) (K:Nat):List (List PV):=(List.range K).map fun k=>xy e (bQ off e k)
instance (off n:Int):Decidable (mE off n):=inferInstanceAs (Decidable (_∨_∨_∨_))
theorem akn {w':av} {B e:Nat} {v:aD} {K:Nat} {xs:List aD} {rows:List (List PV)} (ho:w'.ownsRow B e 3 v K xs) (hc:Tryz.prog.cellsOf e=3) (hlen:rows.length=K) (hR:eA 3 rows)
   (hx:∀(i:Nat) (r:List PV) (j:Nat) (p:PV),rows[i]? =some r→r[j]? =some p→∃u,xs[i*3+j]? =some u∧p= .sc u∧flat u=true):
   ∃x:Nm,(∀g,x.g=some g→B≤g∧g<w'.heap.size)∧v= .slice (x.g.map fun g=> ⟨g,0,none⟩) x.len x.cap∧∀M,RB Tryz.prog M ⟨fun n=>if n=0 then some x else none,[]⟩ w' 0 (.row e rows):=by
 rcases ho.2 with⟨rfl,rfl⟩| ⟨g,cap,cur,rfl,hB,hg,h1,h2,h3,h4⟩
 · refine⟨⟨none,0,0,3⟩,fun g h=> (by cases h),rfl,fun M=> ⟨⟨none,0,0,3⟩,#[],(0,0),rfl,.inl rfl,fun g h=> (by cases h),hlen.symm,cT _,dc,by show 0<3;omega,hc.symm,rfl,hR,fun _=>rfl,?_⟩⟩;intro i r j p hi;have:rows=[]:=iq hlen;rw[this]at hi;simp at hi
 · refine⟨⟨some g,K,cap,3⟩,fun g' h=> ?_,rfl,fun M=> ⟨⟨some g,K,cap,3⟩,cur,(0,0),rfl,.inl rfl,fun g' h=> ?_,hlen.symm,h1,h2,by show 0<3;omega,hc.symm,h3,hR,fun h=> (by cases h),?_⟩⟩
   · cases h;exact⟨hB,(dY.1 hg).1⟩
   · cases h;exact hg
   · intro i r j p hi hj;obtain⟨u,k1,rfl,k3⟩:=hx i r j p hi hj;refine⟨u,?_,RP.sc k3⟩;rw[←h4,jD]at k1;split at k1
     · simpa using k1
     · cases k1
theorem aaa {off n c:Int} {w:av} {K:Nat} {xs:List aD} {rows:List (List PV)} {M:bY} (hlen:rows.length=K) (hR:eA 3 rows)
   (hx:∀(i:Nat) (r:List PV) (j:Nat) (p:PV),rows[i]? =some r→r[j]? =some p→∃u,xs[i*3+j]? =some u∧p= .sc u∧flat u=true)
   {e:Ending} {w':av} {v:aD} (he:e= .returned (.tuple #[v,.int .i64 c])) (ho:w'.ownsRow w.heap.size 315 3 v K xs) (hb:Below w.heap.size w w'):
   ∃ u E',e= .returned u∧Frame (fun g=>∃n x,(fun _=>none:Nat→Option Nm) n=some x∧x.g=some g) w w'∧Cu (fun _=>none) 0 w w' E'∧
     (∀n b,List.lookup n [(0,cO.row 315 rows)]=some b→RB Tryz.prog M E' w' n b)∧RV M E' w' (.aj [.c (.own 0),.c (.p (.sc (.int .i64 c)))]) u:=by
 obtain⟨x,h1,h2,h3⟩:=akn ho kr hlen hR hx;have hN:∀{n y},(if n=0 then some x else none:Option Nm)=some y→n=0∧x=y:=fun {n y} h=>by
   split at h
   · cases h;exact⟨by assumption,rfl⟩
   · cases h
 refine⟨_,⟨fun n=>if n=0 then some x else none,[]⟩,he,Frame.En hb,{ao:=rfl,names:=fun n y g h k=> ?_,inj:=fun n m y z g h k _ _=> ?_,dw:=fun m hm=>by omega},fun n b h=> ?_,#[v,.int .i64 c],rfl,rfl,fun i y hi=> ?_⟩
 · obtain⟨_,rfl⟩:=hN h;exact⟨(h1 g k).2,.inr (h1 g k).1⟩
 · rw[(hN h).1,(hN k).1]
 · simp only[eR,oQ]at h;split at h
   · rename_i hn;simp at hn;subst hn;cases h;exact h3 M
   · cases h
 · match i with
   |0=>cases hi;exact⟨v,rfl,.inr ⟨x,rfl,h2⟩⟩
   |1=>cases hi;exact⟨_,rfl,RP.sc rfl⟩
   |i+2=>simp at hi
open Classical in
noncomputable def yc:List L→Option (List L):=fun ls=>match ls with
 |[.i off,.i n]=>if mE off n then some [.r [],.i 1]else if h:∃K,Full off (off+n) K then some [.r (gI off (off+n) h.choose),.i 0]else none
 |_=>none
noncomputable def amU:az:=⟨213,[.c (.p (.int .i64) (.v 0)),.c (.p (.int .i64) (.v 1))],[],2,2,.aj [.c (.own 0),.c (.p (.int .i64) (.v 3))],[(0,.row 315 (.v 2))],yc,2030⟩
theorem Wv {M:bY} {w:av} {N:Nat→Option Nm} {a b:Int} {vals:Array aD} (hs:vals.size=2) (hv:∀(i:Nat) (x:V1),[V1.c (.p (.sc (.int .i64 a))),.c (.p (.sc (.int .i64 b)))][i]? =some x→∃u,vals[i]? =some u∧dq M ⟨N,[]⟩ w x u):vals= #[.int .i64 a,.int .i64 b]:=by
 obtain⟨u0,e0,r0⟩:=hv 0 _ rfl;obtain⟨u1,e1,r1⟩:=hv 1 _ rfl;have r0:u0= .int .i64 a:=RP.dv r0;have r1:u1= .int .i64 b:=RP.dv r1;subst r0 r1;obtain⟨l⟩:=vals
 match l,hs with
 |[p,q],_=>
  have e0:p= .int .i64 a:=by simpa using e0
  have e1:q= .int .i64 b:=by simpa using e1
  rw[e0,e1]
theorem anz:amU.ok Tryz.prog:=by
 intro ls os hl hF dr;change yc ls=some os at hF;unfold yc at hF;split at hF
 · rename_i off n;have own:Own Tryz.prog 213:=⟨Tryz.f213,Tryz.func213,by kernel_rfl,rfl⟩
   have nn:∀{N:Nat→Option Nm},(∀n x,N n=some x→n< ([]:List cO).length)→N=fun _=>none:=fun {N} h=>by
     funext m
     cases hm:N m with
     |none=>rfl
     |some x=>exact absurd (h m x hm) (by simp)
   split at hF
   · rename_i hb;cases hF;refine⟨own,fun w M N vals hM rD mI nL hH bj hv=> ?_⟩;cases nn rD;have hv:=Wv bj hv;subst hv;refine(ajs off n w hb).mono ?_;rintro e w' ⟨rfl,rfl⟩;exact aaa (off:=off) (n:=n) (K:=0) (xs:=[]) (rows:=[]) rfl (fun r hr=>by cases hr) (fun i r j p hi=>by simp at hi) rfl (World.ownsRow_nil _ _ _ _) (Below.refl _ _)
   · rename_i hb;split at hF
     · rename_i hK;cases hF;refine⟨own,fun w M N vals hM rD mI nL hH bj hv=> ?_⟩;cases nn rD;have hv:=Wv bj hv;subst hv;unfold mE at hb;refine(apd off n w om om om om).mono ?_;rintro e w' ⟨v,K,rfl,hf,ho,hbl⟩;obtain rfl:=Full.uniq hf hK.choose_spec;refine aaa (off:=off) (n:=n) (K:=hK.choose) (rows:=gI off (off+n) hK.choose) (by simp[gI]) (fun r hr=> ?_) (fun i r j p hi hj=> ?_) rfl ho hbl
       · simp only[gI,dy]at hr;obtain⟨k,_,rfl⟩:=hr;rfl
       · simp only[gI,bO,aW]at hi;obtain⟨k,h1,rfl⟩:=hi;obtain⟨h2,h3⟩:=cN.1 h1;simp at h2 h3;subst h3;obtain⟨q0,q1,q2⟩:=ZX off (off+n) i hK.choose h2
         match j with
         |0=>cases hj;exact⟨_,q0,rfl,rfl⟩
         |1=>cases hj;exact⟨_,q1,rfl,rfl⟩
         |2=>cases hj;exact⟨_,q2,rfl,rfl⟩
         |j+3=>simp[xy]at hj
     · cases hF
 · cases hF
def tb (a:Nat):Nat:=7+a*(11-a) /2
theorem aBD:∀{a:Nat},a<6→tb a+(5-a)=tb (a+1):=by decide
set_option maxRecDepth 100000 in
set_option maxHeartbeats 1000000 in
theorem ajz (m:Nat) (hm:1≤m) (l:Nat) (J:Nat→av→Prop) (Jx:av→Prop)
   (hY0:∀W,J 0 W→YieldAt Fence.wide (m-1) Tryz.prog l #[.slice none 0 0] W
    fun e W'=> (e= .returned (.bool true)∧J 1 W')∨(e= .returned (.bool false)∧Jx W'))
   (hY1:∀(a:Nat) W,a<6→J (1+a) W→YieldAt Fence.wide (m-1) Tryz.prog l #[.slice (some ⟨W.heap.size,0,none⟩) 1 1] (W.alloc (.cells #[.int .i64 a] 3))
    fun e W'=> (e= .returned (.bool true)∧J (1+a+1) W')∨(e= .returned (.bool false)∧Jx W'))
   (hY2:∀(a b:Nat) W,a<b→b<6→J (tb a+(b-a-1)) W→YieldAt Fence.wide (m-1) Tryz.prog l #[.slice (some ⟨W.heap.size,0,none⟩) 2 2] (W.alloc (.cells #[.int .i64 a,.int .i64 b] 3))
    fun e W'=> (e= .returned (.bool true)∧J (tb a+(b-a-1)+1) W')∨(e= .returned (.bool false)∧Jx W'))
   (W:av) (hJ:J 0 W):
   CallsIn Fence.wide m Tryz.prog 163 #[.func (.yield l) #[] #[]] W fun e W'=> (∃v,e= .returned v)∧(J 22 W'∨Jx W'):=by
 refine callsIn_of_wp Tryz.func163 rfl trivial ?_ rfl;simp only[Tryz.ntmps163,rT,km,oT,Nat.reduceAdd,Nat.reduceSub,SQ,SR,SS,SU,fa,fv];obtain⟨fn,tmps,assign,body,hy,hR⟩:=hY0 W hJ
 gi_wp2
 refine hR.mono ?_;rintro e W1 (⟨rfl,hJ1⟩| ⟨rfl,hx⟩)
 · clear hR hy
   gi_wp2
   gi_loopw [8] (fun i wr=>∃t:Nat,t≤6∧i= .int .i64 t∧J (1+t) wr) (fun i _=>6- (intOf i).toNat)
   case atStart=>exact⟨0,om,rfl,hJ1⟩
   case round=>
    obtain⟨t,ht,rfl,pS⟩:=hrel;by_cases hlt:t<6
    · have k1:(t:Int)<6:=om;obtain⟨fn,tmps,assign,body,hy,hR⟩:=hY1 t _ hlt pS
      gi_wp2
      refine hR.mono ?_;rintro e W3 (⟨rfl,hJ3⟩| ⟨rfl,hx⟩)
      · gi_wp2
        go_roundw
        case rel=>exact⟨t+1,om,by go_num,by rw[show 1+(t+1)=1+t+1 by omega];exact hJ3⟩
        case measure=>simp[intOf];omega
      · gi_wp2
        (try simp only[Exit.inBlock,Exit.then])
        exact bodyPost_ret (results_none rfl _ _ _) rfl ⟨⟨_,rfl⟩,.inr hx⟩
    · obtain rfl:t=6:=om
      gi_wp2
      (try simp only[aiP])
      gi_loopw [17] (fun i wr=>∃t:Nat,t≤6∧i= .int .i64 t∧J (tb t) wr) (fun i _=>6- (intOf i).toNat)
      case atStart=>exact⟨0,om,rfl,pS⟩
      case round=>
        clear pS hJ1;obtain⟨t,ht,rfl,pS⟩:=hrel;by_cases hlt:t<6
        · have k1:(t:Int)<6:=om
          gi_wp2
          (try simp only[aiP])
          gi_loopw [4] (fun i wr=>∃b:Nat,t<b∧b≤6∧i= .int .i64 b∧J (tb t+(b-t-1)) wr) (fun i _=>6- (intOf i).toNat)
          case atStart=>exact⟨t+1,om,om,by go_num,by rw[show t+1-t-1=0 by omega];exact pS⟩
          case round=>
           clear pS;obtain⟨b,hb1,hb2,rfl,pS⟩:=hrel;by_cases oG:b<6
           · have k2:(b:Int)<6:=om;obtain⟨fn,tmps,assign,body,hy,hR⟩:=hY2 t b _ hb1 oG pS
             gi_wp2
             refine hR.mono ?_;rintro e W3 (⟨rfl,hJ3⟩| ⟨rfl,hx⟩)
             · gi_wp2
               go_roundw
               case rel=>exact⟨b+1,om,om,by go_num,by rw[show b+1-t-1=b-t-1+1 by omega];exact hJ3⟩
               case measure=>simp[intOf];omega
             · gi_wp2
               (try simp only[Exit.inBlock,Exit.then])
               exact bodyPost_ret (results_none rfl _ _ _) rfl ⟨⟨_,rfl⟩,.inr hx⟩
           · obtain rfl:b=6:=om;have hn:J (tb (t+1)) wr:=by rw[←aBD hlt,show 5-t=6-t-1 by omega];exact pS
             gi_wp2
             go_roundw
             case rel=>exact⟨t+1,om,by go_num,hn⟩
             case measure=>simp[intOf];omega
        · obtain rfl:t=6:=om
          gi_wp2
          (try simp only[Exit.inBlock,Exit.then])
          exact bodyPost_end (results_none rfl _ _ _) rfl ⟨⟨_,rfl⟩,.inl pS⟩
 · gi_wp2
   (try simp only[Exit.inBlock,Exit.then])
   exact bodyPost_ret (results_none rfl _ _ _) rfl ⟨⟨_,rfl⟩,.inr hx⟩
end
end
end Go.Proofs.YtndegphojkiblaaGreatDoor
