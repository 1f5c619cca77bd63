/- Towards the last file's theorem: part 16. -/
import Derived.Test.YtndegphojkiblaaGreatDoorG12
import Derived.Test.YtndegphojkiblaaGreatDoorG13
import Derived.Test.YtndegphojkiblaaGreatDoorG14
import Derived.Test.YtndegphojkiblaaGreatDoorG15
import Derived.Shelf.Strings.OnBuilder
import Derived.Shelf.Strings.SlTrimAscii
import Derived.Shelf.Strconv.Itoa3
import Derived.Test.YtndegphojkiblaaGreatDoorProg
import Derived.WalkKit
set_option linter.all false
set_option maxHeartbeats 4000000
set_option maxRecDepth 100000
namespace Go.Proofs.YtndegphojkiblaaGreatDoor
noncomputable section
section
open Go.RowKit
open Classical
def qU:Code→Nat→Option (Array Oper)
 | .region id ops _,k=>if id=k then some ops else none
 | .seq a b,k=> (qU a k).or (qU b k)
 | .cond _ a b,k=> (qU a k).or (qU b k)
 | .block _ c,k=>qU c k
 | .rangeFunc _ _ a b,k=> (qU a k).or (qU b k)
 |_,_=>none
noncomputable def ez (k:Nat):Array Oper:=(Tryz.f54.body.bind fun c=>qU c k).getD #[]
noncomputable def ye:Code:=(Code.region 1 (ez 1) false).seq (.cond (.tmp 24) ((Code.region 2 (ez 2) false).seq .ret) .skip)
noncomputable def Ec:Code:= .block 1 ((Code.region 5 (ez 5) false).seq ((Code.region 6 (ez 6) false).seq (.cond (.tmp 37) ((Code.region 7 (ez 7) false).seq .ret) .skip)))
noncomputable def UM:Code:= .rangeFunc (.tmp 26) #[27] (.region 4 (ez 4) false) Ec
noncomputable def c54:Code:=(Code.region 0 (ez 0) false).seq (ye.seq (((Code.region 3 (ez 3) false).seq (.block 0 UM)).seq ((Code.region 8 (ez 8) false).seq .ret)))
theorem axb:Tryz.f54.body=some c54:=kr
def AP:SV:= .v (.c .dead)
def qJ:List SC:=[0,1,2,3].map (fun n=>SC.p (.int .i64) (.v n))++ [4,5,6,7,8,9].map (fun n=>SC.p (.int .u32) (.v n))++ [.p .sl (.v 10)]
def x4 (n:Nat):List SC:=[.p (.int .u64) (.v n),.p (.int .u32) (.v (n+1)),.p (.int .i64) (.v (n+2)),.p (.int .i64) (.v (n+3))]
def aaU (F:List L→Option (List L)) (t:Nat):az:=⟨105,[.agg qJ,.c (.p .sl (.v 11)),.c (.p .sl (.v 12))],[],13,1,.v (.c (.p .bool (.v 13))),[],F,t⟩
def Yr (F:List L→Option (List L)) (t:Nat):az:=⟨106,[.c (.p .sl (.v 0)),.agg (x4 1)],[],5,1,.v (.c (.p .bool (.v 5))),[],F,t⟩
def ZC (F:List L→Option (List L)) (t:Nat):az:=⟨107,[],[],0,0,.v (.c (.fn 163 [])),[],F,t⟩
def agm (F:List L→Option (List L)) (t:Nat):az:=⟨108,[.agg qJ,.c (.p .sl (.v 11)),.c (.p .sl (.v 12)),.c (.p .sl (.v 13)),.agg (x4 14)],[],18,5,.aj [.agg [.p (.int .u64) (.v 19),.p (.int .u32) (.v 20),.p .bool (.v 21),.own 0],.c (.p .bool (.v 18))],[(0,.row 5 (.v 22))],F,t⟩
def lC (F105 F106 F107 F108:List L→Option (List L)) (t105 t106 t107 t108:Nat):cm:=[aaU F105 t105,Yr F106 t106,ZC F107 t107,agm F108 t108]
def qc:cm:=lC (fun _=>none) (fun _=>none) (fun _=>none) (fun _=>none) 0 0 0 0
def yO:List SV:=List.replicate 4 AP++([.v (.c (.ptr 0 0)),.v (.c (.ptr 1 0)),.v (.c (.ptr 2 0)),.v (.c (.ptr 3 0)),.v (.c (.ptr 4 0)),.v (.c (.ptr 5 0))]++(List.replicate 16 AP++(.v (.c (.fn 163 []))::List.replicate 13 AP)))
def bx4:cb:=[(0,.box qJ),(1,.box [.p .sl (.v 11)]),(2,.box [.p .sl (.v 12)]),(3,.box (x4 13))]
def jE:ag:=⟨yO,bx4++ [(4,.box [.p (.int .u64) (.i 0),.p (.int .u32) (.i 0),.p .bool (.b false),.nil]),(5,.box [.p (.int .i64) (.i 0)])],[],6,17⟩
def w7:ag:=⟨yO.set 27 (.v (.c (.p .sl (.v 17)))),jE.heap,[],6,18⟩
def AU:ag:=⟨yO,bx4++ [(4,.box [.p (.int .u64) (.v 17),.p (.int .u32) (.v 18),.p .bool (.v 19),.own 6]),(5,.box [.p (.int .i64) (.i 0)]),(6,.row 5 (.v 20))],[],7,21⟩
def AN:ag:=⟨List.replicate 8 AP++(.v (.c (.ptr 1 0)):: .v (.c (.ptr 2 0))::List.replicate 30 AP),[(1,.box [.p (.int .u64) (.v 17),.p (.int .u32) (.v 18),.p .bool (.v 19),.own 0]),(2,.box [.p (.int .i64) (.v 20)]),(0,.row 5 (.v 21))],[],3,22⟩
def ad.nx (e:Bool):ad→Option ag
 | .ar (.st .normal S)=>if e then none else some S
 | .ar (.st .ret S)=>if e then some S else none
 | .ar _=>none
 | .op _ k=>k.nx e
 | .ite _ a b=> (a.nx e).or (b.nx e)
 | .join _ b=>b.nx e
 | .loop _ _=>none
def nx (e:Bool) (o:Option ad):ag:=(o.bind (ad.nx e)).getD default
noncomputable def Cl:ag:=sJ 40 17 [.agg qJ,.c (.p .sl (.v 11)),.c (.p .sl (.v 12)),.agg (x4 13)] []
noncomputable def Ct:ag:=nx false (dG TT qc (ez 0) false Cl)
noncomputable def A6:ag:=nx false (exec TT qc 0 ye 0xFFFFFFFFFF [] 768 Ct)
noncomputable def zV:ag:=nx true (exec TT qc 0 ye 0xFFFFFFFFFF [] 768 Ct)
noncomputable def Gl:ag:=nx false (dG TT qc (ez 3) false A6)
noncomputable def yL:ag:=nx false (dG TT qc (ez 4) false w7)
noncomputable def AD:ag:=nx false (dG TT qc (ez 5) false yL)
noncomputable def BF:ag:=nx false (dG TT qc (ez 6) false AD)
noncomputable def Yz:ag:=nx false (dG TT qc (ez 7) false BF)
noncomputable def Jd:ag:=nx false (dG TT qc (ez 8) false jE)
section
variable (F105 F106 F107 F108:List L→Option (List L)) (t105 t106 t107 t108:Nat)
theorem aBq:dG TT (lC F105 F106 F107 F108 t105 t106 t107 t108) (ez 0) false Cl=some (.ar (.st .normal Ct)):=kr
noncomputable def vT:ad:= .join (.op (.call t105 F105 [.v 0,.v 1,.v 2,.v 3,.v 4,.v 5,.v 6,.v 7,.v 8,.v 9,.v 10,.v 11,.v 12] 1 []) (.op (.not (.v 17)) (.ite (.v 18) (.ar (.jump 0 [.v 17,.v 18,.b true,.b true])) (.op (.call t106 F106 [.v 10,.v 13,.v 14,.v 15,.v 16] 1 []) (.op (.not (.v 19)) (.ar (.jump 0 [.v 17,.v 18,.b false,.v 20]))))))) (.ite (.v 20) (.ar (.st .ret zV)) (.ar (.st .normal A6)))
theorem afR:exec TT (lC F105 F106 F107 F108 t105 t106 t107 t108) 0 ye 0xFFFFFFFFFF [] 768 Ct=some (vT F105 F106 t105 t106):=kr
theorem aqe:dG TT (lC F105 F106 F107 F108 t105 t106 t107 t108) (ez 3) false A6=some (.op (.call t107 F107 [] 0 []) (.ar (.st .normal Gl))):=kr
theorem atL:dG TT (lC F105 F106 F107 F108 t105 t106 t107 t108) (ez 4) false w7=some (.ar (.st .normal yL)):=kr
def I5:Nd:= .call t108 F108 [.v 0,.v 1,.v 2,.v 3,.v 4,.v 5,.v 6,.v 7,.v 8,.v 9,.v 10,.v 11,.v 12,.v 17,.v 13,.v 14,.v 15,.v 16] 5 []
theorem anN:dG TT (lC F105 F106 F107 F108 t105 t106 t107 t108) (ez 5) false yL=some (.op (I5 F108 t108) (.ar (.st .normal AD))):=kr
theorem aDr:dG TT (lC F105 F106 F107 F108 t105 t106 t107 t108) (ez 6) false AD=some (.ar (.st .normal BF)):=kr
theorem axP:dG TT (lC F105 F106 F107 F108 t105 t106 t107 t108) (ez 7) false BF=some (.ar (.st .normal Yz)):=kr
theorem alR:dG TT (lC F105 F106 F107 F108 t105 t106 t107 t108) (ez 8) false jE=some (.ar (.st .normal Jd)):=kr
end
theorem asw:jmp TT 0 17 jE 0 .normal Gl=some (.ar (.jump 0 [])):=kr
theorem akO:jmp TT 6 17 jE 0 .normal BF=some (.ar (.jump 0 [])):=kr
theorem axq:jmp TT 6 17 AU 0 .normal Yz=some (.ar (.jump 0 [.v 19,.v 20,.v 21,.v 22])):=kr
theorem asU:jmp TT 0 17 AN 0 .normal zV=some (.ar (.jump 0 [.i 0,.i 0,.b false,.i 1,.r0])):=kr
theorem anW:jmp TT 0 17 AN 0 .normal Jd=some (.ar (.jump 0 [.i 0,.i 0,.b false,.i 11,.r0])):=kr
theorem arl:jmp TT 0 17 AN 0 .normal AU=some (.ar (.jump 0 [.v 17,.v 18,.v 19,.i 0,.v 20])):=kr
def BT (ls:List L) (sk:List (List PV)):List L:=ls.take 13++ .r sk::ls.drop 13
def nY:List (List Nat):=[[],[0],[1],[2],[3],[4],[5],[0,1],[0,2],[0,3],[0,4],[0,5],[1,2],[1,3],[1,4],[1,5],[2,3],[2,4],[2,5],[3,4],[3,5],[4,5]]
def kE (k:Nat):List (List PV):=(nY.getD k []).map fun a=> [.sc (.int .i64 (a:Nat))]
theorem amo:∀a,a<6→nY.getD (1+a) []=[a]:=by decide
theorem azj:∀b,b<6→∀a,a<b→nY.getD (tb a+(b-a-1)) []=[a,b]∧tb a+(b-a-1)<22:=by decide
noncomputable def jv (F108:List L→Option (List L)) (ls:List L):Nat→Nat→Option (List L)
 |0,_=>some [.i 0,.i 0,.b false,.i 11,.r []]
 |n+1,k=>match F108 (BT ls (kE k))with
  |some [ok,a,b,c,r]=>if ok.br=true then some [a,b,c,.i 0,r]else jv F108 ls n (k+1)
  |_=>none
noncomputable def xd (F105 F106 F107 F108:List L→Option (List L)):List L→Option (List L):=fun ls=>
 if ls.length=17 then match F105 (ls.take 13)with
  | some [ok]=>if ok.br=true then match F106 (ls.drop 10|>.take 1|>.append (ls.drop 13))with
    |some [c]=>if c.br=true then(if F107 []=some []then jv F108 ls 22 0 else none)else some [.i 0,.i 0,.b false,.i 1,.r []]
    |_=>none
   else some [.i 0,.i 0,.b false,.i 1,.r []]
  |_=>none
 else none
noncomputable def DY (F105 F106 F107 F108:List L→Option (List L)) (tag:Nat):az:=⟨54,[.agg qJ,.c (.p .sl (.v 11)),.c (.p .sl (.v 12)),.agg (x4 13)],[],17,5,.aj [.agg [.p (.int .u64) (.v 17),.p (.int .u32) (.v 18),.p .bool (.v 19),.own 0],.c (.p (.int .i64) (.v 20))],[(0,.row 5 (.v 21))],xd F105 F106 F107 F108,tag⟩
variable {F105 F106 F107 F108:List L→Option (List L)} {t105 t106 t107 t108:Nat}
theorem aqs {l n:Nat} {X:Fx} {Q:Exit→ak→Prop} {st:ak} (h:Q .ret st):ij l n X .ret Q st:=fun _ _ ht=>wpIn_ret ⟨st,h,ht⟩
theorem EW {ρ o:List L} {t n:Nat} {F:List L→Option (List L)} {xs:List At} (h:F (xs.map (At.ev ρ))=some o) (hn:o.length=n):Nd.ev ρ (.call t F xs n [])=some o:=by
 simp only[Nd.ev];rw[h];exact au ⟨hn,rfl⟩
theorem art (hC:cm.ok Tryz.prog (lC F105 F106 F107 F108 t105 t106 t107 t108)) {ls:List L} (dh:ls.length=17) {sk:List (List PV)} {ok a b c r:L} (hd:F108 (BT ls sk)=some [ok,a,b,c,r]) {X:Fx} (hP:X.P=Tryz.prog) (hk:X.k0=6) {l d:Nat}:
  ij l d X Ec (fun e st=> (ok.br=false∧e= .normal∧st=jE.aa ls)∨(ok.br=true∧e= .ret∧st=AU.aa (ls++ [a,b,c,r]))) (yL.aa (ls++ [.r sk])):=by
 match ls,dh with
 | [l0,l1,l2,l3,l4,l5,l6,l7,l8,l9,l10,l11,l12,l13,jb,jc,jd],_=>
  have h5:(ad.op (I5 F108 t108) (.ar (.st .normal AD))).aa ([l0,l1,l2,l3,l4,l5,l6,l7,l8,l9,l10,l11,l12,l13,jb,jc,jd]++ [.r sk])=some (.st .normal AD,[l0,l1,l2,l3,l4,l5,l6,l7,l8,l9,l10,l11,l12,l13,jb,jc,jd,.r sk,ok,a,b,c,r]):=by
    rw[ad.aa,show Nd.ev ([l0,l1,l2,l3,l4,l5,l6,l7,l8,l9,l10,l11,l12,l13,jb,jc,jd]++ [.r sk]) (I5 F108 t108)=some [ok,a,b,c,r]from EW (F:=F108) (n:=5) (xs:=[.v 0,.v 1,.v 2,.v 3,.v 4,.v 5,.v 6,.v 7,.v 8,.v 9,.v 10,.v 11,.v 12,.v 17,.v 13,.v 14,.v 15,.v 16]) hd rfl];rfl
  refine Oz (X1 (w8 (qo hC kr (anN F105 F106 F107 F108 t105 t106 t107 t108) kr h5 hP ?_)));refine w8 (qo hC kr (aDr F105 F106 F107 F108 t105 t106 t107 t108) kr (ρ':=[l0,l1,l2,l3,l4,l5,l6,l7,l8,l9,l10,l11,l12,l13,jb,jc,jd,.r sk,ok,a,b,c,r]) rfl hP ?_);refine T5 (t:=ok.br) ((ag.bL _ (show BF.arg (.tmp 37)=some (.v (.c (.p .bool (.v 18))))by kernel_rfl)).trans rfl) (fun hb=> ?_) (fun hb=> ?_)
  · refine w8 (qo hC kr (axP F105 F106 F107 F108 t105 t106 t107 t108) kr (ρ':=[l0,l1,l2,l3,l4,l5,l6,l7,l8,l9,l10,l11,l12,l13,jb,jc,jd,.r sk,ok,a,b,c,r]) rfl hP ?_);refine aqs ?_;obtain⟨xs1,zs,j1,_,_,j4⟩:=kB iU (ρ:=[l0,l1,l2,l3,l4,l5,l6,l7,l8,l9,l10,l11,l12,l13,jb,jc,jd]) (ys:=[.r sk,ok,a,b,c,r]) rfl kr kr axq rfl;cases j1;exact⟨_,j4 X hP hk,.inr ⟨hb,rfl,rfl⟩⟩
  · refine X8 ?_;obtain⟨xs1,zs,j1,_,_,j4⟩:=kB iU (ρ:=[l0,l1,l2,l3,l4,l5,l6,l7,l8,l9,l10,l11,l12,l13,jb,jc,jd]) (ys:=[.r sk,ok,a,b,c,r]) rfl kr kr akO rfl;cases j1;exact⟨_,j4 X hP hk,.inl ⟨hb,rfl,rfl⟩⟩
def MZ (F108:List L→Option (List L)) (ls os:List L) (Xb:Fx) (a0:Act) (l D:Nat) (rec:Loop) (k:Nat) (W:av):Prop:=
 ∃E,jv F108 ls (22-k) k=some os∧Rel Xb E (jE.aa ls) a0 W∧E.off [l,D]∧W.heap[l]? =some (.loop rec)∧W.heap[D]? =some (.deferred (some []))
def X54 (ls os:List L) (Xb:Fx) (a0:Act) (l D:Nat) (rec:Loop) (W:av):Prop:=
 ∃E a b c r,os=[a,b,c,.i 0,r]∧Rel Xb E (AU.aa (ls++ [a,b,c,r])) a0 W∧E.off [l,D]∧W.heap[l]? =some (.loop {rec with state:= .done,pending:=some .ret})∧W.heap[D]? =some (.deferred (some []))
theorem aru (hC:cm.ok Tryz.prog (lC F105 F106 F107 F108 t105 t106 t107 t108)) {ls:List L} (dh:ls.length=17) (sk:List (List PV)) {X:Fx} (hP:X.P=Tryz.prog) {l d:Nat}:
   ij l d X (.region 4 (ez 4) false) (fun e st=>e= .normal∧st=yL.aa (ls++ [.r sk])) (w7.aa (ls++ [.r sk])):=by
 have h1:(ls++ [L.r sk]).length=w7.nv:=by
   rw[dL,dh];rfl
 refine qo hC kr (atL F105 F106 F107 F108 t105 t106 t107 t108) h1 (ρ':=ls++ [.r sk]) (S':=yL) (e:= .normal) ?_ hP ?_
 · show some _=_;rfl
 · exact⟨rfl,rfl⟩
theorem tJ (ls:List L):(jE.aa ls).tmps=yO.map (SV.aa []):=kr
theorem tX (ls:List L):(AU.aa ls).tmps=yO.map (SV.aa []):=kr
theorem tP0:(yO.map (SV.aa [])).all (V.Er 6)=true:=by rfl
theorem tP (ls:List L):(jE.aa ls).tmps.all (V.Er 6)=true:=by rw[tJ];exact tP0
theorem ang {ls:List L} (dh:ls.length=17) (sk:List (List PV)):(jE.aa ls).put (some 27) (.v (.c (.p (.sl sk))))=w7.aa (ls++ [.r sk]):=by
 match ls,dh with
 |[l0,l1,l2,l3,l4,l5,l6,l7,l8,l9,l10,l11,l12,l13,jb,jc,jd],_=>rfl
set_option maxHeartbeats 1000000 in
theorem aqF (hC:cm.ok Tryz.prog (lC F105 F106 F107 F108 t105 t106 t107 t108)) {ls os:List L} (dh:ls.length=17)
   {Xb:Fx} (hP:Xb.P=Tryz.prog) (bR:Xb.k0=6) {E0:Env} {a0:Act} {w0:av} (h0:Rel Xb E0 (jE.aa ls) a0 w0) (nK:∀k,k<Xb.k0→E0.N k=Xb.N0 k) (CS:a0.defers=[])
   {l D:Nat} (hlD:D<l) (hlw:Xb.w0.heap.size≤l) {rec:Loop} (fn:FuncId)
   (eX:rec={state:= .ready,pending:=none,fn,tmps:=a0.tmps,params:= #[27],assign:= .region 4 (ez 4) false,body:=Ec,defers:=D})
   (k:Nat) (hk:k<22) (E:Env) (W:av) (v:aD) (gN:jv F108 ls (22-k) k=some os) (hR:Rel Xb E (jE.aa ls) a0 W) (rJ:E.off [l,D]) (hl:W.heap[l]? =some (.loop rec)) (hd:W.heap[D]? =some (.deferred (some [])))
   (hv:RP (bad Xb.M E) W (.sl (kE k)) v):
   YieldAt Fence.wide 1 Tryz.prog l #[v] W (fun e W'=> (e= .returned (.bool true)∧MZ F108 ls os Xb a0 l D rec (k+1) W')∨(e= .returned (.bool false)∧X54 ls os Xb a0 l D rec W')):=by
 obtain⟨ok,a,b,c,r,pL,zl⟩:∃ok a b c r,F108 (BT ls (kE k))=some [ok,a,b,c,r]∧(if ok.br=true then some [a,b,c,.i 0,r]else jv F108 ls (22- (k+1)) (k+1))=some os:=by
   rw[show 22-k=(22- (k+1))+1 by omega,jv]at gN;split at gN
   · rename_i ok a b c r h;exact⟨ok,a,b,c,r,h,gN⟩
   · cases gN
 have hy:=run_yield (P:=Tryz.prog) (args:= #[v]) hl (by rw[eX];rfl);rw[eX]at hy;refine⟨fn,_,_,_,hy,roundIn_of_wpIn trivial ?_⟩;have R7:a0=⟨a0.tmps,[]⟩:=by
   cases a0;simp only at CS;subst CS;rfl
 have hS:Rel Xb E (w7.aa (ls++ [.r (kE k)])) {tmps:=a0.tmps.setIfInBounds 27 v,defers:=[]} W:=by
   rw[R7]at hR;rw[←ang dh];exact hR.put (some 27) (v:= .v (.c (.p (.sl (kE k))))) hv
 have nN:∀{W':av},l<W'.heap.size→∀g∈ [l,D],g<W'.heap.size:=fun h g hg=>by
   simp at hg;omega
 have zj:l<W.heap.size:=(dY.1 hl).1;have hput:∀(W':av) (r1 r2:Loop),W'.heap[l]? =some (.loop r1)→∀g o,W'.heap[g]? =some o→(g<Xb.w0.heap.size∨o.isCells=true∨∃en c,o= .map en c)→(W'.putObj l (.loop r2)).heap[g]? =W'.heap[g]?:=fun W' r1 r2 h g o ho hi=>by
   refine World.putObj_heap_other fun rL=> ?_
   subst rL;rw[h]at ho;cases ho;rcases hi with hi|hi| ⟨_,_,hi⟩
   · omega
   · cases hi
   · cases hi
 have hA4:=fun (X':Fx) (e1:X'.P=Xb.P) (_:X'.k0=Xb.k0)=>aru (X:=X') (l:=l) (d:=1) hC dh (kE k) (e1.trans hP)
 have h1:=Eb (l:=l) (n:=1) hA4 hS rfl rJ (nN zj);rw[hP]at h1;have R8:((#[27]:Array Tmp).zip #[v]).foldl (fun t (p,v)=>t.setIfInBounds p v) a0.tmps=a0.tmps.setIfInBounds 27 v:=by
   simp[Array.zip,Array.zipWith,Array.zipWithMAux]
 dsimp only;rw[R8];refine wpIn_mono h1 ?_;rintro e1 a1 w1 ⟨lI,E1,⟨rfl,rfl⟩,hg1,pP,R9,nG,hs1⟩;have eE:w1.heap[l]? =some (.loop rec):=(nG l (by simp)).trans hl;have R_:w1.heap[D]? =some (.deferred (some [])):=(nG D (by simp)).trans hd;have CU:l<w1.heap.size:=(dY.1 eE).1;refine⟨_,run_beginRound eE (by rw[eX]),?_⟩;have hl2:(w1.putObj l (.loop {rec with state:= .busy})).heap[l]? =some (.loop {rec with state:= .busy}):=World.putObj_heap_same CU;have wE:(w1.putObj l (.loop {rec with state:= .busy})).heap[D]? =some (.deferred (some [])):=(World.putObj_heap_other om).trans R_;have ua:=pP.other (w':=w1.putObj l (.loop {rec with state:= .busy})) rfl rfl rfl (by simp) (hput _ _ _ eE);have CV:l< (w1.putObj l (.loop {rec with state:= .busy})).heap.size:=by simpa using CU
 generalize w1.putObj l (.loop {rec with state:= .busy})=w2 at hl2 wE ua CV⊢;have h2:=Eb (l:=l) (n:=1) (fun X' e1 e2=>art (l:=l) (d:=1) hC dh pL (e1.trans hP) (e2.trans bR)) ua hg1 R9 (nN CV);rw[hP]at h2;refine wpIn_mono h2 ?_;rintro e3 a3 w3 ⟨st3,E3,hst,hg3,Ij,Ik,hk3,hs3⟩;have kh:w3.heap[l]? =some (.loop {rec with state:= .busy}):=(hk3 l (by simp)).trans hl2;have rM:w3.heap[D]? =some (.deferred (some [])):=(hk3 D (by simp)).trans wE;have ahZ:=(dY.1 kh).1;rcases hst with⟨hb,rfl,rfl⟩| ⟨hb,rfl,rfl⟩
 · rw[aE (by rw[hb];decide)]at zl;refine⟨_,_,run_endRound none kh,.inl ⟨rfl,E3,zl,(h0.again Ij nK rfl rfl ((tJ _).trans (tJ ls).symm) (by rw[bR];exact tP ls)).other rfl rfl rfl (by simp) (hput _ _ _ kh),Ik,?_,(World.putObj_heap_other om).trans rM⟩⟩;rw[World.putObj_heap_same ahZ,eX];rfl
 · rw[au hb]at zl;cases zl;refine⟨_,_,run_endRound (some .ret) kh,.inr ⟨rfl,E3,a,b,c,r,rfl,(h0.again Ij nK rfl rfl ((tX _).trans (tJ ls).symm) (by rw[bR];exact tP ls)).other rfl rfl rfl (by simp) (hput _ _ _ kh),Ik,?_,(World.putObj_heap_other om).trans rM⟩⟩;rw[World.putObj_heap_same ahZ,eX];rfl
theorem alT {ls:List L} (dh:ls.length=17) {ok:L} (h1:F105 (ls.take 13)=some [ok]):
  (ok.br=false→∃ys,ys.length=4∧(vT F105 F106 t105 t106).aa ls=some (.st .ret zV,ls++ys))∧
  (ok.br=true→∀c,F106 (ls.drop 10|>.take 1|>.append (ls.drop 13))=some [c]→(c.br=false→∃ys,ys.length=4∧(vT F105 F106 t105 t106).aa ls=some (.st .ret zV,ls++ys))∧
    (c.br=true→∃ys,ys.length=4∧(vT F105 F106 t105 t106).aa ls=some (.st .normal A6,ls++ys))):=by
 match ls,dh with
 | [l0,l1,l2,l3,l4,l5,l6,l7,l8,l9,l10,l11,l12,l13,jb,jc,jd],_=>
  have e1:Nd.ev [l0,l1,l2,l3,l4,l5,l6,l7,l8,l9,l10,l11,l12,l13,jb,jc,jd] (.call t105 F105 [.v 0,.v 1,.v 2,.v 3,.v 4,.v 5,.v 6,.v 7,.v 8,.v 9,.v 10,.v 11,.v 12] 1 [])=some [ok]:=EW (F:=F105) (n:=1) (xs:=[.v 0,.v 1,.v 2,.v 3,.v 4,.v 5,.v 6,.v 7,.v 8,.v 9,.v 10,.v 11,.v 12]) h1 rfl;have e2:∀k:ad,(ad.op (.not (.v 17)) k).aa ([l0,l1,l2,l3,l4,l5,l6,l7,l8,l9,l10,l11,l12,l13,jb,jc,jd]++ [ok])=k.aa [l0,l1,l2,l3,l4,l5,l6,l7,l8,l9,l10,l11,l12,l13,jb,jc,jd,ok,.b (!ok.br)]:=fun k=>by
    rw[ad.aa];rfl
  refine⟨fun hb=> ⟨[ok,.b (!ok.br),.b true,.b true],rfl,?_⟩,fun hb c h2=> ?_⟩
  · rw[vT,ad.aa,ad.aa,e1];simp only[];rw[e2,ad.aa,show((At.v 18).ev [l0,l1,l2,l3,l4,l5,l6,l7,l8,l9,l10,l11,l12,l13,jb,jc,jd,ok,.b (!ok.br)]).br= !ok.br from rfl,hb];rfl
  · have e3:Nd.ev [l0,l1,l2,l3,l4,l5,l6,l7,l8,l9,l10,l11,l12,l13,jb,jc,jd,ok,.b (!ok.br)] (.call t106 F106 [.v 10,.v 13,.v 14,.v 15,.v 16] 1 [])=some [c]:=EW (F:=F106) (n:=1) (xs:=[.v 10,.v 13,.v 14,.v 15,.v 16]) h2 rfl;have e4:∀k:ad,(ad.op (.not (.v 19)) k).aa ([l0,l1,l2,l3,l4,l5,l6,l7,l8,l9,l10,l11,l12,l13,jb,jc,jd,ok,.b (!ok.br)]++ [c])=k.aa [l0,l1,l2,l3,l4,l5,l6,l7,l8,l9,l10,l11,l12,l13,jb,jc,jd,ok,.b (!ok.br),c,.b (!c.br)]:=fun k=>by
     rw[ad.aa];rfl
    refine⟨fun hc=> ⟨[ok,.b (!ok.br),.b false,.b (!c.br)],rfl,?_⟩,fun hc=> ⟨[ok,.b (!ok.br),.b false,.b (!c.br)],rfl,?_⟩⟩
    all_goals
     rw[vT,ad.aa,ad.aa,e1];simp only[];rw[e2,ad.aa,show((At.v 18).ev [l0,l1,l2,l3,l4,l5,l6,l7,l8,l9,l10,l11,l12,l13,jb,jc,jd,ok,.b (!ok.br)]).br= !ok.br from rfl];simp only[hb,Bool.not_true,lP,if_false];rw[hb]at e3 e4;simp only[Bool.not_true]at e3 e4;rw[ad.aa,e3];simp only[];rw[e4];simp only[hc];rfl
theorem age {M:bY} {w:av} {g:Nat} {l:List Nat} (h0:l≠ []) (hg:w.heap[g]? =some (.cells (l.map fun a=>Value.int .i64 ((a:Nat):Int)).toArray 3 (0,0))) (hM:¬M g) (hl:l.length≤maxLen):RP M w (.sl (l.map fun a=> [.sc (.int .i64 (a:Nat))])) (.slice (some ⟨g,0,none⟩) l.length l.length):=by
 have key:∀(i:Nat) (r:List PV) (j:Nat) (p:PV),(l.map fun a=> [PV.sc (.int .i64 (a:Nat))])[i]? =some r→r[j]? =some p→j=0∧w.cell? ⟨g,i,none⟩=some (.int .i64 ((l.getD i 0:Nat):Int))∧p= .sc (.int .i64 ((l.getD i 0:Nat):Int)):=fun i r j p hi hj=>by
  simp only[bO,aW]at hi;obtain⟨a,h1,rfl⟩:=hi
  match j with
  |j+1=>simp at hj
  |0=>
   cases hj;have h2:l.getD i 0=a:=by simp[rX,h1]
   rw[h2];refine⟨rfl,?_,rfl⟩;rw[cell_of_row w g i _ 3 (0,0) hg];simp[h1]
 have:=RP.row (M:=M) (w:=w) (rows:=l.map fun a=> [.sc (.int .i64 (a:Nat))]) (g:=g) (o:=0) (cap:=l.length) (sz:=1) (f:=fun i _=> .int .i64 ((l.getD i 0:Nat):Int)) (by simpa using h0) (by simp) hl
  (fun r hr=>by obtain⟨a,_,rfl⟩:=dy.1 hr;rfl)
  (fun i r j p hi hj=>by
   obtain⟨rfl,h1,_⟩:=key i r j p hi hj;exact⟨by simpa using h1,hM⟩)
  (fun i r j p hi hj=>by
   obtain⟨_,_,rfl⟩:=key i r j p hi hj;exact .sc rfl)
 rwa [ax]at this
theorem adX {Xb:Fx} {E:Env} {st:ak} {a:Act} {W:av} (h:Rel Xb E st a W) (o:Obj):Rel Xb E st a (W.alloc o)∧¬bad Xb.M E W.heap.size∧∀g,g<W.heap.size→(W.alloc o).heap[g]? =W.heap[g]?:=by
 have hb:∀g,g<W.heap.size→(W.alloc o).heap[g]? =W.heap[g]?:=fun g hg=>Below.heap_alloc _ _ _ hg
 refine⟨h.other rfl rfl rfl (by simp) fun g o' ho _=>hb g (dY.1 ho).1,?_,hb⟩;rintro(hM| ⟨n,x,h1,h2⟩)
 · have:=h.mlt _ hM;have:=h.frame.size;omega
 · have:=(h.names n x _ h1 h2).1;omega
theorem alQ:Tryz.f54.ntmps=40:=kr
theorem aDH:Tryz.f54.results= #[.cell 8 73,.cell 9 55]:=kr
theorem M4 {X:Fx} (hP:X.P=Tryz.prog) (hk:X.k0=0) {S:ag} {ls ys xs:List L} {bs:List At} (dh:ls.length=17) (hS:S.nv=17+ys.length) (hg:S.ao=[]) (hj:jmp TT 0 17 AN 0 .normal S=some (.ar (.jump 0 bs))) (hx:bs.map (At.ev (ls++ys))=xs)
   {D:List Deferred} (hD:X.D=D) {H':Hp} (hH:H'=[(0,.row 5 ((At.v 21).ev (ls++xs)).ah)]) {a:Act} {w:av} (ht:Told X (S.aa (ls++ys)) a w) {X0:Fx} (hX:X={X0 with D:=D})
   (hd:D=[]∨∃d,D=[{target:= .collected d,args:= #[]}]∧X0.w0.heap.size≤d∧w.heap[d]? =some (.deferred (some []))) {e:Exit} (he:e= .normal∨e= .ret):
   JR Tryz.prog [.cell 8 73,.cell 9 55] ((SV.aj [.agg [.p (.int .u64) (.v 17),.p (.int .u32) (.v 18),.p .bool (.v 19),.own 0],.c (.p (.int .i64) (.v 20))]).aa (ls++xs)) H' X0 e a w:=by
 obtain⟨xs1,zs,j1,_,_,j4⟩:=kB iU (ρ:=ls) (ys:=ys) dh (by rw[hS,dL,dh]) hg hj rfl;have hz:zs=[]:=by simpa using cI (·.2) j1
 have hb:bs=xs1:=by simpa using cI (·.1) j1
 subst hz hb;rw[kj]at j4;refine⟨he,AN.aa (ls++xs),D,?_,by kernel_rfl,fun n b h=> ?_,hd⟩
 · subst hX;have:=j4 _ hP hk a w ht;rw[hx]at this;exact this
 · subst hH
   match n with
   |0=>exact h
   |n+1=>simp[List.lookup]at h
set_option maxHeartbeats 1000000 in
theorem aqx (aKh:(aaU F105 t105).ok Tryz.prog) (aKi:(Yr F106 t106).ok Tryz.prog) (aKj:(ZC F107 t107).ok Tryz.prog) (aKk:(agm F108 t108).ok Tryz.prog) (tag:Nat):(DY F105 F106 F107 F108 tag).ok Tryz.prog:=by
 have hC:cm.ok Tryz.prog (lC F105 F106 F107 F108 t105 t106 t107 t108):=fun s hs=>by
   simp only[lC,cU,lS,or_false]at hs;rcases hs with rfl|rfl|rfl|rfl<;>assumption
 intro ls os dh hF dr;have dh:ls.length=17:=dh;have hF:xd F105 F106 F107 F108 ls=some os:=hF;unfold xd at hF;rw[au dh]at hF;refine eI.Uu (H:=[]) Tryz.func54 kr axb alQ (rs:=[.cell 8 73,.cell 9 55]) (by rw[aDH]) ?_;intro X hP hk hD a w ht;have hk:X.k0=0:=hk;have Sf:X={X with D:=[]}:=by
   cases X;simp only at hD;subst hD;rfl
 have ht:Told X (Cl.aa ls) a w:=by
   rw[Cl,MV];exact ht
 have A0:=(piece hC (k0:=0) (n:=0) (r:=0) (ex:=[]) (show exec TT _ 0 (.region 0 (ez 0) false) 0 [] 0 Cl=_ from aBq F105 F106 F107 F108 t105 t106 t107 t108) kr dh (ρ:=ls) rfl hP hk).2.2 a w ht;rw[hP]at A0;refine wp_seq (wp_mono A0 ?_);clear A0;rintro e1 a1 w1 ⟨lI,⟨rfl,rfl⟩,wF⟩;show(ye.seq _).wp _ _ _ _;have h17:ls.length=Ct.nv:=dh.trans kr;have err:∀{os},some [.i 0,.i 0,.b false,.i 1,.r []]=some os→(∃ys,ys.length=4∧(vT F105 F106 t105 t106).aa ls=some (.st .ret zV,ls++ys))→
     ∀K,(ye.seq K).wp Tryz.prog (JR Tryz.prog [.cell 8 73,.cell 9 55] ((DY F105 F106 F107 F108 tag).res.aa (ls++os)) ((DY F105 F106 F107 F108 tag).out.aa (ls++os)) X) a1 w1:=by
   rintro os rB ⟨ys,hy,ub⟩ K;cases rB;have A1:=(piece hC (afR F105 F106 F107 F108 t105 t106 t107 t108) kr h17 ub hP hk).2.2 a1 w1 wF;rw[hP]at A1;refine wp_seq (wp_mono A1 ?_);rintro e2 a2 w2 ⟨wj,⟨rfl,rfl⟩,oK⟩;exact M4 hP hk dh (by rw[hy];kernel_rfl) kr asU rfl hD rfl oK Sf (.inl rfl) (.inr rfl)
 split at hF;rotate_left
 · cases hF
 rename_i ok h1;have oJ:=alT (F105:=F105) (F106:=F106) (t105:=t105) (t106:=t106) dh h1;by_cases aX:ok.br=true;rotate_left
 · rw[aE aX]at hF;exact err hF (oJ.1 (by simpa using aX)) _
 rw[au aX]at hF;split at hF;rotate_left
 · cases hF
 rename_i c h2;have oJ:=oJ.2 aX c h2;by_cases hc:c.br=true;rotate_left
 · rw[aE hc]at hF;exact err hF (oJ.1 (by simpa using hc)) _
 rw[au hc]at hF;split at hF;rotate_left
 · cases hF
 rename_i h3;obtain⟨ys,hy,ub⟩:=oJ.2 hc;have A1:=(piece hC (afR F105 F106 F107 F108 t105 t106 t107 t108) kr h17 ub hP hk).2.2 a1 w1 wF;rw[hP]at A1;refine wp_seq (wp_mono A1 ?_);clear A1 err oJ;rintro e2 a2 w2 ⟨wj,⟨rfl,rfl⟩,oK⟩;show(Code.seq (Code.seq _ _) _).wp _ _ _ _;have rM:(ad.op (.call t107 F107 [] 0 []) (.ar (.st .normal Gl))).aa (ls++ys)=some (.st .normal Gl,ls++ys):=by
   rw[ad.aa,EW (F:=F107) (n:=0) (xs:=[]) (ρ:=ls++ys) h3 rfl];simp only[kj];rfl
 have A3:=(piece hC (k0:=0) (n:=0) (r:=0) (ex:=[]) (show exec TT _ 0 (.region 3 (ez 3) false) 0 [] 0 A6=_ from aqe F105 F106 F107 F108 t105 t106 t107 t108) kr (by rw[dL,dh,hy];kernel_rfl) rM hP hk).2.2 a2 w2 oK;rw[hP]at A3;refine wp_seq (wp_seq (wp_mono A3 ?_));clear A3;rintro e4 a4 w4 ⟨st4,⟨rfl,rfl⟩,CX⟩;show(Code.block 0 UM).wp _ _ _ _;have Sa:Told X (jE.aa ls) a4 w4:=by
   obtain⟨xs1,zs,j1,_,_,j4⟩:=kB iU (ρ:=ls) (ys:=ys) dh (by rw[dL,dh,hy];kernel_rfl) kr asw rfl;have hz:zs=[]:=by simpa using cI (·.2) j1
   have hb:[]=xs1:=by simpa using cI (·.1) j1
   subst hz hb;simpa using j4 X hP hk a4 w4 CX
 obtain⟨E0,R0,hg0⟩:=Sa;clear ht wF oK CX;have Sb:a4.defers=[]:=R0.defers.trans hD;obtain⟨u26,h26,aIu⟩:=R0.tmps 26 (.v (.c (.fn 163 []))) (by rw[tJ];rfl);obtain⟨us,rfl,cS,_⟩:=(show RC X.M E0 w4 (.fn 163 []) u26 from aIu)
 obtain rfl:us= #[]:=aiw cS;have wu:a4.eval (.tmp 26)= .func (.func 163) #[] #[]:=by
   simp[Act.eval,ug,h26]
 refine wp_block ((wpIn_wide (n:=3)).1 (wpIn_rangeFunc ?_));intro fn hfn;obtain⟨rec,eX⟩:∃rec:Loop,rec={state:= .ready,pending:=none,fn,tmps:=a4.tmps,params:= #[27],assign:= .region 4 (ez 4) false,body:=Ec,defers:=w4.heap.size}:=⟨_,rfl⟩
 obtain⟨W1,hW1⟩:∃W1,(w4.alloc (.deferred (some []))).alloc (.loop rec)=W1:=⟨_,rfl⟩
 have hs1:W1.heap.size=w4.heap.size+2:=by rw[←hW1];simp
 have CY:W1.heap[w4.heap.size+1]? =some (.loop rec):=by
   rw[←hW1];have:=World.alloc_heap_new (w4.alloc (.deferred (some []))) (.loop rec);rwa [World.size_alloc]at this
 have CZ:W1.heap[w4.heap.size]? =some (.deferred (some [])):=by
   rw[←hW1];exact(Below.heap_alloc _ _ _ (by simp)).trans (World.alloc_heap_new w4 _)
 have hold:∀g,g<w4.heap.size→W1.heap[g]? =w4.heap[g]?:=fun g hg=>by
   rw[←hW1];exact(Below.heap_alloc _ _ _ (by simp;omega)).trans (Below.heap_alloc _ _ _ hg)
 let Xb:Fx:=⟨X.P,X.M,X.K,X.w0,E0.N,6,[]⟩
 have h0:Rel Xb E0 (jE.aa ls) ⟨a4.tmps,[]⟩ w4:={
   defers:=rfl,ao:=R0.ao,frame:=R0.frame,mlt:=R0.mlt,cR:=R0.cR,names:=R0.names,inj:=R0.inj,dw:=fun _ _=> .inr rfl
   fh:=by show 6≤6;omega
   fe:=R0.fe,size:=R0.size,tmps:=R0.tmps,heap:=R0.heap}
 have hW0:X.w0.heap.size≤w4.heap.size:=R0.frame.size;have Sc:MZ F108 ls os Xb ⟨a4.tmps,[]⟩ (w4.heap.size+1) w4.heap.size rec 0 W1:=by
   refine⟨E0,hF,h0.other ?_ ?_ ?_ om fun g o ho _=>hold g (dY.1 ho).1,fun n x g h1 h2 hg=> ?_,CY,CZ⟩
   · rw[←hW1];rfl
   · rw[←hW1];rfl
   · rw[←hW1];rfl
   · have:=(R0.names n x g h1 h2).1;simp at hg;omega
 have Sh:∀k,k<22→∀E W v,jv F108 ls (22-k) k=some os→Rel Xb E (jE.aa ls) ⟨a4.tmps,[]⟩ W→E.off [w4.heap.size+1,w4.heap.size]→W.heap[w4.heap.size+1]? =some (.loop rec)→W.heap[w4.heap.size]? =some (.deferred (some []))→RP (bad Xb.M E) W (.sl (kE k)) v→_:=
   fun k hk E W v=>aqF (l:=w4.heap.size+1) (D:=w4.heap.size) hC dh (Xb:=Xb) hP rfl h0 (fun _ _=>rfl) rfl om (by show X.w0.heap.size≤_;omega) fn eX k hk E W v
 refine⟨w4.heap.size+1,[{target:= .collected w4.heap.size,args:= #[]}],W1,{target:= .fn (.func 163) #[],args:= #[.func (.yield (w4.heap.size+1)) #[] #[]]},W1,163,
   #[.func (.yield (w4.heap.size+1)) #[] #[]],W1,?_,?_,?_,?_,fun _=>by omega,?_⟩
 · rw[←hW1,eX];exact run_enterLoop_outer _ _ _ _ _
 · simp only[resolve,wu];simp[go_sem]
 · intro f' _;trivial
 · simp[invoke,go_sem]
 have hX2:∀{E5:Env} {st:ak} {W6:av},Rel Xb E5 st ⟨a4.tmps,[]⟩ W6→6≤st.next→Rel {X with D:=[{target:= .collected w4.heap.size,args:= #[]}]} E5 st {a4 with defers:=[{target:= .collected w4.heap.size,args:= #[]}]++a4.defers} W6:=fun eY hn=> {
   defers:=by rw[Sb];rfl
   ao:=eY.ao,frame:=eY.frame,mlt:=eY.mlt,cR:=eY.cR,names:=eY.names,inj:=eY.inj
   dw:=fun k nG=>absurd (show k<X.k0 from nG) om
   fh:=by show X.k0≤_;omega
   fe:=eY.fe,size:=eY.size,tmps:=eY.tmps,heap:=eY.heap}
 refine(ajz 2 om (w4.heap.size+1) (MZ F108 ls os Xb ⟨a4.tmps,[]⟩ (w4.heap.size+1) w4.heap.size rec) (X54 ls os Xb ⟨a4.tmps,[]⟩ (w4.heap.size+1) w4.heap.size rec) ?_ ?_ ?_ W1 Sc).mono ?_
 · rintro W ⟨E,gN,hR,rJ,hl,hd⟩;exact Sh 0 om E W _ gN hR rJ hl hd .nil
 · rintro b W hb ⟨E,gN,hR,rJ,hl,hd⟩;obtain⟨kg,mH,wa⟩:=adX hR (.cells #[.int .i64 b] 3);refine Sh (1+b) om E _ _ gN kg rJ ((wa _ (dY.1 hl).1).trans hl) ((wa _ (dY.1 hd).1).trans hd) ?_;rw[kE,amo b hb];exact age (l:=[b]) (by simp) (World.alloc_heap_new W _) mH (by unfold maxLen;simp)
 · rintro b d W hb1 hb2 ⟨E,gN,hR,rJ,hl,hd⟩;obtain⟨kg,mH,wa⟩:=adX hR (.cells #[.int .i64 b,.int .i64 d] 3);obtain⟨q1,q2⟩:=azj d hb2 b hb1;refine Sh _ q2 E _ _ gN kg rJ ((wa _ (dY.1 hl).1).trans hl) ((wa _ (dY.1 hd).1).trans hd) ?_;rw[kE,q1];exact age (l:=[b,d]) (by simp) (World.alloc_heap_new W _) mH (by unfold maxLen;simp)
 have hput:∀(W5:av) (r1 r2:Loop),W5.heap[w4.heap.size+1]? =some (.loop r1)→∀g o,W5.heap[g]? =some o→(g<Xb.w0.heap.size∨o.isCells=true∨∃en c,o= .map en c)→(W5.putObj (w4.heap.size+1) (.loop r2)).heap[g]? =W5.heap[g]?:=fun W5 r1 r2 oM g o ho hi=>World.putObj_heap_other fun rL=>by
   subst rL;rw[oM]at ho;cases ho;rcases hi with hi|hi| ⟨_,_,hi⟩
   · have:w4.heap.size+1<X.w0.heap.size:=hi;omega
   · cases hi
   · cases hi
 rintro e5 W5 ⟨⟨v,rfl⟩,⟨E5,aIv,uc,Il,oM,C0⟩| ⟨E5,xa,xb,xc,xr,rfl,uc,Il,oM,C0⟩⟩
 · cases aIv;refine⟨_,_,run_endLoop oM (by rw[eX];simp),?_⟩;have eY:=uc.other (w':=W5.putObj (w4.heap.size+1) (.loop {rec with state:= .exhausted})) rfl rfl rfl (by simp) (hput _ _ _ oM);have pR:(W5.putObj (w4.heap.size+1) (.loop {rec with state:= .exhausted})).heap[w4.heap.size]? =some (.deferred (some [])):=(World.putObj_heap_other om).trans C0;generalize W5.putObj (w4.heap.size+1) (.loop {rec with state:= .exhausted})=W6 at eY pR⊢;rw[show rec.pending=none by rw[eX]];show((Code.region 8 (ez 8) false).seq .ret).wp _ _ _ _;have h8:=seg (X:={X with D:=[{target:= .collected w4.heap.size,args:= #[]}]}) (c:=(Code.region 8 (ez 8) false).seq .ret) (Q:=fun e st=>e= .ret∧st=Jd.aa ls) (fun X' e1 e2=>by
     have:=(piece hC (k0:=0) (n:=0) (r:=0) (ex:=[]) (show exec TT _ 0 (.region 8 (ez 8) false) 0 [] 0 jE=_ from alR F105 F106 F107 F108 t105 t106 t107 t108) kr dh (ρ:=ls) rfl (e1.trans hP) (e2.trans hk)).2.2;refine fA (lV this ?_);rintro e st ⟨rfl,rfl⟩;exact vd ⟨rfl,rfl⟩) (hX2 eY (by show 6≤6;omega)) hg0 (S:=[w4.heap.size]) (fun n x g h1 h2 hg=>Il n x g h1 h2 (by simp at hg⊢;exact .inr hg)) (fun g hg=>by
     simp at hg;subst hg;exact(dY.1 pR).1)
   rw[show({X with D:=[{target:= .collected w4.heap.size,args:= #[]}]}:Fx).P=Tryz.prog from hP]at h8;refine wp_mono h8 ?_;rintro e9 a9 w9 ⟨st9,E9,⟨rfl,rfl⟩,Si,Sd,aIi,Se,hs9⟩;exact M4 (X:={X with P:=Tryz.prog,D:=[{target:= .collected w4.heap.size,args:= #[]}]}) (ys:=[]) rfl hk dh kr kr anW rfl rfl rfl (by rw[kj];exact⟨E9,Sd,Si⟩) (by rw[hP]) (.inr ⟨_,rfl,hW0,(Se _ (by simp)).trans pR⟩) (.inr rfl)
 · refine⟨_,_,run_endLoop oM (by simp),?_⟩;have eY:=uc.other (w':=W5.putObj (w4.heap.size+1) (.loop {{rec with state:= .done,pending:=some .ret}with state:= .exhausted})) rfl rfl rfl (by simp) (hput _ _ _ oM);have pR:(W5.putObj (w4.heap.size+1) (.loop {{rec with state:= .done,pending:=some .ret}with state:= .exhausted})).heap[w4.heap.size]? =some (.deferred (some [])):=(World.putObj_heap_other om).trans C0;generalize W5.putObj (w4.heap.size+1) (.loop {{rec with state:= .done,pending:=some .ret}with state:= .exhausted})=W6 at eY pR⊢;refine wpIn_ret ?_;exact M4 (X:={X with D:=[{target:= .collected w4.heap.size,args:= #[]}]}) (ys:=[xa,xb,xc,xr]) hP hk dh kr kr arl (by
     match ls,dh with
     |[l0,l1,l2,l3,l4,l5,l6,l7,l8,l9,l10,l11,l12,l13,jb,jc,jd],_=>rfl) rfl rfl ⟨E5,hX2 eY (by show 6≤7;omega),by rfl⟩ rfl (.inr ⟨_,rfl,hW0,pR⟩) (.inr rfl)
end
section
open Go.Shelf
def Tryz.aaZ:Go.Shelf.Ren:=⟨fun|156=>102|165=>158|166=>159|169=>160|240=>209|241=>210|276=>234|277=>235|n=>n,fun|31=>84|9=>9|3=>3|4=>4|0=>0|20=>20|72=>266|76=>269|70=>264|37=>71|75=>268|127=>307|164=>340|5=>5|80=>215|n=>n,fun|n=>n⟩
theorem Tryz.S6:Go.Proofs.Lays.n156 Tryz.prog Tryz.aaZ:={
 mixed:=kr
 f156:=Tryz.func102.trans (cI some kr)
 f165:=Tryz.func158.trans (cI some kr)
 f166:=Tryz.func159.trans (cI some kr)
 f169:=Tryz.func160.trans (cI some kr)
 f240:=Tryz.func209.trans (cI some kr)
 f241:=Tryz.func210.trans (cI some kr)
 f276:=Tryz.func234.trans (cI some kr)
 f277:=Tryz.func235.trans (cI some kr)
 t0:=Tryz.underlying0
 a0:=Tryz.isAgg0
 z0:=Tryz.sizeOf0
 v0:=Tryz.zeroValue0
 t3:=Tryz.underlying3
 a3:=Tryz.isAgg3
 z3:=Tryz.sizeOf3
 v3:=Tryz.zeroValue3
 t4:=Tryz.underlying4
 a4:=Tryz.isAgg4
 z4:=Tryz.sizeOf4
 v4:=Tryz.zeroValue4
 t9:=Tryz.underlying9
 a9:=Tryz.isAgg9
 z9:=Tryz.sizeOf9
 v9:=Tryz.zeroValue9
 t20:=Tryz.underlying20
 a20:=Tryz.isAgg20
 z20:=Tryz.sizeOf20
 v20:=Tryz.zeroValue20
 t31:=Tryz.underlying84
 a31:=Tryz.isAgg84
 z31:=Tryz.sizeOf84
 v31:=Tryz.zeroValue84
 t37:=Tryz.underlying71
 a37:=Tryz.isAgg71
 z37:=Tryz.sizeOf71
 v37:=Tryz.zeroValue71
 t70:=Tryz.underlying264
 a70:=Tryz.isAgg264
 z70:=Tryz.sizeOf264
 v70:=Tryz.zeroValue264
 t72:=Tryz.underlying266
 a72:=Tryz.isAgg266
 z72:=Tryz.sizeOf266
 v72:=Tryz.zeroValue266
 t75:=Tryz.underlying268
 a75:=Tryz.isAgg268
 z75:=Tryz.sizeOf268
 v75:=Tryz.zeroValue268
 t76:=Tryz.underlying269
 a76:=Tryz.isAgg269
 z76:=Tryz.sizeOf269
 v76:=Tryz.zeroValue269
 t127:=Tryz.underlying307
 a127:=Tryz.isAgg307
 z127:=Tryz.sizeOf307
 v127:=Tryz.zeroValue307
 t164:=Tryz.underlying340
 a164:=Tryz.isAgg340
 z164:=Tryz.sizeOf340
 v164:=Tryz.zeroValue340}
theorem Tryz.agd:Builder.Extra Tryz.prog Tryz.aaZ:={
 sizeBuilder:=kr
 liesBuilder:=kr
 t5:=Tryz.underlying5
 a5:=Tryz.isAgg5
 z5:=Tryz.sizeOf5
 v5:=Tryz.zeroValue5
 infoByte:=kr
 cellsByte:=kr
 sizeByte:=kr
 neB5:=by decide}
def Tryz.aDn:Go.Shelf.Ren:=⟨fun|160=>231|232=>268|231=>267|227=>269|234=>271|233=>270|236=>273|235=>272|228=>297|271=>300|151=>299|197=>298|120=>313|152=>312|260=>311|137=>328|119=>329|224=>330|225=>331|217=>335|266=>337|n=>n,fun|9=>9|4=>4|3=>3|5=>5|117=>373|116=>372|0=>0|124=>376|21=>21|105=>405|46=>135|119=>429|139=>432|138=>431|n=>n,fun|3=>4|4=>5|n=>n⟩
theorem Tryz.arK:Go.Proofs.Lays.n160 Tryz.prog Tryz.aDn:={
 mixed:=kr
 f119:=Tryz.func329.trans (cI some kr)
 f120:=Tryz.func313.trans (cI some kr)
 f137:=Tryz.func328.trans (cI some kr)
 f151:=Tryz.func299.trans (cI some kr)
 f152:=Tryz.func312.trans (cI some kr)
 f160:=Tryz.func231.trans (cI some kr)
 f197:=Tryz.func298.trans (cI some kr)
 f217:=Tryz.func335.trans (cI some kr)
 f224:=Tryz.func330.trans (cI some kr)
 f225:=Tryz.func331.trans (cI some kr)
 f227:=Tryz.func269.trans (cI some kr)
 f228:=Tryz.func297.trans (cI some kr)
 f231:=Tryz.func267.trans (cI some kr)
 f232:=Tryz.func268.trans (cI some kr)
 f233:=Tryz.func270.trans (cI some kr)
 f234:=Tryz.func271.trans (cI some kr)
 f235:=Tryz.func272.trans (cI some kr)
 f236:=Tryz.func273.trans (cI some kr)
 f260:=Tryz.func311.trans (cI some kr)
 f266:=Tryz.func337.trans (cI some kr)
 f271:=Tryz.func300.trans (cI some kr)
 t0:=Tryz.underlying0
 a0:=Tryz.isAgg0
 z0:=Tryz.sizeOf0
 v0:=Tryz.zeroValue0
 t3:=Tryz.underlying3
 a3:=Tryz.isAgg3
 z3:=Tryz.sizeOf3
 v3:=Tryz.zeroValue3
 t4:=Tryz.underlying4
 a4:=Tryz.isAgg4
 z4:=Tryz.sizeOf4
 v4:=Tryz.zeroValue4
 t5:=Tryz.underlying5
 a5:=Tryz.isAgg5
 z5:=Tryz.sizeOf5
 v5:=Tryz.zeroValue5
 t9:=Tryz.underlying9
 a9:=Tryz.isAgg9
 z9:=Tryz.sizeOf9
 v9:=Tryz.zeroValue9
 t21:=Tryz.underlying21
 a21:=Tryz.isAgg21
 z21:=Tryz.sizeOf21
 v21:=Tryz.zeroValue21
 t46:=Tryz.underlying135
 a46:=Tryz.isAgg135
 z46:=Tryz.sizeOf135
 v46:=Tryz.zeroValue135
 t105:=Tryz.underlying405
 a105:=Tryz.isAgg405
 z105:=Tryz.sizeOf405
 v105:=Tryz.zeroValue405
 t116:=Tryz.underlying372
 a116:=Tryz.isAgg372
 z116:=Tryz.sizeOf372
 t117:=Tryz.underlying373
 a117:=Tryz.isAgg373
 z117:=Tryz.sizeOf373
 v117:=Tryz.zeroValue373
 t119:=Tryz.underlying429
 a119:=Tryz.isAgg429
 z119:=Tryz.sizeOf429
 t124:=Tryz.underlying376
 a124:=Tryz.isAgg376
 z124:=Tryz.sizeOf376
 v124:=Tryz.zeroValue376
 t138:=Tryz.underlying431
 a138:=Tryz.isAgg431
 z138:=Tryz.sizeOf431
 v138:=Tryz.zeroValue431
 t139:=Tryz.underlying432
 a139:=Tryz.isAgg432
 z139:=Tryz.sizeOf432
 v139:=Tryz.zeroValue432
 g3:=kr
 g4:=by kernel_rfl}
def Tryz.apx:Go.Shelf.Ren:=⟨fun|171=>103|243=>161|246=>211|283=>236|284=>237|285=>238|286=>239|129=>265|317=>277|318=>278|319=>279|320=>280|337=>302|338=>303|n=>n,fun|3=>3|9=>9|2=>2|4=>4|171=>343|0=>0|53=>22|37=>71|5=>5|173=>345|212=>381|51=>23|20=>20|213=>382|46=>135|232=>419|233=>420|n=>n,fun|17=>1|18=>2|19=>3|n=>n⟩
theorem Tryz.ajW:Go.Proofs.Lays.n171 Tryz.prog Tryz.apx:={
 mixed:=kr
 f129:=Tryz.func265.trans (cI some kr)
 f171:=Tryz.func103.trans (cI some kr)
 f243:=Tryz.func161.trans (cI some kr)
 f246:=Tryz.func211.trans (cI some kr)
 f283:=Tryz.func236.trans (cI some kr)
 f284:=Tryz.func237.trans (cI some kr)
 f285:=Tryz.func238.trans (cI some kr)
 f286:=Tryz.func239.trans (cI some kr)
 f317:=Tryz.func277.trans (cI some kr)
 f318:=Tryz.func278.trans (cI some kr)
 f319:=Tryz.func279.trans (cI some kr)
 f320:=Tryz.func280.trans (cI some kr)
 f337:=Tryz.func302.trans (cI some kr)
 f338:=Tryz.func303.trans (cI some kr)
 t0:=Tryz.underlying0
 a0:=Tryz.isAgg0
 z0:=Tryz.sizeOf0
 v0:=Tryz.zeroValue0
 t2:=Tryz.underlying2
 a2:=Tryz.isAgg2
 z2:=Tryz.sizeOf2
 v2:=Tryz.zeroValue2
 t3:=Tryz.underlying3
 a3:=Tryz.isAgg3
 z3:=Tryz.sizeOf3
 v3:=Tryz.zeroValue3
 t4:=Tryz.underlying4
 a4:=Tryz.isAgg4
 z4:=Tryz.sizeOf4
 v4:=Tryz.zeroValue4
 t5:=Tryz.underlying5
 a5:=Tryz.isAgg5
 z5:=Tryz.sizeOf5
 v5:=Tryz.zeroValue5
 t9:=Tryz.underlying9
 a9:=Tryz.isAgg9
 z9:=Tryz.sizeOf9
 v9:=Tryz.zeroValue9
 t20:=Tryz.underlying20
 a20:=Tryz.isAgg20
 z20:=Tryz.sizeOf20
 v20:=Tryz.zeroValue20
 t37:=Tryz.underlying71
 a37:=Tryz.isAgg71
 z37:=Tryz.sizeOf71
 v37:=Tryz.zeroValue71
 t46:=Tryz.underlying135
 a46:=Tryz.isAgg135
 z46:=Tryz.sizeOf135
 v46:=Tryz.zeroValue135
 t51:=Tryz.underlying23
 a51:=Tryz.isAgg23
 z51:=Tryz.sizeOf23
 v51:=Tryz.zeroValue23
 t53:=Tryz.underlying22
 a53:=Tryz.isAgg22
 z53:=Tryz.sizeOf22
 v53:=Tryz.zeroValue22
 t171:=Tryz.underlying343
 a171:=Tryz.isAgg343
 z171:=Tryz.sizeOf343
 v171:=Tryz.zeroValue343
 t173:=Tryz.underlying345
 a173:=Tryz.isAgg345
 z173:=Tryz.sizeOf345
 v173:=Tryz.zeroValue345
 t212:=Tryz.underlying381
 a212:=Tryz.isAgg381
 z212:=Tryz.sizeOf381
 v212:=Tryz.zeroValue381
 t213:=Tryz.underlying382
 a213:=Tryz.isAgg382
 z213:=Tryz.sizeOf382
 t232:=Tryz.underlying419
 a232:=Tryz.isAgg419
 z232:=Tryz.sizeOf419
 v232:=Tryz.zeroValue419
 t233:=Tryz.underlying420
 a233:=Tryz.isAgg420
 z233:=Tryz.sizeOf420
 v233:=Tryz.zeroValue420
 g17:=kr
 g18:=kr
 g19:=by kernel_rfl}
open Go.RowKit
theorem eI.Lr {P:aQ} {f:FuncId} {args:List V1} {r:V} (ho:Own P f)
  (h:∀(w:av) (M:bY) (vals:Array aD),vals.size=args.length→(∀(i:Nat) (x:V1),args[i]? =some x→∃u,vals[i]? =some u∧dq M ⟨fun _=>none,[]⟩ w x u)→
   Calls P f vals w fun e w'=>∃v,e= .returned v∧Below w.heap.size w w'∧RV M ⟨fun _=>none,[]⟩ w' r v):eI P f args [] r []:={
 own:=ho
 call:=fun w M N vals hM rD mI nL hH bj hv=>by
  have hN:N=fun _=>none:=by
   funext n
   cases hn:N n with
   |none=>rfl
   |some x=>exact absurd (rD n x hn) (by simp)
  subst hN;refine(h w M vals bj hv).mono ?_;rintro e w' ⟨v,rfl,hb,hr⟩;exact⟨v,⟨fun _=>none,[]⟩,rfl,Frame.En hb,{ao:=rfl,names:=fun n x g h=> (by cases h),inj:=fun n m x y g h=> (by cases h),dw:=fun m hm=> .inl rfl},fun n b h=> (by cases h),hr⟩}
theorem aqo {w:av} {a:Addr} {v:aD} (h:w.cell? a=some v):a.block<w.heap.size:=by
 unfold World.cell? at h;split at h
 · rename_i hb;exact(dY.1 hb).1
 · cases h
theorem JB {f:FuncId} {fn:Func} (h:Tryz.prog.funcs[f]? =some fn) (hn:(fn.name== "runtime.NumGoroutine")=false) (hb:fn.body.isNone=false):Own Tryz.prog f:=⟨fn,h,hn,hb⟩
def ape (c:cn):Bool:=c.data.toList.all fun b=>decide (b.toNat<128)
def Ce:List L→Option (List L):=fun ls=>match ls with
 |[.s s,.s c]=>if s.size≤9223372036854775807∧c.size<4294967281∧ape c=true then some [.s ⟨(Lib.trimS s.data.toList c.data.toList).toArray⟩]else none
 |_=>none
def aCp:az:=⟨231,[.c (.p .str (.v 0)),.c (.p .str (.v 1))],[],2,1,.v (.c (.p .str (.v 2))),[],Ce,2020⟩
theorem Oc {M:bY} {w:av} {E:Env} {s:cn} {u:aD} (h:dq M E w (.c (.p (.sc (.string s)))) u):u= .string s:=RP.dv h
theorem ayT:aCp.ok Tryz.prog:=by
 intro ls os hl hF dr;change Ce ls=some os at hF;unfold Ce at hF;split at hF
 · rename_i s c;split at hF
   · rename_i hc;cases hF;refine eI.Lr (JB Tryz.func231 kr rfl) fun w M vals bj hv=> ?_
     obtain⟨u0,e0,r0⟩:=hv 0 _ rfl;obtain⟨u1,e1,r1⟩:=hv 1 _ rfl;have r0:u0= .string s:=Oc r0;have r1:u1= .string c:=Oc r1;subst r0 r1;obtain rfl:vals= #[.string s,.string c]:=by
      obtain⟨l⟩:=vals
      match l,bj with
      |[a,b],_=>
       have e0:a= .string s:=by simpa using e0
       have e1:b= .string c:=by simpa using e1
       rw[e0,e1]
     refine(Any.strings_Trim_laid Tryz.arK kr s c w hc.1 hc.2.1 (ascii_of_all hc.2.2)).mono ?_;rintro e w' ⟨rfl,hb⟩;exact⟨_,rfl,hb,RP.sc rfl⟩
   · cases hF
 · cases hF
def ou:List L→Option (List L):=fun ls=>match ls with
 |[.i n]=>if 0≤n∧n<100 then some [.s ⟨(Lib.decDigits n.toNat).toArray⟩]else none
 |_=>none
def aCn:az:=⟨103,[.c (.p (.int .i64) (.v 0))],[],1,1,.v (.c (.p .str (.v 1))),[],ou,2021⟩
theorem acz:aCn.ok Tryz.prog:=by
 intro ls os hl hF dr;change ou ls=some os at hF;unfold ou at hF;split at hF
 · rename_i n;split at hF
   · rename_i hc;cases hF;obtain⟨k,rfl⟩:=Int.eq_ofNat_of_zero_le hc.1;refine eI.Lr (JB Tryz.func103 kr rfl) fun w M vals bj hv=> ?_
     obtain⟨u0,e0,r0⟩:=hv 0 _ rfl;have r0:u0= .int .i64 k:=RP.dv r0;subst r0;obtain rfl:vals= #[.int .i64 k]:=by
      obtain⟨l⟩:=vals
      match l,bj with
      |[a],_=>
       have e0:a= .int .i64 k:=by simpa using e0
       rw[e0]
     refine(Any.strconv_Itoa_small Tryz.ajW k om w).mono ?_;rintro e w' ⟨rfl,rfl⟩;exact⟨_,rfl,Below.refl _ _,RP.sc rfl⟩
   · cases hF
 · cases hF
def Ea:List (List PV)→Option (List cn)
 |[]=>some []
 |[.sc (.string x)]::r=> (Ea r).map (x:: ·)
 |_=>none
theorem S5:∀{rows:List (List PV)} {xs:List cn},Ea rows=some xs→rows=xs.map fun x=> [.sc (.string x)]
 |[],_,h=>by cases h;rfl
 |[.sc (.string x)]::r,xs,h=>by
  simp only[Ea,aW]at h;obtain⟨ys,h1,rfl⟩:=h;rw[bC,←S5 h1]
def vF:List L→Option (List L):=fun ls=>match ls with
 |[.r rows,.s sep]=>match Ea rows with
  |some xs=>if xs.length≤140737488355328∧(Lib.join (xs.map (·.data.toList)) sep.data.toList).length≤140737488355328 then some [.s ⟨(Lib.join (xs.map (·.data.toList)) sep.data.toList).toArray⟩]else none
  |none=>none
 |_=>none
def amE:az:=⟨102,[.c (.p .sl (.v 0)),.c (.p .str (.v 1))],[],2,1,.v (.c (.p .str (.v 2))),[],vF,2022⟩
theorem aFu:amE.ok Tryz.prog:=by
 intro ls os hl hF dr;change vF ls=some os at hF;unfold vF at hF;split at hF
 · rename_i rows sep;split at hF
   · rename_i xs pO;split at hF
     · rename_i hc;cases hF;have tO:=S5 pO;refine eI.Lr (JB Tryz.func102 kr rfl) fun w M vals bj hv=> ?_
       obtain⟨u0,e0,r0⟩:=hv 0 _ rfl;obtain⟨u1,e1,r1⟩:=hv 1 _ rfl;have r0:RP (bad M _) w (.sl rows) u0:=r0;have r1:u1= .string sep:=Oc r1;subst r1;obtain rfl:vals= #[u0,.string sep]:=by
         obtain⟨l⟩:=vals
         match l,bj with
         |[a,b],_=>
          have e0:a=u0:=by simpa using e0
          have e1:b= .string sep:=by simpa using e1
          rw[e0,e1]
       by_cases hx:xs=[]
       · subst hx;obtain rfl:rows=[]:=tO
         cases r0 with
         |nil=>
          refine(Any.strings_Join_none Tryz.S6 Tryz.agd _ _ sep w).mono ?_;rintro e w' ⟨rfl,rfl⟩;exact⟨_,rfl,Below.refl _ _,RP.sc rfl⟩
         |row h0=>exact absurd rfl h0
       · cases r0 with
         |nil=>simp at tO;exact absurd tO.symm (by intro h;exact hx (by simpa using h))
         | @row _ g o cap sz f h0 hl2 hm hs hcc tI=>
          have aIw:sz=1:=by
           obtain⟨y,ys,rfl⟩:=SE hx;have:=hs [.sc (.string y)] (by rw[tO];simp);simpa using this.symm
          subst aIw;have hlen:rows.length=xs.length:=by rw[tO];simp
          have CT:∀(j:Nat) x,xs[j]? =some x→w.cell? ⟨g,o+j,none⟩=some (.string x):=fun j x hj=>by
           have h1:rows[j]? =some [.sc (.string x)]:=by rw[tO,bO,hj];rfl
           have h2:=hcc j _ 0 (.sc (.string x)) h1 rfl;have h3:=RP.dv (tI j _ 0 (.sc (.string x)) h1 rfl);rw[h3]at h2;simpa using h2.1
          have fL:g<w.heap.size:=by
           obtain⟨y,ys,rfl⟩:=SE hx;have:=CT 0 y rfl;exact aqo this
          rw[hlen];refine(Any.strings_Join Tryz.S6 Tryz.agd g o cap xs sep w CT fL hc.1 om hc.2).mono ?_;rintro e w' ⟨rfl,hb⟩;exact⟨_,rfl,hb,RP.sc rfl⟩
     · cases hF
   · cases hF
 · cases hF
end
section
open Go.RowKit
open Classical
def Qz (b:Bool):ag:=⟨[.v (.c (.p .sl (.v 0))),.aj [],.v (.c .nil),.v (.c (.p .sl (.v 0))),.v (.c (.p .bool (.b b))),.aj [],.aj [],.aj []],[],[],8,1⟩
def ags :Code:=
          (Code.region 3
                #[{ dst :=some 5,op:=Op.buildSlice 71 0 #[],type:=71,pos:= "slices.go:362",after:= #[],
                    guard:=none},
                  { dst:=some 6,op:=Op.move (Operand.tmp 0),type:=71,pos:= "slices.go:362",after:= #[],
                    guard:=none},
                  { dst :=some 7,
                    op:=
                      Op.call
                        { callee:=Callee.builtin Builtin.append,args:= #[Operand.tmp 5,Operand.tmp 6],
                          argTypes:= #[71,71]},
                    type:=71,pos:= "slices.go:362",
                    after:= #[{on:=0,ground:=Ground.data},{on:=1,ground:=Ground.data}],guard:=none},
                  { dst :=some 2,op:=Op.assign (Operand.tmp 7),type:=71,pos:= "slices.go:362",
                    after:=
                      #[{on:=2,ground:=Ground.data},{on:=2,ground:=Ground.chain},
                        {on:=0,ground:=Ground.phase},{on:=1,ground:=Ground.phase},
                        {on:=2,ground:=Ground.phase}],
                    guard:=none}]
                false).seq
            Code.ret
def JY:ad:= .op (.lit []) (.op (.app (.v 1) (.v 0) 1 1) (.ar (.jump 0 [(.v 2)])))
theorem aFj:Ap TT [] ags 0 [.tmp 2] (Qz false)=some ⟨JY,(.v (.c (.own 0))),[(0,(.row 5 (.v 1)))],1⟩:=kr
theorem aBn (rows:List (List PV)) (hR:bA 1 rows=true) (hb:rows.length*1≤140737488355328):
    eI Tryz.prog 196 [.c (.p (.sl rows))] [] (.v (.c (.own 0))) [(0,.row 5 rows)]:=by
  refine eI.intro Tryz.func196 kr rfl rfl rfl fun X hP bR=>vU ?_
  refine fA ?_;refine vb (Sp:=fun _=>none) rfl rfl ?_;refine fA ?_;refine fA ?_;refine Pr (rows:=rows) (e:=5) rfl (by show 3<8;decide) (by rw[hP];exact Tryz.underlying71) ?_;intro b gD;show Aw X (.cond _ _ _) _ ((Qz b).aa [.r rows]);refine vV (t:=b) rfl (fun h=> ?_) (fun h=> ?_)
  · subst h;cases gD rfl;refine fA (vb (Sp:=fun _=>none) rfl rfl (vd ?_));show∃st',_;refine⟨⟨[.v (.c .dead),.v (.c .dead),.v (.c (.own 0)),.v (.c .dead),.v (.c .dead),.v (.c .dead),.v (.c .dead),.v (.c .dead)],[(0,.row 5 [])],[],16⟩,oj.le (ι:=[]) (Z:=[0]) rfl ?_,trivial,rfl,fun n b h=>h⟩;have CQ:X.k0=0:=bR;rw[CQ,hP];exact{
            ao:=rfl,old:=by simp[Ren.old],new:=by simp[Ren.new],zs:=fun n hn=>by
              simp at hn;subst hn;exact⟨by simp[Ren.new],p6 _,by simp,5,rfl,dz kr⟩
            lt:=fun x hx=>by simp at hx
            k0:=p6 _
            tmps:=by
              refine⟨trivial,trivial,?_,trivial,trivial,trivial,trivial,trivial,trivial⟩;exact eS.2 rfl
            heap:=fun n b h=> .inl (by
              simp only[eR,oQ]at h;split at h
              · rename_i hn;simp at hn;subst hn;simp
              · cases h)}
  · subst h;refine EK ?_;show Aw X ags _ ((Qz false).aa [.r rows]);have hd:gn (JY.aa [.r rows])=some [.r rows]:=by
      simp[JY,ad.aa,Nd.ev,At.ev,L.ah,gn];rw[au ⟨om,om,rfl,hR⟩];rfl
    refine lV (Jl iU .nil AB rfl aFj (ls:=[.r rows]) (os:=[.r rows]) rfl hd hP bR) fun e st h=> ⟨st,fun _ _ h=>h,h⟩
def qT:List L→Option (List L):=fun ls=>match ls with
  |[.r rows]=>if bA 1 rows=true∧rows.length*1≤140737488355328 then some []else none
  |_=>none
def aAV:az:=⟨196,[.c (.p .sl U0)],[],1,0,.v (.c (.own 0)),[(0,.row 5 U0)],qT,2010⟩
theorem ZJ:aAV.ok Tryz.prog:=by
  intro ls os hl hF dr;have hF:qT ls=some os:=hF;unfold qT at hF;split at hF
  · rename_i rows;split at hF
    · rename_i hc;cases hF;exact aBn _ hc.1 hc.2
    · cases hF
  · cases hF
def NN (b:Bool):ag:=⟨[.v (.c (.p .sl (.v 0))),.aj [],.v (.c .nil),.v (.c (.p .sl (.v 0))),.v (.c (.p .bool (.b b))),.aj [],.aj [],.aj []],[],[],8,1⟩
def Xl :Code:=
          (Code.region 3
                #[{ dst :=some 5,op:=Op.buildSlice 71 0 #[],type:=71,pos:= "bytes.go:1395",after:= #[],
                    guard:=none},
                  { dst:=some 6,op:=Op.move (Operand.tmp 0),type:=71,pos:= "bytes.go:1395",after:= #[],
                    guard:=none},
                  { dst :=some 7,
                    op:=
                      Op.call
                        { callee:=Callee.builtin Builtin.append,args:= #[Operand.tmp 5,Operand.tmp 6],
                          argTypes:= #[71,71]},
                    type:=71,pos:= "bytes.go:1395",
                    after:= #[{on:=0,ground:=Ground.data},{on:=1,ground:=Ground.data}],guard:=none},
                  { dst :=some 2,op:=Op.assign (Operand.tmp 7),type:=71,pos:= "bytes.go:1395",
                    after:=
                      #[{on:=2,ground:=Ground.data},{on:=2,ground:=Ground.chain},
                        {on:=0,ground:=Ground.phase},{on:=1,ground:=Ground.phase},
                        {on:=2,ground:=Ground.phase}],
                    guard:=none}]
                false).seq
            Code.ret
def NR:ad:= .op (.lit []) (.op (.app (.v 1) (.v 0) 1 1) (.ar (.jump 0 [(.v 2)])))
theorem aqn:Ap TT [] Xl 0 [.tmp 2] (NN false)=some ⟨NR,(.v (.c (.own 0))),[(0,(.row 5 (.v 1)))],1⟩:=kr
theorem atT (rows:List (List PV)) (hR:bA 1 rows=true) (hb:rows.length*1≤140737488355328):
    eI Tryz.prog 150 [.c (.p (.sl rows))] [] (.v (.c (.own 0))) [(0,.row 5 rows)]:=by
  refine eI.intro Tryz.func150 kr rfl rfl rfl fun X hP bR=>vU ?_
  refine fA ?_;refine vb (Sp:=fun _=>none) rfl rfl ?_;refine fA ?_;refine fA ?_;refine Pr (rows:=rows) (e:=5) rfl (by show 3<8;decide) (by rw[hP];exact Tryz.underlying71) ?_;intro b gD;show Aw X (.cond _ _ _) _ ((NN b).aa [.r rows]);refine vV (t:=b) rfl (fun h=> ?_) (fun h=> ?_)
  · subst h;cases gD rfl;refine fA (vb (Sp:=fun _=>none) rfl rfl (vd ?_));show∃st',_;refine⟨⟨[.v (.c .dead),.v (.c .dead),.v (.c (.own 0)),.v (.c .dead),.v (.c .dead),.v (.c .dead),.v (.c .dead),.v (.c .dead)],[(0,.row 5 [])],[],16⟩,oj.le (ι:=[]) (Z:=[0]) rfl ?_,trivial,rfl,fun n b h=>h⟩;have CQ:X.k0=0:=bR;rw[CQ,hP];exact{
            ao:=rfl,old:=by simp[Ren.old],new:=by simp[Ren.new],zs:=fun n hn=>by
              simp at hn;subst hn;exact⟨by simp[Ren.new],p6 _,by simp,5,rfl,dz kr⟩
            lt:=fun x hx=>by simp at hx
            k0:=p6 _
            tmps:=by
              refine⟨trivial,trivial,?_,trivial,trivial,trivial,trivial,trivial,trivial⟩;exact eS.2 rfl
            heap:=fun n b h=> .inl (by
              simp only[eR,oQ]at h;split at h
              · rename_i hn;simp at hn;subst hn;simp
              · cases h)}
  · subst h;refine EK ?_;show Aw X Xl _ ((NN false).aa [.r rows]);have hd:gn (NR.aa [.r rows])=some [.r rows]:=by
      simp[NR,ad.aa,Nd.ev,At.ev,L.ah,gn];rw[au ⟨om,om,rfl,hR⟩];rfl
    refine lV (Jl iU .nil AB rfl aqn (ls:=[.r rows]) (os:=[.r rows]) rfl hd hP bR) fun e st h=> ⟨st,fun _ _ h=>h,h⟩
def yM:List L→Option (List L):=fun ls=>match ls with
  |[.r rows]=>if bA 1 rows=true∧rows.length*1≤140737488355328 then some []else none
  |_=>none
def auH:az:=⟨150,[.c (.p .sl U0)],[],1,0,.v (.c (.own 0)),[(0,.row 5 U0)],yM,2011⟩
theorem abv:auH.ok Tryz.prog:=by
  intro ls os hl hF dr;have hF:yM ls=some os:=hF;unfold yM at hF;split at hF
  · rename_i rows;split at hF
    · rename_i hc;cases hF;exact atT _ hc.1 hc.2
    · cases hF
  · cases hF
def C.ec (rows:List (List PV)):C→Option C
 | .own 0=>some (.p (.sl rows))
 | .p q=>some (.p q)
 | .nil=>some .nil
 |_=>none
def V1.ec (rows:List (List PV)):V1→Option V1
 | .c y=> (y.ec rows).map .c
 | .agg cs=> (cs.mapM (C.ec rows)).map .agg
def V.ec (rows:List (List PV)):V→Option V
 | .v x=> (x.ec rows).map .v
 | .aj xs=> (xs.mapM (V1.ec rows)).map .aj
theorem mapM_at {α β:Type} {f:α→Option β}:∀{l:List α} {m:List β},l.mapM f=some m→m.length=l.length∧∀(i:Nat) (y:β),m[i]? =some y→∃x,l[i]? =some x∧f x=some y
 |[],m,h=>by simp at h;subst h;simp
 | a::l,m,h=>by
  simp only[je]at h
  cases h1:f a with
  |none=>simp[h1]at h
  | some b=>
   cases h2:l.mapM f with
   |none=>simp[h1,h2]at h
   |some bs=>
    simp[h1,h2]at h;subst h;obtain⟨k1,k2⟩:=mapM_at h2;refine⟨by simp[k1],fun i y hy=> ?_⟩
    match i with
    |0=>simp at hy;subst hy;exact⟨a,rfl,h1⟩
    |i+1=>simp at hy;simpa using k2 i y hy
theorem eI.ec {P:aQ} {f:FuncId} {args:List V1} {e:aw} {rows:List (List PV)} {r r':V} (h:eI P f args [] r [(0,.row e rows)]) (hz:r.ec rows=some r'):eI P f args [] r' []:=by
 refine⟨h.own,fun w M N vals h1 h2 h3 h4 h5 h6 h7=> (h.call w M N vals h1 h2 h3 h4 h5 h6 h7).mono ?_⟩;rintro _ w' ⟨v,E',rfl,pM,fL,hH,hv⟩;obtain⟨x,cur,fz,k1,ca,k2,k3,k4,k5,k6,k7,k8,k9,ik,lE⟩:=hH 0 _ rfl;have hst:iB (bad M E') (bad M ⟨fun _=>none,[]⟩) w' w':=fun g o u q1 q2=> ⟨q1,fun q3=>q2 (by
  rcases q3 with q3| ⟨n,z,q4,_⟩
  · exact .inl q3
  · cases q4)⟩
 have hC :∀c c' u,RC M E' w' c u→c.ec rows=some c'→RC M ⟨fun _=>none,[]⟩ w' c' u:=fun c c' v hc hf=>by
  unfold C.ec at hf;split at hf
  · cases hf;obtain⟨y,j1,j2⟩:=bT.get (show RC M E' w' (.own 0) v from hc) (by rw[fL.ao];simp);rw[k1]at j1;cases j1;show RP _ w' (.sl rows) v;rw[j2];by_cases h0:rows=[]
    · subst h0;rw[k3];exact .nil
    · cases hg:x.g with
      |none=>
       have:=ik hg;have:rows.length=0:=om;exact absurd (iq this) h0
      |some g=>
       have hr:=N8 (M:=bad M E') (o:=0) (k2 g hg) om k5 k9 (fun i r j p hi hj=>by simpa using lE i r j p hi hj);rw[k3];refine Rows.rp hr (fun g' hg'=>by
         rcases hg' with q| ⟨n,z,q,_⟩
         · exact .inl q
         · cases q) ?_
       rintro g' o n c he hb;simp at he;obtain⟨⟨rfl,rfl⟩,_⟩:=he;rcases hb with hb| ⟨n,z,q,_⟩
       · have:=h1 g hb;rcases(fL.names 0 x g k1 hg).2 with⟨m,z,q,_⟩|q
         · exact absurd (h2 m z q) (qb m)
         · omega
       · cases q
  · cases hf;exact RP.trans hc hst
  · cases hf;exact hc
  · cases hf
 have hV1:∀c c' u,dq M E' w' c u→c.ec rows=some c'→dq M ⟨fun _=>none,[]⟩ w' c' u:=fun c c' v hc hf=>by
  cases c with
  | c c=>
    simp only[V1.ec,aW]at hf;obtain⟨d,hd,rfl⟩:=hf;exact hC _ _ _ hc hd
  | agg cs=>
    simp only[V1.ec,aW]at hf;obtain⟨d,hd,rfl⟩:=hf;obtain⟨us,rfl,bj,cS⟩:=hc;obtain⟨m1,m2⟩:=mapM_at hd;refine⟨us,rfl,by rw[m1];exact bj,fun i c hi=> ?_⟩;obtain⟨c0,e0,e1⟩:=m2 i c hi;obtain⟨u,q1,q2,q3⟩:=cS i c0 e0;exact⟨u,q1,hC _ _ _ q2 e1,q3⟩
 refine⟨v,⟨fun _=>none,[]⟩,rfl,pM,⟨rfl,fun n z g hz=> (by cases hz),fun n m z z' g hz=> (by cases hz),fun m hm=>absurd hm (qb m)⟩,fun n b hb=> (by cases hb),?_⟩
 cases r with
 |v c=>
  simp only[V.ec,aW]at hz;obtain⟨d,hd,rfl⟩:=hz;exact hV1 _ _ _ hv hd
 |aj xs=>
  simp only[V.ec,aW]at hz;obtain⟨d,hd,rfl⟩:=hz;obtain⟨us,rfl,bj,cS⟩:=hv;obtain⟨m1,m2⟩:=mapM_at hd;refine⟨us,rfl,by rw[m1];exact bj,fun i c hi=> ?_⟩;obtain⟨c0,e0,e1⟩:=m2 i c hi;obtain⟨u,q1,q2⟩:=cS i c0 e0;exact⟨u,q1,hV1 _ _ _ q2 e1⟩
def SC.ec (x:At):SC→SC
 | .own 0=> .p .sl x
 |c=>c
def aB.ec (x:At):aB→aB
 | .c y=> .c (y.ec x)
 | .agg cs=> .agg (cs.map (SC.ec x))
def SV.ec (x:At):SV→SV
 | .v y=> .v (y.ec x)
 | .aj ys=> .aj (ys.map (aB.ec x))
def SC.nV:SC→Bool
 | .own 0=>true| .p _ _=>true| .nil=>true|_=>false
def aB.nV:aB→Bool
 | .c y=>y.nV| .agg cs=>cs.all SC.nV
def SV.nV:SV→Bool
 | .v y=>y.nV| .aj ys=>ys.all aB.nV
theorem mapM_map {α α' β β':Type} {g:α→β} {g':α'→β'} {F:β→Option β'} {s:α→α'} {l:List α} (h:∀a∈l,F (g a)=some (g' (s a))):(l.map g).mapM F=some ((l.map s).map g'):=by
 induction l with
 |nil=>rfl
 |cons a l ih=>simp[je,h a ek,ih fun b hb=>h b (fb _ hb)]
theorem SC.uU {ρ:List L} {x:At} {c:SC} (h:c.nV=true):(c.aa ρ).ec (x.ev ρ).ah=some ((c.ec x).aa ρ):=by
 unfold SC.nV at h;split at h<;>first|rfl|cases h
theorem aB.uU {ρ:List L} {x:At} {c:aB} (h:c.nV=true):(c.aa ρ).ec (x.ev ρ).ah=some ((c.ec x).aa ρ):=by
 cases c with
 |c c=>show(C.ec _ _).map _=_;rw[SC.uU h];rfl
 |agg cs=>show Option.map _ (List.mapM _ (List.map _ _))=_;rw[mapM_map (s:=SC.ec x) (g':=SC.aa ρ) fun a ha=>SC.uU (bk.1 h a ha)];rfl
theorem SV.uU {ρ:List L} {x:At} {c:SV} (h:c.nV=true):(c.aa ρ).ec (x.ev ρ).ah=some ((c.ec x).aa ρ):=by
 cases c with
 |v c=>show(V1.ec _ _).map _=_;rw[aB.uU h];rfl
 |aj cs=>show Option.map _ (List.mapM _ (List.map _ _))=_;rw[mapM_map (s:=aB.ec x) (g':=aB.aa ρ) fun a ha=>aB.uU (bk.1 h a ha)];rfl
theorem Es {P:aQ} {s:az} (h:s.ok P) (hH:s.H=[]) {x:At} {e:aw} (hr:s.res.nV=true) (ho:s.out=[(0,.row e x)]) (tag:Nat):
  az.ok P ⟨s.f,s.params,[],s.cE,s.gG,s.res.ec x,[],s.F,tag⟩:=by
 intro ls os hl hF dr;have:=h ls os hl hF dr;rw[hH,ho]at this;exact eI.ec this (SV.uU hr)
end
section
open Go.RowKit
def ld:List Nat:=[1,2,4,8,16,32,64,128,29,58,116,232,205,135,19,38,76,152,45,90,180,117,234,201,143,3,6,12,24,48,96,192,157,39,78,156,37,74,148,53,106,212,181,119,238,193,159,35,70,140,5,10,20,40,80,160,93,186,105,210,185,111,222,161,95,190,97,194,153,47,94,188,101,202,137,15,30,60,120,240,253,231,211,187,107,214,177,127,254,225,223,163,91,182,113,226,217,175,67,134,17,34,68,136,13,26,52,104,208,189,103,206,129,31,62,124,248,237,199,147,59,118,236,197,151,51,102,204,133,23,46,92,184,109,218,169,79,158,33,66,132,21,42,84,168,77,154,41,82,164,85,170,73,146,57,114,228,213,183,115,230,209,191,99,198,145,63,126,252,229,215,179,123,246,241,255,227,219,171,75,150,49,98,196,149,55,110,220,165,87,174,65,130,25,50,100,200,141,7,14,28,56,112,224,221,167,83,166,81,162,89,178,121,242,249,239,195,155,43,86,172,69,138,9,18,36,72,144,61,122,244,245,247,243,251,235,203,139,11,22,44,88,176,125,250,233,207,131,27,54,108,216,173,71,142]
def wS:List Nat:=[255,0,1,25,2,50,26,198,3,223,51,238,27,104,199,75,4,100,224,14,52,141,239,129,28,193,105,248,200,8,76,113,5,138,101,47,225,36,15,33,53,147,142,218,240,18,130,69,29,181,194,125,106,39,249,185,201,154,9,120,77,228,114,166,6,191,139,98,102,221,48,253,226,152,37,179,16,145,34,136,54,208,148,206,143,150,219,189,241,210,19,92,131,56,70,64,30,66,182,163,195,72,126,110,107,58,40,84,250,133,186,61,202,94,155,159,10,21,121,43,78,212,229,172,115,243,167,87,7,112,192,247,140,128,99,13,103,74,222,237,49,197,254,24,227,165,153,119,38,184,180,124,17,68,146,217,35,32,137,46,55,63,209,91,149,188,207,205,144,135,151,178,220,252,190,97,242,86,211,171,20,42,93,158,132,60,57,83,71,109,65,162,31,45,67,216,183,123,164,118,196,23,73,236,127,12,111,246,108,161,59,82,41,157,85,170,251,96,134,177,187,204,62,90,203,89,95,176,156,169,160,81,11,245,22,235,122,117,44,215,79,174,213,233,230,231,173,232,116,214,244,234,168,80,88,175]
def FQ:Code→Option Code
 | .seq a b=> (FQ a).or (FQ b)
 | .block _ c=>FQ c
 | .loop c=>some c
 |_=>none
noncomputable def Ge:Code:=(Tryz.f333.body.bind FQ).getD .skip
noncomputable def jy (k:Nat):Array Oper:=(Tryz.f333.body.bind fun c=>qU c k).getD #[]
noncomputable def acp:Code:=(Code.region 0 (jy 0) false).seq ((Code.region 1 (jy 1) false).seq (((Code.region 2 (jy 2) false).seq (.block 0 (.loop Ge))).seq ((Code.region 11 (jy 11) true).seq .ret)))
theorem ali:Tryz.f333.body=some acp:=kr
def EE (i:Nat):List SC:=(ld.take i++List.replicate (255-i) 0).map fun x=> .p (.int .u8) (.i (x:Nat))
def Vf (i:Nat):List SC:=wS.map fun n=> .p (.int .i64) (.i ((cond (Nat.blt n i) n 0:Nat)))
def ob (i:Nat):ag:=⟨.v (.c (.ptr 0 0)):: .v (.c (.ptr 1 0)):: .v (.c (.p (.int .i64) (.i ((ld.getD i 1:Nat))))):: .v (.c .dead):: .v (.c (.p (.int .i64) (.i (i:Nat))))::List.replicate 24 (.v (.c .dead)),[(0,.box (EE i++EE i)),(1,.box (Vf i))],[],2,0⟩
def TN:List (Nat×Nat):=[(0,0),(1,1)]
def EZ (e:Bool) (c:Code) (S S':ag):Bool:=match exec TT [] 0 c 0xFFFFFFFFFF [] 3 S with
 |some (.ar (.st .normal S1))=> !e&&S1.ao.isEmpty&&uC [] TT 0 S1 S' 0 [] TN []
 |some (.ar (.st (.exit 0) S1))=>e&&S1.ao.isEmpty&&uC [] TT 0 S1 S' 0 [] TN []
 |_=>false
noncomputable def ja (i:Nat):Bool:=EZ false Ge (ob i) (ob (i+1))
end
end
end Go.Proofs.YtndegphojkiblaaGreatDoor
