/- A part of the proof. -/
import Derived.Test.YtndegphojkiblaaGreatDoorG18
set_option linter.all false
set_option maxHeartbeats 4000000
set_option maxRecDepth 100000
namespace Go.Proofs.YtndegphojkiblaaGreatDoor
noncomputable section
section
open Go.RowKit Go.Shelf
attribute [local go_sem] Oper.semAt_some
def tb (a:Nat):Nat:=7+a*(11-a) /2
theorem adM:∀{a},a<6→tb a+(5-a)=tb (a+1):=by decide
set_option maxRecDepth 100000 in
set_option maxHeartbeats 1000000 in
theorem amS (m) (hm:1≤m) (l) (J:Nat→a7→Prop) (Jx:a7→Prop)
   (hY0:∀W,J 0 W→YieldAt Fence.wide (m-1) Tryz.prog l #[.slice none 0 0] W
    fun e W'=> (e= .returned (.bool true)∧J 1 W')∨(e= .returned (.bool false)∧Jx W'))
   (hY1:∀(a) W,a<6→J (1+a) W→YieldAt Fence.wide (m-1) Tryz.prog l #[.slice (some ⟨W.heap.size,0,none⟩) 1 1] (W.alloc (.cells #[.int .i64 a] 3))
    fun e W'=> (e= .returned (.bool true)∧J (1+a+1) W')∨(e= .returned (.bool false)∧Jx W'))
   (hY2:∀(a b) W,a<b→b<6→J (tb a+(b-a-1)) W→YieldAt Fence.wide (m-1) Tryz.prog l #[.slice (some ⟨W.heap.size,0,none⟩) 2 2] (W.alloc (.cells #[.int .i64 a,.int .i64 b] 3))
    fun e W'=> (e= .returned (.bool true)∧J (tb a+(b-a-1)+1) W')∨(e= .returned (.bool false)∧Jx W'))
   (W) (hJ:J 0 W):
   CallsIn Fence.wide m Tryz.prog 163 #[.func (.yield l) #[] #[]] W fun e W'=> (∃v,e= .returned v)∧(J 22 W'∨Jx W'):=by
 refine callsIn_of_wp Tryz.func163 rfl trivial ?_ rfl;simp only[Tryz.ntmps163,rC,ir,nj,Nat.reduceAdd,Nat.reduceSub,PD,PE,PF,PG,mm,tg];obtain⟨fn,tmps,assign,body,hy,hR⟩:=hY0 W hJ
 gi_wp2
 refine hR.mono ?_;rintro e W1 (⟨rfl,hJ1⟩| ⟨rfl,hx⟩)
 · clear hR hy
   gi_wp2
   gi_loopw [8] (fun i wr=>∃t:Nat,t≤6∧i= .int .i64 t∧J (1+t) wr) (fun i _=>6- (intOf i).toNat)
   case atStart=>exact⟨0,om,rfl,hJ1⟩
   case round=>
    obtain⟨t,ht,rfl,pK⟩:=hrel;by_cases hlt:t<6
    · have k1:(t:Int)<6:=om;obtain⟨fn,tmps,assign,body,hy,hR⟩:=hY1 t _ hlt pK
      gi_wp2
      refine hR.mono ?_;rintro e W3 (⟨rfl,hJ3⟩| ⟨rfl,hx⟩)
      · gi_wp2
        go_roundw
        case rel=>exact⟨t+1,om,by go_num,by exact hJ3⟩
        case measure=>simp[intOf];omega
      · gi_wp2
        exact bodyPost_ret (results_none rfl _ _ _) rfl ⟨⟨_,rfl⟩,.inr hx⟩
    · obtain rfl:t=6:=om
      gi_wp2
      (try simp only[abR])
      gi_loopw [17] (fun i wr=>∃t:Nat,t≤6∧i= .int .i64 t∧J (tb t) wr) (fun i _=>6- (intOf i).toNat)
      case atStart=>exact⟨0,om,rfl,pK⟩
      case round=>
        clear pK hJ1;obtain⟨t,ht,rfl,pK⟩:=hrel;by_cases hlt:t<6
        · have k1:(t:Int)<6:=om
          gi_wp2
          (try simp only[abR])
          gi_loopw [4] (fun i wr=>∃b:Nat,t<b∧b≤6∧i= .int .i64 b∧J (tb t+(b-t-1)) wr) (fun i _=>6- (intOf i).toNat)
          case atStart=>exact⟨t+1,om,om,by go_num,by rw[show t+1-t-1=0 by omega];exact pK⟩
          case round=>
           clear pK;obtain⟨b,hb1,hb2,rfl,pK⟩:=hrel;by_cases vS:b<6
           · have k2:(b:Int)<6:=om;obtain⟨fn,tmps,assign,body,hy,hR⟩:=hY2 t b _ hb1 vS pK
             gi_wp2
             refine hR.mono ?_;rintro e W3 (⟨rfl,hJ3⟩| ⟨rfl,hx⟩)
             · gi_wp2
               go_roundw
               case rel=>exact⟨b+1,om,om,by go_num,by rw[show b+1-t-1=b-t-1+1 by omega];exact hJ3⟩
               case measure=>simp[intOf];omega
             · gi_wp2
               exact bodyPost_ret (results_none rfl _ _ _) rfl ⟨⟨_,rfl⟩,.inr hx⟩
           · obtain rfl:b=6:=om;have hn:J (tb (t+1)) wr:=by rw[←adM hlt,show 5-t=6-t-1 by omega];exact pK
             gi_wp2
             go_roundw
             case rel=>exact⟨t+1,om,by go_num,hn⟩
             case measure=>simp[intOf];omega
        · obtain rfl:t=6:=om
          gi_wp2
          exact bodyPost_end (results_none rfl _ _ _) rfl ⟨⟨_,rfl⟩,.inl pK⟩
 · gi_wp2
   exact bodyPost_ret (results_none rfl _ _ _) rfl ⟨⟨_,rfl⟩,.inr hx⟩
end
section
open Go.RowKit
open Classical
def pW:Code→Nat→Option (Array Oper)
 | .region id ops _,k=>if id=k then some ops else none
 | .seq a b,k=> (pW a k).or (pW b k)
 | .cond _ a b,k=> (pW a k).or (pW b k)
 | .block _ c,k=>pW c k
 | .rangeFunc _ _ a b,k=> (pW a k).or (pW b k)
 |_,_=>none
noncomputable def a54 (k:Nat):Array Oper:=(Tryz.f54.body.bind fun c=>pW c k).getD #[]
noncomputable def yl:Code:=(Code.region 1 (a54 1) false).seq (.cond (.tmp 24) ((Code.region 2 (a54 2) false).seq .ret) .skip)
noncomputable def G7:Code:= .block 1 ((Code.region 5 (a54 5) false).seq ((Code.region 6 (a54 6) false).seq (.cond (.tmp 37) ((Code.region 7 (a54 7) false).seq .ret) .skip)))
noncomputable def arC:Code:= .rangeFunc (.tmp 26) #[27] (.region 4 (a54 4) false) G7
noncomputable def c54:Code:=(Code.region 0 (a54 0) false).seq (yl.seq (((Code.region 3 (a54 3) false).seq (.block 0 arC)).seq ((Code.region 8 (a54 8) false).seq .ret)))
theorem ajX:Tryz.f54.body=some c54:=kr
def BZ:SV:= .v (.c .dead)
def qI:List SC:=[0,1,2,3].map (fun n=>SC.p (.int .i64) (.v n))++ [4,5,6,7,8,9].map (fun n=>SC.p (.int .u32) (.v n))++ [.p .sl (.v 10)]
def x4 (n:Nat):List SC:=[.p (.int .u64) (.v n),.p (.int .u32) (.v (n+1)),.p (.int .i64) (.v (n+2)),.p (.int .i64) (.v (n+3))]
def XK (F:List L→Option (List L)) (t:Nat):au:=⟨105,[.agg qI,.c (.p .sl (.v 11)),.c (.p .sl (.v 12))],[],13,1,.v (.c (.p .bool (.v 13))),[],F,t⟩
def QG (F:List L→Option (List L)) (t:Nat):au:=⟨106,[.c (.p .sl (.v 0)),.agg (x4 1)],[],5,1,.v (.c (.p .bool (.v 5))),[],F,t⟩
def Qb (F:List L→Option (List L)) (t:Nat):au:=⟨107,[],[],0,0,.v (.c (.fn 163 [])),[],F,t⟩
def Y_ (F:List L→Option (List L)) (t:Nat):au:=⟨108,[.agg qI,.c (.p .sl (.v 11)),.c (.p .sl (.v 12)),.c (.p .sl (.v 13)),.agg (x4 14)],[],18,5,.aj [.agg [.p (.int .u64) (.v 19),.p (.int .u32) (.v 20),.p .bool (.v 21),.own 0],.c (.p .bool (.v 18))],[(0,.row 5 (.v 22))],F,t⟩
def la (F105 F106 F107 F108:List L→Option (List L)) (t105 t106 t107 t108:Nat):cK:=[XK F105 t105,QG F106 t106,Qb F107 t107,Y_ F108 t108]
def qC:cK:=la (fun _=>none) (fun _=>none) (fun _=>none) (fun _=>none) 0 0 0 0
def wy:List SV:=List.replicate 4 BZ++([.v (.c (.ptr 0 0)),.v (.c (.ptr 1 0)),.v (.c (.ptr 2 0)),.v (.c (.ptr 3 0)),.v (.c (.ptr 4 0)),.v (.c (.ptr 5 0))]++(List.replicate 16 BZ++(.v (.c (.fn 163 []))::List.replicate 13 BZ)))
def Sz:bY:=[(0,.box qI),(1,.box [.p .sl (.v 11)]),(2,.box [.p .sl (.v 12)]),(3,.box (x4 13))]
def jT:af:=⟨wy,Sz++ [(4,.box [.p (.int .u64) (.i 0),.p (.int .u32) (.i 0),.p .bool (.b false),.nil]),(5,.box [.p (.int .i64) (.i 0)])],[],6,17⟩
def xZ:af:=⟨wy.set 27 (.v (.c (.p .sl (.v 17)))),jT.heap,[],6,18⟩
def A6:af:=⟨wy,Sz++ [(4,.box [.p (.int .u64) (.v 17),.p (.int .u32) (.v 18),.p .bool (.v 19),.own 6]),(5,.box [.p (.int .i64) (.i 0)]),(6,.row 5 (.v 20))],[],7,21⟩
def Bk:af:=⟨List.replicate 8 BZ++(.v (.c (.ptr 1 0)):: .v (.c (.ptr 2 0))::List.replicate 30 BZ),[(1,.box [.p (.int .u64) (.v 17),.p (.int .u32) (.v 18),.p .bool (.v 19),.own 0]),(2,.box [.p (.int .i64) (.v 20)]),(0,.row 5 (.v 21))],[],3,22⟩
def ae.nx (e:Bool):ae→Option af
 | .ak (.st .normal S)=>if e then none else some S
 | .ak (.st .ret S)=>if e then some S else none
 | .ak _=>none
 | .op _ k=>k.nx e
 | .ite _ a b=> (a.nx e).or (b.nx e)
 | .join _ b=>b.nx e
 | .loop _ _=>none
def nx (e:Bool) (o:Option ae):af:=(o.bind (ae.nx e)).getD default
noncomputable def AZ:af:=sh 40 17 [.agg qI,.c (.p .sl (.v 11)),.c (.p .sl (.v 12)),.agg (x4 13)] []
noncomputable def Cg:af:=nx false (dH TT qC (a54 0) false AZ)
noncomputable def Ai:af:=nx false (exec TT qC 0 yl 0xFFFFFFFFFF [] 768 Cg)
noncomputable def AK:af:=nx true (exec TT qC 0 yl 0xFFFFFFFFFF [] 768 Cg)
noncomputable def GH:af:=nx false (dH TT qC (a54 3) false Ai)
noncomputable def wK:af:=nx false (dH TT qC (a54 4) false xZ)
noncomputable def AN:af:=nx false (dH TT qC (a54 5) false wK)
noncomputable def Bt:af:=nx false (dH TT qC (a54 6) false AN)
noncomputable def XW:af:=nx false (dH TT qC (a54 7) false Bt)
noncomputable def Kg:af:=nx false (dH TT qC (a54 8) false jT)
section
variable (F105 F106 F107 F108:List L→Option (List L)) (t105 t106 t107 t108:Nat)
theorem anb:dH TT (la F105 F106 F107 F108 t105 t106 t107 t108) (a54 0) false AZ=some (.ak (.st .normal Cg)):=kr
noncomputable def tK:ae:= .join (.op (.call t105 F105 [.v 0,.v 1,.v 2,.v 3,.v 4,.v 5,.v 6,.v 7,.v 8,.v 9,.v 10,.v 11,.v 12] 1 []) (.op (.not (.v 17)) (.ite (.v 18) (.ak (.jump 0 [.v 17,.v 18,.b true,.b true])) (.op (.call t106 F106 [.v 10,.v 13,.v 14,.v 15,.v 16] 1 []) (.op (.not (.v 19)) (.ak (.jump 0 [.v 17,.v 18,.b false,.v 20]))))))) (.ite (.v 20) (.ak (.st .ret AK)) (.ak (.st .normal Ai)))
theorem UL:exec TT (la F105 F106 F107 F108 t105 t106 t107 t108) 0 yl 0xFFFFFFFFFF [] 768 Cg=some (tK F105 F106 t105 t106):=kr
theorem afC:dH TT (la F105 F106 F107 F108 t105 t106 t107 t108) (a54 3) false Ai=some (.op (.call t107 F107 [] 0 []) (.ak (.st .normal GH))):=kr
theorem afz:dH TT (la F105 F106 F107 F108 t105 t106 t107 t108) (a54 4) false xZ=some (.ak (.st .normal wK)):=kr
def Nr:Nd:= .call t108 F108 [.v 0,.v 1,.v 2,.v 3,.v 4,.v 5,.v 6,.v 7,.v 8,.v 9,.v 10,.v 11,.v 12,.v 17,.v 13,.v 14,.v 15,.v 16] 5 []
theorem afZ:dH TT (la F105 F106 F107 F108 t105 t106 t107 t108) (a54 5) false wK=some (.op (Nr F108 t108) (.ak (.st .normal AN))):=kr
theorem apq:dH TT (la F105 F106 F107 F108 t105 t106 t107 t108) (a54 6) false AN=some (.ak (.st .normal Bt)):=kr
theorem aph:dH TT (la F105 F106 F107 F108 t105 t106 t107 t108) (a54 7) false Bt=some (.ak (.st .normal XW)):=kr
theorem adO:dH TT (la F105 F106 F107 F108 t105 t106 t107 t108) (a54 8) false jT=some (.ak (.st .normal Kg)):=kr
end
theorem ave:jmp TT 0 17 jT 0 .normal GH=some (.ak (.jump 0 [])):=kr
theorem ajO:jmp TT 6 17 jT 0 .normal Bt=some (.ak (.jump 0 [])):=kr
theorem awD:jmp TT 6 17 A6 0 .normal XW=some (.ak (.jump 0 [.v 19,.v 20,.v 21,.v 22])):=kr
theorem awu:jmp TT 0 17 Bk 0 .normal AK=some (.ak (.jump 0 [.i 0,.i 0,.b false,.i 1,.r0])):=kr
theorem apo:jmp TT 0 17 Bk 0 .normal Kg=some (.ak (.jump 0 [.i 0,.i 0,.b false,.i 11,.r0])):=kr
theorem adl:jmp TT 0 17 Bk 0 .normal A6=some (.ak (.jump 0 [.v 17,.v 18,.v 19,.i 0,.v 20])):=kr
def C2 (ls:List L) (sk:List (List PV)):List L:=ls.take 13++ .r sk::ls.drop 13
def JO:List (List Nat):=[[],[0],[1],[2],[3],[4],[5],[0,1],[0,2],[0,3],[0,4],[0,5],[1,2],[1,3],[1,4],[1,5],[2,3],[2,4],[2,5],[3,4],[3,5],[4,5]]
def oI (k:Nat):List (List PV):=(JO.getD k []).map fun a=> [.sc (.int .i64 (a:Nat))]
theorem ahQ:∀a,a<6→JO.getD (1+a) []=[a]:=by decide
theorem agO:∀b,b<6→∀a,a<b→JO.getD (tb a+(b-a-1)) []=[a,b]∧tb a+(b-a-1)<22:=by decide
noncomputable def qD (F108:List L→Option (List L)) (ls:List L):Nat→Nat→Option (List L)
 |0,_=>some [.i 0,.i 0,.b false,.i 11,.r []]
 |n+1,k=>match F108 (C2 ls (oI k))with
  |some [ok,a,b,c,r]=>if ok.bx=true then some [a,b,c,.i 0,r]else qD F108 ls n (k+1)
  |_=>none
noncomputable def uD (F105 F106 F107 F108:List L→Option (List L)):List L→Option (List L):=fun ls=>
 if ls.length=17 then match F105 (ls.take 13)with
  | some [ok]=>if ok.bx=true then match F106 (ls.drop 10|>.take 1|>.append (ls.drop 13))with
    |some [c]=>if c.bx=true then(if F107 []=some []then qD F108 ls 22 0 else none)else some [.i 0,.i 0,.b false,.i 1,.r []]
    |_=>none
   else some [.i 0,.i 0,.b false,.i 1,.r []]
  |_=>none
 else none
noncomputable def Ey (F105 F106 F107 F108:List L→Option (List L)) (tag:Nat):au:=⟨54,[.agg qI,.c (.p .sl (.v 11)),.c (.p .sl (.v 12)),.agg (x4 13)],[],17,5,.aj [.agg [.p (.int .u64) (.v 17),.p (.int .u32) (.v 18),.p .bool (.v 19),.own 0],.c (.p (.int .i64) (.v 20))],[(0,.row 5 (.v 21))],uD F105 F106 F107 F108,tag⟩
variable {F105 F106 F107 F108:List L→Option (List L)} {t105 t106 t107 t108:Nat}
theorem aBd {l n} {X} {Q} {st} (h:Q .ret st):iD l n X .ret Q st:=fun _ _ ht=>wpIn_ret ⟨st,h,ht⟩
theorem GZ {ρ o} {t n} {F} {xs} (h:F (xs.map (At.ev ρ))=some o) (hn:o.length=n):Nd.ev ρ (.call t F xs n [])=some o:=by
 simp only[Nd.ev];simp_all
theorem apw (hC:cK.ok Tryz.prog (la F105 F106 F107 F108 t105 t106 t107 t108)) {ls} (cT:ls.length=17) {sk} {ok a b c r} (hd:F108 (C2 ls sk)=some [ok,a,b,c,r]) {X} (hP:X.P=Tryz.prog) (hk:X.k0=6) {l d}:
  iD l d X G7 (fun e st=> (ok.bx=false∧e= .normal∧st=jT.aa ls)∨(ok.bx=true∧e= .ret∧st=A6.aa (ls++ [a,b,c,r]))) (wK.aa (ls++ [.r sk])):=by
 match ls,cT with
 | [l0,l1,l2,l3,l4,l5,l6,l7,l8,l9,l10,l11,l12,l13,jo,jq,jr],_=>
  have h5:(ae.op (Nr F108 t108) (.ak (.st .normal AN))).aa ([l0,l1,l2,l3,l4,l5,l6,l7,l8,l9,l10,l11,l12,l13,jo,jq,jr]++ [.r sk])=some (.st .normal AN,[l0,l1,l2,l3,l4,l5,l6,l7,l8,l9,l10,l11,l12,l13,jo,jq,jr,.r sk,ok,a,b,c,r]):=by
    rw[ae.aa,show Nd.ev ([l0,l1,l2,l3,l4,l5,l6,l7,l8,l9,l10,l11,l12,l13,jo,jq,jr]++ [.r sk]) (Nr F108 t108)=some [ok,a,b,c,r]from GZ (F:=F108) (n:=5) (xs:=[.v 0,.v 1,.v 2,.v 3,.v 4,.v 5,.v 6,.v 7,.v 8,.v 9,.v 10,.v 11,.v 12,.v 17,.v 13,.v 14,.v 15,.v 16]) hd rfl];rfl
  refine Lr (VH (wR (qy hC kr (afZ F105 F106 F107 F108 t105 t106 t107 t108) kr h5 hP ?_)));refine wR (qy hC kr (apq F105 F106 F107 F108 t105 t106 t107 t108) kr (ρ':=[l0,l1,l2,l3,l4,l5,l6,l7,l8,l9,l10,l11,l12,l13,jo,jq,jr,.r sk,ok,a,b,c,r]) rfl hP ?_);refine YZ (t:=ok.bx) ((af.bH _ (show Bt.arg (.tmp 37)=some (.v (.c (.p .bool (.v 18))))by kernel_rfl)).trans rfl) (fun hb=> ?_) (fun hb=> ?_)
  · refine wR (qy hC kr (aph F105 F106 F107 F108 t105 t106 t107 t108) kr (ρ':=[l0,l1,l2,l3,l4,l5,l6,l7,l8,l9,l10,l11,l12,l13,jo,jq,jr,.r sk,ok,a,b,c,r]) rfl hP ?_);refine aBd ?_;obtain⟨xs1,zs,j1,_,_,j4⟩:=km fO (ρ:=[l0,l1,l2,l3,l4,l5,l6,l7,l8,l9,l10,l11,l12,l13,jo,jq,jr]) (ys:=[.r sk,ok,a,b,c,r]) rfl kr kr awD rfl;cases j1;exact⟨_,j4 X hP hk,.inr ⟨hb,rfl,rfl⟩⟩
  · refine RI ?_;obtain⟨xs1,zs,j1,_,_,j4⟩:=km fO (ρ:=[l0,l1,l2,l3,l4,l5,l6,l7,l8,l9,l10,l11,l12,l13,jo,jq,jr]) (ys:=[.r sk,ok,a,b,c,r]) rfl kr kr ajO rfl;cases j1;exact⟨_,j4 X hP hk,.inl ⟨hb,rfl,rfl⟩⟩
def M5 (F108:List L→Option (List L)) (ls os:List L) (Xb:Fx) (a0:Act) (l D:Nat) (rec:Loop) (k:Nat) (W:a7):Prop:=
 ∃E,qD F108 ls (22-k) k=some os∧Rel Xb E (jT.aa ls) a0 W∧E.off [l,D]∧W.heap[l]? =some (.loop rec)∧W.heap[D]? =some (.deferred (some []))
def Yh (ls os:List L) (Xb:Fx) (a0:Act) (l D:Nat) (rec:Loop) (W:a7):Prop:=
 ∃E a b c r,os=[a,b,c,.i 0,r]∧Rel Xb E (A6.aa (ls++ [a,b,c,r])) a0 W∧E.off [l,D]∧W.heap[l]? =some (.loop {rec with state:= .done,pending:=some .ret})∧W.heap[D]? =some (.deferred (some []))
theorem axQ (hC:cK.ok Tryz.prog (la F105 F106 F107 F108 t105 t106 t107 t108)) {ls} (cT:ls.length=17) (sk) {X} (hP:X.P=Tryz.prog) {l d}:
   iD l d X (.region 4 (a54 4) false) (fun e st=>e= .normal∧st=wK.aa (ls++ [.r sk])) (xZ.aa (ls++ [.r sk])):=by
 have h1:(ls++ [L.r sk]).length=xZ.nv:=by
   rw[bE,cT];rfl
 refine qy hC kr (afz F105 F106 F107 F108 t105 t106 t107 t108) h1 (ρ':=ls++ [.r sk]) (S':=wK) (e:= .normal) ?_ hP ?_
 · rfl
 simp_all
theorem tJ (ls):(jT.aa ls).tmps=wy.map (SV.aa []):=kr
theorem tX (ls):(A6.aa ls).tmps=wy.map (SV.aa []):=kr
theorem tP0:(wy.map (SV.aa [])).all (V.FP 6)=true:=by rfl
theorem tP (ls):(jT.aa ls).tmps.all (V.FP 6)=true:=by exact tP0
theorem aAD {ls} (cT:ls.length=17) (sk):(jT.aa ls).put (some 27) (.v (.c (.p (.sl sk))))=xZ.aa (ls++ [.r sk]):=by
 match ls,cT with
 |[l0,l1,l2,l3,l4,l5,l6,l7,l8,l9,l10,l11,l12,l13,jo,jq,jr],_=>rfl
set_option maxHeartbeats 1000000 in
theorem akb (hC:cK.ok Tryz.prog (la F105 F106 F107 F108 t105 t106 t107 t108)) {ls os:List L} (cT:ls.length=17)
   {Xb:Fx} (hP:Xb.P=Tryz.prog) (bK:Xb.k0=6) {E0:Env} {a0:Act} {w0:a7} (h0:Rel Xb E0 (jT.aa ls) a0 w0) (ob:∀k,k<Xb.k0→E0.N k=Xb.N0 k) (OJ:a0.defers=[])
   {l D:Nat} (hlD:D<l) (hlw:Xb.w0.heap.size≤l) {rec:Loop} (fn:FuncId)
   (fl:rec={state:= .ready,pending:=none,fn,tmps:=a0.tmps,params:= #[27],assign:= .region 4 (a54 4) false,body:=G7,defers:=D})
   (k:Nat) (hk:k<22) (E:Env) (W:a7) (v:bh) (jH:qD F108 ls (22-k) k=some os) (hR:Rel Xb E (jT.aa ls) a0 W) (rk:E.off [l,D]) (hl:W.heap[l]? =some (.loop rec)) (hd:W.heap[D]? =some (.deferred (some [])))
   (hv:RP (bad Xb.M E) W (.sl (oI k)) v):
   YieldAt Fence.wide 1 Tryz.prog l #[v] W (fun e W'=> (e= .returned (.bool true)∧M5 F108 ls os Xb a0 l D rec (k+1) W')∨(e= .returned (.bool false)∧Yh ls os Xb a0 l D rec W')):=by
 obtain⟨ok,a,b,c,r,pH,HE⟩:∃ok a b c r,F108 (C2 ls (oI k))=some [ok,a,b,c,r]∧(if ok.bx=true then some [a,b,c,.i 0,r]else qD F108 ls (22- (k+1)) (k+1))=some os:=by
   rw[show 22-k=(22- (k+1))+1 by omega,qD]at jH;grind
 have hy:=run_yield (P:=Tryz.prog) (args:= #[v]) hl (by rw[fl];rfl);rw[fl]at hy;refine⟨fn,_,_,_,hy,roundIn_of_wpIn trivial ?_⟩;have OK:a0=⟨a0.tmps,[]⟩:=by
   cases a0;subst OJ;rfl
 have hS:Rel Xb E (xZ.aa (ls++ [.r (oI k)])) {tmps:=a0.tmps.setIfInBounds 27 v,defers:=[]} W:=by
   rw[OK]at hR;rw[←aAD cT];exact hR.put (some 27) (v:= .v (.c (.p (.sl (oI k))))) hv
 have ta:∀{W':a7},l<W'.heap.size→∀g∈ [l,D],g<W'.heap.size:=fun h g hg=>by
   simp at hg;omega
 have HF:l<W.heap.size:=(fc.1 hl).1;have hput:∀(W':a7) (r1 r2:Loop),W'.heap[l]? =some (.loop r1)→∀g o,W'.heap[g]? =some o→(g<Xb.w0.heap.size∨o.isCells=true∨∃en c,o= .map en c)→(W'.putObj l (.loop r2)).heap[g]? =W'.heap[g]?:=fun W' r1 r2 h g o ho hi=>by
   refine World.putObj_heap_other fun kQ=> ?_
   subst kQ;rw[h]at ho;cases ho;rcases hi with hi|hi| ⟨_,_,hi⟩
   · omega
   · cases hi
   · cases hi
 have hA4:=fun (X':Fx) (e1:X'.P=Xb.P) (_:X'.k0=Xb.k0)=>axQ (X:=X') (l:=l) (d:=1) hC cT (oI k) (e1.trans hP)
 have h1:=G_ (l:=l) (n:=1) hA4 hS rfl rk (ta HF);rw[hP]at h1;have OL:((#[27]:Array Tmp).zip #[v]).foldl (fun t (p,v)=>t.setIfInBounds p v) a0.tmps=a0.tmps.setIfInBounds 27 v:=by
   simp[Array.zip,Array.zipWith,Array.zipWithMAux]
 rw[OL];refine wpIn_mono h1 ?_;rintro e1 a1 w1 ⟨st1,E1,⟨rfl,rfl⟩,hg1,Cw,OM,fZ,hs1⟩;have dQ:w1.heap[l]? =some (.loop rec):=(fZ l (by simp)).trans hl;have ON:w1.heap[D]? =some (.deferred (some [])):=(fZ D (by simp)).trans hd;have CG:l<w1.heap.size:=(fc.1 dQ).1;refine⟨_,run_beginRound dQ (by rw[fl]),?_⟩;have hl2:(w1.putObj l (.loop {rec with state:= .busy})).heap[l]? =some (.loop {rec with state:= .busy}):=World.putObj_heap_same CG;have v7:(w1.putObj l (.loop {rec with state:= .busy})).heap[D]? =some (.deferred (some [])):=(World.putObj_heap_other om).trans ON;have OO:=Cw.other (w':=w1.putObj l (.loop {rec with state:= .busy})) rfl rfl rfl (by simp) (hput _ _ _ dQ);have OP:l< (w1.putObj l (.loop {rec with state:= .busy})).heap.size:=by simpa using CG
 have h2:=G_ (l:=l) (n:=1) (fun X' e1 e2=>apw (l:=l) (d:=1) hC cT pH (e1.trans hP) (e2.trans bK)) OO hg1 OM (ta OP);rw[hP]at h2;refine wpIn_mono h2 ?_;rintro e3 a3 w3 ⟨st3,E3,hst,hg3,HG,HH,hk3,hs3⟩;have lH:w3.heap[l]? =some (.loop {rec with state:= .busy}):=(hk3 l (by simp)).trans hl2;have oi:w3.heap[D]? =some (.deferred (some [])):=(hk3 D (by simp)).trans v7;have aaN:=(fc.1 lH).1;rcases hst with⟨hb,rfl,rfl⟩| ⟨hb,rfl,rfl⟩
 · rw[aC (by rw[hb];decide)]at HE;refine⟨_,_,run_endRound none lH,.inl ⟨rfl,E3,HE,(h0.again HG ob rfl rfl ((tJ _).trans (tJ ls).symm) (by grind[tP])).other rfl rfl rfl (by simp) (hput _ _ _ lH),HH,?_,(World.putObj_heap_other om).trans oi⟩⟩;rw[World.putObj_heap_same aaN,fl];rfl
 · rw[ay hb]at HE;cases HE;refine⟨_,_,run_endRound (some .ret) lH,.inr ⟨rfl,E3,a,b,c,r,rfl,(h0.again HG ob rfl rfl ((tX _).trans (tJ ls).symm) (by grind[tP])).other rfl rfl rfl (by simp) (hput _ _ _ lH),HH,?_,(World.putObj_heap_other om).trans oi⟩⟩;rw[World.putObj_heap_same aaN,fl];rfl
theorem alQ {ls} (cT:ls.length=17) {ok} (h1:F105 (ls.take 13)=some [ok]):
  (ok.bx=false→∃ys,ys.length=4∧(tK F105 F106 t105 t106).aa ls=some (.st .ret AK,ls++ys))∧
  (ok.bx=true→∀c,F106 (ls.drop 10|>.take 1|>.append (ls.drop 13))=some [c]→(c.bx=false→∃ys,ys.length=4∧(tK F105 F106 t105 t106).aa ls=some (.st .ret AK,ls++ys))∧
    (c.bx=true→∃ys,ys.length=4∧(tK F105 F106 t105 t106).aa ls=some (.st .normal Ai,ls++ys))):=by
 match ls,cT with
 | [l0,l1,l2,l3,l4,l5,l6,l7,l8,l9,l10,l11,l12,l13,jo,jq,jr],_=>
  have e1:Nd.ev [l0,l1,l2,l3,l4,l5,l6,l7,l8,l9,l10,l11,l12,l13,jo,jq,jr] (.call t105 F105 [.v 0,.v 1,.v 2,.v 3,.v 4,.v 5,.v 6,.v 7,.v 8,.v 9,.v 10,.v 11,.v 12] 1 [])=some [ok]:=GZ (F:=F105) (n:=1) (xs:=[.v 0,.v 1,.v 2,.v 3,.v 4,.v 5,.v 6,.v 7,.v 8,.v 9,.v 10,.v 11,.v 12]) h1 rfl;have e2:∀k:ae,(ae.op (.not (.v 17)) k).aa ([l0,l1,l2,l3,l4,l5,l6,l7,l8,l9,l10,l11,l12,l13,jo,jq,jr]++ [ok])=k.aa [l0,l1,l2,l3,l4,l5,l6,l7,l8,l9,l10,l11,l12,l13,jo,jq,jr,ok,.b (!ok.bx)]:=fun k=>by
    rfl
  refine⟨fun hb=> ⟨[ok,.b (!ok.bx),.b true,.b true],rfl,?_⟩,fun hb c h2=> ?_⟩
  · rw[tK,ae.aa,ae.aa,e1];simp only[];rw[e2,ae.aa,show((At.v 18).ev [l0,l1,l2,l3,l4,l5,l6,l7,l8,l9,l10,l11,l12,l13,jo,jq,jr,ok,.b (!ok.bx)]).bx= !ok.bx from rfl,hb];rfl
  · have e3:Nd.ev [l0,l1,l2,l3,l4,l5,l6,l7,l8,l9,l10,l11,l12,l13,jo,jq,jr,ok,.b (!ok.bx)] (.call t106 F106 [.v 10,.v 13,.v 14,.v 15,.v 16] 1 [])=some [c]:=GZ (F:=F106) (n:=1) (xs:=[.v 10,.v 13,.v 14,.v 15,.v 16]) h2 rfl;have e4:∀k:ae,(ae.op (.not (.v 19)) k).aa ([l0,l1,l2,l3,l4,l5,l6,l7,l8,l9,l10,l11,l12,l13,jo,jq,jr,ok,.b (!ok.bx)]++ [c])=k.aa [l0,l1,l2,l3,l4,l5,l6,l7,l8,l9,l10,l11,l12,l13,jo,jq,jr,ok,.b (!ok.bx),c,.b (!c.bx)]:=fun k=>by
     rfl
    refine⟨fun hc=> ⟨[ok,.b (!ok.bx),.b false,.b (!c.bx)],rfl,?_⟩,fun hc=> ⟨[ok,.b (!ok.bx),.b false,.b (!c.bx)],rfl,?_⟩⟩
    all_goals
     rw[tK,ae.aa,ae.aa,e1];simp only[];rw[e2,ae.aa,show((At.v 18).ev [l0,l1,l2,l3,l4,l5,l6,l7,l8,l9,l10,l11,l12,l13,jo,jq,jr,ok,.b (!ok.bx)]).bx= !ok.bx from rfl];simp only[hb,Bool.not_true,pO,if_false];rw[hb]at e3 e4;simp only[Bool.not_true]at e3 e4;rw[ae.aa,e3];simp only[];rw[e4];simp only[hc];rfl
theorem Yd {M} {w} {g} {l} (h0:l≠ []) (hg:w.heap[g]? =some (.cells (l.map fun a=>Value.int .i64 ((a:Nat):Int)).toArray 3 (0,0))) (hM:¬M g) (hl:l.length≤maxLen):RP M w (.sl (l.map fun a=> [.sc (.int .i64 (a:Nat))])) (.slice (some ⟨g,0,none⟩) l.length l.length):=by
 have key:∀(i:Nat) (r:List PV) (j:Nat) (p:PV),(l.map fun a=> [PV.sc (.int .i64 (a:Nat))])[i]? =some r→r[j]? =some p→j=0∧w.cell? ⟨g,i,none⟩=some (.int .i64 ((l.getD i 0:Nat):Int))∧p= .sc (.int .i64 ((l.getD i 0:Nat):Int)):=fun i r j p hi hj=>by
  simp only[bV,aT]at hi;obtain⟨a,h1,rfl⟩:=hi
  match j with
  |j+1=>simp at hj
  |0=>
   cases hj;have h2:l.getD i 0=a:=by simp_all
   rw[h2];refine⟨rfl,?_,rfl⟩;rw[cell_of_row w g i _ 3 (0,0) hg];simp[h1]
 have:=RP.row (M:=M) (w:=w) (rows:=l.map fun a=> [.sc (.int .i64 (a:Nat))]) (g:=g) (o:=0) (cap:=l.length) (sz:=1) (f:=fun i _=> .int .i64 ((l.getD i 0:Nat):Int)) (by simpa using h0) (by simp) hl
  (fun r hr=>by grind)
  (fun i r j p hi hj=>by
   grind)
  (fun i r j p hi hj=>by
   obtain⟨_,_,rfl⟩:=key i r j p hi hj;exact .sc rfl)
 grind
theorem Sx {Xb} {E} {st} {a} {W} (h:Rel Xb E st a W) (o):Rel Xb E st a (W.alloc o)∧¬bad Xb.M E W.heap.size∧∀g,g<W.heap.size→(W.alloc o).heap[g]? =W.heap[g]?:=by
 have hb:∀g,g<W.heap.size→(W.alloc o).heap[g]? =W.heap[g]?:=fun g hg=>Below.heap_alloc _ _ _ hg
 refine⟨h.other rfl rfl rfl (by simp) fun g o' ho _=>hb g (fc.1 ho).1,?_,hb⟩;rintro(hM| ⟨n,x,h1,h2⟩)
 · have:=h.eB _ hM;have:=h.frame.size;omega
 · have:=(h.names n x _ h1 h2).1;omega
theorem alb:Tryz.f54.ntmps=40:=kr
theorem aui:Tryz.f54.results= #[.cell 8 73,.cell 9 55]:=kr
theorem Jp {X:Fx} (hP:X.P=Tryz.prog) (hk:X.k0=0) {S:af} {ls ys xs:List L} {bs:List At} (cT:ls.length=17) (hS:S.nv=17+ys.length) (hg:S.ar=[]) (hj:jmp TT 0 17 Bk 0 .normal S=some (.ak (.jump 0 bs))) (hx:bs.map (At.ev (ls++ys))=xs)
   {D:List Deferred} (hD:X.D=D) {H':Hp} (hH:H'=[(0,.row 5 ((At.v 21).ev (ls++xs)).az)]) {a:Act} {w:a7} (ht:Told X (S.aa (ls++ys)) a w) {X0:Fx} (hX:X={X0 with D:=D})
   (hd:D=[]∨∃d,D=[{target:= .collected d,args:= #[]}]∧X0.w0.heap.size≤d∧w.heap[d]? =some (.deferred (some []))) {e:Exit} (he:e= .normal∨e= .ret):
   IJ Tryz.prog [.cell 8 73,.cell 9 55] ((SV.aj [.agg [.p (.int .u64) (.v 17),.p (.int .u32) (.v 18),.p .bool (.v 19),.own 0],.c (.p (.int .i64) (.v 20))]).aa (ls++xs)) H' X0 e a w:=by
 obtain⟨xs1,zs,j1,_,_,j4⟩:=km fO (ρ:=ls) (ys:=ys) cT (by rw[hS,bE,cT]) hg hj rfl;have hz:zs=[]:=by simp_all
 have hb:bs=xs1:=by simp_all
 subst hz hb;rw[eW]at j4;refine⟨he,Bk.aa (ls++xs),D,?_,by kernel_rfl,fun n b h=> ?_,hd⟩
 · subst hX;have:=j4 _ hP hk a w ht;simp_all
 · subst hH
   match n with
   |0=>exact h
   |n+1=>grind
set_option maxHeartbeats 1000000 in
theorem apt (aFm:(XK F105 t105).ok Tryz.prog) (aFn:(QG F106 t106).ok Tryz.prog) (aFo:(Qb F107 t107).ok Tryz.prog) (aFp:(Y_ F108 t108).ok Tryz.prog) (tag):(Ey F105 F106 F107 F108 tag).ok Tryz.prog:=by
 have hC:cK.ok Tryz.prog (la F105 F106 F107 F108 t105 t106 t107 t108):=fun s hs=>by
   simp only[la,dL,Px,or_false]at hs;grind
 intro ls os cT hF cg;have cT:ls.length=17:=cT;have hF:uD F105 F106 F107 F108 ls=some os:=hF;unfold uD at hF;rw[ay cT]at hF;refine eJ.ZE (H:=[]) Tryz.func54 kr ajX alb (rs:=[.cell 8 73,.cell 9 55]) (by rw[aui]) ?_;intro X hP hk hD a w ht;have hk:X.k0=0:=hk;have OQ:X={X with D:=[]}:=by
   cases X;simp_all
 have ht:Told X (AZ.aa ls) a w:=by
   rw[AZ,Rt];exact ht
 have A0:=(piece hC (k0:=0) (n:=0) (r:=0) (ex:=[]) (show exec TT _ 0 (.region 0 (a54 0) false) 0 [] 0 AZ=_ from anb F105 F106 F107 F108 t105 t106 t107 t108) kr cT (ρ:=ls) rfl hP hk).2.2 a w ht;rw[hP]at A0;refine wp_seq (wp_mono A0 ?_);clear A0;rintro e1 a1 w1 ⟨st1,⟨rfl,rfl⟩,CH⟩;show(yl.seq _).wp _ _ _ _;have h17:ls.length=Cg.nv:=cT.trans kr;have err:∀{os},some [.i 0,.i 0,.b false,.i 1,.r []]=some os→(∃ys,ys.length=4∧(tK F105 F106 t105 t106).aa ls=some (.st .ret AK,ls++ys))→
     ∀K,(yl.seq K).wp Tryz.prog (IJ Tryz.prog [.cell 8 73,.cell 9 55] ((Ey F105 F106 F107 F108 tag).res.aa (ls++os)) ((Ey F105 F106 F107 F108 tag).out.aa (ls++os)) X) a1 w1:=by
   rintro os lB ⟨ys,hy,td⟩ K;cases lB;have A1:=(piece hC (UL F105 F106 F107 F108 t105 t106 t107 t108) kr h17 td hP hk).2.2 a1 w1 CH;rw[hP]at A1;refine wp_seq (wp_mono A1 ?_);rintro e2 a2 w2 ⟨st2,⟨rfl,rfl⟩,rl⟩;exact Jp hP hk cT (by rw[hy];kernel_rfl) kr awu rfl hD rfl rl OQ (.inl rfl) (.inr rfl)
 split at hF;rotate_left
 · cases hF
 rename_i ok h1;have tc:=alQ (F105:=F105) (F106:=F106) (t105:=t105) (t106:=t106) cT h1;by_cases aO:ok.bx=true;rotate_left
 · grind
 rw[ay aO]at hF;split at hF;rotate_left
 · cases hF
 rename_i c h2;have tc:=tc.2 aO c h2;by_cases hc:c.bx=true;rotate_left
 · grind
 rw[ay hc]at hF;split at hF;rotate_left
 · cases hF
 rename_i h3;obtain⟨ys,hy,td⟩:=tc.2 hc;have A1:=(piece hC (UL F105 F106 F107 F108 t105 t106 t107 t108) kr h17 td hP hk).2.2 a1 w1 CH;rw[hP]at A1;refine wp_seq (wp_mono A1 ?_);rintro e2 a2 w2 ⟨st2,⟨rfl,rfl⟩,rl⟩;have oi:(ae.op (.call t107 F107 [] 0 []) (.ak (.st .normal GH))).aa (ls++ys)=some (.st .normal GH,ls++ys):=by
   rw[ae.aa,GZ (F:=F107) (n:=0) (xs:=[]) (ρ:=ls++ys) h3 rfl];simp only[eW];rfl
 have A3:=(piece hC (k0:=0) (n:=0) (r:=0) (ex:=[]) (show exec TT _ 0 (.region 3 (a54 3) false) 0 [] 0 Ai=_ from afC F105 F106 F107 F108 t105 t106 t107 t108) kr (by rw[bE,cT,hy];kernel_rfl) oi hP hk).2.2 a2 w2 rl;rw[hP]at A3;refine wp_seq (wp_seq (wp_mono A3 ?_));rintro e4 a4 w4 ⟨st4,⟨rfl,rfl⟩,OR⟩;have OS:Told X (jT.aa ls) a4 w4:=by
   obtain⟨xs1,zs,j1,_,_,j4⟩:=km fO (ρ:=ls) (ys:=ys) cT (by rw[bE,cT,hy];kernel_rfl) kr ave rfl;have hz:zs=[]:=by simpa using bJ (·.2) j1
   have hb:[]=xs1:=by grind
   subst hz hb;simpa using j4 X hP hk a4 w4 OR
 obtain⟨E0,R0,hg0⟩:=OS;have OT:a4.defers=[]:=R0.defers.trans hD;obtain⟨u26,h26,aDf⟩:=R0.tmps 26 (.v (.c (.fn 163 []))) (by rw[tJ];rfl);obtain⟨us,rfl,fi,_⟩:=(show RC X.M E0 w4 (.fn 163 []) u26 from aDf)
 obtain rfl:us= #[]:=Pj fi;have vU:a4.eval (.tmp 26)= .func (.func 163) #[] #[]:=by
   simp[Act.eval,wg,h26]
 refine wp_block ((wpIn_wide (n:=3)).1 (wpIn_rangeFunc ?_));intro fn hfn;obtain⟨rec,fl⟩:∃rec:Loop,rec={state:= .ready,pending:=none,fn,tmps:=a4.tmps,params:= #[27],assign:= .region 4 (a54 4) false,body:=G7,defers:=w4.heap.size}:=⟨_,rfl⟩
 obtain⟨W1,hW1⟩:∃W1,(w4.alloc (.deferred (some []))).alloc (.loop rec)=W1:=⟨_,rfl⟩
 have hs1:W1.heap.size=w4.heap.size+2:=by rw[←hW1];simp
 have CE:W1.heap[w4.heap.size+1]? =some (.loop rec):=by
   rw[←hW1];have:=World.alloc_heap_new (w4.alloc (.deferred (some []))) (.loop rec);rwa [World.size_alloc]at this
 have CF:W1.heap[w4.heap.size]? =some (.deferred (some [])):=by
   rw[←hW1];exact(Below.heap_alloc _ _ _ (by simp)).trans (World.alloc_heap_new w4 _)
 have hold:∀g,g<w4.heap.size→W1.heap[g]? =w4.heap[g]?:=fun g hg=>by
   grind[Below.heap_alloc]
 let Xb:Fx:=⟨X.P,X.M,X.K,X.w0,E0.N,6,[]⟩
 have h0:Rel Xb E0 (jT.aa ls) ⟨a4.tmps,[]⟩ w4:={
   defers:=rfl,ar:=R0.ar,frame:=R0.frame,eB:=R0.eB,cO:=R0.cO,names:=R0.names,inj:=R0.inj,dz:=fun _ _=> .inr rfl
   fq:=by show 6≤6;omega
   fg:=R0.fg,size:=R0.size,tmps:=R0.tmps,heap:=R0.heap}
 have hW0:X.w0.heap.size≤w4.heap.size:=R0.frame.size;have OU:M5 F108 ls os Xb ⟨a4.tmps,[]⟩ (w4.heap.size+1) w4.heap.size rec 0 W1:=by
   refine⟨E0,hF,h0.other ?_ ?_ ?_ om fun g o ho _=>hold g (fc.1 ho).1,fun n x g h1 h2 hg=> ?_,CE,CF⟩
   · rw[←hW1];rfl
   · rw[←hW1];rfl
   · rw[←hW1];rfl
   · have:=(R0.names n x g h1 h2).1;simp at hg;omega
 have OV:∀k,k<22→∀E W v,qD F108 ls (22-k) k=some os→Rel Xb E (jT.aa ls) ⟨a4.tmps,[]⟩ W→E.off [w4.heap.size+1,w4.heap.size]→W.heap[w4.heap.size+1]? =some (.loop rec)→W.heap[w4.heap.size]? =some (.deferred (some []))→RP (bad Xb.M E) W (.sl (oI k)) v→_:=
   fun k hk E W v=>akb (l:=w4.heap.size+1) (D:=w4.heap.size) hC cT (Xb:=Xb) hP rfl h0 (fun _ _=>rfl) rfl om (by grind) fn fl k hk E W v
 refine⟨w4.heap.size+1,[{target:= .collected w4.heap.size,args:= #[]}],W1,{target:= .fn (.func 163) #[],args:= #[.func (.yield (w4.heap.size+1)) #[] #[]]},W1,163,
   #[.func (.yield (w4.heap.size+1)) #[] #[]],W1,?_,?_,?_,?_,fun _=>by omega,?_⟩
 · rw[←hW1,fl];exact run_enterLoop_outer _ _ _ _ _
 · simp only[resolve,vU];simp[go_sem]
 · intro f' _;trivial
 · rfl
 have hX2:∀{E5:Env} {st:av} {W6:a7},Rel Xb E5 st ⟨a4.tmps,[]⟩ W6→6≤st.next→Rel {X with D:=[{target:= .collected w4.heap.size,args:= #[]}]} E5 st {a4 with defers:=[{target:= .collected w4.heap.size,args:= #[]}]++a4.defers} W6:=fun fa hn=> {
   defers:=by rw[OT];rfl
   ar:=fa.ar,frame:=fa.frame,eB:=fa.eB,cO:=fa.cO,names:=fa.names,inj:=fa.inj
   dz:=fun k fZ=>absurd (show k<X.k0 from fZ) om
   fq:=by grind
   fg:=fa.fg,size:=fa.size,tmps:=fa.tmps,heap:=fa.heap}
 refine(amS 2 om (w4.heap.size+1) (M5 F108 ls os Xb ⟨a4.tmps,[]⟩ (w4.heap.size+1) w4.heap.size rec) (Yh ls os Xb ⟨a4.tmps,[]⟩ (w4.heap.size+1) w4.heap.size rec) ?_ ?_ ?_ W1 OU).mono ?_
 · rintro W ⟨E,jH,hR,rk,hl,hd⟩;exact OV 0 om E W _ jH hR rk hl hd .nil
 · rintro b W hb ⟨E,jH,hR,rk,hl,hd⟩;obtain⟨ke,lC,vG⟩:=Sx hR (.cells #[.int .i64 b] 3);refine OV (1+b) om E _ _ jH ke rk ((vG _ (fc.1 hl).1).trans hl) ((vG _ (fc.1 hd).1).trans hd) ?_;rw[oI,ahQ b hb];exact Yd (l:=[b]) (by simp) (World.alloc_heap_new W _) lC (by unfold maxLen;simp)
 · rintro b d W hb1 hb2 ⟨E,jH,hR,rk,hl,hd⟩;obtain⟨ke,lC,vG⟩:=Sx hR (.cells #[.int .i64 b,.int .i64 d] 3);obtain⟨q1,q2⟩:=agO d hb2 b hb1;refine OV _ q2 E _ _ jH ke rk ((vG _ (fc.1 hl).1).trans hl) ((vG _ (fc.1 hd).1).trans hd) ?_;rw[oI,q1];exact Yd (l:=[b,d]) (by simp) (World.alloc_heap_new W _) lC (by unfold maxLen;simp)
 have hput:∀(W5:a7) (r1 r2:Loop),W5.heap[w4.heap.size+1]? =some (.loop r1)→∀g o,W5.heap[g]? =some o→(g<Xb.w0.heap.size∨o.isCells=true∨∃en c,o= .map en c)→(W5.putObj (w4.heap.size+1) (.loop r2)).heap[g]? =W5.heap[g]?:=fun W5 r1 r2 pL g o ho hi=>World.putObj_heap_other fun kQ=>by
   subst kQ;rw[pL]at ho;cases ho;rcases hi with hi|hi| ⟨_,_,hi⟩
   · grind
   · cases hi
   · cases hi
 rintro e5 W5 ⟨⟨v,rfl⟩,⟨E5,aDg,CI,HI,pL,CJ⟩| ⟨E5,xa,xb,xc,xr,rfl,CI,HI,pL,CJ⟩⟩
 · cases aDg;refine⟨_,_,run_endLoop pL (by rw[fl];simp),?_⟩;have fa:=CI.other (w':=W5.putObj (w4.heap.size+1) (.loop {rec with state:= .exhausted})) rfl rfl rfl (by simp) (hput _ _ _ pL);have te:(W5.putObj (w4.heap.size+1) (.loop {rec with state:= .exhausted})).heap[w4.heap.size]? =some (.deferred (some [])):=(World.putObj_heap_other om).trans CJ;generalize W5.putObj (w4.heap.size+1) (.loop {rec with state:= .exhausted})=W6 at fa te⊢;rw[show rec.pending=none by rw[fl]];show((Code.region 8 (a54 8) false).seq .ret).wp _ _ _ _;have h8:=Yc (X:={X with D:=[{target:= .collected w4.heap.size,args:= #[]}]}) (c:=(Code.region 8 (a54 8) false).seq .ret) (Q:=fun e st=>e= .ret∧st=Kg.aa ls) (fun X' e1 e2=>by
     have:=(piece hC (k0:=0) (n:=0) (r:=0) (ex:=[]) (show exec TT _ 0 (.region 8 (a54 8) false) 0 [] 0 jT=_ from adO F105 F106 F107 F108 t105 t106 t107 t108) kr cT (ρ:=ls) rfl (e1.trans hP) (e2.trans hk)).2.2;refine fJ (lN this ?_);rintro e st ⟨rfl,rfl⟩;exact tN ⟨rfl,rfl⟩) (hX2 fa (by show 6≤6;omega)) hg0 (S:=[w4.heap.size]) (fun n x g h1 h2 hg=>HI n x g h1 h2 (by grind)) (fun g hg=>by
     grind)
   rw[show({X with D:=[{target:= .collected w4.heap.size,args:= #[]}]}:Fx).P=Tryz.prog from hP]at h8;refine wp_mono h8 ?_;rintro e9 a9 w9 ⟨st9,E9,⟨rfl,rfl⟩,hg9,OW,aDj,OX,hs9⟩;exact Jp (X:={X with P:=Tryz.prog,D:=[{target:= .collected w4.heap.size,args:= #[]}]}) (ys:=[]) rfl hk cT kr kr apo rfl rfl rfl (by rw[eW];exact⟨E9,OW,hg9⟩) (by rw[hP]) (.inr ⟨_,rfl,hW0,(OX _ (by simp)).trans te⟩) (.inr rfl)
 · refine⟨_,_,run_endLoop pL (by simp),?_⟩;have fa:=CI.other (w':=W5.putObj (w4.heap.size+1) (.loop {{rec with state:= .done,pending:=some .ret}with state:= .exhausted})) rfl rfl rfl (by simp) (hput _ _ _ pL);have te:(W5.putObj (w4.heap.size+1) (.loop {{rec with state:= .done,pending:=some .ret}with state:= .exhausted})).heap[w4.heap.size]? =some (.deferred (some [])):=(World.putObj_heap_other om).trans CJ;generalize W5.putObj (w4.heap.size+1) (.loop {{rec with state:= .done,pending:=some .ret}with state:= .exhausted})=W6 at fa te⊢;refine wpIn_ret ?_;exact Jp (X:={X with D:=[{target:= .collected w4.heap.size,args:= #[]}]}) (ys:=[xa,xb,xc,xr]) hP hk cT kr kr adl (by
     match ls,cT with
     |[l0,l1,l2,l3,l4,l5,l6,l7,l8,l9,l10,l11,l12,l13,jo,jq,jr],_=>rfl) rfl rfl ⟨E5,hX2 fa (by show 6≤7;omega),by rfl⟩ rfl (.inr ⟨_,rfl,hW0,te⟩) (.inr rfl)
end
section
open Go.RowKit
def Ek:List Nat:=[1,2,4,8,16,32,64,128,29,58,116,232,205,135,19,38,76,152,45,90,180,117,234,201,143,3,6,12,24,48,96,192,157,39,78,156,37,74,148,53,106,212,181,119,238,193,159,35,70,140,5,10,20,40,80,160,93,186,105,210,185,111,222,161,95,190,97,194,153,47,94,188,101,202,137,15,30,60,120,240,253,231,211,187,107,214,177,127,254,225,223,163,91,182,113,226,217,175,67,134,17,34,68,136,13,26,52,104,208,189,103,206,129,31,62,124,248,237,199,147,59,118,236,197,151,51,102,204,133,23,46,92,184,109,218,169,79,158,33,66,132,21,42,84,168,77,154,41,82,164,85,170,73,146,57,114,228,213,183,115,230,209,191,99,198,145,63,126,252,229,215,179,123,246,241,255,227,219,171,75,150,49,98,196,149,55,110,220,165,87,174,65,130,25,50,100,200,141,7,14,28,56,112,224,221,167,83,166,81,162,89,178,121,242,249,239,195,155,43,86,172,69,138,9,18,36,72,144,61,122,244,245,247,243,251,235,203,139,11,22,44,88,176,125,250,233,207,131,27,54,108,216,173,71,142]
def Zc:List Nat:=[255,0,1,25,2,50,26,198,3,223,51,238,27,104,199,75,4,100,224,14,52,141,239,129,28,193,105,248,200,8,76,113,5,138,101,47,225,36,15,33,53,147,142,218,240,18,130,69,29,181,194,125,106,39,249,185,201,154,9,120,77,228,114,166,6,191,139,98,102,221,48,253,226,152,37,179,16,145,34,136,54,208,148,206,143,150,219,189,241,210,19,92,131,56,70,64,30,66,182,163,195,72,126,110,107,58,40,84,250,133,186,61,202,94,155,159,10,21,121,43,78,212,229,172,115,243,167,87,7,112,192,247,140,128,99,13,103,74,222,237,49,197,254,24,227,165,153,119,38,184,180,124,17,68,146,217,35,32,137,46,55,63,209,91,149,188,207,205,144,135,151,178,220,252,190,97,242,86,211,171,20,42,93,158,132,60,57,83,71,109,65,162,31,45,67,216,183,123,164,118,196,23,73,236,127,12,111,246,108,161,59,82,41,157,85,170,251,96,134,177,187,204,62,90,203,89,95,176,156,169,160,81,11,245,22,235,122,117,44,215,79,174,213,233,230,231,173,232,116,214,244,234,168,80,88,175]
def DL:Code→Option Code
 | .seq a b=> (DL a).or (DL b)
 | .block _ c=>DL c
 | .loop c=>some c
 |_=>none
noncomputable def Fz:Code:=(Tryz.f333.body.bind DL).getD .skip
noncomputable def jY (k:Nat):Array Oper:=(Tryz.f333.body.bind fun c=>pW c k).getD #[]
noncomputable def XT:Code:=(Code.region 0 (jY 0) false).seq ((Code.region 1 (jY 1) false).seq (((Code.region 2 (jY 2) false).seq (.block 0 (.loop Fz))).seq ((Code.region 11 (jY 11) true).seq .ret)))
theorem adk:Tryz.f333.body=some XT:=kr
def Fb (i:Nat):List SC:=(Ek.take i++List.replicate (255-i) 0).map fun x=> .p (.int .u8) (.i (x:Nat))
def Sk (i:Nat):List SC:=Zc.map fun n=> .p (.int .i64) (.i ((cond (Nat.blt n i) n 0:Nat)))
def nl (i:Nat):af:=⟨.v (.c (.ptr 0 0)):: .v (.c (.ptr 1 0)):: .v (.c (.p (.int .i64) (.i ((Ek.getD i 1:Nat))))):: .v (.c .dead):: .v (.c (.p (.int .i64) (.i (i:Nat))))::List.replicate 24 (.v (.c .dead)),[(0,.box (Fb i++Fb i)),(1,.box (Sk i))],[],2,0⟩
def SO:List (Nat×Nat):=[(0,0),(1,1)]
def Di (e:Bool) (c:Code) (S S':af):Bool:=match exec TT [] 0 c 0xFFFFFFFFFF [] 3 S with
 |some (.ak (.st .normal S1))=> !e&&S1.ar.isEmpty&&uL [] TT 0 S1 S' 0 [] SO []
 |some (.ak (.st (.exit 0) S1))=>e&&S1.ar.isEmpty&&uL [] TT 0 S1 S' 0 [] SO []
 |_=>false
noncomputable def jh (i:Nat):Bool:=Di false Fz (nl i) (nl (i+1))
end
end
end Go.Proofs.YtndegphojkiblaaGreatDoor
