/- A part. -/
import Derived.Test.YtiikkkhcolcebaaGreatDoorG17
import Derived.WalkKit
import Derived.WalkSpells
import Derived.WalkLawsBesides
import Derived.RangeFuncBox
import Derived.RangeFuncCalls
import Derived.RangeFuncLeaves
import Derived.Shelf.Abstract
import Derived.OwnWalkIn
import Derived.TacticsInMore
import Derived.LoopNIn
import Derived.LoopIn
import Derived.Maps.AppendAt
import Derived.Deep.AppendLies
import Derived.Deep.Onto
import Derived.Deep.RegionHeld3
import Derived.Lib.Hide
import Derived.IntWalk
import Derived.StillTail
import Derived.StillTailTactics
import Derived.Laws.CopyOwn
set_option linter.all false
set_option maxHeartbeats 4000000
set_option maxRecDepth 100000
namespace Go.Proofs.YtiikkkhcolcebaaGreatDoor
noncomputable section
section
open Go.RowKit Go.Shelf
namespace Sq
open Sp
attribute [local go_sem] Oper.semAt_some
def nL(n:Int):Int:=n/64%4
def nP(n:Int):Int:=n/64/4*64+n%64
def x9(n:Int):Int:=if n<=0 then 0 else((n-1) /256+1)*64
def kD(e s:Int):Int:=min (64-s%64) (e-s)
def fD(off e:Int):Nat->Int
 |0=>off
 |k+1=>fD off e k+kD e (fD off e k)
def Md(e s:Int)(h:s<e):1<=kD e s/\kD e s<=64-s%64/\kD e s<=e-s:=by unfold kD;omega
def Tj(e s:Int)(h:s<=e):0<=kD e s/\kD e s<=e-s:=by unfold kD;omega
def JX(off e:Int)(h:off<=e):∀k,off<=fD off e k/\fD off e k<=e
 |0=>⟨Int.le_refl _,h⟩
 |k+1=>by
  have a:=JX off e h k;have b:=Tj e (fD off e k) a.2;unfold fD;omega
def U'(off e:Int)(h:off<=e):∀k,fD off e k<e->off+k<=fD off e k
 |0,_=>by simp[fD]
 |k+1,c=>by
  have d:=JX off e h k;have f:=Tj e (fD off e k) d.2;have a:fD off e k<e:=by
   rcases Int.lt_or_le (fD off e k) e with b|b
   .exact b
   .unfold fD at c;omega
  have g:=Md e (fD off e k) a;have i:=U' off e h k a;unfold fD;omega
def Full(off e:Int)(K:Nat):Prop:=fD off e K=e/\∀j,j<K->fD off e j<e
def Full.uniq{off e:Int}{K L:Nat}(h:Full off e K)(d:Full off e L):K=L:=by
 rcases C1 K L with a|a|a
 .have:=d.2 K a;have:=h.1;omega
 .exact a
 .have:=h.2 L a;have:=d.1;omega
def Full.le{off e:Int}{K:Nat}(h:Full off e K)(a:off<=e):(K:Int)<=e-off:=by
 cases K with
 |zero=>simp;omega
 |succ k=>
  have d:=h.2 k om;have m:=U' off e a k d;omega
def TB(t:Nat):nL (t:Int)=(ey t:Int):=by unfold nL ey;omega
def Sj(t:Nat):nP (t:Int)=(eE t:Int):=by unfold nP eE;omega
def amf(L:Nat):x9 (L:Int)=(cU L:Int):=by unfold x9 cU;split<;>omega
set_option maxHeartbeats 400000 in
def Xz(n:Int)(w:bW)(h0:0<=n)(h1:n<=9223372036854775807):
 Calls Tryz.prog 162 #[.int .i64 n] w λe w'=>e=.returned (.tuple #[.int .i64 (nL n),.int .i64 (nP n)])/\w=w':=by
 go_enter Tryz.func162,Tryz.ntmps162
 go_wp2
 go_ret2
 exact⟨rfl,rfl⟩
set_option maxHeartbeats 400000 in
def afe(n:Int)(w:bW)(h0: -9223372036854775808<=n)(h1:n<=9223372036854775807):
 Calls Tryz.prog 79 #[.int .i64 n] w λe w'=>e=.returned (.int .i64 (x9 n))/\w=w':=by
 by_cases h:n<=0
 .go_enter Tryz.func79,Tryz.ntmps79
  go_wp2
  go_ret
  exact⟨Bz (by unfold x9;rw[bB h]),rfl⟩
 .have h':0<n:=om
  go_enter Tryz.func79,Tryz.ntmps79
  go_wp2
  go_ret
  exact⟨Bz (by unfold x9;rw[bG om]),rfl⟩
set_option maxHeartbeats 400000 in
def S3(off n:Int)(w:bW):
 Calls Tryz.prog 80 #[.int .i64 off,.int .i64 n] w λe w'=>e=.returned (.func (.func 161) #[] #[.pointer (some ⟨w.heap.size,0,none⟩),.pointer (some ⟨w.heap.size+1,0,none⟩)])/\
  (w.alloc (.cells #[.int .i64 off] 2)).alloc (.cells #[.int .i64 n] 2)=w':=by
 go_enter Tryz.func80,Tryz.ntmps80
 go_wp2
 go_ret
 exact⟨rfl,rfl⟩
def Mu(w:bW)(B:Nat):Int:=match w.cell? ⟨B,0,none⟩with|some v=>intOf v|none=>0
def Df{w:bW}{B:Nat}{t:cf}{s:Int}(h:Boxed w B t (.int .i64 s)):Mu w B=s:=by unfold Mu;rw[h.cell];rfl
set_option maxRecDepth 100000 in
set_option maxHeartbeats 1000000 in
def aDk(m:Nat)(hm:1<=m)(l Bo Bn:Nat)(off n:Int)(h0:0<=off)(CI:0<=n)(hs:off+n<=9223372036854775807)(J:Nat->bW->Prop)
 (hst:∀k W v,J k W->J k (W.setCell ⟨Bo,0,none⟩ v))
 (hY:∀k W s p,fD off (off+n) k=s->kD (off+n) s=p->J k W->s<off+n->YieldAt Fence.wide (m-1) Tryz.prog l
  #[.int .i64 s,.agg #[.int .i64 (nL s),.int .i64 (nP s),.int .i64 p]] W
  λe W'=>e=.returned (.bool true)/\J (k+1) W'/\W'.heap[Bo]?=W.heap[Bo]?)
 (W:bW) (ho:Boxed W Bo 2 (.int .i64 off)) (hn:Boxed W Bn 2 (.int .i64 n)) (hJ:J 0 W):
 CallsIn Fence.wide m Tryz.prog 161 #[.func (.yield l) #[] #[],.pointer (some ⟨Bo,0,none⟩),.pointer (some ⟨Bn,0,none⟩)] W
  λe W'=>(∃v,e=.returned v)/\∃K,Full off (off+n) K/\J K W':=by
 have hco:=ho.cell;have zm:=hn.cell;refine callsIn_of_wp Tryz.func161 rfl trivial ?_ rfl;simp only[Tryz.ntmps161,kW,h_,jW,Nat.reduceAdd,Nat.reduceSub,w2,w3,w5,w6,kZ,qU]
 gi_wp2
 gi_loopw [5] (λ_ wr=>∃(k:Nat)(s:Int),Hid (fD off (off+n) k=s)/\Hid (∀j,j<k->fD off (off+n) j<off+n)/\off<=s/\s<=off+n/\Boxed wr Bo 2 (.int .i64 s)/\J k wr)
  (λ_ wr=>(off+n-Mu wr Bo).toNat)
 case atStart=>exact⟨0,off,rfl,λj hj=>absurd hj om,om,om,ho,hJ⟩
 case round=>
  obtain⟨k,s,hk,hall,hs1,hs2,hb,hJs⟩:=hrel;clear ho hn hco zm;have hcs:=hb.cell;have hfs:=hb.frozen;by_cases hlt:s<off+n
  .by_cases hc:64-s%64<=off+n-s
   .have hp:kD (off+n) s=64-s%64:=by unfold kD;omega
    obtain⟨fn,tmps,assign,body,hy,hR⟩:=hY k wr s _ hk.out hp hJs hlt;have gM:Hid (fD off (off+n) (k+1)=s+(64-s%64)):=by
     have e:=hk.out;show fD off (off+n) k+kD (off+n) (fD off (off+n) k)=_;rw[e,hp]
    have P1:Hid (∀j,j<k+1->fD off (off+n) j<off+n):=λj hj=>by
     rcases nw j k with h|h
     .exact hall.out j h
     .obtain rfl:j=k:=om;have e:=hk.out;omega
    clear hp
    gi_wp2_with (refine⟨trivial,?_⟩;gi_at_call 162;refine(callsIn_wide.2 (Xz s _ om om)).mono ?_;rintro e w' ⟨rfl,rfl⟩)
    refine hR.mono ?_;rintro e W3 ⟨rfl,hJ3,hk3⟩;have hb3:Boxed W3 Bo 2 (.int .i64 s):=hk3.trans hb;have hc3:=hb3.cell;have hf3:=hb3.frozen
    gi_wp2
    go_roundw
    case rel=>exact⟨k+1,_,gM,P1,om,om,hb3.set _,hst _ _ _ hJ3⟩
    case measure=>rw[Df hb,Df (hb3.set _)];omega
   .have hp:kD (off+n) s=off+n-s:=by unfold kD;omega
    obtain⟨fn,tmps,assign,body,hy,hR⟩:=hY k wr s _ hk.out hp hJs hlt;have gM:Hid (fD off (off+n) (k+1)=s+(off+n-s)):=by
     have e:=hk.out;show fD off (off+n) k+kD (off+n) (fD off (off+n) k)=_;rw[e,hp]
    have P1:Hid (∀j,j<k+1->fD off (off+n) j<off+n):=λj hj=>by
     rcases nw j k with h|h
     .exact hall.out j h
     .obtain rfl:j=k:=om;have e:=hk.out;omega
    clear hp
    gi_wp2_with (refine⟨trivial,?_⟩;gi_at_call 162;refine(callsIn_wide.2 (Xz s _ om om)).mono ?_;rintro e w' ⟨rfl,rfl⟩)
    refine hR.mono ?_;rintro e W3 ⟨rfl,hJ3,hk3⟩;have hb3:Boxed W3 Bo 2 (.int .i64 s):=hk3.trans hb;have hc3:=hb3.cell;have hf3:=hb3.frozen
    gi_wp2
    go_roundw
    case rel=>exact⟨k+1,_,gM,P1,om,om,hb3.set _,hst _ _ _ hJ3⟩
    case measure=>rw[Df hb,Df (hb3.set _)];omega
  .obtain rfl:s=off+n:=om
   gi_wp2
   go_end0
   exact⟨⟨_,rfl⟩,k,⟨hk.out,hall.out⟩,hJs⟩
def api(b:Nat)(I:bW->Prop)(W:bW)(ex:Exit)(_:Act)(a:bW):Prop:=
 ex=.normal/\KeepsOthers W a/\a.heap[b]?=W.heap[b]?/\I a
def V0{g:cL}{ps:Array Tmp}{assign body:Code}{Q:Exit->Act->bW->Prop}{a:Act}{w:bW}
 (m:Nat) (hm:2<=m) (Bo Bn:Nat) (off n:Int) (h0:0<=off) (CI:0<=n) (hs:off+n<=9223372036854775807)
 (hg:a.eval g=.func (.func 161) #[] #[.pointer (some ⟨Bo,0,none⟩),.pointer (some ⟨Bn,0,none⟩)])
 (ho:Boxed w Bo 2 (.int .i64 off)) (hn:Boxed w Bn 2 (.int .i64 n)) (hps:ps.size=2)
 (I:Nat->bW->Prop)
 (hI:∀k W W' row,I k W->W.grownBy W' row->(∀r,row=some r->r=Bo\/(w.heap.size<=r/\∃o:Obj,W.heap[r]?=some o/\o.isCells=false))->I k W')
 (hi0:I 0 w) (Ax:Int->Int->Nat->Act)
 (aEK:∀(l:Nat)(s p:Int)(W:bW)(K:Act->bW->Prop),
  K (Ax s p W.heap.size) (W.alloc (.cells #[.int .i64 (nL s),.int .i64 (nP s),.int .i64 p] 193))->
  assign.wpIn (Fence.wide.inRound l) (m-1-1) Tryz.prog (Exit.then K (λ_ _ _=>False))
   {tmps:=(ps.zip #[.int .i64 s,.agg #[.int .i64 (nL s),.int .i64 (nP s),.int .i64 p]]).foldl (λt(p,v)=>t.setIfInBounds p v) a.tmps,defers:=[]} W)
 (aEL:∀(l k:Nat)(s p:Int)(W:bW)(B:Nat),fD off (off+n) k=s->kD (off+n) s=p->off<=s->s<off+n->I k W->
  W.heap[B]?=some (.cells #[.int .i64 (nL s),.int .i64 (nP s),.int .i64 p] 193 (0,0))->w.heap.size+2<=B->
  body.wpIn (Fence.wide.inRound l) (m-1-1) Tryz.prog (api Bo (I (k+1)) W) (Ax s p B) W)
 (hdone:∀(D K:Nat)(W:bW),Full off (off+n) K->I K W->w.heap.size<=D->W.heap[D]?=some (.deferred (some []))->
  Q .normal {a with defers:={target:=.collected D,args:= #[]}::a.defers} W):
 (Code.rangeFunc g ps assign body).wpIn Fence.wide m Tryz.prog Q a w:=by
 have hBo:=ho.lt;refine wpIn_rangeFunc ?_;intro fn hfn;obtain⟨rec,wM⟩:∃rec:LoopState->Option Code->Loop,rec=λst pe=> {state:=st,pending:=pe,fn,tmps:=a.tmps,params:=ps,assign,body,defers:=w.heap.size}:=⟨_,rfl⟩
 obtain⟨W1,hW1⟩:∃W1,(w.alloc (.deferred (some []))).alloc (.loop (rec .ready none))=W1:=⟨_,rfl⟩
 have hg1:w.grownBy (w.alloc (.deferred (some []))) none:=World.grownBy_alloc _ _ _;have hg2:(w.alloc (.deferred (some []))).grownBy W1 none:=by rw[<-hW1];exact World.grownBy_alloc _ _ _
 have hs1:W1.heap.size=w.heap.size+2:=by rw[<-hW1];simp
 have hL1:W1.heap[w.heap.size+1]?=some (.loop (rec .ready none)):=by
  rw[<-hW1];have:=World.alloc_heap_new (w.alloc (.deferred (some []))) (.loop (rec .ready none));rwa [World.size_alloc]at this
 have hD1:W1.heap[w.heap.size]?=some (.deferred (some [])):=by
  rw[<-hW1];exact(Below.heap_alloc _ _ _ ch).trans (World.alloc_heap_new w _)
 have jc:I 0 W1:=hI _ _ _ none (hI _ _ _ none hi0 hg1 (λr e=>by cases e)) hg2 (λr e=>by cases e);have H8:Boxed W1 Bo 2 (.int .i64 off):=(ho.kept hg1 ch).kept hg2 ch;have qS:Boxed W1 Bn 2 (.int .i64 n):=(hn.kept hg1 ch).kept hg2 ch;refine⟨w.heap.size+1,[{target:=.collected w.heap.size,args:= #[]}],W1,
  {target:=.fn (.func 161) #[.pointer (some ⟨Bo,0,none⟩),.pointer (some ⟨Bn,0,none⟩)],args:= #[.func (.yield (w.heap.size+1)) #[] #[]]},W1,161,
  #[.func (.yield (w.heap.size+1)) #[] #[],.pointer (some ⟨Bo,0,none⟩),.pointer (some ⟨Bn,0,none⟩)],W1,?_,?_,?_,?_,λ_=>by omega,?_⟩
 .rw[<-hW1,wM];exact run_enterLoop_outer _ _ _ _ _
 .simp only[resolve,hg];simp[go_sem]
 .intro f' _;trivial
 .simp[invoke,go_sem]
 .refine(aDk (m-1) om (w.heap.size+1) Bo Bn off n h0 CI hs
   (λk W=>I k W/\W.heap[w.heap.size+1]?=some (.loop (rec .ready none))/\W.heap[w.heap.size]?=some (.deferred (some [])))
   ?_ ?_ W1 H8 qS ⟨jc,hL1,hD1⟩).mono ?_
  .rintro k W v ⟨hi,hl,hd⟩;exact⟨hI _ _ _ (some Bo) hi (grownBy_setCell' W Bo v) (λr e=>by cases e;exact .inl rfl),
    (Below.heap_setCell _ _ _ _ (by simp;omega)).trans hl,(Below.heap_setCell _ _ _ _ (by simp;omega)).trans hd⟩
  ·
   rintro k W s p hk hp ⟨hi,hl,hd⟩ hlt;have aEO:w.heap.size+1<W.heap.size:=(kq.1 hl).1;have CJ:=JX off (off+n) om k;rw[hk]at CJ;have hy:=run_yield (P:=Tryz.prog) (args:= #[.int .i64 s,.agg #[.int .i64 (nL s),.int .i64 (nP s),.int .i64 p]]) hl (by rw[wM];simp[hps]);rw[wM]at hy;refine⟨fn,_,assign,body,hy,roundIn_of_wpIn hfn (aEK _ s p W _ ?_)⟩;generalize hA:W.alloc (.cells #[.int .i64 (nL s),.int .i64 (nP s),.int .i64 p] 193)=W2;have H9:W.grownBy W2 none:=by rw[<-hA];exact World.grownBy_alloc _ _ _
   have hsA:W2.heap.size=W.heap.size+1:=by rw[<-hA];simp
   have hnA:W2.heap[W.heap.size]?=some (.cells #[.int .i64 (nL s),.int .i64 (nP s),.int .i64 p] 193 (0,0)):=by rw[<-hA];exact World.alloc_heap_new _ _
   have hl2:W2.heap[w.heap.size+1]?=some (.loop (rec .ready none)):=(H9.block _ aEO ch).trans hl;have zt:W2.heap[w.heap.size]?=some (.deferred (some [])):=(H9.block _ om ch).trans hd;refine⟨_,run_beginRound hl2 (by rw[wM]),?_⟩;have hl3:(W2.putObj (w.heap.size+1) (.loop {rec .ready none with state:=.busy})).heap[w.heap.size+1]?=some (.loop {rec .ready none with state:=.busy}):=World.putObj_heap_same om;have H_:(W2.putObj (w.heap.size+1) (.loop {rec .ready none with state:=.busy})).heap[w.heap.size]?=some (.deferred (some [])):=(World.putObj_heap_other om).trans zt;have hn3:(W2.putObj (w.heap.size+1) (.loop {rec .ready none with state:=.busy})).heap[W.heap.size]?=some (.cells #[.int .i64 (nL s),.int .i64 (nP s),.int .i64 p] 193 (0,0)):=(World.putObj_heap_other om).trans hnA;have hi3:I k (W2.putObj (w.heap.size+1) (.loop {rec .ready none with state:=.busy})):=
    hI _ _ _ (some (w.heap.size+1)) (hI _ _ _ none hi H9 (λr e=>by cases e)) (grownBy_putObj' _ _ _) (λr e=>by cases e;exact .inr ⟨om,_,hl2,rfl⟩)
   have aby:(W2.putObj (w.heap.size+1) (.loop {rec .ready none with state:=.busy})).heap[Bo]?=W.heap[Bo]?:=(World.putObj_heap_other om).trans (H9.block _ om ch);generalize W2.putObj (w.heap.size+1) (.loop {rec .ready none with state:=.busy})=W3 at hl3 H_ hn3 hi3 aby;refine wpIn_mono (aEL _ k s p W3 W.heap.size hk hp CJ.1 hlt hi3 hn3 om) ?_;rintro ex a4 W4 ⟨rfl,hk4,aEQ,hi4⟩;have hl4:=hk4.same _ _ hl3 rfl;have hd4:=hk4.same _ _ H_ rfl;have hend:=run_endRound (P:=Tryz.prog) none hl4;refine⟨_,_,hend,rfl,⟨hI _ _ _ (some (w.heap.size+1)) hi4 (grownBy_putObj' _ _ _) (λr e=>by cases e;exact .inr ⟨om,_,hl4,rfl⟩),?_,(World.putObj_heap_other om).trans hd4⟩,
    ((World.putObj_heap_other om).trans aEQ).trans aby⟩
   rw[World.putObj_heap_same (kq.1 hl4).1,wM];rfl
  .rintro e W2 ⟨⟨v,rfl⟩,K,hK,hi,hl,hd⟩;have hend:=run_endLoop (P:=Tryz.prog) hl (by rw[wM];simp);refine⟨_,_,hend,?_⟩;rw[wM];exact hdone w.heap.size K _ hK (hI _ _ _ (some (w.heap.size+1)) hi (grownBy_putObj' _ _ _) (λr e=>by cases e;exact .inr ⟨om,_,hl,rfl⟩)) (dz _) ((World.putObj_heap_other om).trans hd)
def aAW{W b:bW}{row:Option Nat}{B:Nat}{t:cf}{v:b8}(h:Boxed W B t v)(d:W.grownBy b row)
 (e:∀r,row=some r->r≠B\/∃o:Obj,W.heap[r]?=some o/\o.isCells=false):Boxed b B t v:=by
 refine h.kept d λf=>?_
 rcases e B f.symm with a| ⟨o,c,g⟩
 .exact a rfl
 .rw[show W.heap[B]?=_ from h]at c;cases c;cases g
section
variable{l n:Nat}{P:cJ}{ops:Array Oper}{Q:Exit->Act->bW->Prop}{md:Region.Mode}
def auB{m:Nat}{row:String}{args:Array b8}{w:bW}{R:b8->bW->Prop}(h:Go.Rows P row args w R):RowsIn (Fence.wide.inRound l) m P row args w R:=λc cs _=>by
 obtain⟨v,w',r,s⟩:=h c cs;exact⟨v,w',r,stepsIn_wide.2 s⟩
def alO{o:Oper}{a:Act}{w:bW}{K:Act->bW->Prop}(b:∀c,o.op≠ .defer c)(h:o.wp P a w K Q):o.wpIn (Fence.wide.inRound l) n P a w K Q:=by
 unfold Oper.wp at h;unfold Oper.wpIn;refine⟨λ_ _=>trivial,?_⟩;rw[show(Fence.wide.inRound l).round=some l from rfl,Oper.semAt_eq _ _ _ b];generalize (execOp a.eval o).run P w=r at h
 cases r with
 |ok x w'=>
  cases x<;>simp only[Oper.upon,Oper.uponIn]at h⊢<;>
   first
    |exact h
    |exact⟨λe=>(by cases e),callsIn_wide.2 h⟩
    |exact⟨λe=>(by cases e),auB h⟩
 |halt x w'=>cases x<;>simp only[Oper.upon,Oper.uponIn]at h⊢<;>exact h
def ayS{i:Nat}{K:Act->bW->Prop}{a:Act}{w:bW}(f:∀(j:Nat)(o:Oper)c,ops[j]?=some o->o.op≠ .defer c)(b:¬LetsOut Q)(h:wpOp P ops Q i K a w):
 wpOpIn (Fence.wide.inRound l) n P ops Q i K a w:=by
 unfold wpOp at h;unfold wpOpIn
 cases d:ops[i]? with
 |none=>simp only[d]at h⊢;exact h
 |some o=>
  simp only[d]at h⊢;split
  .rename_i e;rw[bB e]at h;rcases h with h|h
   .exact alO (λc=>f i o c d) h
   .exact absurd h.2 b
  .rename_i e;rw[bG e]at h;exact⟨λ_ _=>trivial,h⟩
def R9(d:∀(j:Nat)(o:Oper)c,ops[j]?=some o->o.op≠ .defer c)(b:¬LetsOut Q):∀(fuel:Nat)(listed:Array Bool)(a:Act)(w:bW),wpAny P md ops Q fuel listed a w->
 wpAnyIn (Fence.wide.inRound l) n P md ops Q fuel listed a w
 |0,_,_,_,h=>h
 |fuel+1,_,_,_,h=>⟨h.1,λi e=>wpOpIn_mono (λa' w' f=>R9 d b fuel _ a' w' f) (ayS d b (h.2 i e))⟩
def aDg(L:List Oper):Bool:=L.all λo=>match o.op with| .defer _=>false|_=>true
def Ym{id:Nat}{a:Act}{w:bW}{L:List Oper}(k:Nat)(m:P.follows .mixedOrders=true)(s:Region.lexTailB .any L.toArray k=true)(p:aDg L=true)(q:¬LetsOut Q)
 (h:wpStill P L.toArray w.drew (λa'=>wpList P L.toArray Q (L.drop k) a' w.drew) (L.take k) a):(Code.region id L.toArray true).wpIn (Fence.wide.inRound l) n P Q a w:=by
 have A:∀(j:Nat)(o:Oper)c,L.toArray[j]?=some o->o.op≠ .defer c:=by
  intro j o c u e;have m:o∈L:=eN (by simpa using u);have:=cI.1 p o m;rw[e]at this;cases this
 simp only[Region.lexTailB,cF,e_]at s;obtain⟨⟨⟨⟨d,v⟩,B⟩,C⟩,f⟩:=s;have b:(L.take k).length=k:=by simp at v⊢;omega
 have i:HeadInv .any L.toArray k (Array.replicate L.toArray.size false):=
  ⟨by simp,λj F _ x=>(by rw[getD_replicate_false]at x;cases x),λt _ D=>getD_in (by simpa using D) (getD_replicate_false _ _)⟩
 have H:=wpAnyL_lex (md:=.any) (g:=L.toArray.size-k) d B C v (L.take k) 0 _ a (λj u=>by
  have r:j<k:=om;simp[r]) (by simpa using b) i (by rw[b];exact f) h
 have y:=wpAny_of_head (Q':=Q) (g:=L.toArray.size-k) (λlisted a' z=>by
  have E:=wpAny_of_seq (md:=.any) (Q':=Q) (L.drop k) k listed a' w.drew (λj=>by simp[kU]) (by rw[show(L.drop k).length=L.toArray.size-k by simp];exact z.1) z.2
  rwa [show(L.drop k).length=L.toArray.size-k by simp]at E) _ _ _ H
 rw[b,show k+(L.toArray.size-k)=L.toArray.size by omega]at y;exact wpIn_region_any m (R9 A q _ _ _ _ y)
end
def Xd(L m:Nat)(w:bW)(a:L<=1048576)(h:cU L=m):
 Calls Tryz.prog 79 #[.int .i64 (L:Int)] w λe w'=>e=.returned (.int .i64 (m:Int))/\w=w':=by
 refine(afe (L:Int) w om om).mono ?_;rintro e w' ⟨rfl,rfl⟩;rw[amf,h];exact⟨rfl,rfl⟩
def iV(h:Nat->Nat)(m k:Nat):List b8:=(List.range 4).map λi=>if i<k then .slice (some ⟨h i,0,none⟩) m m else .slice none 0 0
def D7(h:Nat->Nat)(m k:Nat):(iV h m k).length=4:=by simp[iV]
def Cm(h:Nat->Nat)(m k:Nat){i:Nat}(a:i<4):(iV h m k)[i]?=some (if i<k then .slice (some ⟨h i,0,none⟩) m m else .slice none 0 0):=by
 simp[iV,a]
def amU(h:Nat->Nat)(m:Nat){k:Nat}(c:k<4):(iV h m k).set k (.slice (some ⟨h k,0,none⟩) m m)=iV h m (k+1):=by
 apply sE;intro i;rw[Ir];by_cases a:i<4
 .rw[Cm _ _ _ a,Cm _ _ _ a,D7];by_cases e:k=i
  .subst e;simp[a]
  .rw[bG e];by_cases b:i<k
   .rw[bB b,bB om]
   .rw[bG b,bG om]
 .rw[nA (by rw[D7];omega),nA (by rw[D7];omega),bG om]
def td(w:bW)(A:Option Addr)(L cap m k:Nat)(W:bW):Prop:=
 W.heap[w.heap.size]?=some (.cells #[.slice A L cap] 95 (0,0))/\W.heap[w.heap.size+1]?=some (.cells (iV (λi=>w.heap.size+3+i) m k).toArray 95 (0,0))/\
 W.heap[w.heap.size+1+1]?=some (.cells #[.slice (some ⟨w.heap.size+1,0,none⟩) 4 4] 29 (0,0))/\W.heap.size=w.heap.size+3+k/\
 (∀i,i<k->Row W (w.heap.size+3+i) m (λ_=>0))/\Below w.heap.size w W
def td.step{w W:bW}{A:Option Addr}{L cap m k:Nat}(h:td w A L cap m k W)(B:k<4):
 td w A L cap m (k+1) ((W.setCell ⟨w.heap.size+1,k,none⟩ (.slice (some ⟨W.heap.size,0,none⟩) m m)).alloc (.cells (madeCells #[Value.int .u8 0] m) 5)).drew:=by
 obtain⟨D,y,E,q,F,G⟩:=h;have a:(W.setCell ⟨w.heap.size+1,k,none⟩ (.slice (some ⟨W.heap.size,0,none⟩) m m)).heap.size=W.heap.size:=by simp[World.setCell]
 have d:∀j,j<W.heap.size->((W.setCell ⟨w.heap.size+1,k,none⟩ (.slice (some ⟨W.heap.size,0,none⟩) m m)).alloc (.cells (madeCells #[Value.int .u8 0] m) 5)).drew.heap[j]?=(W.setCell ⟨w.heap.size+1,k,none⟩ (.slice (some ⟨W.heap.size,0,none⟩) m m)).heap[j]?:=
  λj t=>Below.heap_alloc _ _ j (by rw[a];exact t)
 have u:∀j,j≠w.heap.size+1->(W.setCell ⟨w.heap.size+1,k,none⟩ (.slice (some ⟨W.heap.size,0,none⟩) m m)).heap[j]?=W.heap[j]?:=λj t=>Below.heap_setCell _ _ _ j t
 refine⟨(d _ om).trans ((u _ om).trans D),?_,(d _ om).trans ((u _ om).trans E),?_,λi I=>?_,?_⟩
 .rw[d _ om,setCell_eq_setRow _ _ _ _ 95 (0,0) _ y,setRow_heap _ _ _ _ 95 (0,0) y,<-amU _ m B,q];simp
 .show((W.setCell _ _).alloc _).heap.size=_;rw[World.size_alloc,a];omega
 .rcases nw i k with x|H
  .exact(F i x).gl ((d _ om).trans (u _ om))
  .obtain rfl:i=k:=om;have z:=Row.UX (W.setCell ⟨w.heap.size+1,i,none⟩ (.slice (some ⟨W.heap.size,0,none⟩) m m)) m;rw[a,q]at z;rw[q];exact z
 .exact(((G.setCell ch _).alloc (by rw[a];omega) _)).drew
def td.start(w:bW)(A:Option Addr)(L cap m:Nat):
 td w A L cap m 0 (((w.alloc (.cells #[.slice A L cap] 95)).alloc (.cells #[.slice none 0 0,.slice none 0 0,.slice none 0 0,.slice none 0 0] 95)).alloc (.cells #[.slice (some ⟨w.heap.size+1,0,none⟩) 4 4] 29)):=by
 have h:=heap_alloc_new w (.cells #[.slice A L cap] 95);have a:=heap_alloc_new (w.alloc (.cells #[.slice A L cap] 95)) (.cells #[.slice none 0 0,.slice none 0 0,.slice none 0 0,.slice none 0 0] 95);have d:=heap_alloc_new ((w.alloc (.cells #[.slice A L cap] 95)).alloc (.cells #[.slice none 0 0,.slice none 0 0,.slice none 0 0,.slice none 0 0] 95)) (.cells #[.slice (some ⟨w.heap.size+1,0,none⟩) 4 4] 29);simp only[World.size_alloc]at a d;refine⟨?_,?_,d,by simp,λi k=>absurd k om,?_⟩
 .rw[Below.heap_alloc _ _ _ (by simp;omega),Below.heap_alloc _ _ _ ch];exact h
 .rw[Below.heap_alloc _ _ _ ch];exact a
 .exact(((Below.refl _ w).alloc (dz _) _).alloc ch _).alloc (by simp;omega) _
structure Ft(w:bW)(A:Option Addr)(L cap m:Nat)(f:Nat->Int)(t:Nat)(W:bW):Prop where
 b0:W.heap[w.heap.size]?=some (.cells #[.slice A L cap] 95 (0,0))
 b1:W.heap[w.heap.size+1]?=some (.cells (iV (λi=>w.heap.size+3+i) m 4).toArray 95 (0,0))
 b2:W.heap[w.heap.size+1+1]?=some (.cells #[.slice (some ⟨w.heap.size+1,0,none⟩) 4 4] 29 (0,0))
 rows:∀i,i<4->Row W (w.heap.size+3+i) m (fill f t i)
 low:Below w.heap.size w W
 size:w.heap.size+9<=W.heap.size
def Am{W b:bW}{row:Option Nat}{j:Nat}{cs:Array b8}{ty:cf}{d:Nat×Nat}(h:W.heap[j]?=some (.cells cs ty d))(e:W.grownBy b row)
 (f:∀r,row=some r->r≠j\/∃o:Obj,W.heap[r]?=some o/\o.isCells=false):b.heap[j]?=W.heap[j]?:=by
 refine e.block j (kq.1 h).1 λg=>?_
 rcases f j g.symm with a| ⟨o,c,i⟩
 .exact a rfl
 .rw[h]at c;cases c;cases i
def Ft.kept{w W k:bW}{A:Option Addr}{L cap m t:Nat}{f:Nat->Int}(h:Ft w A L cap m f t W){row:Option Nat}(d:W.grownBy k row)
 (q:∀r,row=some r->r=w.heap.size+3+4\/(w.heap.size+9<=r/\∃o:Obj,W.heap[r]?=some o/\o.isCells=false)):Ft w A L cap m f t k:=by
 have a:∀j,j≠w.heap.size+3+4->∀r,row=some r->r≠j\/∃o:Obj,W.heap[r]?=some o/\o.isCells=false:=λj x r e=>by
  rcases q r e with rfl| ⟨_,h⟩
  .exact .inl (λe=>x e.symm)
  .exact .inr h
 refine⟨(Am h.b0 d (a _ om)).trans h.b0,(Am h.b1 d (a _ om)).trans h.b1,(Am h.b2 d (a _ om)).trans h.b2,λi y=>?_,h.low.grown d h.low.size ?_,n_ h.size d.size⟩
 .obtain⟨Li,u,z⟩:=h.rows i y;exact⟨Li,(Am u d (a _ om)).trans u,z⟩
 .intro r e;rcases q r e with rfl| ⟨h,_⟩<;>omega
set_option maxRecDepth 100000 in
set_option maxHeartbeats 1000000 in
def axZ(A:Option Addr)(L cap:Nat)(f:Nat->Int)(w:bW)(hL:L<=1048576)(hc:L<=cap)(abz:0<L->cap<=9223372036854775807)(hb:AQ w A L f):
 Calls Tryz.prog 264 #[.slice A L cap] w (Ys w (cU L) (fill f L)):=by
 have aET:∀w:bW,(Instr.makeSlice 29 (.int .i64 4) (.int .i64 4)).run Tryz.prog w=.ok (.slice (some ⟨w.heap.size,0,none⟩) 4 4) (w.alloc (.cells #[.slice none 0 0,.slice none 0 0,.slice none 0 0,.slice none 0 0] 95)):=λ_=>kr
 obtain⟨m,hm⟩:∃m,cU L=m:=⟨_,rfl⟩
 have PY:m<=1048576:=by rw[<-hm];unfold cU;omega
 have zu:=Uf m PY;have Hm:=Lib.hid hm;rw[hm];clear hm;refine(callsIn_wide (n:=3)).1 ?_;refine callsIn_of_wp_marks Tryz.func264 rfl trivial ?_ rfl;simp only[Tryz.ntmps264,kW,h_,jW,Nat.reduceAdd,Nat.reduceSub,w2,w3,w5,w6,kZ,qU];refine wpIn_wide.2 ?_
 go_wp2_with fail
 go_loopw [10] (λi W=>∃k:Nat,k<=4/\i=.int .i64 k/\td w A L cap m k W) (λi _=>4- (intOf i).toNat)
 case atStart=>exact⟨0,om,rfl,td.start w A L cap m⟩
 case round=>
  obtain⟨k,hk,rfl,h1,h2,h3,h4,h5,h6⟩:=hrel;by_cases hlt:k<4
  .have c1:wr.cell? ⟨w.heap.size,0,none⟩=some (.slice A L cap):=cell_of_row wr _ 0 _ _ _ h1;have c3:wr.cell? ⟨w.heap.size+1+1,0,none⟩=some (.slice (some ⟨w.heap.size+1,0,none⟩) 4 4):=cell_of_row wr _ 0 _ _ _ h3;have k0:(0:Int)<=(k:Int):=om;have k1:(k:Int)<4:=om;have c2:wr.cell? ⟨w.heap.size+1,k,none⟩=some (.slice none 0 0):=by
    rw[cell_of_row wr _ k _ _ _ h2];simpa using Cm _ m k hlt
   have f2:wr.frozen? ⟨w.heap.size+1,k,none⟩=false:=by simp[World.frozen?,h2]
   have n1:=World.new_ne wr _ c1;have n2:=World.new_ne wr _ c2;have n3:=World.new_ne wr _ c3;have H1:=Lib.hid h1;have H2:=Lib.hid h2;have H3:=Lib.hid h3;have H4:=Lib.hid h4;have l2:w.heap.size+1<wr.heap.size:=World.block_lt_of_cell? wr _ c2;have ca:∀N C,((wr.drewN N).alloc (.cells C 5)).cell? ⟨w.heap.size+1,k,none⟩=some (.slice none 0 0):=λN C=>(World.cell?_alloc_lt (wr.drewN N) _ ⟨w.heap.size+1,k,none⟩ l2).trans c2
   have fa:∀N C,((wr.drewN N).alloc (.cells C 5)).frozen? ⟨w.heap.size+1,k,none⟩=false:=λN C=>(World.frozen?_of_block (w:=wr.drewN N) (Below.heap_alloc (wr.drewN N) _ _ l2)).trans f2
   clear h1 h2 h3 h4
   go_wp2_with fail
   go_region_held3 (λW=>W.cell? ⟨w.heap.size,0,none⟩=some (.slice A L cap)/\W.cell? ⟨w.heap.size+1+1,0,none⟩=some (.slice (some ⟨w.heap.size+1,0,none⟩) 4 4)) (go_keep) (first| (go_at_call 79;refine(Xd L m _ hL Hm.out).mono ?_;rintro e w' ⟨rfl,rfl⟩))
   all_goals go_wp2_with fail
   go_roundw
   case rel=>exact⟨k+1,om,by go_num,td.step ⟨H1.out,H2.out,H3.out,H4.out,h5,h6⟩ hlt⟩
   case measure=>simp[intOf];omega
  .obtain rfl:k=4:=om;have c1:wr.cell? ⟨w.heap.size,0,none⟩=some (.slice A L cap):=cell_of_row wr _ 0 _ _ _ h1;have H1:=Lib.hid h1;have H2:=Lib.hid h2;have H3:=Lib.hid h3;have H4:=Lib.hid h4;clear h1 h2 h3 h4 zu aET
   go_wp2_with (go_at_call 80;refine(S3 _ _ _).mono ?_;rintro e w' ⟨rfl,rfl⟩)
   refine wpIn_wide.1 (V0 (m:=3) om (wr.heap.size) (wr.heap.size+1) 0 (L:Int) om om om rfl ?ho ?hn rfl
    (λk W=>∃t:Nat,Hid (fD 0 (0+(L:Int)) k=(t:Int))/\Ft w A L cap m f t W) ?hI ?hi0
    (λs p B=> {tmps:= #[.slice A L cap,.pointer (some {block:=w.heap.size,off:=0}),.slice none 0 0,.pointer (some {block:=w.heap.size+1+1,off:=0}),u4,.int .i64 s,.pointer (some ⟨B,0,none⟩),
     .slice (some {block:=w.heap.size+1,off:=0}) 4 4,.slice (some {block:=w.heap.size+1,off:=0}) 4 4,.int .i64 4,.int .i64 4,.bool false,u12,u13,u14,u15,u16,u17,u18,u19,u20,
     .slice A L cap,.int .i64 L,.func (.func 161) #[] #[.pointer (some {block:=wr.heap.size,off:=0}),.pointer (some {block:=wr.heap.size+1,off:=0})],
     .int .i64 s,.agg #[.int .i64 (nL s),.int .i64 (nP s),.int .i64 p],undef,undef,undef,undef,undef,undef,undef,undef,undef,undef,undef,undef,undef,undef,undef,undef,undef,undef],defers:=[]}) ?assign ?body ?done)
   case ho=>exact(Boxed.new wr 2 (.int .i64 0)).alloc _
   case hn=>have:=Boxed.new (wr.alloc (.cells #[.int .i64 0] 2)) 2 (.int .i64 (L:Int));rw[World.size_alloc]at this;exact this
   case hI=>
    rintro k W W' row ⟨t,ht,hrun⟩ hg hr;have h4:=H4.out;refine⟨t,ht,hrun.kept hg λr e=>?_⟩;rcases hr r e with rfl| ⟨h,o⟩
    .exact .inl h4
    .exact .inr ⟨by simp at h;omega,o⟩
   case hi0=>
    have h4:=H4.out;have o1:∀j,j<wr.heap.size->((wr.alloc (.cells #[.int .i64 0] 2)).alloc (.cells #[.int .i64 (L:Int)] 2)).heap[j]?=wr.heap[j]?:=λj hj=>
     (Below.heap_alloc _ _ _ (by simp;omega)).trans (Below.heap_alloc _ _ _ hj)
    refine⟨0,rfl,(o1 _ om).trans H1.out,(o1 _ om).trans H2.out,(o1 _ om).trans H3.out,λi hi=>?_,(h6.alloc h6.size _).alloc (by simp;omega) _,by simp;omega⟩;exact((h5 i hi).gl (o1 _ om)).congr λj _=>(YE f i j).symm
   case assign=>
    intro l s p W K hK
    gi_wp2
    exact hK
   case body=>
    rintro l k s p W B hk hp hs1 hlt ⟨t,ht,hrun⟩ mh CK;have h4:=H4.out;have hBw:w.heap.size+9<=B:=by simp at CK;omega
    obtain rfl:s=(t:Int):=hk.symm.trans ht.out;have htl:t<L:=om;have abz:=abz om;have hpl:=Md (0+(L:Int)) (t:Int) hlt;rw[hp]at hpl;obtain⟨q,rfl⟩:∃q:Nat,p=(q:Int):=⟨p.toNat,om⟩
    have Ia:1<=q:=om;have wN:t%64+q<=64:=om;have P2:t+q<=L:=om;have CL:Hid (fD 0 (0+(L:Int)) (k+1)=((t+q:Nat):Int)):=by
     show fD 0 (0+(L:Int)) k+kD (0+(L:Int)) (fD 0 (0+(L:Int)) k)=_;rw[hk,hp];omega
    have P0:eE t+q<=m:=by have:=OR wN P2;have:=Hm.out;omega
    have oY:=Fv t;rw[TB,Sj]at mh⊢;clear hk hp hs1 hlt hpl h4 CK ht;obtain⟨ga,oa,rfl,H6⟩:=hb om;have d0:W.cell? ⟨B,0,none⟩=some (.int .i64 (ey t:Int)):=cell_of_row W B 0 _ _ _ mh;have d1:W.cell? ⟨B,1,none⟩=some (.int .i64 (eE t:Int)):=cell_of_row W B 1 _ _ _ mh;have d2:W.cell? ⟨B,2,none⟩=some (.int .i64 (q:Int)):=cell_of_row W B 2 _ _ _ mh;have d3:W.cell? ⟨w.heap.size+1+1,0,none⟩=some (.slice (some ⟨w.heap.size+1,0,none⟩) 4 4):=cell_of_row W _ 0 _ _ _ hrun.b2;have d4:W.cell? ⟨w.heap.size,0,none⟩=some (.slice (some ⟨ga,oa,none⟩) L cap):=cell_of_row W _ 0 _ _ _ hrun.b0;have d5:W.cell? ⟨w.heap.size+1,ey t,none⟩=some (.slice (some ⟨w.heap.size+3+ey t,0,none⟩) m m):=by
     rw[cell_of_row W _ (ey t) _ _ _ hrun.b1];simpa[oY]using Cm (λi=>w.heap.size+3+i) m 4 oY
    obtain⟨Li,hLi,hLl,hLc⟩:=hrun.rows (ey t) oY;generalize zw:ey t=sn at*;generalize H7:eE t=an at*;have Hsn:=Lib.hid zw;have Han:=Lib.hid H7;have HLi:=Lib.hid hLi;have HLc:=Lib.hid hLc;have HLl:=Lib.hid hLl;have Hbk:=Lib.hid mh;clear zw H7 hLi hLc hLl mh;have i0:(0:Int)<=(sn:Int):=om;have i1:(sn:Int)<4:=om;have i2:(0:Int)<=(an:Int):=om;have i3:(an:Int)<=(an:Int)+(q:Int):=om;have i4:(an:Int)+(q:Int)<=(m:Int):=om;have i5:(0:Int)<=(t:Int):=om;have i6:(t:Int)<=(L:Int):=om;have i7:(t:Int)< (cap:Int):=om;have i8:an<m:=om;have i9:t<cap:=om;have i8n:¬m=an:=om;have i9n:¬cap=t:=om;have j0:(0:Int)<=(an:Int)+(q:Int):=om;have j2:((an:Int)+(q:Int)).toNat=an+q:=om;have j1:IntKind.i64.wrap ((an:Int)+(q:Int))=(an:Int)+(q:Int):=IntWalk.i64_in _ om;refine wpIn_block ?_;refine Ym 16 kr kr (by rfl) ?hno ?_
    case hno=>
     rintro⟨a,w',hx⟩;exact absurd hx.1 ch
    simp only[Ix,IE,acE,sI]
    repeat still_step
    refine wpStill_nil ?_;clear j0 j1 j2;obtain⟨cs,hcs⟩:∃cs:List b8,cs=(List.range q).map (λj=>Value.int .u8 (f (t+j))):=⟨_,rfl⟩
    have ja:cs.length=q:=by rw[hcs];simp
    have hcc:∀j,j<cs.length->cs[j]?=some (.int .u8 (f (t+j))):=λj hj=>by rw[ja]at hj;rw[hcs];simp[hj]
    refine wpList_copy_own rfl (.tmp 38) (.tmp 41) 95 95 rfl 5 Tryz.underlying95 kr (w.heap.size+3+sn) an q (m-an) ⟨ga,oa+t,none⟩ (L-t) (cap-t) rfl rfl Li.toArray 5 HLi.out cs ?_ ?_ ?_ ?_ ?_
    .rw[ja];simp only[Nat.min_def];split<;>omega
    .intro j v hv;have hj:j<cs.length:=by
      rcases nw j cs.length with h|h
      .exact h
      .rw[nA h]at hv;cases hv
     have aEW:(⟨ga,oa+t,none⟩:Addr).add j=⟨ga,oa+t+j,none⟩:=by unfold Addr.add;split<;>simp_all
     rw[hcc j hj]at hv;cases hv;rw[aEW,zD];have hcell:=H6 (t+j) om;exact(hrun.low.cell (p:=⟨ga,oa+(t+j),none⟩) (World.block_lt_of_cell? w _ hcell)).trans hcell
    .have:=HLl.out;rw[ja];simp;omega
    .intro v hv;rw[hcs]at hv;obtain⟨j,_,rfl⟩:=gg.1 hv;rfl
    .have h4:=H4.out;have hrow:=Row.copy (w:=W.drew) Li HLi.out HLl.out HLc.out an cs (λj=>f (t+j)) hcc (by rw[ja];exact P0);generalize hW2:W.drew.setRow (w.heap.size+3+sn) (Li.toArray.toList.take an++(cs++Li.toArray.toList.drop (an+cs.length))).toArray=W2;rw[show(Li.take an++(cs++Li.drop (an+cs.length)))=(Li.toArray.toList.take an++(cs++Li.toArray.toList.drop (an+cs.length)))from rfl,hW2]at hrow;have zx:∀j,j≠w.heap.size+3+sn->W2.heap[j]?=W.heap[j]?:=λj hj=>by rw[<-hW2];exact setRow_other W.drew _ j _ hj
     have hsz:W2.heap.size=W.heap.size:=by rw[<-hW2];simp[World.setRow]
     have hgr:W.grownBy W2 (some (w.heap.size+3+sn)):=⟨by rw[<-hW2];rfl,by rw[<-hW2];rfl,by rw[<-hW2];rfl,om,λj _ hj=>zx j (λe=>hj (by rw[e]))⟩
     refine⟨rfl,KeepsOthers.of_grownBy hgr (λj o e hj=>?_),zx _ om,t+q,CL,(zx _ om).trans hrun.b0,(zx _ om).trans hrun.b1,(zx _ om).trans hrun.b2,λi hi=>?_,hrun.low.grown hgr hrun.low.size (λr e=>by cases e;omega),by have:=hrun.size;omega⟩
     .cases e;rw[HLi.out]at hj;cases hj;rfl
     .have hst:=λj=>XP f (t:=t) (p:=q) (j:=j) hi wN
      rw[Hsn.out,Han.out]at hst;by_cases qR:i=sn
      .subst qR;refine hrow.congr λj _=>?_
       rw[hst j,ja];by_cases qQ:an<=j/\j<an+q
       .rw[bB qQ,bB ⟨rfl,qQ⟩]
       .rw[bG qQ,bG (λh=>qQ h.2)]
      .refine((hrun.rows i hi).gl (zx _ om)).congr λj _=>?_
       rw[hst j,bG (λh=>qR h.1)]
   case done=>
    rintro D K W hK ⟨t,ht,hrun⟩ hD hd;have htL:t=L:=by have h1:=ht.out;have h2:=hK.1;omega
    subst htL;have c3:W.cell? ⟨w.heap.size+1+1,0,none⟩=some (.slice (some ⟨w.heap.size+1,0,none⟩) 4 4):=cell_of_row W _ 0 _ _ _ hrun.b2
    go_wp2_with fail
    refine⟨by simp,.inl ⟨_,_,rfl,run_takeDeferred hd,?_⟩⟩;have h4:=H4.out;have hD9:w.heap.size+9<=D:=by simp at hD;omega
    have hDk:∀j,j<w.heap.size+9->(W.putObj D (.deferred none)).heap[j]?=W.heap[j]?:=λj hj=>World.putObj_heap_other om
    have hsz:=hrun.size;refine⟨_,results_tmp rfl _ _ _,w.heap.size+1,4,λi=>w.heap.size+3+i,rfl,om,om,⟨⟨_,(hDk _ om).trans hrun.b1,by simp[D7],λi hi=>?_⟩,⟨om,by rw[World.putObj_size];omega⟩,λi hi=>⟨om,om,(hrun.rows i hi).gl (hDk _ om)⟩,λi j _ _ h=>by omega⟩,
     hrun.low.trans (belowK_b (w:=w) (dz _) W D _ _ om hd rfl rfl)⟩
    simpa[hi]using Cm (λi=>w.heap.size+3+i) m 4 hi
def aqi(b)(y:b.length<=1048576):eX Tryz.prog 264 [.c (.p (.sl (fy b)))] [] (.v (.c (.own 0))) [(0,.row 95 (nB b))]:={
 own:=⟨_,Tryz.func264,by kernel_rfl,rfl⟩
 call :=λw M N vals O R S T U V H=>by
  obtain⟨v,I,o⟩:=H 0 _ rfl;have d:vals= #[v]:=by
   grind
  subst d;obtain⟨A,cap,rfl,J,c,K⟩:=JL (show RP _ w (.sl (fy b)) v from o);refine(axZ A b.length cap _ w y ?_ ?_ K).mono ?_
  .rcases c with h| ⟨h,_⟩<;>omega
  .intro W;rcases c with h| ⟨_,h⟩
   .omega
   .exact h
  rintro e w' ⟨G,c4,X,rfl,k1,k2,q,f⟩;obtain⟨cur,q1,q2,q3⟩:=q.head;have z:=q.low;have B:∀g,w.heap.size<=g->g≠G->¬bad M ⟨λn=>if n=0 then some ⟨some G,4,c4,1⟩else none,[]⟩ g:=by
   rintro g C L (y| ⟨n,x,s,Y⟩)
   .grind
   grind
  refine⟨_,⟨λn=>if n=0 then some ⟨some G,4,c4,1⟩else none,[]⟩,rfl,Frame.B9 f,⟨rfl,?_,?_,λm D=>absurd D (sK m)⟩,?_,?_⟩
  .grind
  .simp_all
  .intro n Z a;simp only[gb,kJ]at a;split at a
   .rename_i s;simp at s;subst s;cases a;refine⟨⟨some G,4,c4,1⟩,cur,(0,0),by simp,.inl rfl,λg C=>by cases C;exact q1,by simp[nB],k1,by simp only[maxLen];omega,by simp only;omega,by kernel_rfl,by simp only;omega,λr E=>?_,λh=>(by cases h),λi r j p F t=>?_⟩
    .simp only[nB,gg]at E;obtain⟨i,_,rfl⟩:=E;rfl
    .have k:i<4:=by
      grind[nB]
     simp only[nB,cY,sG k,cg,ko]at F;subst F;have u:j=0:=by cases j with|zero=>rfl|succ j=>simp[we]at t
     subst u;simp[we]at t;subst t;obtain⟨r1,r2,r3⟩:=q.rows i k;have D:cU b.length<=maxLen:=by simp only[maxLen];unfold cU;omega
     simp_all[Ub]
   .cases a
  .exact .inr ⟨⟨some G,4,c4,1⟩,by simp,rfl⟩}
end Sq
def Ag:List L->Option (List L):=λls=>match ls with
 |[l]=>match mD l.bE with
  |some b=>if b.length<=1048576 then some [.r (Sp.nB b)]else none
  |none=>none
 |_=>none
def alD:bw:=⟨264,[.c (.p .sl U0)],[],1,1,.v (.c (.own 0)),[(0,.row 95 U1)],Ag,2076⟩
def azp:alD.ok Tryz.prog:=by
 intro ls os f a c;have a:Ag ls=some os:=a;unfold Ag at a;split at a
 .split at a
  .rename_i b d;split at a
   .rename_i e;cases a;have:=Sq.aqi b e;rw[<-L9 d]at this;exact this
   .cases a
  .cases a
 .cases a
end
end
end Go.Proofs.YtiikkkhcolcebaaGreatDoor
