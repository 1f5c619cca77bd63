/- A part. -/
import Derived.Test.YtndegphojkiblaaGreatDoorG12
import Derived.Test.YtndegphojkiblaaGreatDoorG13
import Derived.Test.YtndegphojkiblaaGreatDoorG15
import Derived.Test.YtndegphojkiblaaGreatDoorProg
import Derived.WalkKit
import Derived.WalkSpells
import Derived.WalkLawsBesides
import Derived.RangeFuncBox
import Derived.RangeFuncCalls
import Derived.RangeFuncLeaves
import Derived.Shelf.Abstract
import Derived.OwnWalkIn
import Derived.TacticsInMore
import Derived.LoopNIn
import Derived.LoopIn
import Derived.Maps.AppendAt
import Derived.Deep.AppendLies
import Derived.Deep.Onto
import Derived.Lib.Hide
set_option linter.all false
set_option maxHeartbeats 4000000
set_option maxRecDepth 100000
namespace Go.Proofs.YtndegphojkiblaaGreatDoor
noncomputable section
section
open Go.RowKit
open Classical
def NF(P:cD)(rs:List ResultVar)(r:V)(a:Hp)(X:Fx)(e:Exit)(c:Act)(w':cp):Prop:=
 (e=.normal\/e=.ret)/\∃st' D,Told {X with D:=D} st' c w'/\rQ P rs st'=some r/\(∀n b,a.lookup n=some b->st'.heap.lookup n=some b)/\
  (D=[]\/∃d,D=[{target:=.collected d,args:= #[]}]/\X.w0.heap.size<=d/\w'.heap[d]?=some (.deferred (some [])))
theorem fg.Za{P f fn c}(hf:P.funcs[f]?=some fn) (hname:(fn.name== "runtime.NumGoroutine")=false) (hb:fn.body=some c) {n} (hn:fn.ntmps=n) {rs} (xn:fn.results=rs.toArray) {args} {H} {r} {H'}
 (h:∀X:Fx,X.P=P->X.k0=H.length->X.D=[]->∀a w,Told X (nk n args H) a w->c.wp P (NF P rs r H' X) a w):fg P f args H r H' where
 own:=⟨fn,hf,hname,by rw[hb];rfl⟩
 call :=λw M N vals hM O7 AV O8 hH gn hv=>by
  subst hn;have O9:rs=fn.results.toList:=by rw[xn]
  subst O9
  let X:Fx:=⟨P,M,λg=>∃n x,N n=some x/\x.g=some g,w,N,H.length,[]⟩
  refine(callsIn_wide (n:=0)).1 (callsIn_of_wp_marks hf hb trivial (wpIn_wide.2 (wp_mono (h X rfl rfl rfl _ w ?_) ?_)) rfl)
  .refine ⟨⟨N,[]⟩,?_,rfl⟩;exact {
    defers:=rfl
    bt:=rfl
    frame:=Frame.refl _ _
    eW:=hM
    dD:=O7
    names:=λn x g h1 h2=>⟨(AV n x g h1 h2).1,.inl ⟨n,x,h1,h2⟩,(AV n x g h1 h2).2⟩
    inj:=O8
    ec:=λ_ _=>.inr rfl
    fQ:=dx _
    fK:=λn hn=>by cases hn
    size:=by simp[nk,gn]
    tmps:=λi v hi=>by
     simp only[nk]at hi;rw[lZ]at hi;simp only[bC]at hi;split at hi
     .rename_i hlt;simp only[cN,bY]at hi;obtain⟨x,hx,rfl⟩:=hi;obtain⟨u,h1,h2⟩:=hv i x hx;exact⟨u,by rw[Bs,bF (by rw[gn];exact hlt)];exact h1,h2⟩
     .rename_i hlt;rw[ada]at hi;split at hi
      .rename_i uL;simp at hi;subst hi;exact⟨undef,by simp only[Bs,gn,hlt,if_false,Array.getElem?_replicate,uL,if_true],MA _ _ _⟩
      .cases hi
    heap:=λn b hl=>by
     simp only[nk,Z']at hl;exact .inr (hH n b hl)}
  .rintro e a' w' ⟨he,st',D,⟨E,hR,hg⟩,hr,O_,hD⟩;have key:∀w'',Rel {X with D:=D} E st' a' w''->∃u,(results fn a'.tmps).run P w''=.ok u w''/\∃(v:cr)(E':Env),Ending.returned u=.returned v/\Frame X.K w w''/\wG N H.length w w'' E'/\(∀n b,H'.lookup n=some b->RB P M E' w'' n b)/\RV M E' w'' r v:=λw'' hR=>by
    obtain⟨u,h1,h2⟩:=YN (X:={X with D:=D}) hR hg hr;exact⟨u,h1,u,E,rfl,hR.frame,{bt:=hR.bt.trans hg,names:=λn x g k1 k2=>⟨(hR.names n x g k1 k2).1,(hR.names n x g k1 k2).2.1⟩,inj:=hR.inj,ec:=hR.ec},λn b hl=>hR.row (by rw[hg];simp) (O_ n b hl),h2⟩
   have fin:LeavesInM Fence.wide 0 P fn a'.tmps (λe w'=>∃(v:cr)(E':Env),e=.returned v/\Frame X.K w w'/\wG N H.length w w' E'/\(∀n b,H'.lookup n=some b->RB P M E' w' n b)/\RV M E' w' r v) a'.defers .returning w':=by
    have hd:a'.defers=D:=hR.defers;rw[hd];rcases hD with rfl| ⟨d,rfl,jU,hdd⟩
    .exact key w' hR
    .refine⟨by simp,.inl ⟨d,_,rfl,run_takeDeferred hdd,?_⟩⟩;refine key _ (hR.other rfl rfl rfl (by simp) λg o ho hi=>?_);refine World.putObj_heap_other λhgd=>?_
     subst hgd;rw[hdd]at ho;cases ho;rcases hi with hi|hi| ⟨_,_,hi⟩
     .have:g<X.w0.heap.size:=hi;omega
     .cases hi
     .cases hi
   rcases he with rfl|rfl
   .exact fin
   .exact fin
def Fx.base(X:Fx)(E:Env)(w:cp):Fx:=⟨X.P,X.M,λg=>∃n x,E.N n=some x/\x.g=some g,w,X.N0,X.k0,X.D⟩
theorem Rel.TE{X E st a w}(h:Rel X E st a w):Rel (X.base E w) E st a w:={
 defers:=h.defers
 bt:=h.bt
 frame:=Frame.refl _ _
 eW:=λg m=>mO (h.eW g m) h.frame.size
 dD:=h.dD
 names:=λn x g d k=>⟨(h.names n x g d k).1,.inl ⟨n,x,d,k⟩,(h.names n x g d k).2.2⟩
 inj:=h.inj
 ec:=h.ec
 fQ:=h.fQ
 fK:=h.fK
 size:=h.size
 tmps:=h.tmps
 heap:=h.heap}
theorem Rel.VY{X E E' st st' a t w w'}(h:Rel X E st a w)(k:Rel (X.base E w) E' st' t w'):Rel X E' st' t w':={
 defers:=k.defers
 bt:=k.bt
 frame:=h.frame.trans k.frame λg u⟨n,x,d,o⟩=>(h.names n x g d o).2.1.resolve_right om
 eW:=h.eW
 dD:=k.dD
 names:=λn x g d o=>⟨(k.names n x g d o).1,(by
  rcases(k.names n x g d o).2.1 with⟨m,y,q1,q2⟩|q
  .exact(h.names m y g q1 q2).2.1
  .exact .inr (qo h.frame.size q)),(k.names n x g d o).2.2⟩
 inj:=k.inj
 ec:=k.ec
 fQ:=k.fQ
 fK:=k.fK
 size:=k.size
 tmps:=k.tmps
 heap:=k.heap}
def Env.off(E:Env)(S:List Nat):Prop:=∀n x g,E.N n=some x->x.g=some g->g∉S
theorem Rel.Vy{X E E' st st' a B w w' S}(h:Rel X E st a w)(k:Rel (X.base E w) E' st' B w')(u:E.off S)(A:∀g∈S,g<w.heap.size):
 E'.off S/\(∀g∈S,w'.heap[g]?=w.heap[g]?)/\w.heap.size<=w'.heap.size:=by
 refine⟨λn x g o t d=>?_,λg d=>k.frame.block g (A g d) λ⟨n,x,o,t⟩=>u n x g o t d,k.frame.size⟩;rcases(k.names n x g o t).2.1 with⟨m,y,q1,q2⟩|q
 .exact u m y g q1 q2 d
 .have:=A g d;have:w.heap.size<=g:=q;omega
theorem FW{l n X c Q st}(i:∀b:Fx,b.P=X.P->b.k0=X.k0->iz l n b c Q st){E a w}(h:Rel X E st a w)(j:st.bt=[]){S}(k:E.off S)(m:∀g∈S,g<w.heap.size):
 c.wpIn (Fence.wide.inRound l) n X.P (λe d w'=>∃st' E',Q e st'/\st'.bt=[]/\Rel X E' st' d w'/\E'.off S/\(∀g∈S,w'.heap[g]?=w.heap[g]?)/\w.heap.size<=w'.heap.size) a w:=by
 refine wpIn_mono (i (X.base E w) rfl rfl a w ⟨E,h.TE,j⟩) ?_;rintro e d w' ⟨st',o,E',f,p⟩;exact⟨st',E',o,p,h.VY f,h.Vy f k m⟩
theorem ZS{X c Q st}(hA:∀X':Fx,X'.P=X.P->X'.k0=X.k0->Aw X' c Q st){E a w}(h:Rel X E st a w)(hg:st.bt=[]){S}(hS:E.off S)(hl:∀g∈S,g<w.heap.size):
 c.wp X.P (λe a' w'=>∃st' E',Q e st'/\st'.bt=[]/\Rel X E' st' a' w'/\E'.off S/\(∀g∈S,w'.heap[g]?=w.heap[g]?)/\w.heap.size<=w'.heap.size) a w:=by
 refine wp_mono (hA (X.base E w) rfl rfl a w ⟨E,h.TE,hg⟩) ?_;rintro e a' w' ⟨st',h1,E',h2,h3⟩;exact⟨st',E',h1,h3,h.VY h2,h.Vy h2 hS hl⟩
theorem OU{l n X c Q st}(h:iz l n X c (λe st=>∃st',Le X st st'/\Q e st') st):iz l n X c Q st:=λa w d=>by
 refine wpIn_mono (h a w d) ?_;rintro e f w' ⟨st',⟨b,g,i⟩,j⟩;exact⟨b,i,g f w' j⟩
def V.Fg(k:Nat):V->Bool
 |.v (.c .dead)=>true
 |.v (.c (.ptr n _))=>decide (n<k)
 |.v (.c (.fn _ dE))=>dE.all λn=>decide (n<k)
 |_=>false
theorem Rel.again{X A E st0 st H a N w}(q:Rel X A st0 H N)(h:Rel X E st a w)(O:∀m,m<X.k0->A.N m=X.N0 m)(B:st0.bt=[])(P:st.bt=[])(d:st.tmps=st0.tmps)(hp:st0.tmps.all (V.Fg X.k0)=true):Rel X E st H w:={
 defers:=q.defers
 bt:=h.bt
 frame:=h.frame
 eW:=h.eW
 dD:=h.dD
 names:=h.names
 inj:=h.inj
 ec:=h.ec
 fQ:=h.fQ
 fK:=h.fK
 size:=by rw[d];exact q.size
 heap:=h.heap
 tmps:=λi v t=>by
  obtain⟨u,W,I⟩:=h.tmps i v t;rw[d]at t;obtain⟨R,S,J⟩:=q.tmps i v t;refine⟨R,S,?_⟩;have k:=cj.1 hp v (dB t);have name:∀n(Q:Nm->Prop)(K:Nm->Prop),n<X.k0->cS A n Q->cS E n K->cS E n Q:=λn Q K M T D=>by
   obtain⟨x,k1,k2⟩:=cS.get T (by rw[q.bt,B];simp);obtain⟨Y,F,_⟩:=cS.get D (by rw[h.bt,P];simp);refine .inr ⟨x,?_,k2⟩;rcases h.ec n M with o|o
   .rw[o]at F;cases F
   .rw[o,<-O n M,k1]
  cases v with
  |bq=>cases k
  |v x=>
   cases x with
   |agg=>cases k
   |c c=>
    cases c<;>first
     |trivial
     |(cases k;done)
     |skip
    .rename_i n off;exact name n _ _ (by simpa[V.Fg]using k) J I
    .rename_i f dE;obtain⟨us,q1,q2,q3⟩:=J;obtain⟨U,_,_,q6⟩:=I;refine⟨us,q1,q2,λj n G=>?_⟩;obtain⟨u,k1,k2⟩:=q3 j n G;obtain⟨Z,F,o⟩:=q6 j n G;refine⟨u,k1,name n _ _ ?_ k2 o⟩;have:=cj.1 (show dE.all (λn=>decide (n<X.k0))=true from k) n (dB G);simpa using this}
theorem piece{C}(a:dt.ok Tryz.prog C){c k0 n r ex S S' u ρ ρ' e}(h:exec TT C k0 c n ex r S=some u)(b:S.bt=[])(d:ρ.length=S.nv)(f:u.a6 ρ=some (.st e S',ρ')){X}(g:X.P=Tryz.prog)(i:X.k0=k0):
 S'.bt=[]/\S'.nv=ρ'.length/\Aw X c (λj st=>j=e.to/\st=S'.a6 ρ') (S.a6 ρ):=by
 obtain⟨p,q,k,l,s,m,o⟩:=lQ gf a zv c b h ρ _ ρ' d f;cases k;exact⟨m,l,o X g i _ ⟨rfl,rfl⟩⟩
theorem pJ{C}(b:dt.ok Tryz.prog C){id ops}(a:xm ops=true){S S' u ρ ρ' e}(h:er TT C ops false S=some u)(c:ρ.length=S.nv)(d:u.a6 ρ=some (.st e S',ρ')){X}(f:X.P=Tryz.prog){l n Q}(g:Q .normal (S'.a6 ρ')):
 iz l n X (.region id ops false) Q (S.a6 ρ):=by
 obtain⟨k,i,m,o,p,j⟩:=amN (k0:=0) (id:=id) gf b a h c d (l:=l) (n:=n);cases i;exact j X f _ g
end
section
open Go.RowKit Go.Shelf
attribute [local go_sem] Oper.semAt_some
def fA(n:Int):Int:=n/64%4
def eE(n:Int):Int:=n/64/4*64+n%64
def i_(n:Int):Int:=if n<=0 then 0 else((n-1) /256+1)*64
theorem Tf(n):0<=fA n/\fA n<=3:=by unfold fA;omega
theorem VO(n)(h:0<=n):0<=eE n/\eE n<=n:=by unfold eE;omega
def ew(e s:Int):Int:=min (64-s%64) (e-s)
def cV(off e:Int):Nat->Int
 |0=>off
 |k+1=>cV off e k+ew e (cV off e k)
theorem CP(e s)(h:s<e):1<=ew e s/\ew e s<=64-s%64/\ew e s<=e-s:=by unfold ew;omega
theorem S4(e s)(h:s<=e):0<=ew e s/\ew e s<=e-s:=by unfold ew;omega
theorem yx(off e:Int)(h:off<=e):∀k,off<=cV off e k/\cV off e k<=e
 |0=>⟨GS _,h⟩
 |k+1=>by
  have a:=yx off e h k;have b:=S4 e (cV off e k) a.2;unfold cV;omega
theorem BV(off e)(h:off<=e):∀k,cV off e k<e->off+k<=cV off e k
 |0,_=>by simp[cV]
 |k+1,c=>by
  have b:=yx off e h k;have d:=S4 e (cV off e k) b.2;have a:cV off e k<e:=by
   grind[Int.lt_or_le,cV]
  have f:=CP e (cV off e k) a;have g:=BV off e h k a;unfold cV;omega
def Full(off e:Int)(K:Nat):Prop:=cV off e K=e/\∀j,j<K->cV off e j<e
theorem Full.uniq{off e K L}(h:Full off e K)(d:Full off e L):K=L:=by
 rcases GX K L with a|a|a
 .have:=d.2 K a;have:=h.1;omega
 .exact a
 .have:=h.2 L a;have:=d.1;omega
theorem Full.le{off e K}(h:Full off e K)(a:off<=e):(K:Int)<=e-off:=by
 cases K with
 |zero=>omega
 |succ k=>
  have d:=h.2 k om;have m:=BV off e a k d;omega
set_option maxHeartbeats 400000 in
theorem aaa(n)(w)(h0:0<=n)(h1:n<=9223372036854775807):
 Calls Tryz.prog 283 #[.int .i64 n] w λe w'=>e=.returned (.tuple #[.int .i64 (fA n),.int .i64 (eE n)])/\w=w':=by
 go_wp2
 go_ret2
 exact⟨rfl,rfl⟩
def KR(w:cp)(B:Nat):Int:=match w.cell? ⟨B,0,none⟩with|some v=>intOf v|none=>0
theorem BS{w B t s}(h:Boxed w B t (.int .i64 s)):KR w B=s:=by unfold KR;rw[h.cell];rfl
set_option maxRecDepth 100000 in
set_option maxHeartbeats 1000000 in
theorem agb(m)(hm:1<=m)(l Bo Bn)(off n)(h0:0<=off)(Gs:0<=n)(hs:off+n<=9223372036854775807)(J:Nat->cp->Prop)
 (hst:∀k W v,J k W->J k (W.setCell ⟨Bo,0,none⟩ v))
 (hY:∀k W s p,cV off (off+n) k=s->ew (off+n) s=p->J k W->s<off+n->YieldAt Fence.wide (m-1) Tryz.prog l
  #[.int .i64 s,.agg #[.int .i64 (fA s),.int .i64 (eE s),.int .i64 p]] W
  λe W'=>e=.returned (.bool true)/\J (k+1) W'/\W'.heap[Bo]?=W.heap[Bo]?)
 (W) (ho:Boxed W Bo 2 (.int .i64 off)) (hn:Boxed W Bn 2 (.int .i64 n)) (hJ:J 0 W):
 CallsIn Fence.wide m Tryz.prog 282 #[.func (.yield l) #[] #[],.pointer (some ⟨Bo,0,none⟩),.pointer (some ⟨Bn,0,none⟩)] W
  λe W'=>(∃v,e=.returned v)/\∃K,Full off (off+n) K/\J K W':=by
 have hco:=ho.cell;have hcn:=hn.cell;refine callsIn_of_wp Tryz.func282 rfl trivial ?_ rfl;simp only[Tryz.ntmps282,qt,kH,su,Nat.reduceAdd,Nat.reduceSub,Qg,Qh,Qi,Qj,gC,gA]
 gi_wp2
 gi_loopw [5] (λ_ wr=>∃(k:Nat)(s:Int),Hid (cV off (off+n) k=s)/\Hid (∀j,j<k->cV off (off+n) j<off+n)/\off<=s/\s<=off+n/\Boxed wr Bo 2 (.int .i64 s)/\J k wr)
  (λ_ wr=>(off+n-KR wr Bo).toNat)
 case atStart=>exact⟨0,off,rfl,λj hj=>absurd hj om,om,om,ho,hJ⟩
 case round=>
  obtain⟨k,s,hk,hall,hs1,hs2,hb,hJs⟩:=hrel;clear ho hn hco hcn;have hcs:=hb.cell;have AX:=hb.frozen;by_cases hlt:s<off+n
  .by_cases hc:64-s%64<=off+n-s
   .have hp:ew (off+n) s=64-s%64:=by unfold ew;omega
    obtain⟨fn,tmps,assign,body,hy,hR⟩:=hY k wr s _ hk.out hp hJs hlt;have lr:Hid (cV off (off+n) (k+1)=s+(64-s%64)):=by
     have e:=hk.out;simp_all[cV,ew,hp]
    have Pd:Hid (∀j,j<k+1->cV off (off+n) j<off+n):=λj hj=>by
     rcases qs j k with h|h
     .exact hall.out j h
     .obtain rfl:j=k:=om;have e:=hk.out;omega
    clear hp
    gi_wp2_with (refine⟨trivial,?_⟩;gi_at_call 283;refine(callsIn_wide.2 (aaa s _ om om)).mono ?_;rintro e w' ⟨rfl,rfl⟩)
    refine hR.mono ?_;rintro e W3 ⟨rfl,hJ3,hk3⟩;have hb3:Boxed W3 Bo 2 (.int .i64 s):=hk3.trans hb;have hc3:=hb3.cell;have hf3:=hb3.frozen
    gi_wp2
    go_roundw
    case rel=>exact⟨k+1,_,lr,Pd,om,om,hb3.set _,hst _ _ _ hJ3⟩
    case measure=>rw[BS hb,BS (hb3.set _)];omega
   .have hp:ew (off+n) s=off+n-s:=by unfold ew;omega
    obtain⟨fn,tmps,assign,body,hy,hR⟩:=hY k wr s _ hk.out hp hJs hlt;have lr:Hid (cV off (off+n) (k+1)=s+(off+n-s)):=by
     have e:=hk.out;simp_all[cV,ew,hp]
    have Pd:Hid (∀j,j<k+1->cV off (off+n) j<off+n):=λj hj=>by
     rcases qs j k with h|h
     .exact hall.out j h
     .obtain rfl:j=k:=om;have e:=hk.out;omega
    clear hp
    gi_wp2_with (refine⟨trivial,?_⟩;gi_at_call 283;refine(callsIn_wide.2 (aaa s _ om om)).mono ?_;rintro e w' ⟨rfl,rfl⟩)
    refine hR.mono ?_;rintro e W3 ⟨rfl,hJ3,hk3⟩;have hb3:Boxed W3 Bo 2 (.int .i64 s):=hk3.trans hb;have hc3:=hb3.cell;have hf3:=hb3.frozen
    gi_wp2
    go_roundw
    case rel=>exact⟨k+1,_,lr,Pd,om,om,hb3.set _,hst _ _ _ hJ3⟩
    case measure=>rw[BS hb,BS (hb3.set _)];omega
  .obtain rfl:s=off+n:=om
   gi_wp2
   go_end0
   exact⟨⟨_,rfl⟩,k,⟨hk.out,hall.out⟩,hJs⟩
def arv(b:Nat)(I:cp->Prop)(W:cp)(ex:Exit)(_:Act)(a:cp):Prop:=
 ex=.normal/\KeepsOthers W a/\a.heap[b]?=W.heap[b]?/\I a
theorem avP{g ps assign body Q a w}
 (m) (hm:2<=m) (Bo Bn) (off n) (h0:0<=off) (Gs:0<=n) (hs:off+n<=9223372036854775807)
 (hg:a.eval g=.func (.func 282) #[] #[.pointer (some ⟨Bo,0,none⟩),.pointer (some ⟨Bn,0,none⟩)])
 (ho:Boxed w Bo 2 (.int .i64 off)) (hn:Boxed w Bn 2 (.int .i64 n)) (uM:ps.size=2)
 (I:Nat->cp->Prop)
 (hI:∀k W W' row,I k W->W.grownBy W' row->(∀r,row=some r->r=Bo\/(w.heap.size<=r/\∃o,W.heap[r]?=some o/\o.isCells=false))->I k W')
 (hi0:I 0 w) (Ax:Int->Int->Nat->Act)
 (axu:∀(l)(s p)(W)(K),
  K (Ax s p W.heap.size) (W.alloc (.cells #[.int .i64 (fA s),.int .i64 (eE s),.int .i64 p] 315))->
  assign.wpIn (Fence.wide.inRound l) (m-1-1) Tryz.prog (Exit.then K (λ_ _ _=>False))
   {tmps:=(ps.zip #[.int .i64 s,.agg #[.int .i64 (fA s),.int .i64 (eE s),.int .i64 p]]).foldl (λt(p,v)=>t.setIfInBounds p v) a.tmps,defers:=[]} W)
 (axv:∀(l k)(s p)(W)(B),cV off (off+n) k=s->ew (off+n) s=p->off<=s->s<off+n->I k W->
  W.heap[B]?=some (.cells #[.int .i64 (fA s),.int .i64 (eE s),.int .i64 p] 315 (0,0))->w.heap.size+2<=B->
  body.wpIn (Fence.wide.inRound l) (m-1-1) Tryz.prog (arv Bo (I (k+1)) W) (Ax s p B) W)
 (hdone:∀(D K)(W),Full off (off+n) K->I K W->w.heap.size<=D->W.heap[D]?=some (.deferred (some []))->
  Q .normal {a with defers:={target:=.collected D,args:= #[]}::a.defers} W):
 (Code.rangeFunc g ps assign body).wpIn Fence.wide m Tryz.prog Q a w:=by
 have hBo:=ho.lt;refine wpIn_rangeFunc ?_;intro fn hfn;obtain⟨rec,jV⟩:∃rec:LoopState->Option Code->Loop,rec=λst pe=> {state:=st,pending:=pe,fn,tmps:=a.tmps,params:=ps,assign,body,defers:=w.heap.size}:=⟨_,rfl⟩
 obtain⟨W1,hW1⟩:∃W1,(w.alloc (.deferred (some []))).alloc (.loop (rec .ready none))=W1:=⟨_,rfl⟩
 have hg1:w.grownBy (w.alloc (.deferred (some []))) none:=World.grownBy_alloc _ _ _;have hg2:(w.alloc (.deferred (some []))).grownBy W1 none:=by rw[<-hW1];exact World.grownBy_alloc _ _ _
 have AY:W1.heap[w.heap.size+1]?=some (.loop (rec .ready none)):=by
  rw[<-hW1];have:=World.alloc_heap_new (w.alloc (.deferred (some []))) (.loop (rec .ready none));simp_all
 have AZ:W1.heap[w.heap.size]?=some (.deferred (some [])):=by
  rw[<-hW1];exact(Below.heap_alloc _ _ _ (by simp)).trans (World.alloc_heap_new w _)
 have iv:I 0 W1:=hI _ _ _ none (hI _ _ _ none hi0 hg1 (λr e=>by cases e)) hg2 (λr e=>by cases e);have Gt:Boxed W1 Bo 2 (.int .i64 off):=(ho.kept hg1 (by simp)).kept hg2 (by simp);have xq:Boxed W1 Bn 2 (.int .i64 n):=(hn.kept hg1 (by simp)).kept hg2 (by simp);refine⟨w.heap.size+1,[{target:=.collected w.heap.size,args:= #[]}],W1,
  {target:=.fn (.func 282) #[.pointer (some ⟨Bo,0,none⟩),.pointer (some ⟨Bn,0,none⟩)],args:= #[.func (.yield (w.heap.size+1)) #[] #[]]},W1,282,
  #[.func (.yield (w.heap.size+1)) #[] #[],.pointer (some ⟨Bo,0,none⟩),.pointer (some ⟨Bn,0,none⟩)],W1,?_,?_,?_,?_,λ_=>by omega,?_⟩
 .rw[<-hW1,jV];exact run_enterLoop_outer _ _ _ _ _
 .simp only[resolve,hg];simp[go_sem]
 .intro f' _;trivial
 .rfl
 .refine(agb (m-1) om (w.heap.size+1) Bo Bn off n h0 Gs hs
   (λk W=>I k W/\W.heap[w.heap.size+1]?=some (.loop (rec .ready none))/\W.heap[w.heap.size]?=some (.deferred (some [])))
   ?_ ?_ W1 Gt xq ⟨iv,AY,AZ⟩).mono ?_
  .rintro k W v ⟨hi,hl,hd⟩;exact⟨hI _ _ _ (some Bo) hi (grownBy_setCell' W Bo v) (λr e=>by simp_all),
    (Below.heap_setCell _ _ _ _ (by simp;omega)).trans hl,(Below.heap_setCell _ _ _ _ (by simp;omega)).trans hd⟩
  ·
   rintro k W s p hk hp ⟨hi,hl,hd⟩ hlt;have axw:w.heap.size+1<W.heap.size:=(fx.1 hl).1;have hsb:=yx off (off+n) om k;rw[hk]at hsb;have hy:=run_yield (P:=Tryz.prog) (args:= #[.int .i64 s,.agg #[.int .i64 (fA s),.int .i64 (eE s),.int .i64 p]]) hl (by simp_all);rw[jV]at hy;refine⟨fn,_,assign,body,hy,roundIn_of_wpIn hfn (axu _ s p W _ ?_)⟩;generalize hA:W.alloc (.cells #[.int .i64 (fA s),.int .i64 (eE s),.int .i64 p] 315)=W2;have Gu:W.grownBy W2 none:=by rw[<-hA];exact World.grownBy_alloc _ _ _
   have hsA:W2.heap.size=W.heap.size+1:=by rw[<-hA];simp
   have hnA:W2.heap[W.heap.size]?=some (.cells #[.int .i64 (fA s),.int .i64 (eE s),.int .i64 p] 315 (0,0)):=by rw[<-hA];exact World.alloc_heap_new _ _
   have hl2:W2.heap[w.heap.size+1]?=some (.loop (rec .ready none)):=(Gu.block _ axw (by simp)).trans hl;have Pe:W2.heap[w.heap.size]?=some (.deferred (some [])):=(Gu.block _ om (by simp)).trans hd;refine⟨_,run_beginRound hl2 (by rw[jV]),?_⟩;have Gv:(W2.putObj (w.heap.size+1) (.loop {rec .ready none with state:=.busy})).heap[w.heap.size+1]?=some (.loop {rec .ready none with state:=.busy}):=World.putObj_heap_same om;have xt:(W2.putObj (w.heap.size+1) (.loop {rec .ready none with state:=.busy})).heap[w.heap.size]?=some (.deferred (some [])):=(World.putObj_heap_other om).trans Pe;have hn3:(W2.putObj (w.heap.size+1) (.loop {rec .ready none with state:=.busy})).heap[W.heap.size]?=some (.cells #[.int .i64 (fA s),.int .i64 (eE s),.int .i64 p] 315 (0,0)):=(World.putObj_heap_other om).trans hnA;have hi3:I k (W2.putObj (w.heap.size+1) (.loop {rec .ready none with state:=.busy})):=
    hI _ _ _ (some (w.heap.size+1)) (hI _ _ _ none hi Gu (λr e=>by cases e)) (grownBy_putObj' _ _ _) (λr e=>by cases e;exact .inr ⟨om,_,hl2,rfl⟩)
   have acu:(W2.putObj (w.heap.size+1) (.loop {rec .ready none with state:=.busy})).heap[Bo]?=W.heap[Bo]?:=(World.putObj_heap_other om).trans (Gu.block _ om (by simp));generalize W2.putObj (w.heap.size+1) (.loop {rec .ready none with state:=.busy})=W3 at Gv xt hn3 hi3 acu;refine wpIn_mono (axv _ k s p W3 W.heap.size hk hp hsb.1 hlt hi3 hn3 om) ?_;rintro ex a4 W4 ⟨rfl,hk4,axy,hi4⟩;have hl4:=hk4.same _ _ Gv rfl;have pR:=hk4.same _ _ xt rfl;have hend:=run_endRound (P:=Tryz.prog) none hl4;refine⟨_,_,hend,rfl,⟨hI _ _ _ (some (w.heap.size+1)) hi4 (grownBy_putObj' _ _ _) (λr e=>by cases e;exact .inr ⟨om,_,hl4,rfl⟩),?_,(World.putObj_heap_other om).trans pR⟩,
    ((World.putObj_heap_other om).trans axy).trans acu⟩
   rw[World.putObj_heap_same (fx.1 hl4).1,jV];rfl
  .rintro e W2 ⟨⟨v,rfl⟩,K,hK,hi,hl,hd⟩;have hend:=run_endLoop (P:=Tryz.prog) hl (by rw[jV];simp);refine⟨_,_,hend,?_⟩;rw[jV];exact hdone w.heap.size K _ hK (hI _ _ _ (some (w.heap.size+1)) hi (grownBy_putObj' _ _ _) (λr e=>by cases e;exact .inr ⟨om,_,hl,rfl⟩)) (dx _) ((World.putObj_heap_other om).trans hd)
theorem aqV{W b:cp}{row base e size v n xs}(h:W.ownsRow base e size v n xs)(d:W.grownBy b row)
 (f:∀r,row=some r->r<base\/∃o,W.heap[r]?=some o/\o.isCells=false):b.ownsRow base e size v n xs:=by
 refine h.kept d ?_;rcases h.2 with⟨rfl,_⟩| ⟨g,cap,i,rfl,m,a,_⟩
 .exact .inl rfl
 .refine .inr λj=>?_
  rcases f g (by simpa[Value.ownBlock]using j.symm)with k| ⟨o,c,l⟩
  .omega
  .rw[a]at c;cases c;cases l
theorem auV{W b row B t v}(h:Boxed W B t v)(d:W.grownBy b row)
 (e:∀r,row=some r->r≠B\/∃o,W.heap[r]?=some o/\o.isCells=false):Boxed b B t v:=by
 refine h.kept d λf=>?_
 rcases e B f.symm with a| ⟨o,c,g⟩
 .exact a rfl
 .rw[show W.heap[B]?=_ from h]at c;cases c;cases g
theorem ats:(Tryz.prog.info? 315).map (λi=>(i.zero,i.size,i.bytes))=some (some (.agg #[.int .i64 0,.int .i64 0,.int .i64 0]),3,24):=kr
def pc(e s:Int):List cr:=[.int .i64 (fA s),.int .i64 (eE s),.int .i64 (ew e s)]
def lE(off e:Int):Nat->List cr
 |0=>[]
 |k+1=>lE off e k++pc e (cV off e k)
theorem Xf(off e:Int):∀k,(lE off e k).length=k*3
 |0=>rfl
 |k+1=>by simp[lE,pc,Xf off e k];omega
def afx(E:cg)(off n:Int)(w:cp)(e:Ending)(w':cp):Prop:=
 ∃v K,e=.returned (.tuple #[v,.int .i64 0])/\Full off (off+n) K/\w'.ownsRow w.heap.size E 3 v K (lE off (off+n) K)/\Below w.heap.size w w'
set_option maxHeartbeats 400000 in
theorem aon(off n)(w):
 Calls Tryz.prog 242 #[.int .i64 off,.int .i64 n] w λe w'=>e=.returned (.func (.func 282) #[] #[.pointer (some ⟨w.heap.size,0,none⟩),.pointer (some ⟨w.heap.size+1,0,none⟩)])/\
  (w.alloc (.cells #[.int .i64 off] 2)).alloc (.cells #[.int .i64 n] 2)=w':=by
 go_wp2
 go_ret
 simp_all
set_option maxRecDepth 100000 in
set_option maxHeartbeats 1000000 in
theorem aqC(off n)(w)(h0:0<=off)(h1:off<=4611686018427387904)(Gs:0<=n)(xq:n<=1048576):
 Calls Tryz.prog 213 #[.int .i64 off,.int .i64 n] w (afx 315 off n w):=by
 obtain⟨i0,hi,hz0,hz1,hz2⟩:=info_parts ats;refine(callsIn_wide (n:=3)).1 ?_;refine callsIn_of_wp_marks Tryz.func213 rfl trivial ?_ rfl;simp only[Tryz.ntmps213,qt,kH,su,Nat.reduceAdd,Nat.reduceSub,Qg,Qh,Qi,Qj,gC,gA]
 gi_wp2_with (refine⟨trivial,?_⟩;gi_at_call 242;refine(callsIn_wide.2 (aon off n _)).mono ?_;rintro e w' ⟨rfl,rfl⟩)
 rename_i axA _ _;clear axA;refine avP 3 om (w.heap.size+1) (w.heap.size+1+1) off n h0 Gs om rfl ?ho ?hn rfl
  (λk W=>∃v,Boxed W w.heap.size 311 v/\W.ownsRow (w.heap.size+3) 315 3 v k (lE off (off+n) k)/\Below w.heap.size w W/\w.heap.size+3<=W.heap.size) ?hI ?hi0
  (λs p B=> {tmps:= #[.int .i64 off,.int .i64 n,undef,undef,.slice none 0 0,.int .i64 0,.pointer (some {block:=w.heap.size,off:=0}),undef,.pointer (some ⟨B,0,none⟩),
   .int .i64 off,.bool (decide (off<0)),.bool (decide (off<0)),.int .i64 n,.bool (decide (n<0)),.bool (decide (off<0)||decide (n<0)),
   .bool (decide (off<0)||decide (n<0)),.int .i64 n,.bool (decide (1048576<n)),.bool (decide (off<0)||decide (n<0)||decide (1048576<n)),
   .bool (decide (off<0)||decide (n<0)||decide (1048576<n)),.int .i64 off,.bool (decide (4611686018427387904<off)),
   .bool (decide (off<0)||decide (n<0)||decide (1048576<n)||decide (4611686018427387904<off)),.int .i64 off,.int .i64 n,
   .func (.func 282) #[] #[.pointer (some {block:=w.heap.size+1,off:=0}),.pointer (some {block:=w.heap.size+1+1,off:=0})],
   .int .i64 s,.agg #[.int .i64 (fA s),.int .i64 (eE s),.int .i64 p],undef,undef,undef,undef,undef],defers:=[]}) ?assign ?body ?done
 case ho=>have:=Boxed.new (w.alloc (.cells #[.slice none 0 0] 311)) 2 (.int .i64 off);rw[World.size_alloc]at this;exact this.alloc _
 case hn=>have:=Boxed.new ((w.alloc (.cells #[.slice none 0 0] 311)).alloc (.cells #[.int .i64 off] 2)) 2 (.int .i64 n);simp_all
 case hI=>
  rintro k W W' row ⟨v,hv,hrow,hB,gn⟩ hg hr;refine⟨v,auV hv hg ?_,aqV hrow hg ?_,hB.grown hg hB.size ?_,qo gn hg.size⟩
  .grind
  .grind
  .intro r e;rcases hr r e with rfl| ⟨h,_⟩
   .omega
   .simp at h;omega
 case hi0=>
  exact⟨_,((Boxed.new w 311 _).alloc _).alloc _,World.ownsRow_nil _ _ _ _,(((Below.refl _ w).alloc (dx _) _).alloc (by simp) _).alloc (by simp;omega) _,by simp⟩
 case assign=>
  intro l s p W K hK
  gi_wp2
  exact hK
 case body=>
  rintro l k s p W B hk hp hs1 hlt ⟨v,hv,hrow,hB,gn⟩ AW hBB;have hkn:(k:Int)<n:=by
   have:=BV off (off+n) om k om;omega
  have axB:lE off (off+n) (k+1)=lE off (off+n) k++[.int .i64 (fA s),.int .i64 (eE s),.int .i64 p]:=by
   simp_all[lE,pc,hp]
  have Hsnoc:=Lib.hid axB;have hc:=hv.cell;have hb0:W.cell? ⟨B,0,none⟩=some (.int .i64 (fA s)):=cell_of_row W B 0 _ _ _ AW;have hb1:W.cell? ⟨B,1,none⟩=some (.int .i64 (eE s)):=cell_of_row W B 1 _ _ _ AW;have hb2:W.cell? ⟨B,2,none⟩=some (.int .i64 p):=cell_of_row W B 2 _ _ _ AW
  gi_wp2_with (gi_at_builtin;refine wpListIn_append_own _ rfl _ _ 311 rfl (w.heap.size+3) 315 i0 (.agg #[.int .i64 0,.int .i64 0,.int .i64 0]) 3 24 Tryz.underlying311 hi hz0 hz1 hz2 rfl dc _ _ _ rfl (hrow.alloc _) ⟨W.heap.size,0,none⟩ 1 1 [.int .i64 (fA s),.int .i64 (eE s),.int .i64 p] rfl rfl (World.news_of_block (World.alloc_heap_new W _)) (by simp[Value.oneCell']) (by unfold maxLen;omega) om (by simp;omega) ?_;intro v' w1 hown' hgrow _;obtain⟨g',cap',rfl⟩:=ownsRow_succ hown';obtain⟨Pf,hv2,hr2,hk2,hb2⟩:=hv.appended dc (hrow.mono om) hB.size (dx _) (hown'.mono om) hgrow;have hc1:=Pf.cell;have hf1:=Pf.frozen)
  have hgb:∀r,v.ownBlock=some r->w.heap.size+3<=r:=λr e=>(hrow.lt r e).1
  refine⟨rfl,hk2,?_,_,hv2,?_,hB.trans hb2,?_⟩
  .have h1:(W.alloc (.cells #[.int .i64 (fA s),.int .i64 (eE s),.int .i64 p] 315)).heap[w.heap.size+1]?=W.heap[w.heap.size+1]?:=Below.heap_alloc _ _ _ om;have h2:=hgrow.block (w.heap.size+1) (by simp;omega) (λe=>by have:=hgb _ e.symm;omega);simp_all[Below.heap_setCell]
  .rw[Hsnoc.out];exact hown'.kept (grownBy_setCell' w1 w.heap.size _) (.inr (Pf.not_row dc hown').symm)
  .exact qo gn hk2.size
 case done=>
  rintro D K W hK ⟨v,hv,hrow,hB,gn⟩ hD hd;have hc:=hv.cell
  gi_wp2
  refine⟨by simp,.inl ⟨_,_,rfl,run_takeDeferred hd,?_⟩⟩;exact⟨_,results_tmp2 rfl _ _ _,v,K,rfl,hK,(ownsRow_putObj hrow _ hd rfl).mono om,hB.trans (belowK_b (w:=w) (dx _) W D _ _ (by simp at hD;omega) hd rfl rfl)⟩
def lV(off n:Int):Prop:=off<0\/n<0\/1048576<n\/4611686018427387904<off
set_option maxHeartbeats 400000 in
theorem aox(off n)(w)(h:lV off n):
 Calls Tryz.prog 213 #[.int .i64 off,.int .i64 n] w λe w'=>e=.returned (.tuple #[.slice none 0 0,.int .i64 1])/\w=w':=by
 unfold lV at h;by_cases h1:off<0
 .go_wp2
  go_ret2
  simp_all
 .by_cases h2:n<0
  .go_wp2
   go_ret2
   simp_all
  .by_cases h3:1048576<n
   .go_wp2
    go_ret2
    simp_all
   .go_wp2
    go_ret2
    simp_all
theorem Yq(off e)(k):∀K,k<K->(lE off e K)[k*3]?=some (.int .i64 (fA (cV off e k)))/\(lE off e K)[k*3+1]?=some (.int .i64 (eE (cV off e k)))/\(lE off e K)[k*3+2]?=some (.int .i64 (ew e (cV off e k)))
 |K+1,h=>by
  have b:=Xf off e K;rcases qs k K with a|a
  .obtain⟨c,d,f⟩:=Yq off e k K a;simp only[lE];rw[sy om,sy om,sy om];exact⟨c,d,f⟩
  .obtain rfl:k=K:=om;simp only[lE];rw[nV om,nV om,nV om,b];rw[show k*3-k*3=0 by omega,show k*3+1-k*3=1 by omega,show k*3+2-k*3=2 by omega];exact⟨rfl,rfl,rfl⟩
def wC(e s:Int):List PV:=[.sc (.int .i64 (fA s)),.sc (.int .i64 (eE s)),.sc (.int .i64 (ew e s))]
def g_(off e:Int)(K:Nat):List (List PV):=(List.range K).map λk=>wC e (cV off e k)
instance (off n:Int):Decidable (lV off n):=inferInstanceAs (Decidable (_\/_\/_\/_))
theorem aqh{w'}{B e:Nat}{v K xs rows}(ho:w'.ownsRow B e 3 v K xs)(hc:Tryz.prog.cellsOf e=3)(hlen:rows.length=K)(hR:ff 3 rows)
 (hx:∀(i)(r)(j)(p),rows[i]?=some r->r[j]?=some p->∃u,xs[i*3+j]?=some u/\p=.sc u/\flat u=true):
 ∃x,(∀g,x.g=some g->B<=g/\g<w'.heap.size)/\v=.slice (x.g.map λg=>⟨g,0,none⟩) x.len x.cap/\∀M,RB Tryz.prog M ⟨λn=>if n=0 then some x else none,[]⟩ w' 0 (.row e rows):=by
 rcases ho.2 with⟨rfl,rfl⟩| ⟨g,cap,cur,rfl,hB,hg,h1,h2,h3,h4⟩
 .refine⟨⟨none,0,0,3⟩,λg h=>(by cases h),rfl,λM=>⟨⟨none,0,0,3⟩,#[],(0,0),rfl,.inl rfl,λg h=>(by cases h),hlen.symm,dx _,dc,by show 0<3;omega,hc.symm,rfl,hR,λ_=>rfl,?_⟩⟩;simp_all
 .refine⟨⟨some g,K,cap,3⟩,λg' h=>?_,rfl,λM=>⟨⟨some g,K,cap,3⟩,cur,(0,0),rfl,.inl rfl,λg' h=>?_,hlen.symm,h1,h2,by show 0<3;omega,hc.symm,h3,hR,λh=>(by cases h),?_⟩⟩
  .grind
  .cases h;exact hg
  .intro i r j p hi hj;obtain⟨u,k1,rfl,k3⟩:=hx i r j p hi hj;refine⟨u,?_,RP.sc k3⟩;grind
theorem Yi{off n c:Int}{w K xs rows M}(hlen:rows.length=K)(hR:ff 3 rows)
 (hx:∀(i)(r)(j)(p),rows[i]?=some r->r[j]?=some p->∃u,xs[i*3+j]?=some u/\p=.sc u/\flat u=true)
 {e:Ending} {w'} {v} (he:e=.returned (.tuple #[v,.int .i64 c])) (ho:w'.ownsRow w.heap.size 315 3 v K xs) (hb:Below w.heap.size w w'):
 ∃u E',e=.returned u/\Frame (λg=>∃n x,(λ_=>none:Nat->Option Nm) n=some x/\x.g=some g) w w'/\wG (λ_=>none) 0 w w' E'/\
  (∀n b,List.lookup n [(0,eD.row 315 rows)]=some b->RB Tryz.prog M E' w' n b)/\RV M E' w' (.bq [.c (.own 0),.c (.p (.sc (.int .i64 c)))]) u:=by
 obtain⟨x,h1,h2,h3⟩:=aqh ho kr hlen hR hx;have hN:∀{n y},(if n=0 then some x else none:Option Nm)=some y->n=0/\x=y:=λ{n y}h=>by
  simp_all
 refine⟨_,⟨λn=>if n=0 then some x else none,[]⟩,he,Frame.Ez hb,{bt:=rfl,names:=λn y g h k=>?_,inj:=λn m y z g h k _ _=>?_,ec:=λm hm=>by omega},λn b h=>?_,#[v,.int .i64 c],rfl,rfl,λi y hi=>?_⟩
 .grind
 .rw[(hN h).1,(hN k).1]
 .grind
 .match i with
  |0=>cases hi;exact⟨v,rfl,.inr ⟨x,rfl,h2⟩⟩
  |1=>cases hi;exact⟨_,rfl,RP.sc rfl⟩
  |i+2=>simp at hi
open Classical in
def zh:List L->Option (List L):=λls=>match ls with
 |[.i off,.i n]=>if lV off n then some [.r [],.i 1]else if h:∃K,Full off (off+n) K then some [.r (g_ off (off+n) h.choose),.i 0]else none
 |_=>none
def OJ:bB:=⟨213,[.c (.p (.int .i64) (.v 0)),.c (.p (.int .i64) (.v 1))],[],2,2,.bq [.c (.own 0),.c (.p (.int .i64) (.v 3))],[(0,.row 315 (.v 2))],zh,2030⟩
theorem S_{M w N a b vals}(g:vals.size=2)(c:∀(i:Nat)(x),[V1.c (.p (.sc (.int .i64 a))),.c (.p (.sc (.int .i64 b)))][i]?=some x->∃u,vals[i]?=some u/\dR M ⟨N,[]⟩ w x u):vals= #[.int .i64 a,.int .i64 b]:=by
 obtain⟨e,e0,r0⟩:=c 0 _ rfl;obtain⟨f,h,d⟩:=c 1 _ rfl;have r0:e=.int .i64 a:=RP.ei r0;have d:f=.int .i64 b:=RP.ei d;grind
theorem alA:OJ.ok Tryz.prog:=by
 intro ls os H a B;change zh ls=some os at a;unfold zh at a;split at a
 .rename_i off n;have own:Own Tryz.prog 213:=⟨Tryz.f213,Tryz.func213,by kernel_rfl,rfl⟩
  have y:∀{N:Nat->Option Nm},(∀n x,N n=some x->n< ([]:List eD).length)->N=λ_=>none:=λ{N}h=>by
   funext m
   cases I:N m with
   |none=>rfl
   |some x=>simp_all
  split at a
  .rename_i q;cases a;refine⟨own,λw M N vals C b s t D c d=>?_⟩;cases y b;have d:=S_ c d;subst d;refine(aox off n w q).mono ?_;rintro e w' ⟨rfl,rfl⟩;exact Yi (off:=off) (n:=n) (K:=0) (xs:=[]) (rows:=[]) rfl (λr f=>by cases f) (λi r j p g=>by simp at g) rfl (World.ownsRow_nil _ _ _ _) (Below.refl _ _)
  .rename_i q;split at a
   .rename_i l;cases a;refine⟨own,λw M N vals C b s t D c d=>?_⟩;cases y b;have d:=S_ c d;subst d;unfold lV at q;refine(aqC off n w om om om om).mono ?_;rintro e w' ⟨v,K,rfl,E,F,u⟩;obtain rfl:=Full.uniq E l.choose_spec;refine Yi (off:=off) (n:=n) (K:=l.choose) (rows:=g_ off (off+n) l.choose) (by simp[g_]) (λr f=>?_) (λi r j p g o=>?_) rfl F u
    .simp only[g_,eV]at f;obtain⟨k,_,rfl⟩:=f;rfl
    .simp only[g_,cN,bY]at g;obtain⟨k,G,rfl⟩:=g;obtain⟨z,A⟩:=dW.1 G;simp at z A;subst A;obtain⟨q0,q1,q2⟩:=Yq off (off+n) i l.choose z
     match j with
     |0=>cases o;exact⟨_,q0,rfl,rfl⟩
     |1=>cases o;exact⟨_,q1,rfl,rfl⟩
     |2=>cases o;exact⟨_,q2,rfl,rfl⟩
     |j+3=>simp[wC]at o
   .cases a
 .cases a
instance:Ok OJ:=⟨alA⟩
def tb(a:Nat):Nat:=7+a*(11-a) /2
theorem awJ:∀{a},a<6->tb a+(5-a)=tb (a+1):=by decide
set_option maxRecDepth 100000 in
set_option maxHeartbeats 1000000 in
theorem aqH(m)(hm:1<=m)(l)(J:Nat->cp->Prop)(Jx:cp->Prop)
 (hY0:∀W,J 0 W->YieldAt Fence.wide (m-1) Tryz.prog l #[.slice none 0 0] W
  λe W'=>(e=.returned (.bool true)/\J 1 W')\/(e=.returned (.bool false)/\Jx W'))
 (hY1:∀(a)W,a<6->J (1+a) W->YieldAt Fence.wide (m-1) Tryz.prog l #[.slice (some ⟨W.heap.size,0,none⟩) 1 1] (W.alloc (.cells #[.int .i64 a] 3))
  λe W'=>(e=.returned (.bool true)/\J (1+a+1) W')\/(e=.returned (.bool false)/\Jx W'))
 (hY2:∀(a b)W,a<b->b<6->J (tb a+(b-a-1)) W->YieldAt Fence.wide (m-1) Tryz.prog l #[.slice (some ⟨W.heap.size,0,none⟩) 2 2] (W.alloc (.cells #[.int .i64 a,.int .i64 b] 3))
  λe W'=>(e=.returned (.bool true)/\J (tb a+(b-a-1)+1) W')\/(e=.returned (.bool false)/\Jx W'))
 (W) (hJ:J 0 W):
 CallsIn Fence.wide m Tryz.prog 163 #[.func (.yield l) #[] #[]] W λe W'=>(∃v,e=.returned v)/\(J 22 W'\/Jx W'):=by
 refine callsIn_of_wp Tryz.func163 rfl trivial ?_ rfl;simp only[Tryz.ntmps163,qt,kH,su,Nat.reduceAdd,Nat.reduceSub,Qg,Qh,Qi,Qj,gC,gA];obtain⟨fn,tmps,assign,body,hy,hR⟩:=hY0 W hJ
 gi_wp2
 refine hR.mono ?_;rintro e W1 (⟨rfl,hJ1⟩| ⟨rfl,hx⟩)
 .clear hR hy
  gi_wp2
  gi_loopw [8] (λi wr=>∃t:Nat,t<=6/\i=.int .i64 t/\J (1+t) wr) (λi _=>6- (intOf i).toNat)
  case atStart=>exact⟨0,om,rfl,hJ1⟩
  case round=>
   obtain⟨t,ht,rfl,o5⟩:=hrel;by_cases hlt:t<6
   .have k1:(t:Int)<6:=om;obtain⟨fn,tmps,assign,body,hy,hR⟩:=hY1 t _ hlt o5
    gi_wp2
    refine hR.mono ?_;rintro e W3 (⟨rfl,hJ3⟩| ⟨rfl,hx⟩)
    .gi_wp2
     go_roundw
     case rel=>exact⟨t+1,om,by go_num,by exact hJ3⟩
     case measure=>simp[intOf];omega
    .gi_wp2
     exact bodyPost_ret (results_none rfl _ _ _) rfl ⟨⟨_,rfl⟩,.inr hx⟩
   .obtain rfl:t=6:=om
    gi_wp2
    (try simp only[adm])
    gi_loopw [17] (λi wr=>∃t:Nat,t<=6/\i=.int .i64 t/\J (tb t) wr) (λi _=>6- (intOf i).toNat)
    case atStart=>exact⟨0,om,rfl,o5⟩
    case round=>
     clear o5 hJ1;obtain⟨t,ht,rfl,o5⟩:=hrel;by_cases hlt:t<6
     .have k1:(t:Int)<6:=om
      gi_wp2
      (try simp only[adm])
      gi_loopw [4] (λi wr=>∃b:Nat,t<b/\b<=6/\i=.int .i64 b/\J (tb t+(b-t-1)) wr) (λi _=>6- (intOf i).toNat)
      case atStart=>exact⟨t+1,om,om,by go_num,by rw[show t+1-t-1=0 by omega];exact o5⟩
      case round=>
       clear o5;obtain⟨b,hb1,hb2,rfl,o5⟩:=hrel;by_cases uL:b<6
       .have k2:(b:Int)<6:=om;obtain⟨fn,tmps,assign,body,hy,hR⟩:=hY2 t b _ hb1 uL o5
        gi_wp2
        refine hR.mono ?_;rintro e W3 (⟨rfl,hJ3⟩| ⟨rfl,hx⟩)
        .gi_wp2
         go_roundw
         case rel=>exact⟨b+1,om,om,by go_num,by rw[show b+1-t-1=b-t-1+1 by omega];exact hJ3⟩
         case measure=>simp[intOf];omega
        .gi_wp2
         exact bodyPost_ret (results_none rfl _ _ _) rfl ⟨⟨_,rfl⟩,.inr hx⟩
       .obtain rfl:b=6:=om;have hn:J (tb (t+1)) wr:=by rw[<-awJ hlt,show 5-t=6-t-1 by omega];exact o5
        gi_wp2
        go_roundw
        case rel=>exact⟨t+1,om,by go_num,hn⟩
        case measure=>simp[intOf];omega
     .obtain rfl:t=6:=om
      gi_wp2
      exact bodyPost_end (results_none rfl _ _ _) rfl ⟨⟨_,rfl⟩,.inl o5⟩
 .gi_wp2
  exact bodyPost_ret (results_none rfl _ _ _) rfl ⟨⟨_,rfl⟩,.inr hx⟩
end
end
end Go.Proofs.YtndegphojkiblaaGreatDoor
