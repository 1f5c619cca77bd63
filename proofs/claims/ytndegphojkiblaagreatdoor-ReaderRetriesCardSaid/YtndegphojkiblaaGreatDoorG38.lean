/- A part of the proof. -/
import Derived.Test.YtndegphojkiblaaGreatDoorG24
import Derived.Test.YtndegphojkiblaaGreatDoorG28
import Derived.Test.YtndegphojkiblaaGreatDoorG32
import Derived.Test.YtndegphojkiblaaGreatDoorG37
set_option linter.all false
set_option maxHeartbeats 4000000
set_option maxRecDepth 100000
namespace Go.Proofs.YtndegphojkiblaaGreatDoor
noncomputable section
section
open Go.RowKit Pl AI
attribute [local irreducible] ae.wp
def jU (e:Ge):Ge:={e with mode:=3}
def jx (f:Fs) (i:Nat) (D:List Nat) (k:Nat):Fs:=fun j=>if 9*i+2≤j∧j<9*i+2+k then some ((cJ D).getD (j- (9*i+2)) [])else f j
theorem pT {f i D k j} (h:j<9*i+2∨9*i+2+k≤j):jx f i D k j=f j:=aC om
theorem WR {f i D k j} (h:j<k):jx f i D k (9*i+(2+j))=some ((cJ D).getD j []):=by
 unfold jx;rw[ay om,show 9*i+(2+j) - (9*i+2)=j by omega]
theorem azx {f i D k}:cj (jx f i D k) (9*i+(2+k)) (some ((cJ D).getD k []))=jx f i D (k+1):=by
 funext j;by_cases e:j=9*i+(2+k)
 · subst e;rw[jw,WR (ov k)]
 · rw[cV e];unfold jx;by_cases h:9*i+2≤j∧j<9*i+2+k
   · rw[ay h,ay om]
   · rw[aC h,aC om]
theorem NP {D:List Nat} (hD:B8 D) (k):B8 ((cJ D).getD k [])∧((cJ D).getD k []).length≤Sp.bM D.length:=by
 by_cases h:k< (cJ D).length
 · rw[jA h];have:=(FI hD).at h;exact⟨this.1,om⟩
 · rw[mo,CX om];exact⟨fun x hx=> (by cases hx),fm _⟩
theorem Inv.jl {f gs vol B} (h:Inv f gs vol B) (hB:B≤16000) {i:Nat} (hi:i<gs.length):jl 1 ((i+1:Nat):Int) 0 (vol i).length gs[i].l∧∀x∈gs[i].l,u6 x:=by
 have hg:=h.s.ok i hi;have hv:=h.vb i hi;have h8:=hg.1.n8;have js:=hg.1.bd;refine⟨⟨⟨dc,dc,om,om,dc,dc⟩,om,om,hg.1.s.v,fun x hx=> ?_⟩,fun x hx=> ?_⟩
 · have:=hg.1.GW hx hv.2.1;exact this
 · have:=hg.1.s.k x hx;have hr:=h.rc i hi x hx;exact⟨this.1,om,hr.c0,by have:=hr.c4;omega⟩
theorem Inv.sela {f gs vol B} (h:Inv f gs vol B) (hB:B≤16000) {i:Nat} (hi:i<gs.length) (hm:gs[i].mode=2):
   Inv (cj (cj (jx f i (vol i) 6) (9*i+8) (some (iX 1 ((i+1:Nat):Int) 0 (vol i).length (iB (vol i)) gs[i].l))) (9*i) none) (gs.set i (jU gs[i])) vol (B+248):=by
 have hg:=h.s.ok i hi;have hv:=h.vb i hi;have hlen:(gs.set i (jU gs[i])).length=gs.length:=ox;have hoG:fr (jU gs[i]):=⟨hg.1.n8,(by show(1:Int)≤3;omega),(by show(3:Int)≤3;omega),hg.1.s,hg.1.cl,hg.1.en,hg.1.g0,hg.1.g8,hg.1.sz⟩
 have hs:=dp.set h.s hoG (by show gs[i].n<_;omega) (by
   show(3:Int)=1 ↔ gs[i].n=_;rw[hg.2.1,←hg.2.2,hm];decide)
 have hs:dp (gs.set i (jU gs[i])):=by rwa [show(jU gs[i]).n=i from hg.2.1]at hs
 have Pb:=hg.1.s.len;have hH:=h.jl hB hi;have cW:(iX 1 ((i+1:Nat):Int) 0 (vol i).length (iB (vol i)) gs[i].l).length≤248:=by
   unfold iX;rw[p5,zR];omega
 have key:∀j (hj:j< (gs.set i (jU gs[i])).length),j≠i→∃hj':j<gs.length,(gs.set i (jU gs[i]))[j]=gs[j]:=fun j hj hne=> ⟨om,Ib (fun e=>hne e.symm) _⟩
 have pD:∀(hj:i< (gs.set i (jU gs[i])).length),(gs.set i (jU gs[i]))[i]=jU gs[i]:=fun hj=>Ev hi hj
 refine⟨hs,fun j b hj=> ?_,fun j hj=> ?_,fun j hj y hy=> ?_,fun j hj hx=> ?_,fun j hj hx=> ?_,fun j hj=> ?_⟩
 · by_cases e:j=9*i
   · subst e;rw[jw]at hj;cases hj
   rw[cV e]at hj;by_cases e2:j=9*i+8
   · subst e2;rw[jw]at hj;cases hj;exact⟨qx (G1 _ _ _ _ _ _),om⟩
   rw[cV e2]at hj;unfold jx at hj;split at hj
   · cases hj;have:=NP hv.1 (j- (9*i+2));refine⟨this.1,me this.2 ?_⟩;unfold Sp.bM;omega
   · have:=h.fb j b hj;exact⟨this.1,om⟩
 · by_cases e:j=i
   · subst e;rw[pD];exact⟨hv.1,hv.2.1,om,hv.2.2.2⟩
   · obtain⟨hj',k⟩:=key j hj e;rw[k];have:=h.vb j hj';exact⟨this.1,this.2.1,om,this.2.2.2⟩
 · by_cases e:j=i
   · subst e;rw[pD]at hy;exact h.rc j hi y hy
   · obtain⟨hj',k⟩:=key j hj e;rw[k]at hy;exact h.rc j hj' y hy
 · by_cases e:j=i
   · subst e;rw[pD]at hx;exact absurd rfl hx
   · obtain⟨hj',k⟩:=key j hj e;rw[k]at hx;have h1:=h.op j hj' hx;rw[cV om,cV om,pT om];exact⟨h1.1,fun q hq hq'=>by rw[cV om,cV om,pT om];exact h1.2 q hq hq'⟩
 · by_cases e:j=i
   · subst e;rw[pD];refine⟨gs[j].l,hH.1,hH.2,Pb,fun y hy=>hy,?_,fun q hq=> ?_⟩
     · rw[cV om,jw]
     · rw[cV om,cV om,WR hq]
   · obtain⟨hj',k⟩:=key j hj e;rw[k]at hx⊢;obtain⟨its,h1⟩:=h.cl j hj' hx;refine⟨its,h1.h,h1.e,h1.n,h1.m,?_,fun q hq=> ?_⟩
     · rw[cV om,cV om,pT om];exact h1.x
     · rw[cV om,cV om,pT om];exact h1.s q hq
 · rw[hlen]at hj;rw[cV om,cV om,pT om];exact h.ft j hj
theorem aqr {gs:List Ge} {i} (hi:i<gs.length) (j) (k):look (gs.set i (jU gs[i])) j k=look gs j k:=by
 rw[Dj hi];split
 · rename_i e;subst e;rw[rX hi];rfl
 · rfl
def BK (f:Fs) (gs:List Ge) (vol:Nat→List Nat) (b:Bool) (f':Fs) (gs':List Ge):Prop:=
 (b=false∧f'=f∧gs'=gs∧∀(j:Nat) (h:j<gs.length),gs[j].mode≠2)∨
 (b=true∧∃(i:Nat) (h:i<gs.length),gs[i].mode=2∧gs'=gs.set i (jU gs[i])∧f'=cj (cj (jx f i (vol i) 6) (9*i+8) (some (iX 1 ((i+1:Nat):Int) 0 (vol i).length (iB (vol i)) gs[i].l))) (9*i) none)
theorem ayc {f gs vol B} (h:Inv f gs vol B) (hB:B≤15000) (data:L):
   ∃b f' gs',FX (dA (bL f)++sA gs++ [data])=some (.b b::dA (bL f')++sA gs')∧BK f gs vol b f' gs':=by
 have hS:=h.s;have HX:=hS.n8
 suffices wc:∃o,Fo Uh (dA (bL f)++sA gs++ [data])=some o∧∃b f' gs',o= .b b::dA (bL f')++sA gs'∧BK f gs vol b f' gs' by
   obtain⟨o,h1,b,f',gs',rfl,h2⟩:=wc;exact⟨b,f',gs',h1,h2⟩
 refine iH ?_;refine aB (fun xs=>xs=[]∧∀(j:Nat) (h:j<gs.length),gs[j].mode≠2) ?_ ?_;rotate_left
 · rintro _ ⟨rfl,hno⟩;refine nW ?_;exact ad ⟨false,f,gs,rfl,.inl ⟨rfl,rfl,rfl,hno⟩⟩
 refine wp_loop (I:=fun a=>∃i:Nat,a=[.i i]∧i≤gs.length∧∀(j:Nat) (h:j<gs.length),j<i→gs[j].mode≠2) (mu:=fun a=>match a with|[.i i]=>gs.length-i.toNat|_=>0) ⟨0,rfl,om,fun j hj hlt=>by omega⟩ ?_;rintro a ⟨i,rfl,e1,e2⟩;refine uR ?_;rw[aA];refine aI rfl (fun hc=> ?_) (fun hc=>ad ⟨rfl,fun j hj=>e2 j hj om⟩);have hi:i<gs.length:=om;have hg:=hS.ok i hi;refine aP (f:=gR) (l:=gs) (j:=i) rfl rfl hi rfl (uR ?_);refine aI rfl (fun hq=> ?_) (fun hq=> ?_)
 · refine bg (i:=i) rfl om (nW ?_);refine ad ⟨⟨i+1,rfl,om,fun j hj hlt=> ?_⟩,?_⟩
   · by_cases e:j=i
     · subst e;exact hq
     · exact e2 j hj om
   · show gs.length- ((i+1:Nat):Int).toNat<gs.length-i;omega
 have hm:gs[i].mode=2:=gg.1 hq;have hop:=h.op i hi (by rw[hm];decide);have hv:=h.vb i hi;obtain⟨r,Cr,hr⟩:=hv.2.2.2;have aO:=h.okF om;have hH:=h.jl om hi;have Pb:=hg.1.s.len;have hi8:=hg.1.n8;obtain⟨D,hD⟩:∃D,vol i=D:=⟨_,rfl⟩
 have hinv:=h.sela om hi hm;rw[hD]at hop hv hr hH hinv;have gP:r.length≤B:=by
   have:=bJ List.length hr;rw[bE,qp]at this;omega
 have hsu:=adQ (a:=1) (g:=((i+1:Nat):Int)) (r:=0) om Cr om;rw[←hr]at hsu;have abn:gs[i].gn.num=((i+1:Nat):Int):=by rw[Ge.num,hg.2.1]
 have aFI:Sp.bM D.length≤20000:=by unfold Sp.bM;omega
 have h6:=xy D;have Pd:∀k,eZ (jx f i D k):=fun k j b hj=>by
   unfold jx at hj;split at hj
   · cases hj;have:=NP hv.1 (j- (9*i+2));exact⟨this.1,om⟩
   · exact aO j b hj
 have cW:(iX 1 ((i+1:Nat):Int) 0 D.length (iB D) gs[i].l).length≤248:=by
   unfold iX;rw[p5,zR];omega
 obtain⟨f7,CP⟩:∃f7,cj (jx f i D 6) (9*i+8) (some (iX 1 ((i+1:Nat):Int) 0 D.length (iB D) gs[i].l))=f7:=⟨_,rfl⟩
 have aEk:eZ f7:=by
   rw[←CP];exact(Pd 6).cj fun b hb=>by cases hb;exact⟨qx (G1 _ _ _ _ _ _),om⟩
 rw[CP]at hinv;have abo:=x1 (n:=i) (t:=0) om dc;have abp:=x1 (n:=i) (t:=2) om dc;rw[←abn]at abo abp;refine ag abo rfl rfl (nW ?_);refine ag (atV aO (j:=9*i) om hop.1) rfl rfl (nW ?_);refine ag hsu rfl rfl (nW ?_);refine ag (IV hg.1.mb) rfl rfl (nW ?_);refine ag (asf hv.1 hH.1 om) rfl rfl (nW ?_);refine aB (fun xs=>xs=dA (bL (jx f i D 6))) ?_ ?_
 · refine wp_loop (I:=fun a=>∃k:Nat,a= .i k::dA (bL (jx f i D k))∧k≤6) (mu:=fun a=>match a with| .i k::_=>6-k.toNat|_=>0) ⟨0,?_,om⟩ ?_
   · rw[show jx f i D 0=f from funext fun j=>pT om];rfl
   rintro a ⟨k,rfl,k1⟩;refine uR ?_;rw[aA,h6];refine aI rfl (fun hx=> ?_) (fun hx=> ?_);rotate_left
   · obtain rfl:k=6:=om;exact ad rfl
   have hk:k<6:=om;have Pe:k< (cJ D).length:=om;have hgd:(cJ D).getD k []=(cJ D)[k]:=jA Pe;have hsk:=NP hv.1 k;have abq:e7 (jx f i D k) (9*i+(2+k))=[]:=by
     unfold e7;rw[pT om,hop.2 (2+k) om om]
   have hw:=(wI (Pd k) (j:=9*i+(2+k)) om (x:=(cJ D).getD k []) ⟨hsk.1,om⟩ (by rw[abq];show((cJ D).getD k []).length≤_;omega) (.i 1) (.i 9000) (.b false) (.r (gs.map gR)) data).2;rw[abq,mm,azx]at hw;have gQ:=apg (n:=i) (k:=k) om hk;rw[←abn]at gQ;refine ag gQ rfl rfl (nW ?_);refine aP (f:=fR) (l:=cJ D) (j:=k) rfl rfl Pe rfl (nW ?_);refine dx (f:=fR) (l:=cJ D) (j:=k) rfl rfl Pe rfl rfl ?_;rw[←hgd];refine nW ?_;refine ag hw rfl rfl (nW ?_);refine bg (i:=k) rfl om (nW ?_);refine ad ⟨⟨k+1,rfl,om⟩,?_⟩;show 6- ((k+1:Nat):Int).toNat<6-k;omega
 rintro _ rfl;have abr:e7 (jx f i D 6) (9*i+8)=[]:=by
   unfold e7;rw[pT om,hop.2 8 om om]
 have hw8:=(wI (Pd 6) (j:=9*i+8) om (x:=iX 1 ((i+1:Nat):Int) 0 D.length (iB D) gs[i].l) ⟨qx (G1 _ _ _ _ _ _),om⟩ (by rw[abr];show(iX _ _ _ _ _ _).length≤_;omega) (.i 1) (.i 9000) (.b false) (.r (gs.map gR)) data).2;rw[abr,mm,CP]at hw8;have hrm:=anz aEk (j:=9*i) (b:=D) om (by rw[←CP,cV om,pT om];exact hop.1);have ey:=afg hg.1 hm;have hch:=Iy hS (e:=jU gs[i]) (by show gs[i].n<_;omega) (by rw[show(jU gs[i]).n=i from hg.2.1];exact hinv.s);rw[show(jU gs[i]).n=i from hg.2.1]at hch;refine nW ?_;refine pd (m:=iX 1 ((i+1:Nat):Int) 0 D.length (iB D) gs[i].l) (aog hH.1 (SR D) hH.2 om) rfl rfl (nW ?_);refine ag abp rfl rfl (nW ?_);refine ag hw8 rfl rfl (nW ?_);refine ag hrm rfl rfl (nW ?_);refine ag ey rfl rfl (nW ?_);refine ag hch rfl rfl (nW ?_);refine ad ⟨true,cj f7 (9*i) none,gs.set i (jU gs[i]),rfl,.inr ⟨rfl,i,hi,hm,rfl,?_⟩⟩;rw[←CP,hD]
theorem BK.inv {f gs vol b f' gs' B} (h:BK f gs vol b f' gs') (hI:Inv f gs vol B) (hB:B≤16000):Inv f' gs' vol (B+248)∧gs'.length=gs.length∧∀j k,look gs' j k=look gs j k:=by
 rcases h with⟨_,rfl,rfl,_⟩| ⟨_,i,hi,hm,rfl,rfl⟩
 · exact⟨hI.mono om,rfl,fun _ _=>rfl⟩
 · exact⟨hI.sela hB hi hm,ox,fun j k=>aqr hi j k⟩
theorem Yn (k):ua [.i k]=some [.i (fh k)]:=by rw[←Kz k];rfl
theorem azW (x:It):AV [.i x.key,.i x.cookie,.i x.off,.i x.size]=some [.i (bU x.size)]:=by
 refine aH ?_;exact ag (rR x.size) rfl rfl (ad rfl)
theorem Jn {m} (h:WM m) {b} (hb:b=true ↔ MV m):lP (fY m)=some [.b b]:=by
 have no:∀s,s<8→¬BJ m s→[L.b false]=[L.b b]:=fun s hs hk=>mZ hb fun hv=>hk (hv.1 s hs)
 refine aH ?_;refine aB (fun xs=>nQ m∧xs=[.i (ca (cat m))]) ?_ ?_;rotate_left
 · rintro _ ⟨hS,rfl⟩;refine nW ?_;exact aB (bT (m.live=ca (cat m)∧0≤m.cF∧m.cF≤1099511627776)) cB (rB (hb.trans ⟨fun h=>h.2,fun h=> ⟨hS,h⟩⟩))
 refine wp_loop (I:=fun a=>∃s:Nat,a=[.i (ca (fI m s)),.i s]∧s≤8∧∀t,t<s→BJ m t) (mu:=fun a=>match a with|[_,.i i]=>8-i.toNat|_=>0) ⟨0,rfl,om,fun t ht=>by omega⟩ ?_;rintro a ⟨s,rfl,e1,e2⟩;refine uR ?_;refine aI rfl (fun hc=> ?_) (fun hc=> ?_);rotate_left
 · obtain rfl:s=8:=om;exact ad ⟨fun t ht=>e2 t ht,rfl⟩
 have hs:s<8:=om;have hlen:=h.hn s;refine aB (fun xs=>BJ m s∧xs=[.i (ca (fI m (s+1)))]) ?_ ?_;rotate_left
 · rintro _ ⟨h1,rfl⟩;refine nW ?_;refine bg (i:=s) rfl om (nW ?_);refine ad ⟨⟨s+1,rfl,om,fun t ht=> ?_⟩,?_⟩
   · by_cases e:t=s
     · subst e;exact h1
     · exact e2 t om
   · show 8- ((s+1:Nat):Int).toNat<8-s;omega
 refine sd ⟨by show(0:Int)≤s;omega,by show(s:Int)< (8:Nat);omega⟩ (nW ?_);refine uI (m:=m) hs rfl rfl (nW ?_);obtain⟨v,hv⟩:=dU (VL (m.st s));refine ag (Vk (m.st s) om hv) rfl rfl (uR ?_);refine qu rfl hv (fun hx=>ad (no s hs fun h=>hx h.1)) fun hx=> ?_
 refine uR ?_;rw[aA];have g2:=vD h s;refine wp_loop (I:=fun a=>∃j:Nat,a=[.i (ca (fI m s++(m.st s).take j)),.i j]∧j≤(m.st s).length∧∀(t:Nat) (ht:t< (m.st s).length),t<j→fh (m.st s)[t].key=s) (mu:=fun a=>match a with|[_,.i i]=> (m.st s).length-i.toNat|_=>0)
   ⟨0,by rw[List.take_zero,eW];rfl,om,fun t ht h=>by omega⟩ ?_
 rintro a ⟨j,rfl,f1,f2⟩;refine uR ?_;refine aI rfl (fun hc=> ?_) (fun hc=> ?_);rotate_left
 · refine ad ⟨⟨hx,fun x hx=> ?_⟩,?_⟩
   · obtain⟨t,ht,rfl⟩:=iq hx;exact f2 t ht om
   · rw[qK,fD om];rfl
 have hj:j< (m.st s).length:=om;refine aP (f:=ao) (l:=m.st s) (j:=j) rfl rfl hj rfl (uR ?_);refine ag (Yn _) rfl rfl (uR ?_);refine aI rfl (fun hq=>ad (no s hs fun h=>hq (h.2 _ (b8 hj)))) fun hq=> ?_
 refine ag (azW (m.st s)[j]) rfl rfl (nW ?_);have g3:=qF (fI m s++(m.st s).take j);have g4:(fI m s++(m.st s).take j).length≤72:=by rw[bE,cL];omega
 have g5:=GO (m.st s)[j].size;have g6:ca (fI m s++(m.st s).take j)+bU (m.st s)[j].size=ca (fI m s++(m.st s).take (j+1)):=by
   rw[gX hj,←cd,zu (fI m s++(m.st s).take j)];simp[ca]
 refine cm (n:=ca (fI m s++(m.st s).take (j+1))) g6 om om (nW ?_);refine bg (i:=j) rfl om (nW ?_);refine ad ⟨⟨j+1,rfl,om,fun t ht hlt=> ?_⟩,?_⟩
 · by_cases e:t=j
   · subst e;omega
   · exact f2 t ht om
 · show(m.st s).length- ((j+1:Nat):Int).toNat< (m.st s).length-j;omega
theorem avq (n:Nat) (hn:n≤1000):xK [.i n]=some []:=by
 have:∃o,Fo NL [.i (n:Int)]=some o∧∃x:L,o=[x]:=by
  refine iH ?_;refine aB (fun xs=>xs=[]) ?_ ?_
  · refine uR ?_;exact ba rfl om (ad rfl)
  rintro _ rfl;refine nW ?_;refine aB (fun xs=>∃x:L,xs=[x]) ?_ (by rintro _ ⟨x,rfl⟩;exact ad ⟨x,rfl⟩);refine ck (n:=(n:Int)) (by show(n:Int) -0=n;omega) om om (uR ?_);refine aI rfl (fun hc=> ?_) (fun hc=>ad ⟨_,rfl⟩);refine nh ⟨by show(0:Int)≤0;omega,om,fm _,rfl⟩ (nW ?_);refine x_ (r:=(List.replicate n (⟨0,0,0,0⟩:It)).map ao) ⟨by show(0:Int)≤n;omega,by show(n:Int)≤_;omega,by show 32*((n:Int)).toNat≤_;omega⟩ (by rw[abQ];rfl) (nW ?_);refine aP (f:=ao) (l:=List.replicate n (⟨0,0,0,0⟩:It)) (j:=0) rfl rfl (by rw[pQ];omega) rfl (nW ?_);refine dC (r:=(List.replicate n (⟨0,0,0,0⟩:It)).map ao) rfl (eY _) (by show(0:Nat)≤_;omega) (by show((List.replicate n (⟨0,0,0,0⟩:It)).map ao).length≤_;rw[aA,pQ];omega) om rfl (uR ?_);refine nh ⟨by show(0:Int)≤0;omega,om,fm _,lT (eY _)⟩ (nW ?_);exact ad ⟨_,rfl⟩
 obtain⟨o,h1,x,rfl⟩:=this;have h:vn.F [.i (n:Int)]=some [x]:=h1;unfold xK;simp only[h];rfl
def Q8 (m:Mp):List (List PV):=(List.range 8).map fun s=> [.sl ((m.st s).map ao)]
theorem ahE {m} (h:WM m):ur [.r (Q8 m)]=some [.r ((cat m).map ao)]:=by
 refine aH ?_;have Pb:(Q8 m).length=8:=rfl;have abu:(List.range 8).length=8:=rfl;refine aB (fun xs=>xs=[.i (cat m).length]) ?_ ?_
 · refine uR ?_;refine wp_loop (I:=fun a=>∃s:Nat,a=[.i (fI m s).length,.i s]∧s≤8) (mu:=fun a=>match a with|[_,.i i]=>8-i.toNat|_=>0) ⟨0,rfl,om⟩ ?_;rintro a ⟨s,rfl,e1⟩;have g2:=vD h s;have g3:=h.hn s;refine uR ?_;refine aI rfl (fun hc=> ?_) (fun hc=> ?_);rotate_left
   · obtain rfl:s=8:=om;exact ad rfl
   have hs:s<8:=om;refine aB (fun xs=>xs=[.i (fI m (s+1)).length]) ?_ ?_
   · refine aP (f:=fun s=> [PV.sl ((m.st s).map ao)]) (l:=List.range 8) (j:=s) rfl rfl (by rw[abu];exact hs) rfl (uR ?_);rw[acf,aA];refine cm (n:=((fI m (s+1)).length:Nat)) (by rw[qK,bE];rfl) om (by rw[qK,bE];omega) (uR ?_);exact ba rfl om (ad rfl)
   · rintro _ rfl;refine nW ?_;refine bg (i:=s) rfl om (nW ?_);refine ad ⟨⟨s+1,rfl,om⟩,?_⟩;show 8- ((s+1:Nat):Int).toNat<8-s;omega
 · rintro _ rfl;have g4:=As h;refine nW ?_;refine ag (avq (cat m).length om) rfl rfl (nW ?_);refine aB (fun xs=>xs=[.r ((cat m).map ao)]) ?_ (by rintro _ rfl;exact ad rfl);refine uR ?_;refine wp_loop (I:=fun a=>∃s:Nat,a=[.i s,.r ((fI m s).map ao)]∧s≤8) (mu:=fun a=>match a with|[.i i,_]=>8-i.toNat|_=>0) ⟨0,rfl,om⟩ ?_;rintro a ⟨s,rfl,e1⟩;have g2:=vD h s;have g3:=h.hn s;refine uR ?_;refine aI rfl (fun hc=> ?_) (fun hc=> ?_);rotate_left
   · obtain rfl:s=8:=om;exact ad rfl
   have hs:s<8:=om;refine aP (f:=fun s=> [PV.sl ((m.st s).map ao)]) (l:=List.range 8) (j:=s) rfl rfl (by rw[abu];exact hs) rfl (uR ?_);rw[acf];refine dC (r:=(fI m (s+1)).map ao) (eY _) (eY _) (by show((fI m s).map ao).length≤_;rw[aA];omega) (by show((m.st s).map ao).length≤_;rw[aA];omega) om (by rw[qK,dk];rfl) (nW ?_);refine bg (i:=s) rfl om (nW ?_);refine ad ⟨⟨s+1,rfl,om⟩,?_⟩;show 8- ((s+1:Nat):Int).toNat<8-s;omega
theorem Tt {m} (h:WM m) (hv:MV m):vh (fY m)=some [.r ((items m).map ao)]:=by
 refine aH ?_;refine ag (Jn h (je hv)) rfl rfl (uR ?_);refine bj rfl (uR ?_);refine ag (ahE h) rfl rfl (nW ?_);exact ag (aqS (cat m) (EG hv.1) (As h)) rfl rfl (ad rfl)
theorem aBc {m} (h:WM m) (hv:MV m):uK (fY m)=some [.i (items m).length]:=by
 refine aH ?_;refine ag (Tt h hv) rfl rfl (uR ?_);rw[aA];exact ad rfl
def i4 (x:It):I4:=(x.key,x.cookie,x.off,x.size)
def tI (x:I4):It:=⟨x.1,x.2.1,x.2.2.1,x.2.2.2⟩
theorem TV:∀l:List It,xj (l.map ao)=some (l.map i4)
 |[]=>rfl
 | x::l=>by
  show(match EA (ao x),xj (l.map ao)with
   |some x,some xs=>some (x::xs)
   |_,_=>none)=_
  rw[TV l];rfl
theorem aoG (l) (hl:l.length≤1048576):∃d:List It,qb [.r (l.map ao)]=some [.r (d.map ao)]∧d.Perm l∧d.Pairwise fun a b=>a.off≤b.off:=by
 obtain⟨h1,h2⟩:=VB (l.map i4);refine⟨(nf (l.map i4)).map tI,?_,?_,?_⟩
 · unfold qb;simp only[TV];rw[ay (by rw[aA];exact hl),gd];rfl
 · have:=h1.map tI;rw[gd,show tI∘i4=id from rfl,List.map_id]at this;exact this
 · refine jL.2 fun i j hi hj hij=> ?_
   rw[aA]at hi hj;rw[PN,PN];exact h2 i j _ _ hij (bW hi) (bW hj)
theorem akc (l:List It) (hl:l.length≤1000) (aO:∀x∈l,dm x=true) {size} (vZ:16≤size) {b} (hb:b=true ↔ (l.Pairwise Clear∧∀x∈l,ends x≤size)):∃y,ud [.r (l.map ao),.i size]=some [.b b,y]:=by
 obtain⟨d,h1,hp,hso⟩:=aoG l om;rw[←afq aO hp hso size vZ]at hb;have jn:=hp.length_eq;have aO:∀x∈d,dm x=true:=fun x hx=>aO x (hp.mem_iff.1 hx)
 refine⟨.r (d.map ao),aH ?_⟩;refine ag h1 rfl rfl (nW ?_);refine aB (fun xs=>∃e:Int,xs=[.i e]∧lY 16 d=some e) ?_ ?_;rotate_left
 · rintro _ ⟨e,rfl,he⟩;refine uR ?_;refine ad ?_;show[L.b (decide (e≤size)),L.r (d.map ao)]=_;by_cases hq:e≤size
   · rw[decide_eq_true hq,hb.2 ⟨e,he,hq⟩]
   · rw[decide_eq_false hq,fu hb fun ⟨r,h1,h2⟩=>by rw[he]at h1;cases h1;exact hq h2]
 refine uR ?_;rw[aA];refine wp_loop (I:=fun a=>∃(i:Nat) (e:Int),a=[.i e,.i i]∧i≤d.length∧0≤e∧e≤2000000∧lY 16 d=lY e (d.drop i)) (mu:=fun a=>match a with|[_,.i i]=>d.length-i.toNat|_=>0) ⟨0,16,rfl,om,om,om,rfl⟩ ?_;rintro a ⟨i,e,rfl,e1,e2,e3,e4⟩;refine uR ?_;refine aI rfl (fun hc=> ?_) (fun hc=> ?_);rotate_left
 · rw[pR om]at e4;exact ad ⟨e,rfl,e4⟩
 have hi:i<d.length:=om;obtain⟨k1,k2,k3,k4⟩:=TB aO hi;rw[zj hi]at e4;simp only[lY]at e4;refine iP (l:=d) (j:=i) rfl rfl hi (uR ?_);refine aI rfl (fun hq=> ?_) (fun hq=> ?_)
 · rw[ay hq]at e4;refine ad ?_;show[L.b false,L.r (d.map ao)]=_;rw[fu hb fun ⟨r,h1,h2⟩=>by rw[e4]at h1;cases h1]
 · rw[aC hq]at e4;refine ag (rR d[i].size) rfl rfl (nW ?_);refine cm (n:=ends d[i]) rfl (by unfold ends;omega) (by unfold ends;omega) (nW ?_);refine bg (i:=i) rfl om (nW ?_);refine ad ⟨⟨i+1,ends d[i],rfl,om,by unfold ends;omega,by unfold ends;omega,e4⟩,?_⟩;show d.length- ((i+1:Nat):Int).toNat<d.length-i;omega
theorem ayo {g} (h:WM g.map) {b} (hb:b=true ↔ GV g):vA (gN g)=some [.b b]:=by
 refine aH ?_;refine aB (bT (¬xU g)) (by unfold xU;exact cB) ?_;rintro _ ⟨t,rfl,ht⟩;refine nW ?_;refine iR rfl ht (fun h1=>ad (mZ hb fun hv=>h1 hv.1)) fun h1=> ?_
 have h1:xU g:=ow h1;refine aB (bT (¬Ak g)) ?_ ?_
 · refine uR ?_;refine aI rfl (fun h2=>ad (cz fun hv=>by have:=hv.1;omega)) fun h2=> ?_
   refine uR ?_;refine aI rfl (fun h3=>ad (cz fun hv=>by have:=hv.1;omega)) fun h3=> ?_
   refine cv (l:= .i (g.size%8)) (by
    show(if(8:Int)≠0 then some (L.i (g.size.tmod 8))else none)=_;rw[ay dc,abU om]) (uR ?_)
   refine aI rfl (fun h4=>ad (cz fun hv=>by have:=hv.1;omega)) fun h4=> ?_
   obtain⟨v,hv⟩:=dU (MV g.map);refine ag (Jn h hv) rfl rfl (uR ?_);refine ad ?_;refine⟨!v,rfl,?_⟩
   cases v with
   |true=>exact Ke fun h=>h ⟨⟨om,om,om⟩,hv.1 rfl⟩
   |false=>exact je fun h=>by have:=hv.2 h.2;cases this
 rintro _ ⟨t,rfl,ht⟩;refine nW ?_;refine iR rfl ht (fun h2=>ad (mZ hb fun hv=>h2 ⟨hv.2.1,hv.2.2.1⟩)) fun h2=> ?_
 have h2:Ak g:=ow h2;have h3:=ZV h h2.2;have h4:=h2.1;have h5:=h2.2.2;refine aB (bT (z6 g∧g.size=16+g.map.live+g.map.cF)) ?_ (rB (hb.trans ⟨fun hv=>hv.2.2.2,fun hv=> ⟨h1,h2.1,h2.2,hv⟩⟩));obtain⟨v,hv⟩:=dU (z6 g);obtain⟨y,hy⟩:=akc (items g.map) (by have:=Gf h;omega) (Yb h2.2.1) h4.1 hv;refine ag (Tt h h2.2) rfl rfl (nW ?_);refine ag hy rfl rfl (nW ?_);refine iR rfl hv (fun h6=> ?_) fun h6=>ad (dN fun h=>h6 h.1)
 refine cm (n:=16+g.map.live) rfl om om (nW ?_);refine cm (n:=16+g.map.live+g.map.cF) rfl om om (uR ?_);refine ad (dW ⟨fun h=> ⟨h6,h⟩,fun h=>h.2⟩)
theorem Vl {id limit} {ro} {gens} (hw:∀g∈gens,WM g.map) (hn:gens.length≤1000000) {b} (hb:b=true ↔ Mr id limit gens):qg [.i id,.i limit,ro,.r (gens.map ky)]=some [.b b]:=by
 refine aH ?_;refine aB (bT (¬((0≤id∧id<4)∧(4136≤limit∧limit≤262144)))) ?_ ?_
 · refine uR ?_;refine aI rfl (fun h2=>ad (cz om)) fun h2=> ?_
   refine uR ?_;refine aI rfl (fun h2=>ad (cz om)) fun h2=> ?_
   refine ag (rR 4096) rfl rfl (nW ?_);refine cm (n:=4136) rfl om om (nW ?_);exact cB
 rintro _ ⟨t,rfl,ht⟩;refine nW ?_;refine iR rfl ht (fun h1=>ad (mZ hb fun hv=>h1 ⟨hv.1.1,hv.1.2.1⟩)) fun h1=> ?_
 refine aB (bT (¬(1≤gens.length∧gens.length≤8))) ?_ ?_
 · refine uR ?_;rw[aA];refine aI rfl (fun h2=>ad (cz om)) fun h2=>uR ?_
   rw[aA];exact ad (dW om)
 rintro _ ⟨t,rfl,ht⟩;refine nW ?_;refine iR rfl ht (fun h2=>ad (mZ hb fun hv=>h2 hv.1.2.2)) fun h2=> ?_
 have h1:I2 id limit gens:=by unfold I2;omega
 have dQ:gens.length-1<gens.length:=om;refine aB (fun xs=>xs=[]∧∀i,i<gens.length→FO limit gens i) ?_ ?_;rotate_left
 · rintro _ ⟨rfl,hall⟩;have hg:=hw _ (b8 dQ);have q1:=(hall _ dQ dQ).1;have q2:=q1.2.1;have q3:=Gf hg;refine uR ?_;rw[aA];refine ck (n:=((gens.length-1:Nat):Int)) (by show(gens.length:Int) -1=_;omega) om om (nW ?_);refine aP (f:=ky) (l:=gens) (j:=gens.length-1) rfl rfl dQ rfl (uR ?_);refine ag (aBc hg q1.2.2.1) rfl rfl (nW ?_);refine ag (rR 0) rfl rfl (nW ?_);refine iS (n:=(items gens[gens.length-1].map).length*24) rfl om om (nW ?_);refine cm (n:=gens[gens.length-1].size+(items gens[gens.length-1].map).length*24) rfl om om (nW ?_);refine iS (n:=2*limit) rfl om om (uR ?_);refine ad ?_;by_cases hq:gens[gens.length-1].size+(items gens[gens.length-1].map).length*24≤2*limit
   · exact(dT hq).trans (MR hb ⟨h1,hall,fun _=>om⟩)
   · exact(dF hq).trans (mZ hb fun hv=>hq (by have:=hv.2.2 dQ;omega))
 refine uR ?_;rw[aA];refine wp_loop (I:=fun a=>∃i:Nat,a=[.i i]∧i≤gens.length∧∀j,j<i→FO limit gens j) (mu:=fun a=>match a with|[.i i]=>gens.length-i.toNat|_=>0) ⟨0,rfl,om,fun j hj=>by omega⟩ ?_;rintro a ⟨i,rfl,e1,e2⟩;refine uR ?_;refine aI rfl (fun hc=> ?_) (fun hc=>ad ⟨rfl,fun j hj=>e2 j om⟩);have hi:i<gens.length:=om;have hg:=hw _ (b8 hi);refine aP (f:=ky) (l:=gens) (j:=i) rfl rfl hi rfl (uR ?_);rw[aA];refine ck (n:=((gens.length-1:Nat):Int)) (by show(gens.length:Int) -1=_;omega) om om (uR ?_);refine aB (bT (¬FO limit gens i)) ?_ ?_
 · obtain⟨v,hv⟩:=dU (GV gens[i]);refine ag (ayo hg hv) rfl rfl (uR ?_);refine qu rfl hv (fun h2=>ad (cz fun h=>h2 (h hi).1)) fun h2=> ?_
   have hm:(decide (gens[i].mode=1) !=decide ((i:Int)=((gens.length-1:Nat):Int)))=true ↔¬(gens[i].mode=1 ↔ i=gens.length-1):=by
     rw[bne_iff_ne,ne_eq,decide_eq_decide,Int.ofNat_inj]
   refine uR ?_;refine aI rfl (fun h4=> ?_) fun h4=> ?_
   · have eR:i-1<gens.length:=om;refine ck (n:=((i-1:Nat):Int)) (by show(i:Int) -1=_;omega) om om (nW ?_);refine aP (f:=ky) (l:=gens) (j:=i-1) rfl rfl eR rfl (uR ?_);refine aI rfl (fun h5=>ad (cz fun h=>by have:=(h hi).2.2.1 om;omega)) fun h5=>uR ?_
     refine iR rfl hm (fun h3=>ad (cz fun h=>h3 (h hi).2.1)) fun h3=> ?_
     refine iS (n:=2*limit) rfl om om (uR ?_);refine ad (dW ⟨fun h6 h=>by have:=(h hi).2.2.2;omega,fun h=>ow fun h6=>h fun _=> ⟨h2,gg.1 h3,fun _=>om,om⟩⟩)
   · refine uR ?_;refine iR rfl hm (fun h3=>ad (cz fun h=>h3 (h hi).2.1)) fun h3=> ?_
     refine iS (n:=2*limit) rfl om om (uR ?_);refine ad (dW ⟨fun h6 h=>by have:=(h hi).2.2.2;omega,fun h=>ow fun h6=>h fun _=> ⟨h2,gg.1 h3,fun _=>om,om⟩⟩)
 · rintro _ ⟨t,rfl,ht⟩;refine nW ?_;refine iR rfl ht (fun g=>ad (mZ hb fun hv=>g (hv.2.1 i hi))) fun g=> ?_
   refine bg (i:=i) rfl om (nW ?_);refine ad ⟨⟨i+1,rfl,om,fun j hj=> ?_⟩,?_⟩
   · by_cases e:j=i
     · subst e;exact gg.1 g
     · exact e2 j om
   · show gens.length- ((i+1:Nat):Int).toNat<gens.length-i;omega
theorem atq (l) (hn:l.length≤1000) (ha:dK l) (key):∃(i:Nat) (b:Bool),AH [.r (l.map ao),.i key]=some [.i i,.b b]∧(b=true→∃h,l[i].key=key)∧(b=false→∀x∈l,x.key≠key):=by
 have mono:∀(p q:Nat) (hp:p<l.length) (hq:q<l.length),p≤q→l[p].key≤l[q].key:=fun p q hp hq gG=>by
   rcases Nat.eq_or_lt_of_le gG with h|h
   · subst h;omega
   · have:=jL.1 ha p q hp hq h;omega
 have h88:∃o,Fo Km [.i l.length,.r (l.map ao),.i key]=some o∧∃i:Nat,o=[.i i]∧i≤l.length∧(∀(j:Nat) (hj:j<l.length),j<i→l[j].key<key)∧∀(j:Nat) (hj:j<l.length),i≤j→key≤l[j].key:=by
   refine iH ?_;refine aB (fun xs=>∃i:Nat,xs=[.i i]∧i≤l.length∧(∀(j:Nat) (hj:j<l.length),j<i→l[j].key<key)∧∀(j:Nat) (hj:j<l.length),i≤j→key≤l[j].key) ?_ (by rintro _ ⟨i,rfl,h⟩;exact ad ⟨i,rfl,h⟩);refine wp_loop (I:=fun a=>∃lo hi:Nat,a=[.i lo,.i hi]∧lo≤hi∧hi≤l.length∧(∀(j:Nat) (hj:j<l.length),j<lo→l[j].key<key)∧∀(j:Nat) (hj:j<l.length),hi≤j→key≤l[j].key) (mu:=fun a=>match a with|[.i lo,.i hi]=> (hi-lo).toNat|_=>0) ⟨0,l.length,rfl,om,om,fun j hj h=>by omega,fun j hj h=>by omega⟩ ?_;rintro a ⟨lo,hi,rfl,e1,e2,e3,e4⟩;refine uR ?_;refine aI rfl (fun hc=> ?_) (fun hc=> ?_);rotate_left
   · exact ad ⟨lo,rfl,om,e3,fun j hj h=>e4 j hj om⟩
   have hm:(lo+hi) /2<l.length:=om;refine zC (i:=lo) (j:=hi) rfl rfl rfl om (nW ?_);have h83:Bd [.i ((lo+hi) /2:Nat),.r (l.map ao),.i key]=some [.b (decide (key≤l[(lo+hi) /2].key))]:=by
     refine aH ?_;refine aP (f:=ao) (l:=l) (j:=(lo+hi) /2) rfl rfl hm rfl (uR ?_);exact ad rfl
   refine ag h83 rfl rfl (uR ?_);refine qu rfl decide_eq_true_iff (fun hk=> ?_) fun hk=> ?_
   · refine bg (i:=(lo+hi) /2) rfl om (nW ?_);refine ad ⟨⟨(lo+hi) /2+1,hi,rfl,om,e2,fun j hj h=> ?_,e4⟩,?_⟩
     · have:=mono j ((lo+hi) /2) hj hm om;omega
     · show((hi:Int) - (((lo+hi) /2+1:Nat):Int)).toNat< ((hi:Int) - (lo:Int)).toNat;omega
   · refine ad ⟨⟨lo,(lo+hi) /2,rfl,om,om,e3,fun j hj h=> ?_⟩,?_⟩
     · have:=mono ((lo+hi) /2) j hm hj h;omega
     · show((((lo+hi) /2:Nat):Int) - (lo:Int)).toNat< ((hi:Int) - (lo:Int)).toNat;omega
 obtain⟨o,h1,i,rfl,h2,h3,h4⟩:=h88
 suffices h:∃o,Fo J' [.r (l.map ao),.i key]=some o∧∃(i:Nat) (b:Bool),o=[.i i,.b b]∧(b=true→∃h:i<l.length,l[i].key=key)∧(b=false→∀x∈l,x.key≠key)by
   obtain⟨o,h1,i,b,rfl,h2⟩:=h;exact⟨i,b,h1,h2⟩
 refine iH ?_;refine uR ?_;rw[aA];refine ag (F:=zr) h1 rfl rfl (nW ?_);refine aB (fun xs=>∃b:Bool,xs=[.b b]∧(b=true→∃h:i<l.length,l[i].key=key)∧(b=false→∀x∈l,x.key≠key)) (uR ?_) (by rintro _ ⟨b,rfl,h⟩;exact ad ⟨i,b,rfl,h⟩);rw[aA];refine aI rfl (fun hc=> ?_) (fun hc=> ?_)
 · have hi:i<l.length:=om;refine aP (f:=ao) (l:=l) (j:=i) rfl rfl hi rfl (uR ?_);refine ad ⟨decide (l[i].key=key),rfl,fun h=> ⟨hi,dG h⟩,fun h x hx=> ?_⟩;have hk:=eh h;obtain⟨j,hj,rfl⟩:=iq hx;intro e;by_cases jI:j<i
   · have:=h3 j hj jI;omega
   · have h5:=h4 i hi (cn i);rcases Nat.eq_or_lt_of_le (Nat.le_of_not_lt jI)with h6|h6
     · subst h6;exact hk e
     · have:=jL.1 ha i j hi hj h6;omega
 · refine ad ⟨false,rfl,fun h=> (by cases h),fun _ x hx=> ?_⟩;obtain⟨j,hj,rfl⟩:=iq hx;have:=h3 j hj om;omega
theorem afM (l) (hn:l.length≤64) (ha:dK l) (key):Ci [.r (l.map ao),.i key]=some (kZ (bG l key)):=by
 obtain⟨i,b,h1,h2,h3⟩:=atq l om ha key;have hs:=Du l ha.apart hn;rw[D8 ha]at hs;refine aH ?_;refine ag hs rfl rfl (nW ?_);refine ag h1 rfl rfl (uR ?_)
 cases b with
 |false=>
  refine dX rfl (ad ?_);rw[xl (h3 rfl)];rfl
 |true=>
  obtain⟨hi,hk⟩:=h2 rfl;refine bj rfl ?_;refine iP (l:=l) (j:=i) rfl rfl hi (nW ?_);refine ad ?_;rw[←hk,oA ha.apart (b8 hi)];rfl
theorem alT (o):(kZ o).length=5:=by cases o<;>rfl
theorem azA {m} (h:WM m) (hv:MV m) (key):nN (fY m++ [.i key])=some (kZ (bG (items m) key)):=by
 have hr:=wF key;have hs:(fh key).toNat<8:=om;have hl:=h.hn (fh key).toNat;have hf:=afM (m.st (fh key).toNat) om (hv.1 _ hs).1.1 key;rw[←agZ hv.1]at hf;refine aH ?_;refine ag (Jn h (je hv)) rfl rfl (uR ?_);refine bj rfl ?_;refine ag (Yn key) rfl rfl (nW ?_);refine sd ⟨hr.1,hr.2⟩ (nW ?_);refine uI (m:=m) hs (by show fh key=_;omega) rfl (nW ?_);refine ag hf (alT _) rfl (ad ?_);cases bG (items m) key<;>rfl
structure Pc where
 g:Gn
 x:It
 i:Nat
def lR (p:Pc):List PV:=[.sc (.int .i64 p.g.num),.sc (.int .i64 p.g.mode),.sc (.int .i64 p.g.rev),.sc (.int .u64 p.x.key),.sc (.int .u32 p.x.cookie),.sc (.int .i64 p.x.off),.sc (.int .i64 p.x.size),.sc (.int .i64 p.i)]
def VW (d:List Pc) (g:Gn) (i:Nat):Option It→List Pc
 |some x=>d++ [⟨g,x,i⟩]
 |none=>d
theorem azN (l:List Pc):bu 8 (l.map lR)=true:=by unfold bu;simp[lR]
theorem adX {g} (hg:WM g.map) (hv:MV g.map) {n r m gs ok nok} {key} (d) (hd:d.length≤1000) (i):
  uA nN 125 [n,r,m,gs,.i key,ok,nok] (d.map lR) i (ky g)=some ((VW d g i (bG (items g.map) key)).map lR):=by
 have hw:(sB nN 125).wp ([n,r,m,gs,.i key,ok,nok,.r (d.map lR),.i i]++gN g) (fun o=>∃a,o.1= .jump 0 [a]∧(a.ev o.2).az=(VW d g i (bG (items g.map) key)).map lR):=by
  have jF:=azA hg hv key
  cases hf:bG (items g.map) key with
  |none=>
   rw[hf]at jF;refine ag jF rfl rfl (nW ?_);exact bj rfl (ad ⟨_,rfl,rfl⟩)
  |some x=>
   rw[hf]at jF;refine ag jF rfl rfl (nW ?_);refine dX rfl (uR ?_);refine dC (r:=(d++ [(⟨g,x,i⟩:Pc)]).map lR) (azN d) rfl (by show(d.map lR).length≤_;rw[aA];omega) (by show(1:Nat)≤_;omega) om (by rw[dk];rfl) (nW ?_);exact ad ⟨_,rfl,rfl⟩
 obtain⟨⟨lf,ρ'⟩,h2,a,h3,h4⟩:=(by unfold ae.wp at hw;exact hw:∃r,_=some r∧_)
 cases h3;unfold uA;rw[show BE (ky g)=some (gN g)from rfl];have h2:(sB nN 125).aa (n::r::m::gs:: .i key::ok::nok:: .r (d.map lR):: .i (i:Int)::gN g)=_:=h2;dsimp only[List.cons_append,List.nil_append];rw[h2];exact bJ some h4
theorem XD {gens} (hw:∀g∈gens,WM g.map) (hv:∀g∈gens,MV g.map) (hn:gens.length≤1000) {n r m gs ok nok} {key}:
  ∀k,k≤gens.length→∃d,d.length≤k∧kx nN 125 [n,r,m,gs,.i key,ok,nok] (gens.map ky) k=some (d.map lR)∧
   ((d=[]∧pZ gens key gens.length=pZ gens key (gens.length-k))∨∃p t,d=p::t∧pZ gens key gens.length=some (p.g,p.x))
 |0,_=> ⟨[],cn 0,rfl,.inl ⟨rfl,rfl⟩⟩
 | k +1,hk=>by
  obtain⟨d,e1,e2,e3⟩:=XD hw hv hn k om (n:=n) (r:=r) (m:=m) (gs:=gs) (ok:=ok) (nok:=nok) (key:=key);obtain⟨j,hjk⟩:∃j,gens.length-1-k=j:=⟨_,rfl⟩
  have hj:j<gens.length:=om;have hg:(gens.map ky)[j]? =some (ky gens[j]):=by rw[bV,bW hj];rfl
  have hr:=adX (hw _ (b8 hj)) (hv _ (b8 hj)) (n:=n) (r:=r) (m:=m) (gs:=gs) (ok:=ok) (nok:=nok) (key:=key) d om j;have hs:=Us (k:=key) hj;rw[show gens.length-k=j+1 by omega]at e3;rw[show gens.length- (k+1)=j by omega,kx,e2,aA,hjk,hg];simp only;rw[hr]
  cases hf:bG (items gens[j].map) key with
  |none=>
   rw[hf]at hs;refine⟨d,om,rfl,?_⟩;rcases e3 with⟨f1,f2⟩|f
   · exact .inl ⟨f1,f2.trans hs⟩
   · exact .inr f
  |some x=>
   rw[hf]at hs;refine⟨_,?_,rfl,.inr ?_⟩
   · show(d++ [_]).length≤k+1;simp;omega
   rcases e3 with⟨f1,f2⟩| ⟨p,t,f1,f2⟩
   · subst f1;exact⟨_,[],rfl,f2.trans hs⟩
   · subst f1;exact⟨p,_,rfl,f2⟩
theorem ayH {id limit} {ro} {gens} (hw:∀g∈gens,WM g.map) (hv:Mr id limit gens) (key):
   yF [.i id,.i limit,ro,.r (gens.map ky),.i key]=some (B_ (pZ gens key gens.length)):=by
 have hn:=hv.1.2.2;have hm:∀g∈gens,MV g.map:=fun g hg=>by
   obtain⟨i,hi,rfl⟩:=iq hg;exact(hv.2.1 i hi hi).1.2.2.1
 obtain⟨d,e1,e2,e3⟩:=XD hw hm om (n:= .i id) (r:= .i limit) (m:=ro) (gs:= .r (gens.map ky)) (ok:= .b true) (nok:= .b (!(L.b true).bx)) (key:=key) gens.length (cn _);have hall:z8 [.i id,.i limit,ro,.r (gens.map ky),.i key]=some [.r (d.map lR)]:=by
   have hs:=Vl (ro:=ro) hw om (je hv);have hb:F4 [.r (gens.map ky)]=some []:=by
    refine aH ?_;exact ad rfl
   unfold z8 vd;simp only[hs,hb];rw[ay (show(L.b true).bx=true from rfl),ay (by rw[aA];omega),aA,e2];rfl
 refine aH ?_;refine ag hall rfl rfl (uR ?_);rw[aA];rcases e3 with⟨rfl,f2⟩| ⟨p,t,rfl,f2⟩
 · refine cS rfl rfl (ad ?_);rw[f2,wj];rfl
 · refine ba rfl (by rw[ir];omega) ?_;refine aP (f:=lR) (l:=p::t) (j:=0) rfl rfl (by simp) rfl (nW ?_)
   repeat refine dx (f:=lR) (l:=p::t) (j:=0) rfl rfl (by simp) rfl rfl (nW ?_)
   refine ad ?_;rw[f2];rfl
end
section
open Go.RowKit Pl AI
open Classical
attribute [local irreducible] ae.wp
theorem aep {n:Nat} (h:16≤n):oQ (n:Int)=((Sp.bM n:Nat):Int):=by
 unfold oQ Sp.bM;rw[aC om];omega
theorem ayl {D:List Nat} (hD:B8 D) (vZ:16≤D.length):rY (cJ D) (List.replicate 6 true) [] D.length=List.replicate 6 true:=by
 have h6:=xy D;refine PI (by rw[Xn];rfl) fun i h1 h2=> ?_
 rw[Xn]at h1;rw[QC,PO];unfold Ef;rw[decide_eq_true_iff];refine⟨by rw[jA (by rw[pQ];exact h1),PO],fun h=> (by cases h),?_⟩;rw[jA om,((FI hD).at om).2,aep vZ]
theorem atW {D:List Nat} {o s l:Nat} (h1:o≤s) (h2:s+l≤D.length):aS D o s++aS D s (s+l)=aS D o (s+l):=by
 unfold aS;obtain⟨T,hT⟩:∃T,D.take (s+l)=T:=⟨_,rfl⟩
 have h3:D.take s=T.take s:=by rw[←hT,List.take_take,wo om]
 have hl:T.length=s+l:=by rw[←hT,cL];omega
 rw[hT,h3]
 conv=>rhs;rw[←abC s T]
 rw[List.drop_append_of_le_length (by rw[cL];omega)]
theorem alH {D:List Nat} {s p l j:Nat} (hj:j=Sp.gu s) (hp:p=Sp.er s) (hl:s%64+l≤64) (hs:s+l≤D.length) (hc:p+l≤Sp.bM D.length):aS ((cJ D).getD j []) p (p+l)=aS D s (s+l):=by
 have CK:j<4:=by rw[hj];exact Sp.ES s
 have n_:(cJ D).getD j []=o_ D j:=by
  unfold cJ;rw[mo,rF (by rw[Bz];exact CK)];unfold ql;rw[bV,wq CK];rfl
 rw[n_];have dQ:=J1 (b:=o_ D j) (a:=p) (c:=p+l) (by rw[Ie];exact hc);have hl2:=J1 (b:=D) (a:=s) (c:=s+l) hs;refine PI om fun i h1 h2=> ?_
 rw[NR,NR];have hi:i<l:=om;have hv:=Sp.Q4 (j:=p+i) (t:=s) (p:=l) hl om;rw[←hj,←hp,show s+(p+i-p)=s+i by omega]at hv;rw[jA (show p+i< (o_ D j).length by rw[Ie];omega)];unfold o_;rw[PN,acf,hv,ay om]
def iY:List Bool:=List.replicate 6 true
theorem aqv {g:Int} {D:List Nat} (hD:B8 D) {c:Nat→Int} {l:List It} (hl:l.length≤1000) (hH:jl 1 g 0 D.length l) {o s:Nat} (h2:o+s≤D.length):
   KS ([.i 1,.i g,.i 0,.i D.length]++cA c++ [.r (l.map ao),.r ((cJ D).map fR),.r (iY.map hR),.r [],.i o,.i s])=some [.b true,.r ((aS D o (o+s)).map b1)]:=by
 have kh:16≤(D.length:Int):=hH.2.1;have hn2:(D.length:Int)≤524288:=hH.2.2.1;have h6:=xy D;obtain⟨K,hK⟩:=azz (o:Int) ((o:Int)+s) om;have iI:¬qn (o:Int) s:=by unfold qn;omega
 have abv:=anl 1 g 0 D.length (.i (c 0)) (.i (c 1)) (.i (c 2)) (.i (c 3)) (.i (c 4)) (.i (c 5)) (.r (l.map ao)) om om (cJ D) h6 iY rfl [] (fm _);rw[show rY (cJ D) iY [] D.length=iY from ayl hD om]at abv;have hpP:=avb iI hK;have hKn:=hK.le om;obtain⟨e,gE⟩:∃e,o+s=e:=⟨_,rfl⟩
 have aEp:(o:Int)+s=(e:Int):=om;rw[aEp]at hpP hK hKn;rw[gE]at h2⊢;refine aH ?_;refine aB (fun xs=>xs=[.b false]) ?_ ?_
 · refine ag (YR 1 g 0 D.length (.i (c 0)) (.i (c 1)) (.i (c 2)) (.i (c 3)) (.i (c 4)) (.i (c 5)) l om (cJ D) h6 iY rfl (b:=true) (je hH)) rfl rfl (uR ?_);refine bj rfl (uR ?_);refine ba rfl om (uR ?_);refine ba rfl om (uR ?_);refine ba rfl om ?_;refine ck (n:=(D.length:Int) -o) rfl om om (uR ?_);refine ad ?_;exact dF om
 rintro _ rfl;refine nW ?_;refine bj rfl ?_;refine ag abv rfl rfl (nW ?_);refine ag hpP rfl rfl (nW ?_);refine aB (fun xs=>xs=[.r ((aS D o e).map b1)]) ?_ (by rintro _ rfl;refine nW ?_;exact ad rfl);refine Uj ?_;show ae.wp _ (_++ [L.i ((mX o e K).length:Nat)]) _;rw[adY];refine nW ?_;refine wp_loop (I:=fun x=>∃k q:Nat,x=[.i k,.r ((aS D o q).map b1)]∧k≤K∧(q:Int)=dJ o e k∧o≤q∧q≤e) (mu:=fun x=>match x with|[.i k,_]=>K-k.toNat|_=>0) ⟨0,o,?_,om,rfl,om,om⟩ ?_
 · have:aS D o o=[]:=by unfold aS;rw[pR (by rw[cL];omega)]
   rw[this];rfl
 rintro x ⟨k,q,rfl,e1,e2,e3,e4⟩;refine uR ?_;refine aI rfl (fun hc=> ?_) (fun hc=> ?_);rotate_left
 · obtain rfl:k=K:=om;have:=hK.1;obtain rfl:q=e:=om;exact ad rfl
 have hk:k<K:=om;have hlt:=hK.2 k hk;have jF:(mX o e K)[k]? =some (Ag e (dJ o e k)):=by unfold mX;rw[bV,wq hk];rfl
 rw[←e2]at hlt jF;have hb:=US (e:Int) (q:Int) hlt;obtain⟨ln,jK⟩:∃ln:Nat,gM (e:Int) (q:Int)=ln:=⟨(gM (e:Int) (q:Int)).toNat,om⟩
 have n_:iU (q:Int)=((Sp.gu q:Nat):Int):=by unfold iU Sp.gu;omega
 have hat:iV (q:Int)=((Sp.er q:Nat):Int):=by unfold iV Sp.er;omega
 have hrow:Ag e (q:Int)=[.sc (.int .i64 (Sp.gu q:Nat)),.sc (.int .i64 (Sp.er q:Nat)),.sc (.int .i64 (ln:Nat))]:=by unfold Ag;rw[n_,hat,jK]
 rw[hrow]at jF;rw[jK]at hb;have hsz:Sp.er q+ln≤Sp.bM D.length:=by unfold Sp.er Sp.bM;omega
 have aEc:Sp.bM D.length≤1048576:=by unfold Sp.bM;omega
 have CK:=Sp.ES q;have Pf:Sp.gu q< (cJ D).length:=om;have hlv:=((FI hD).at Pf).2;have hpc:=alH (D:=D) (s:=q) (l:=ln) rfl rfl om om hsz;rw[jA Pf]at hpc;refine aB (fun xs=>xs=[.r ((aS D o (q+ln)).map b1)]) ?_ ?_;rotate_left
 · rintro _ rfl;refine nW ?_;refine bg (i:=k) rfl om (nW ?_);refine ad ⟨⟨k+1,q+ln,rfl,om,by show _=dJ o e k+gM e (dJ o e k);rw[←e2,jK];omega,om,om⟩,?_⟩;show K- ((k+1:Nat):Int).toNat<K-k;omega
 refine iC (by show(0:Int)≤(k:Int);omega) jF rfl (nW ?_);refine kF jF rfl rfl (nW ?_);refine kF jF rfl rfl (nW ?_);refine kF jF rfl rfl (nW ?_);refine aP (f:=hR) (l:=iY) (j:=Sp.gu q) rfl rfl (by show _<6;omega) rfl ?_;rw[show iY[Sp.gu q]'(by show _<6;omega)=true from PO _];refine uR ?_;refine dX rfl ?_;refine aP (f:=fR) (l:=cJ D) (j:=Sp.gu q) rfl rfl Pf rfl (uR ?_);refine cm (n:=((Sp.er q+ln:Nat):Int)) oO om om (uR ?_);refine eC (a:=Sp.er q) (c:=Sp.er q+ln) rfl rfl rfl om om ?_;show ae.wp _ (_++ [L.r ((aS (cJ D)[Sp.gu q] (Sp.er q) (Sp.er q+ln)).map b1)]) _;rw[hpc];have aFJ:=qq D o q;have aFK:=qq D q (q+ln);refine nW ?_;refine eX (a:=aS D o q) (c:=aS D q (q+ln)) rfl rfl om om ?_;rw[atW e3 om];refine nW ?_;exact ad rfl
structure wW (D:List Nat) (x:It):Prop where
 r:mG D x
 v:dm x=true
 e:ends x≤D.length
 k0:0≤x.key
 k8:x.key<8
theorem Wz {D} (hD:B8 D) {x} (h:wW D x):∃o n:Nat,x.off=o∧x.size=n∧n≤4096∧bU x.size=((bM n:Nat):Int)∧o+bM n≤D.length∧(eH D x).length=n∧B8 (eH D x)∧
  xg (aS D o (o+bM n))=[.i (bM n),.i 0,.i x.key,.i x.cookie,.b false,.r ((eH D x).map b1)]:=by
 obtain⟨o,n,h1,h2,h3,h4⟩:=P' h.v;have he:=h.e;have bK:=h.k0;have hk8:=h.k8;have e1:x.off.toNat=o:=om;have e2:x.size.toNat=n:=om;have hr:=h.r.rc;have jK:=h.r.ln;rw[e1,e2]at hr;rw[e2]at jK;have Hx:=h.r.c4;have hB:B8 (eH D x):=hD.cut _ _;refine⟨o,n,h1,h2,h3,by rw[h2];exact zP h3,om,jK,hB,?_⟩;rw[hr,afH hB om bK om h.r.c0 om,jK]
theorem aqM {g:Int} {D:List Nat} (hD:B8 D) {c:Nat→Int} {l:List It} (hl:l.length≤1000) (hH:jl 1 g 0 D.length l) {x} (hx:wW D x):
   vi ([.i 1,.i g,.i 0,.i D.length]++cA c++ [.r (l.map ao),.r ((cJ D).map fR),.r (iY.map hR),.r [],.i x.key,.i x.cookie,.i x.off,.i x.size])=some [.b true,.i x.key,.i x.cookie,.b false,.r ((eH D x).map b1)]:=by
 obtain⟨o,n,h1,h2,h3,h4,h5,h6,h7,h8⟩:=Wz hD hx;have hsz:=rV n;have hby:=aqv hD (c:=c) hl hH (o:=o) (s:=bM n) h5;have ec:=Z2 (aS D o (o+bM n)) (hD.cut _ _) (by have:=qq D o (o+bM n);have:=hH.2.2.1;omega);rw[h8]at ec;rw[h1,h2];rw[h2]at h4;refine aH ?_;refine ag (rR (n:Int)) rfl rfl ?_;rw[h4];refine nW ?_;refine ag hby rfl rfl (nW ?_);refine aB (fun xs=>xs=[.b false]) ?_ ?_
 · refine uR ?_;refine bj rfl (uR ?_);exact ad (dF om)
 rintro _ rfl;refine nW ?_;refine bj rfl ?_;refine pd (m:=eH D x) ec rfl rfl (nW ?_);refine aB (fun xs=>xs=[.b false]) ?_ (by rintro _ rfl;refine nW ?_;refine bj rfl ?_;exact ad rfl);refine uR ?_;refine ba rfl (fun h=>h rfl) (uR ?_);refine ba rfl (fun h=>h rfl) ?_;refine bj rfl (uR ?_);refine ba rfl (fun h=>h rfl) (uR ?_);refine ba rfl (fun h=>h rfl) (uR ?_);rw[aA,h6];exact ad (dF fun h=>h rfl)
theorem aAp {F105 F106 F107 F108} {ls} (hl:ls.length=17) {b c} (h1:F105 (ls.take 13)=some [.b b]) (h2:F106 (((ls.drop 10).take 1).append (ls.drop 13))=some [.b c]) (h3:F107 []=some []):
  uD F105 F106 F107 F108 ls=if b=true then(if c=true then qD F108 ls 22 0 else some [.i 0,.i 0,.b false,.i 1,.r []])else some [.i 0,.i 0,.b false,.i 1,.r []]:=by
 unfold uD;rw[ay hl,h1]
 cases b with
 |false=>rfl
 | true=>
  rw[h2]
  cases c with
  |false=>rfl
  |true=>
   rw[ay h3];rfl
theorem arY {g:Int} {D:List Nat} (hD:B8 D) {c:Nat→Int} {l:List It} (hl:l.length≤1000) (hH:jl 1 g 0 D.length l) {x} (hx:wW D x) (hm:x∈l):
  Tb ([.i 1,.i g,.i 0,.i D.length]++cA c++ [.r (l.map ao),.r ((cJ D).map fR),.r (iY.map hR),.i x.key,.i x.cookie,.i x.off,.i x.size])=some [.i x.key,.i x.cookie,.b false,.i 0,.r ((eH D x).map b1)]:=by
 have n_:=YR 1 g 0 D.length (.i (c 0)) (.i (c 1)) (.i (c 2)) (.i (c 3)) (.i (c 4)) (.i (c 5)) l om (cJ D) (xy D) iY rfl (je hH);have hha:=ahD l om x (je hm);have hcg:=aqM hD (c:=c) hl hH hx;obtain⟨ls,cT⟩:∃ls,([.i 1,.i g,.i 0,.i D.length]++cA c++ [.r (l.map ao),.r ((cJ D).map fR),.r (iY.map hR),.i x.key,.i x.cookie,.i x.off,.i x.size]:List L)=ls:=⟨_,rfl⟩
 have h1:se (ls.take 13)=some [.b true]:=by rw[←cT];exact n_
 have h2:tv (((ls.drop 10).take 1).append (ls.drop 13))=some [.b true]:=by rw[←cT];exact hha
 have h4:vi (C2 ls (oI 0))=some [.b true,.i x.key,.i x.cookie,.b false,.r ((eH D x).map b1)]:=by rw[←cT];exact hcg
 have h5:ls.length=17:=by rw[←cT];rfl
 rw[cT];show uD se tv vp vi ls=_;rw[aAp (F107:=vp) h5 h1 h2 (show vp []=some []from rfl),ay rfl,ay rfl,qD,h4];rfl
theorem X5 {f} (hf:eZ f) {j} (hj:j<72) {b} (hb:f j=some b):wX (dA (bL f)++ [.s (nm j)])=some [.b true,.r (b.map b1)]:=by
 have hg:=pS hj (hf j b hb);have aO:=xY hf hg;rw[tu hj hb];refine(aeC aO.2 (uE j)).1 _ ⟨aO.1,uF hj,(by show(-1:Int)≠0;omega),_,Bp hg,?_⟩;show _=cD ((cM f j (dO j b))[(cw f j).length]'_).base ((cM f j (dO j b))[(cw f j).length]'_).aY;rw[uy];rfl
theorem asy {f} (hf:eZ f) {j} (hj:j<72) {b} (hb:f j=some b) {o s:Nat} (h:o+s≤b.length):qw (dA (bL f)++ [.s (nm j),.i o,.i s])=some [.i 0,.r ((aS b o (o+s)).map b1)]:=by
 have hg:=pS hj (hf j b hb);have aO:=xY hf hg;rw[tu hj hb];have hw:Wh (zY f j (dO j b)) (nm j) (b.map b1):=⟨aO.1,uF hj,(by show(-1:Int)≠0;omega),_,Bp hg,by
  show _=cD ((cM f j (dO j b))[(cw f j).length]'_).base ((cM f j (dO j b))[(cw f j).length]'_).aY;rw[uy];rfl⟩
 have:=((T8 aO.2 (uE j)).1 _ hw (o:Int) (s:Int)).2 (by unfold jy;rw[aA];omega);rw[show((o:Int)+s).toNat=o+s by omega,fA,←nk,←ml]at this;exact this
theorem anQ {f} (hf:eZ f) {i:Nat} (hi:i<8) {D} (hD:f (9*i)=some D) {x} (hx:wW D x):
  MA (dA (bL f)++ [.i 1,.i (i+1:Nat),.i x.key,.i x.cookie,.i x.off,.i x.size])=some [.b true,.i x.key,.i x.cookie,.b false,.r ((eH D x).map b1)]:=by
 have hB:=(hf _ _ hD).1;have hDl:=(hf _ _ hD).2;obtain⟨o,n,h1,h2,h3,h4,h5,h6,h7,h8⟩:=Wz hB hx;have ec:=Z2 (aS D o (o+bM n)) (hB.cut _ _) (by have:=qq D o (o+bM n);omega);rw[h8]at ec;rw[h1,h2];rw[h2]at h4;refine aH ?_;refine ag (Xf (t:=0) hi dc dc) rfl rfl (nW ?_);refine ag (rR (n:Int)) rfl rfl ?_;rw[h4];refine nW ?_;refine ag (asy hf (j:=9*i) om hD h5) rfl rfl (nW ?_);refine pd (m:=eH D x) ec rfl rfl (nW ?_);refine aB (fun xs=>xs=[.b true]) ?_ (by rintro _ rfl;refine nW ?_;exact ad rfl);refine uR ?_;refine cS rfl rfl (uR ?_);refine dX rfl (uR ?_);refine cS rfl rfl (uR ?_);refine cS rfl rfl (uR ?_);rw[aA,h6];exact ad (dT rfl)
theorem axo {f} (hf:eZ f) {i:Nat} (hi:i<8) {D} (hD:B8 D) {l its:List It} (hs:Q5 f i D l its) {x} (hx:wW D x) (hm:x∈its):
   LR (dA (bL f)++ [.i 1,.i (i+1:Nat),.i x.key,.i x.cookie,.i x.off,.i x.size])=some [.i 0,.i x.key,.i x.cookie,.b false,.r ((eH D x).map b1)]:=by
 have HX:=hs.n;have cW:(iX 1 ((i+1:Nat):Int) 0 D.length (iB D) its).length≤248:=by unfold iX;rw[p5,zR];omega
 have rn:=avI (iX 1 ((i+1:Nat):Int) 0 D.length (iB D) its) (qx (G1 _ _ _ _ _ _)) om;rw[auR hs.h (SR D) hs.e om]at rn;have h6:=xy D;refine aH ?_;refine uR ?_;refine ba rfl oO ?_;refine ag (Xf (t:=2) hi dc dc) rfl rfl (nW ?_);refine ag (X5 hf (j:=9*i+8) om hs.x) rfl rfl (nW ?_);refine yy (f:=ao) (m:=its) (fun _=>rfl) rn rfl rfl (nW ?_);refine aB (fun xs=>xs=[.b false]) ?_ ?_
 · refine uR ?_;refine bj rfl (uR ?_);exact ad (dF (fun h=>h rfl))
 rintro _ rfl;refine nW ?_;refine bj rfl ?_;refine x_ (r:=(List.replicate 6 ([]:List Nat)).map fR) (by try dsimp only[At.ev,d1,d2,d3,d4,d5,d6,d7,d8,d9,e0,List.map,cb,Kd.pv];exact⟨dc,dc,dc⟩) rfl (nW ?_);refine x_ (r:=(List.replicate 6 false).map hR) (by try dsimp only[At.ev,d1,d2,d3,d4,d5,d6,d7,d8,d9,e0,List.map,cb,Kd.pv];exact⟨dc,dc,dc⟩) rfl (nW ?_);refine aB (fun xs=>xs=[.r ((cJ D).map fR),.r (iY.map hR)]) ?_ ?_
 · refine uR ?_;refine wp_loop (I:=fun y=>∃k:Nat,y=[.i k,.r ((ko [] (cJ D) 6 k).map fR),.r ((ko false iY 6 k).map hR)]∧k≤6) (mu:=fun y=>match y with|[.i k,_,_]=>6-k.toNat|_=>0) ⟨0,rfl,om⟩ ?_;rintro y ⟨k,rfl,e1⟩;have O2:=Xd (d:=([]:List Nat)) h6 e1;have CN:=Xd (d:=false) (l:=iY) (n:=6) rfl e1;refine uR ?_;refine aI rfl (fun hc=> ?_) (fun hc=> ?_);rotate_left
   · have hc:¬(k:Int)<6:=hc;obtain rfl:k=6:=om;refine ad ?_;show[L.r ((ko [] (cJ D) 6 6).map fR),L.r ((ko false iY 6 6).map hR)]=_;rw[P7 h6,P7 (l:=iY) (n:=6) rfl]
   have hc:(k:Int)<6:=hc;have hk:k<6:=om;have hgd:(cJ D).getD k []=(cJ D)[k]'om:=jA om;have hst:=Yv (d:=([]:List Nat)) h6 hk hgd;have hsu:=Yv (d:=false) (l:=iY) (n:=6) rfl hk (v:=true) (by exact(PO _).symm);refine ag (ali hi hk) rfl rfl (nW ?_);refine ag (X5 hf (j:=9*i+(2+k)) om (hs.s k hk)) rfl rfl (nW ?_);refine aP (f:=fR) (j:=k) rfl rfl (show k< (ko [] (cJ D) 6 k).length by omega) rfl (nW ?_);refine sQ (f:=fR) (j:=k) (v:=(cJ D).getD k []) rfl rfl (show k< (ko [] (cJ D) 6 k).length by omega) rfl rfl ?_;rw[hst];refine nW ?_;refine aP (f:=hR) (j:=k) rfl rfl (show k< (ko false iY 6 k).length by omega) rfl (nW ?_);refine sQ (f:=hR) (j:=k) (v:=true) rfl rfl (show k< (ko false iY 6 k).length by omega) rfl rfl ?_;rw[hsu];refine nW ?_;refine bg (i:=k) rfl om (nW ?_);refine ad ⟨⟨k+1,rfl,om⟩,?_⟩;show 6- ((k+1:Nat):Int).toNat<6-k;omega
 rintro _ rfl;refine nW ?_;refine yy (f:=b1) (m:=eH D x) (fun _=>rfl) (arY hD (c:=iB D) om hs.h hx hm) rfl rfl (nW ?_);exact ad rfl
end
end
end Go.Proofs.YtndegphojkiblaaGreatDoor
