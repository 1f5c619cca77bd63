/- A part of the proof. -/
import Derived.Test.YtndegphojkiblaaGreatDoorG14
import Derived.Test.YtndegphojkiblaaGreatDoorG15
import Derived.Test.YtndegphojkiblaaGreatDoorG28
set_option linter.all false
set_option maxHeartbeats 4000000
set_option maxRecDepth 100000
namespace Go.Proofs.YtndegphojkiblaaGreatDoor
noncomputable section
section
open Go.RowKit Pl AI
attribute [local irreducible] ae.wp
theorem nG (n):kH [.i n]=some [.i (bU n)]:=by
 refine aH ?_;refine aB (bT (n<0∨4096<n)) ?_ ?_
 · (repeat' first| (refine aI rfl (fun hx=> ?_) (fun hx=> ?_))| (refine uT rfl ?_));all_goals (refine ad ?_;show bT _ _;try dsimp only[At.ev,d1,d2,d3,d4,d5,d6,d7,d8,d9,e0,List.map,cb,Kd.pv];first|exact cz om|exact dN om|exact dW om|exact oU om)
 rintro _ ⟨t,rfl,ht⟩;refine nW ?_;refine bc (fun hx=> ?_) (fun hx=> ?_)
 · refine ad ?_;show[L.i 0]=[L.i (bU n)]
   unfold bU;rw[ay (ht.1 hx)]
 · have hn:¬(n<0∨4096<n):=fun h=>by rw[ht.2 h]at hx;cases hx
   refine cm (n:=20+n) (by rfl) om om (nW ?_);refine cm (n:=24+n) oO om om (nW ?_);refine cm (n:=n+31) oO om om (nW ?_);refine cv (l:= .i ((n+31) /8)) (by
    show(if(8:Int)≠0 then some (L.i (IntKind.wrap .i64 ((n+31).tdiv 8)))else none)=_;rw[ay dc,abT om,wrap64 om om]) ?_
   refine nW ?_;refine iS (n:=(n+31) /8*8) (by rfl) om om (nW ?_);refine ad ?_;show[L.i _]=[L.i (bU n)]
   unfold bU;rw[aC hn]
theorem rR (n):F5 [.i n]=some [.i (bU n)]:=by
 refine aH ?_;refine aB (bT (n<0∨4096<n)) ?_ ?_
 · (repeat' first| (refine aI rfl (fun hx=> ?_) (fun hx=> ?_))| (refine uT rfl ?_));all_goals (refine ad ?_;show bT _ _;try dsimp only[At.ev,d1,d2,d3,d4,d5,d6,d7,d8,d9,e0,List.map,cb,Kd.pv];first|exact cz om|exact dN om|exact dW om|exact oU om)
 rintro _ ⟨t,rfl,ht⟩;refine nW ?_;refine bc (fun hx=> ?_) (fun hx=> ?_)
 · refine ad ?_;show[L.i 0]=[L.i (bU n)]
   unfold bU;rw[ay (ht.1 hx)]
 · have hn:¬(n<0∨4096<n):=fun h=>by rw[ht.2 h]at hx;cases hx
   refine cm (n:=20+n) (by rfl) om om (nW ?_);refine cm (n:=24+n) oO om om (nW ?_);refine cm (n:=n+32) oO om om (nW ?_);refine ck (n:=n+31) oO om om (nW ?_);refine cv (l:= .i ((n+31) /8)) (by
    show(if(8:Int)≠0 then some (L.i (IntKind.wrap .i64 ((n+31).tdiv 8)))else none)=_;rw[ay dc,abT om,wrap64 om om]) ?_
   refine nW ?_;refine iS (n:=(n+31) /8*8) (by rfl) om om (nW ?_);refine ad ?_;show[L.i _]=[L.i (bU n)]
   unfold bU;rw[aC hn]
theorem DP (x) {b} (hb:b=true ↔ dm x=true):AY [.i x.key,.i x.cookie,.i x.off,.i x.size]=some [.b b]:=by
 have aO:dm x=true ↔ 16≤x.off∧x.off≤1048576∧x.off%8=0∧0≤x.size∧x.size≤4096:=by
   simp only[dm,bt,dj,and_assoc]
 rw[aO]at hb;refine aH ?_;refine aB (bT (16≤x.off∧x.off≤1048576∧x.off%8=0∧0≤x.size∧x.size≤4096)) ?_ ?_
 · refine uR ?_;refine aI rfl (fun h1=> ?_) (fun h1=> ?_)
   · refine uR ?_;refine aI rfl (fun h2=> ?_) (fun h2=> ?_)
     · refine cv (l:= .i (x.off%8)) (by
        show(if(8:Int)≠0 then some (L.i (x.off.tmod 8))else none)=_;rw[ay dc,abU om]) ?_
       refine nW ?_
       (repeat' first| (refine aI rfl (fun hx=> ?_) (fun hx=> ?_))| (refine uT rfl ?_));all_goals (refine ad ?_;show bT _ _;try dsimp only[At.ev,d1,d2,d3,d4,d5,d6,d7,d8,d9,e0,List.map,cb,Kd.pv];first|exact cz om|exact dN om|exact dW om|exact oU om)
     · exact ad (dN om)
   · exact ad (dN om)
 rintro _ ⟨t,rfl,ht⟩;refine nW ?_;refine ad ?_;show[L.b t]=[L.b b];rw[iK.2 (ht.trans hb.symm)]
theorem awf (x) {b} (hb:b=true ↔ dm x=true):F7 [.i x.key,.i x.cookie,.i x.off,.i x.size]=some [.b b]:=by
 rw[←DP x hb];rfl
theorem axL (x) {b} (hb:b=true ↔¬dm x=true):F8 [.i x.key,.i x.cookie,.i x.off,.i x.size]=some [.b b]:=by
 obtain⟨c,hc⟩:=dU (dm x=true);refine aH ?_;refine ag (awf x hc) rfl rfl (uR ?_);refine ad ?_;show[L.b (!c)]=[L.b b]
 have:(!c)=b:=by
  rw[iK,hb,←hc];cases c<;>simp
 rw[this]
theorem LW (a g r) {b} (hb:b=true ↔ 0≤a∧a<4∧1≤g∧g≤8∧0≤r∧r<4294967296):Aj [.i a,.i g,.i r]=some [.b b]:=by
 refine aH ?_;refine aB (bT (0≤a∧a<4∧1≤g∧g≤8∧0≤r∧r<4294967296)) ?_ ?_
 · (repeat' first| (refine aI rfl (fun hx=> ?_) (fun hx=> ?_))| (refine uT rfl ?_));all_goals (refine ad ?_;show bT _ _;try dsimp only[At.ev,d1,d2,d3,d4,d5,d6,d7,d8,d9,e0,List.map,cb,Kd.pv];first|exact cz om|exact dN om|exact dW om|exact oU om)
 rintro _ ⟨t,rfl,ht⟩;refine nW ?_;refine ad ?_;show[L.b t]=[L.b b];rw[iK.2 (ht.trans hb.symm)]
theorem awo (a g r) {b} (hb:b=true ↔ 0≤a∧a<4∧1≤g∧g≤8∧0≤r∧r<4294967296):LC [.i a,.i g,.i r]=some [.b b]:=by
 refine aH ?_;refine aB (bT (0≤a∧a<4∧1≤g∧g≤8∧0≤r∧r<4294967296)) ?_ ?_
 · (repeat' first| (refine aI rfl (fun hx=> ?_) (fun hx=> ?_))| (refine uT rfl ?_));all_goals (refine ad ?_;show bT _ _;try dsimp only[At.ev,d1,d2,d3,d4,d5,d6,d7,d8,d9,e0,List.map,cb,Kd.pv];first|exact cz om|exact dN om|exact dW om|exact oU om)
 rintro _ ⟨t,rfl,ht⟩;refine nW ?_;refine ad ?_;show[L.b t]=[L.b b];rw[iK.2 (ht.trans hb.symm)]
def nY (l:List It) (i:Nat):Prop:=∀(h:i<l.length) (_:0<i),(l[i-1]'om).key<l[i].key
theorem Lo {l}:dK l ↔∀i,nY l i:=by
 constructor
 · intro h i hi h0;exact jL.1 h (i-1) i om hi om
 · intro h;refine jL.2 fun i j hi hj hij=> ?_
   induction j with
   |zero=>omega
   |succ j ih=>
    have h1:=h (j+1) hj om;simp only[PH]at h1;by_cases he:i=j
    · subst he;exact h1
    · have:=ih om om;omega
def yA (l:List It) (i:Nat):Prop:=∀h:i<l.length,dm l[i]=true
theorem afc {l}:VL l ↔∀i,i<l.length→yA l i∧nY l i:=by
 unfold VL;rw[Lo];constructor
 · rintro⟨h1,h2⟩ i _;exact⟨fun hi=>h2 _ (b8 hi),h1 i⟩
 · intro h;refine⟨fun i hi=> (h i hi).2 hi,fun x hx=> ?_⟩;obtain⟨i,hi,rfl⟩:=iq hx;exact(h i hi).1 hi
theorem JD (l) (hl:l.length≤4294967296) {b} (hb:b=true ↔ VL l):Ay [.r (l.map ao)]=some [.b b]:=by
 rw[afc]at hb;refine aH ?_;refine aB (fun xs=>xs=[]∧b=true) ?_ ?_;rotate_left
 · rintro _ ⟨rfl,h⟩;refine nW ?_;refine ad ?_;show[L.b true]=[.b b]
   rw[h]
 refine wp_loop (I:=fun a=>∃i:Nat,a=[.i i]∧i≤l.length∧∀j,j<i→yA l j∧nY l j) (mu:=fun a=>match a with|[.i i]=>l.length-i.toNat|_=>0) ⟨0,rfl,om,fun j hj=>by omega⟩ ?_;rintro a ⟨i,rfl,e1,e2⟩;refine uR ?_;refine aI rfl (fun hc=> ?_) (fun hc=> ?_);rotate_left
 · rw[aA]at hc;exact ad ⟨rfl,hb.2 fun j hj=>e2 j om⟩
 rw[aA]at hc;have hi:i<l.length:=om;refine aB (bT (¬(yA l i∧nY l i))) ?_ ?_;rotate_left
 · rintro _ ⟨u,rfl,hu⟩;refine nW ?_;refine bc (fun hy=> ?_) (fun hy=> ?_)
   · refine ad ?_;show[L.b false]=[.b b]
     rw[fu hb fun h=>hu.1 hy (h i hi)]
   have hg:yA l i∧nY l i:=gg.1 fun h=>by
     rw[hu.2 h]at hy;cases hy
   refine bg (i:=i) rfl om (nW ?_);refine ad ⟨⟨i+1,rfl,om,fun j hj=> ?_⟩,?_⟩
   · by_cases he:j=i
     · subst he;exact hg
     · exact e2 j om
   · show l.length- ((i+1:Nat):Int).toNat<l.length-i;omega
 refine aP (f:=ao) (j:=i) rfl rfl hi rfl (uR ?_);obtain⟨c,hc1⟩:=dU (dm l[i]=true);refine ag (DP l[i] hc1) rfl rfl (uR ?_);refine bc (fun hy=> ?_) (fun hy=> ?_)
 · exact ad (cz fun h=>by rw[hc1.2 (h.1 hi)]at hy;cases hy)
 have hy:(!c)=false:=hy;have aO:=hc1.1 (by simpa using hy);refine uR ?_;refine aI rfl (fun hz=> ?_) (fun hz=> ?_)
 · have h0:0<i:=om;refine aP (f:=ao) (j:=i) rfl rfl hi rfl (uR ?_);refine ck (n:=((i-1:Nat):Int)) oO om om (nW ?_);refine aP (f:=ao) (j:=i-1) rfl rfl om rfl (uR ?_);exact ad (dW (show l[i].key≤(l[i-1]'om).key ↔ _ from⟨fun h k=>by have:=k.2 hi h0;omega,fun h=>ow fun k=>h ⟨fun _=>aO,fun _ _=>by omega⟩⟩))
 · exact ad (dN fun h=>h ⟨fun _=>aO,fun _ k=>absurd k om⟩)
theorem aup (l) (hl:l.length≤4294967296) {b} (hb:b=true ↔ dK l):F9 [.r (l.map ao)]=some [.b b]:=by
 rw[Lo]at hb;refine aH ?_;refine aB (fun xs=>xs=[]∧b=true) ?_ ?_;rotate_left
 · rintro _ ⟨rfl,h⟩;refine nW ?_;refine ad ?_;show[L.b true]=[.b b]
   rw[h]
 refine uR ?_;refine wp_loop (I:=fun a=>∃i:Nat,a=[.i i]∧i≤l.length∧∀j,j<i→nY l j) (mu:=fun a=>match a with|[.i i]=>l.length-i.toNat|_=>0) ⟨0,rfl,om,fun j hj=>by omega⟩ ?_;rintro a ⟨i,rfl,e1,e2⟩;refine uR ?_;refine aI rfl (fun hc=> ?_) (fun hc=> ?_);rotate_left
 · rw[aA]at hc;exact ad ⟨rfl,hb.2 fun j=>by
     by_cases hj:j<i
     · exact e2 j hj
     · exact fun h _=>by omega⟩
 rw[aA]at hc;have hi:i<l.length:=om;refine aP (f:=ao) (j:=i) rfl rfl hi rfl (uR ?_);refine aB (bT (¬nY l i)) ?_ ?_;rotate_left
 · rintro _ ⟨u,rfl,hu⟩;refine nW ?_;refine bc (fun hy=> ?_) (fun hy=> ?_)
   · refine ad ?_;show[L.b false]=[.b b]
     rw[fu hb fun h=>hu.1 hy (h i)]
   have hg:nY l i:=gg.1 fun h=>by
     rw[hu.2 h]at hy;cases hy
   refine bg (i:=i) rfl om (nW ?_);refine ad ⟨⟨i+1,rfl,om,fun j hj=> ?_⟩,?_⟩
   · by_cases he:j=i
     · subst he;exact hg
     · exact e2 j om
   · show l.length- ((i+1:Nat):Int).toNat<l.length-i;omega
 refine uR ?_;refine aI rfl (fun hz=> ?_) (fun hz=> ?_)
 · have h0:0<i:=om;refine ck (n:=((i-1:Nat):Int)) oO om om (nW ?_);refine aP (f:=ao) (j:=i-1) rfl rfl om rfl (uR ?_);exact ad (dW (show l[i].key≤(l[i-1]'om).key ↔ _ from⟨fun h k=>by have:=k hi h0;omega,fun h=>ow fun k=>h fun _ _=>by omega⟩))
 · exact ad (dN fun h=>h fun _ k=>absurd k om)
theorem Yp (l:List It) (hl:l.length≤4294967296):∃r,yG [.r (l.map ao)]=some [.i r]∧(0≤r ↔¬∀x∈l,dm x=true):=by
 have run:ae.wp KT [.r (l.map ao)] (kW fun x=>∃r:Int,x=[.i r]∧(0≤r ↔¬∀x∈l,dm x=true)):=by
  refine aB (fun xs=>xs=[]∧∀x∈l,dm x=true) ?_ ?_;rotate_left
  · rintro _ ⟨rfl,h⟩;refine nW ?_;exact ad ⟨-1,rfl,fun h=>by omega,fun h'=>absurd h h'⟩
  refine uR ?_;refine wp_loop (I:=fun a=>∃i:Nat,a=[.i i]∧i≤l.length∧∀j,j<i→yA l j) (mu:=fun a=>match a with|[.i i]=>l.length-i.toNat|_=>0) ⟨0,rfl,om,fun j hj=>by omega⟩ ?_;rintro a ⟨i,rfl,e1,e2⟩;refine uR ?_;refine aI rfl (fun hc=> ?_) (fun hc=> ?_);rotate_left
  · rw[aA]at hc;refine ad ⟨rfl,fun x hx=> ?_⟩;obtain⟨j,hj,rfl⟩:=iq hx;exact e2 j om hj
  rw[aA]at hc;have hi:i<l.length:=om;refine aP (f:=ao) (j:=i) rfl rfl hi rfl (uR ?_);obtain⟨c,hc1⟩:=dU (¬dm l[i]=true);refine ag (axL l[i] hc1) rfl rfl (nW ?_);refine bc (fun hy=> ?_) (fun hy=> ?_)
  · exact ad ⟨i,rfl,fun _ h=>hc1.1 hy (h _ (b8 hi)),fun _=>by omega⟩
  · have hg:yA l i:=fun _=>gg.1 fun h=>by
      rw[hc1.2 h]at hy;cases hy
    refine bg (i:=i) rfl om (nW ?_);refine ad ⟨⟨i+1,rfl,om,fun j hj=> ?_⟩,?_⟩
    · by_cases he:j=i
      · subst he;exact hg
      · exact e2 j om
    · show l.length- ((i+1:Nat):Int).toNat<l.length-i;omega
 obtain⟨o,h1,r,rfl,h2⟩:=iH run;exact⟨r,h1,h2⟩
theorem Vk (l) (hl:l.length≤4294967296) {b} (hb:b=true ↔ VL l):yj [.r (l.map ao)]=some [.b b]:=by
 obtain⟨r,O0,hr⟩:=Yp l hl;have h87:zZ [.r (l.map ao)]=some [.b (decide (0≤r))]:=by
   refine aH ?_;refine ag O0 rfl rfl (uR ?_);exact ad rfl
 obtain⟨c,hc⟩:=dU (dK l);refine aH ?_;refine aB (bT (VL l)) ?_ ?_
 · refine ag (aup l hl hc) rfl rfl (nW ?_);refine bc (fun hy=> ?_) (fun hy=> ?_)
   · refine ag h87 rfl rfl (uR ?_);exact ad (oU (show¬0≤r ↔ _ by rw[hr,gg];exact⟨fun h=> ⟨hc.1 hy,h⟩,fun h=>h.2⟩))
   · exact ad (dN fun h=>by rw[hc.2 h.1]at hy;cases hy)
 rintro _ ⟨t,rfl,ht⟩;refine nW ?_;refine ad ?_;show[L.b t]=[L.b b];rw[iK.2 (ht.trans hb.symm)]
theorem Rp (l) (hl:l.length≤4294967296) {b} (hb:b=true ↔ dK l):xL [.r (l.map ao)]=some [.b b]:=by
 rw[Lo]at hb;refine aH ?_;refine aB (fun xs=>xs=[]∧b=true) ?_ ?_;rotate_left
 · rintro _ ⟨rfl,h⟩;refine nW ?_;refine ad ?_;show[L.b true]=[.b b]
   rw[h]
 refine uR ?_;refine wp_loop (I:=fun a=>∃i:Nat,a=[.i i]∧i≤l.length∧∀j,j<i→nY l j) (mu:=fun a=>match a with|[.i i]=>l.length-i.toNat|_=>0) ⟨0,rfl,om,fun j hj=>by omega⟩ ?_;rintro a ⟨i,rfl,e1,e2⟩;refine uR ?_;refine aI rfl (fun hc=> ?_) (fun hc=> ?_);rotate_left
 · rw[aA]at hc;exact ad ⟨rfl,hb.2 fun j=>by
     by_cases hj:j<i
     · exact e2 j hj
     · exact fun h _=>by omega⟩
 rw[aA]at hc;have hi:i<l.length:=om;refine aP (f:=ao) (j:=i) rfl rfl hi rfl (nW ?_);refine dx (f:=ao) (j:=i) rfl rfl hi rfl rfl (nW ?_);refine dx (f:=ao) (j:=i) rfl rfl hi rfl rfl (nW ?_);refine dx (f:=ao) (j:=i) rfl rfl hi rfl rfl (nW ?_);refine dx (f:=ao) (j:=i) rfl rfl hi rfl rfl (nW ?_);refine aB (bT (¬nY l i)) ?_ ?_;rotate_left
 · rintro _ ⟨u,rfl,hu⟩;refine nW ?_;refine bc (fun hy=> ?_) (fun hy=> ?_)
   · refine ad ?_;show[L.b false]=[.b b]
     rw[fu hb fun h=>hu.1 hy (h i)]
   have hg:nY l i:=gg.1 fun h=>by
     rw[hu.2 h]at hy;cases hy
   refine bg (i:=i) rfl om (nW ?_);refine ad ⟨⟨i+1,rfl,om,fun j hj=> ?_⟩,?_⟩
   · by_cases he:j=i
     · subst he;exact hg
     · exact e2 j om
   · show l.length- ((i+1:Nat):Int).toNat<l.length-i;omega
 refine uR ?_;refine aI rfl (fun hz=> ?_) (fun hz=> ?_)
 · have h0:0<i:=om;refine ck (n:=((i-1:Nat):Int)) oO om om (nW ?_);refine aP (f:=ao) (j:=i-1) rfl rfl om rfl (nW ?_);refine dx (f:=ao) (j:=i-1) rfl rfl om rfl rfl (uR ?_);exact ad (dW (show l[i].key≤(l[i-1]'om).key ↔ _ from⟨fun h k=>by have:=k hi h0;omega,fun h=>ow fun k=>h fun _ _=>by omega⟩))
 · exact ad (dN fun h=>h fun _ k=>absurd k om)
theorem ahF (l) (hl:l.length≤4294967296) {b} (hb:b=true ↔ VL l):Nu [.r (l.map ao)]=some [.b b]:=by
 obtain⟨r,O0,hr⟩:=Yp l hl;have aDD:Ks [.r (l.map ao)]=some [.b (decide (0≤r))]:=by
   refine aH ?_;refine ag O0 rfl rfl (uR ?_);exact ad rfl
 obtain⟨c,hc⟩:=dU (dK l);refine aH ?_;refine aB (bT (VL l)) ?_ ?_
 · refine ag (Rp l hl hc) rfl rfl (nW ?_);refine bc (fun hy=> ?_) (fun hy=> ?_)
   · refine ag aDD rfl rfl (uR ?_);exact ad (oU (show¬0≤r ↔ _ by rw[hr,gg];exact⟨fun h=> ⟨hc.1 hy,h⟩,fun h=>h.2⟩))
   · exact ad (dN fun h=>by rw[hc.2 h.1]at hy;cases hy)
 rintro _ ⟨t,rfl,ht⟩;refine nW ?_;refine ad ?_;show[L.b t]=[L.b b];rw[iK.2 (ht.trans hb.symm)]
def jl (a g r n:Int) (l:List It):Prop:=(0≤a∧a<4∧1≤g∧g≤8∧0≤r∧r<4294967296)∧16≤n∧n≤524288∧VL l∧∀x∈l,x.off+bU x.size≤n
def CZ (l:List It) (n:Int) (i:Nat):Prop:=∀h:i<l.length,l[i].off+bU l[i].size≤n
theorem T2 {l} {n} (h:∀j,j<l.length→CZ l n j):∀x∈l,x.off+bU x.size≤n:=fun x hx=>by
 obtain⟨j,hj,rfl⟩:=iq hx;exact h j hj hj
theorem Is (n):0≤bU n∧bU n≤4120:=by unfold bU;split<;>omega
theorem Af {x} (h:dm x=true):16≤x.off∧x.off≤1048576∧0≤x.size∧x.size≤4096:=by
 simp only[dm,bt,dj]at h;omega
theorem Zd (a g r n) (m4 m5 m6 m7 m8 m9) (l) (hl:l.length≤4294967296) {b} (hb:b=true ↔ jl a g r n l):Dd [.i a,.i g,.i r,.i n,m4,m5,m6,m7,m8,m9,.r (l.map ao)]=some [.b b]:=by
 obtain⟨bs,qZ⟩:=dU (0≤a∧a<4∧1≤g∧g≤8∧0≤r∧r<4294967296);obtain⟨bv,v_⟩:=dU (VL l);refine aH ?_;refine aB (bT (¬((0≤a∧a<4∧1≤g∧g≤8∧0≤r∧r<4294967296)∧16≤n∧n≤524288∧VL l))) ?_ ?_
 · refine ag (LW a g r qZ) rfl rfl (uR ?_);refine bc (fun hx=> ?_) (fun hx=> ?_)
   · exact ad (cz fun h=>by rw[qZ.2 h.1]at hx;cases hx)
   have hx:(!bs)=false:=hx;have O1:=qZ.1 (by simpa using hx);refine uR ?_;refine aI rfl (fun h1=> ?_) (fun h1=> ?_)
   · exact ad (cz fun h=>by omega)
   refine uR ?_;refine aI rfl (fun h2=> ?_) (fun h2=> ?_)
   · exact ad (cz fun h=>by omega)
   refine ag (JD l hl v_) rfl rfl (uR ?_);refine ad ⟨!bv,rfl,?_⟩;constructor
   · intro h k;rw[v_.2 k.2.2.2]at h;cases h
   · intro h
     cases hq:bv with
     |false=>rfl
     |true=>exact absurd ⟨O1,om,om,v_.1 hq⟩ h
 rintro _ ⟨t,rfl,ht⟩;refine nW ?_;refine bc (fun hx=> ?_) (fun hx=> ?_)
 · refine ad ?_;show[L.b false]=[.b b]
   rw[fu hb fun h=>ht.1 hx ⟨h.1,h.2.1,h.2.2.1,h.2.2.2.1⟩]
 have aO:=gg.1 fun h=>by rw[ht.2 h]at hx;cases hx
 refine aB (fun xs=>xs=[]∧b=true) ?_ ?_;rotate_left
 · rintro _ ⟨rfl,h⟩;refine nW ?_;refine ad ?_;show[L.b true]=[.b b]
   rw[h]
 refine wp_loop (I:=fun a=>∃i:Nat,a=[.i i]∧i≤l.length∧∀j,j<i→CZ l n j) (mu:=fun a=>match a with|[.i i]=>l.length-i.toNat|_=>0) ⟨0,rfl,om,fun j hj=>by omega⟩ ?_;rintro a ⟨i,rfl,e1,e2⟩;refine uR ?_;refine aI rfl (fun hc=> ?_) (fun hc=> ?_);rotate_left
 · rw[aA]at hc;exact ad ⟨rfl,hb.2 ⟨aO.1,aO.2.1,aO.2.2.1,aO.2.2.2,T2 fun j hj=>e2 j om⟩⟩
 rw[aA]at hc;have hi:i<l.length:=om;have h1:=Af (aO.2.2.2.2 _ (b8 hi));have h2:=Is l[i].size;refine aP (f:=ao) (j:=i) rfl rfl hi rfl (uR ?_);refine nW ?_;refine aP (f:=ao) (j:=i) rfl rfl hi rfl (uR ?_);refine nW ?_;refine ag (nG l[i].size) rfl rfl (nW ?_);refine cm (n:=l[i].off+bU l[i].size) (by rfl) om om (uR ?_);refine aI rfl (fun hy=> ?_) (fun hy=> ?_)
 · refine ad ?_;show[L.b false]=[.b b]
   rw[fu hb fun h=>by have:=h.2.2.2.2 _ (b8 hi);omega]
 · refine bg (i:=i) rfl om (nW ?_);refine ad ⟨⟨i+1,rfl,om,fun j hj=> ?_⟩,?_⟩
   · by_cases he:j=i
     · subst he;exact fun _=>om
     · exact e2 j om
   · show l.length- ((i+1:Nat):Int).toNat<l.length-i;omega
theorem axC (x) (hx:dm x=true) {ls} {n} (hl:ls.length=11) (hn:ls[3]? =some (.i n)) {b} (hb:b=true ↔ n<x.off+bU x.size):LI ([.i x.key,.i x.cookie,.i x.off,.i x.size]++ls)=some [.b b]:=by
 match ls,hl with
 |[m0,m1,m2,m3,m4,m5,m6,m7,m8,m9,m10],_=>
  cases hn;have h1:=Af hx;have h2:=Is x.size;refine aH ?_;refine ag (rR x.size) rfl rfl (nW ?_);refine cm (n:=x.off+bU x.size) (by rfl) om om (uR ?_);refine ad ?_;show[L.b (decide (n<x.off+bU x.size))]=[.b b]
  have:decide (n<x.off+bU x.size)=b:=by rw[iK,dj,hb]
  rw[this]
theorem auW (l:List It) (hl:l.length≤4294967296) (hv:∀x∈l,dm x=true) (m0 m1 m2 m4 m5 m6 m7 m8 m9 m10) (n):∃r,IG [.r (l.map ao),m0,m1,m2,.i n,m4,m5,m6,m7,m8,m9,m10]=some [.i r]∧(0≤r ↔¬∀x∈l,x.off+bU x.size≤n):=by
 have run:ae.wp ZK [.r (l.map ao),m0,m1,m2,.i n,m4,m5,m6,m7,m8,m9,m10] (kW fun x=>∃r:Int,x=[.i r]∧(0≤r ↔¬∀x∈l,x.off+bU x.size≤n)):=by
  refine aB (fun xs=>xs=[]∧∀x∈l,x.off+bU x.size≤n) ?_ ?_;rotate_left
  · rintro _ ⟨rfl,h⟩;refine nW ?_;exact ad ⟨-1,rfl,fun h=>by omega,fun h'=>absurd h h'⟩
  refine uR ?_;refine wp_loop (I:=fun a=>∃i:Nat,a=[.i i]∧i≤l.length∧∀j,j<i→CZ l n j) (mu:=fun a=>match a with|[.i i]=>l.length-i.toNat|_=>0) ⟨0,rfl,om,fun j hj=>by omega⟩ ?_;rintro a ⟨i,rfl,e1,e2⟩;refine uR ?_;refine aI rfl (fun hc=> ?_) (fun hc=> ?_);rotate_left
  · rw[aA]at hc;exact ad ⟨rfl,T2 fun j hj=>e2 j om⟩
  rw[aA]at hc;have hi:i<l.length:=om;refine aP (f:=ao) (j:=i) rfl rfl hi rfl (uR ?_);obtain⟨c,hc1⟩:=dU (n<l[i].off+bU l[i].size);refine ag (axC l[i] (hv _ (b8 hi)) (ls:=[m0,m1,m2,.i n,m4,m5,m6,m7,m8,m9,m10]) rfl rfl hc1) rfl rfl (nW ?_);refine bc (fun hy=> ?_) (fun hy=> ?_)
  · exact ad ⟨i,rfl,fun _ h=>by have:=hc1.1 hy;have:=h _ (b8 hi);omega,fun _=>by omega⟩
  · have hg:CZ l n i:=fun _=>by
      have:¬n<l[i].off+bU l[i].size:=fun h=>by rw[hc1.2 h]at hy;cases hy
      omega
    refine bg (i:=i) rfl om (nW ?_);refine ad ⟨⟨i+1,rfl,om,fun j hj=> ?_⟩,?_⟩
    · by_cases he:j=i
      · subst he;exact hg
      · exact e2 j om
    · show l.length- ((i+1:Nat):Int).toNat<l.length-i;omega
 obtain⟨o,h1,r,rfl,h2⟩:=iH run;exact⟨r,h1,h2⟩
theorem Sv (a g r n) (m4 m5 m6 m7 m8 m9) (l) (hl:l.length≤4294967296) {b} (hb:b=true ↔ jl a g r n l):FR [.i a,.i g,.i r,.i n,m4,m5,m6,m7,m8,m9,.r (l.map ao)]=some [.b b]:=by
 obtain⟨bs,qZ⟩:=dU (0≤a∧a<4∧1≤g∧g≤8∧0≤r∧r<4294967296);obtain⟨bv,v_⟩:=dU (VL l);refine aH ?_;refine aB (bT (¬((0≤a∧a<4∧1≤g∧g≤8∧0≤r∧r<4294967296)∧16≤n∧n≤524288∧VL l))) ?_ ?_
 · refine ag (awo a g r qZ) rfl rfl (uR ?_);refine bc (fun hx=> ?_) (fun hx=> ?_)
   · exact ad (cz fun h=>by rw[qZ.2 h.1]at hx;cases hx)
   have hx:(!bs)=false:=hx;have O1:=qZ.1 (by simpa using hx);refine uR ?_;refine aI rfl (fun h1=> ?_) (fun h1=> ?_)
   · exact ad (cz fun h=>by omega)
   refine uR ?_;refine aI rfl (fun h2=> ?_) (fun h2=> ?_)
   · exact ad (cz fun h=>by omega)
   refine ag (Vk l hl v_) rfl rfl (uR ?_);refine ad ⟨!bv,rfl,?_⟩;constructor
   · intro h k;rw[v_.2 k.2.2.2]at h;cases h
   · intro h
     cases hq:bv with
     |false=>rfl
     |true=>exact absurd ⟨O1,om,om,v_.1 hq⟩ h
 rintro _ ⟨t,rfl,ht⟩;refine nW ?_;refine bc (fun hx=> ?_) (fun hx=> ?_)
 · refine ad ?_;show[L.b false]=[.b b]
   rw[fu hb fun h=>ht.1 hx ⟨h.1,h.2.1,h.2.2.1,h.2.2.2.1⟩]
 have aO:=gg.1 fun h=>by rw[ht.2 h]at hx;cases hx
 obtain⟨q,aDE,hq⟩:=auW l hl aO.2.2.2.2 (.i a) (.i g) (.i r) m4 m5 m6 m7 m8 m9 (.r (l.map ao)) n;have aDF:Jy [.r (l.map ao),.i a,.i g,.i r,.i n,m4,m5,m6,m7,m8,m9,.r (l.map ao)]=some [.b (decide (0≤q))]:=by
   refine aH ?_;refine ag aDE rfl rfl (uR ?_);exact ad rfl
 refine ag aDF rfl rfl (uR ?_);refine ad ?_;show[L.b (!decide (0≤q))]=[.b b]
 have:(!decide (0≤q))=b:=by
   rw[iK,hb,pN,zg,hq,gg];exact⟨fun h=> ⟨aO.1,aO.2.1,aO.2.2.1,aO.2.2.2,h⟩,fun h=>h.2.2.2.2⟩
 rw[this]
end
section
open Go.RowKit Pl AI
open Classical
attribute [local irreducible] ae.wp
def na (l:List Nat):fo:=strOfNums (l.map fun n=> ((n:Nat):Int))
theorem B8.sub {a b} (h:B8 b) (hs:∀x∈a,x∈b):B8 a:=fun x hx=>h x (hs x hx)
theorem B8.take {a} (h:B8 a) (n):B8 (a.take n):=h.sub fun _ hx=>mf hx
theorem B8.drop {a} (h:B8 a) (n):B8 (a.drop n):=h.sub fun _ hx=>wh hx
theorem XS (c) (k):kq c k<256:=by
 unfold kq;omega
theorem xV (l):B8 (cf l):=fun x hx=>by
 simp only[cf,dL,Px,or_false]at hx;rcases hx with rfl|rfl|rfl|rfl<;>exact XS _ _
theorem agh {a b} (ha:B8 a) (hb:B8 b):((na a).toList==(na b).toList)=true ↔ a=b:=by
 rw[beq_iff_eq,Lib.toList_data,Lib.toList_data];unfold na;rw[strOfNums_data,strOfNums_data,gd,gd];constructor
 · intro h;have hlen:a.length=b.length:=by simpa using bJ List.length h
   refine PI hlen fun i h1 h2=> ?_
   have hi:=bJ (·[i]?) h;simp only[bV,bW h1,bW h2,aV,jd,Function.comp,fA]at hi;have e1:=ha _ (b8 h1);have e2:=hb _ (b8 h2);have:=bJ UInt8.toNat hi;simpa[UInt8.toNat_ofNat,zi e1,zi e2]using this
 · intro h;rw[h]
section
variable {ρ:List L} {Q:Lf×List L→Prop} {k:ae}
theorem wv {x} {l} (hx:(x.ev ρ).az=l.map b1) (hk:k.wp (ρ++ [.s (na l)]) Q):(ae.op (.str x) k).wp ρ Q:=jW (by
 show(ny (x.ev ρ).az).map _=_;rw[hx,Td];rfl) hk
theorem Ik {x y} {a b} (hx:(x.ev ρ).eQ=na a) (hy:(y.ev ρ).eQ=na b) (ha:B8 a) (hb:B8 b) {t} (ht:t=true ↔ a≠b) (hk:k.wp (ρ++ [.b t]) Q):(ae.op (.bs .neq x y) k).wp ρ Q:=mM (by
 show some (L.b (!((x.ev ρ).eQ.toList==(y.ev ρ).eQ.toList)))=_;rw[hx,hy];have:(!((na a).toList==(na b).toList))=t:=by
  rw[iK,ht,pN,←Bool.not_eq_true];exact not_congr (agh ha hb)
 rw[this]) hk
theorem eC {x lo hi:At} {l:List Nat} {a c:Nat} (hx:(x.ev ρ).az=l.map b1) (cg:(lo.ev ρ).ah=a) (gD:(hi.ev ρ).ah=c) (h1:a≤c) (h2:c≤l.length) (hk:k.wp (ρ++ [.r (((l.take c).drop a).map b1)]) Q):(ae.op (.part x lo hi 1) k).wp ρ Q:=
 yH ⟨om,om,by rw[gD,hx,aA];omega,by rw[hx];exact pA _⟩ (by rw[hx,cg,gD,fA,fA,←nk,←ml]) hk
theorem ZO {x} {v:BitVec 64} (h:(x.ev ρ).ah=(v.toNat:Int)) (hk:k.wp (ρ++ [.i v.toInt]) Q):(ae.op (.conv .i64 x) k).wp ρ Q:=uf (by rw[h,I8,Bx]) hk
end
def xt (b:List Nat):It:=⟨((val (b.take 8)).toNat:Int),IntKind.wrap .u32 ((val ((b.take 12).drop 8)).toNat:Int),(val ((b.take 16).drop 12)).toInt,(val ((b.take 20).drop 16)).toInt⟩
noncomputable def dec:Nat→List Nat→List It→List L
 |0,_,_=> []
 |f+1,b,acc=>if b=[]then(if VL acc then[.i 0,.r (acc.map ao)]else[.i 3,.r []])else if b.length<24 then[.i 4,.r []]else if cf (b.take 20)≠(b.take 24).drop 20 then[.i 5,.r []]else dec f (b.drop 24) (acc++ [xt b])
theorem eY (l:List It):bu 4 (l.map ao)=true:=by
 unfold bu;rw[bC];intro r hr;obtain⟨n,_,rfl⟩:=fe.1 hr;rfl
theorem aqm (b:List Nat) (hb:B8 b) (hl:b.length≤4294967296):LS [.r (b.map b1)]=some (dec (b.length+1) b []):=by
 obtain⟨o,ho⟩:∃o,dec (b.length+1) b []=o:=⟨_,rfl⟩
 rw[ho];refine aH ?_;refine aB (fun xs=>∃acc:List It,xs=[.r (acc.map ao)]∧acc.length≤b.length∧o=if VL acc then[.i 0,.r (acc.map ao)]else[.i 3,.r []]) ?_ ?_;rotate_left
 · rintro _ ⟨acc,rfl,h1,h2⟩;refine nW ?_;obtain⟨c,hc⟩:=dU (VL acc);refine ag (ahF acc om hc) rfl rfl (uR ?_);refine bc (fun hx=> ?_) (fun hx=> ?_)
   · refine ad ?_;show[L.i 3,L.r []]=o;rw[h2,aC fun h=>by rw[hc.2 h]at hx;cases hx]
   · have hx:(!c)=false:=hx;refine ad ?_;show[L.i 0,L.r (acc.map ao)]=o;rw[h2,ay (hc.1 (by simpa using hx))]
 refine wp_loop (I:=fun a=>∃(cur:List Nat) (acc:List It) (f:Nat),a=[.r (cur.map b1),.r (acc.map ao)]∧B8 cur∧cur.length<f∧acc.length+cur.length≤b.length∧dec f cur acc=o) (mu:=fun a=>match a with|[.r r,_]=>r.length|_=>0) ⟨b,[],b.length+1,rfl,hb,om,by simp,ho⟩ ?_;rintro a ⟨cur,acc,f,rfl,e1,e2,e3,e4⟩
 cases f with
 |zero=>omega
 |succ f=>
 rw[dec]at e4;refine uR ?_;refine aI rfl (fun hc=> ?_) (fun hc=> ?_);rotate_left
 · rw[aA]at hc;have hnil:cur=[]:=ni om;rw[ay hnil]at e4;exact ad ⟨acc,rfl,om,e4.symm⟩
 rw[aC fun h=>by rw[h]at hc;simp at hc]at e4;refine uR ?_;refine aI rfl (fun hx=> ?_) (fun hx=> ?_)
 · rw[aA]at hx;rw[ay om]at e4;refine ad ?_;exact e4
 rw[aA]at hx;rw[aC om]at e4;refine uR ?_;refine eC (a:=0) (c:=20) rfl rfl rfl om om (nW ?_);refine ag (auM _ (by rw[jt,cL];omega)) rfl rfl (uR ?_);refine eC (a:=20) (c:=24) rfl rfl rfl om om (nW ?_);obtain⟨t,ht⟩:=dU (cf (cur.take 20)=(cur.take 24).drop 20);refine ag (IA _ _ (xV _) ((e1.take _).drop _) (by show 4≤_;omega) ht) rfl rfl (uR ?_);refine bc (fun hy=> ?_) (fun hy=> ?_)
 · rw[ay fun h=>by rw[ht.2 h]at hy;cases hy]at e4;refine ad ?_;exact e4
 have hy:(!t)=false:=hy;rw[aC (gg.2 (ht.1 (by simpa using hy)))]at e4;have hlen:∀a c,((cur.take c).drop a).length≤4294967296:=fun a c=>by rw[jt,cL];omega
 refine uR ?_;refine eC (a:=0) (c:=8) rfl rfl rfl om om (nW ?_);refine ag (Bq _ ((e1.take _).drop _) (hlen _ _)) rfl rfl (uR ?_);refine eC (a:=8) (c:=12) rfl rfl rfl om om (nW ?_);refine ag (Bq _ ((e1.take _).drop _) (hlen _ _)) rfl rfl (nW ?_);refine jM (uR ?_);refine eC (a:=12) (c:=16) rfl rfl rfl om om (nW ?_);refine ag (Bq _ ((e1.take _).drop _) (hlen _ _)) rfl rfl (nW ?_);refine ZO rfl (uR ?_);refine eC (a:=16) (c:=20) rfl rfl rfl om om (nW ?_);refine ag (Bq _ ((e1.take _).drop _) (hlen _ _)) rfl rfl (nW ?_);refine ZO rfl (uR ?_);refine dC (r:=(acc++ [xt cur]).map ao) (eY acc) rfl (by show(acc.map ao).length≤_;rw[aA];omega) (by show(1:Nat)≤_;omega) om (by rw[dk];rfl) (uR ?_);refine eC (a:=24) (c:=cur.length) rfl rfl (by show((cur.map b1).length:Int)=_;rw[aA]) om om ?_;rw[ju];refine nW ?_;refine ad ⟨⟨cur.drop 24,acc++ [xt cur],f,rfl,e1.drop _,by rw[jt];omega,by rw[bE,jt];simp only[CW];omega,e4⟩,?_⟩;show((cur.drop 24).map b1).length< (cur.map b1).length;rw[aA,aA,jt];omega
end
section
open Go.RowKit
namespace AI
def ae.calls:ae→List (Nat×(List L→Option (List L)))
 | .ak _=> []
 | .op nd k=> (match nd with| .call t F _ _ _=> [(t,F)]|_=> [])++calls k
 | .ite _ x y=>calls x++calls y
 | .join x y=>calls x++calls y
 | .loop _ y=>calls y
def rQ (tb:Nat→Option sx):List (Nat×(List L→Option (List L)))→Prop
 |[]=>True
 | (t,F)::r=> (∀s,tb t=some s→s.ok F)∧rQ tb r
theorem rQ.left {tb:Nat→Option sx}:∀{a b:List (Nat×(List L→Option (List L)))},rQ tb (a++b)→rQ tb a
 |[],_,_=>trivial
 | (_,_)::_,_,h=> ⟨h.1,h.2.left⟩
theorem rQ.right {tb:Nat→Option sx}:∀{a b:List (Nat×(List L→Option (List L)))},rQ tb (a++b)→rQ tb b
 |[],_,h=>h
 | (_,_)::a,_,h=>rQ.right (a:=a) h.2
def mx:Int:=9223372036854775807
def c0:List AC:=[.sl 262208 [.int .u8 0 255]]
def c1:List AC:=[.str 9,.sl 2097152 [.int .u8 0 255],.sl 0 []]
def c2:List AC:=[.int .i64 0 1048576,.sl 1048576 [.int .u8 0 255],.bool]
def c3:List AC:=[.int .u64 0 7,.int .u32 0 3,.bool,.sl 30 [.int .u8 0 255]]
def c4:List AC:=[.int .u64 0 7,.int .u32 0 3,.int .i64 16 1048576,.int .i64 0 30]
def c5:List AC:=[.str 9,.sl 2097152 [.int .u8 0 255],.sl 1 c2]
def c6:List AC:=[.int .u64 0 18446744073709551615,.int .u32 0 4294967295,.bool,.sl mx [.int .u8 0 255]]
def c7:List AC:=[.int .i64 1 1,.int .i64 0 0,.int .i64 1 1,.int .i64 16 16,.sl 0 [],.sl 0 [],.sl 0 [],.sl 0 [],.sl 0 [],.sl 0 [],.sl 0 [],.sl 0 [],.int .i64 0 0,.int .i64 0 0]
def c8:List AC:=[.int .i64 0 8,.int .i64 0 0,.int .i64 0 3,.int .i64 (-18446744073709551615) mx,.sl 8 c4,.sl 8 c4,.sl 8 c4,.sl 8 c4,.sl 8 c4,.sl 8 c4,.sl 8 c4,.sl 8 c4,.int .i64 (-18446744073709551615) mx,.int .i64 0 2199023255552]
def f (a b:Nat) (c:Int):Fa:=⟨a,b,c⟩
def g (i n:Nat) (c:List AC):List (Nat×Option (List AC)):=(List.range n).map fun j=> (i+j,some c)
end AI
namespace AI
end AI
namespace AI
end AI
end
section
open Go.RowKit Pl AI
open Classical
attribute [local irreducible] ae.wp
theorem Ye:∀{f} {c} {acc},c.length<f→(∃l,dec f c acc=[.i 0,.r (l.map ao)]∧VL l∧l.length≤acc.length+c.length)∨∃e,e≠0∧dec f c acc=[.i e,.r []]
 |0,_,_,h=>om
 |f+1,c,acc,h=>by
  rw[dec];split
  · split
    · exact .inl ⟨acc,rfl,by assumption,om⟩
    · exact .inr ⟨3,dc,rfl⟩
  · split
    · exact .inr ⟨4,dc,rfl⟩
    · split
      · exact .inr ⟨5,dc,rfl⟩
      · have hd:(c.drop 24).length=c.length-24:=jt;rcases Ye (f:=f) (c:=c.drop 24) (acc:=acc++ [xt c]) om with⟨l,h1,h2,h3⟩|h1
        · refine .inl ⟨l,h1,h2,?_⟩;rw[bE]at h3;simp only[CW]at h3;omega
        · exact .inr h1
def aS (b:List Nat) (a c:Nat):List Nat:=(b.take c).drop a
theorem B8.cut {b} (h:B8 b) (a c):B8 (aS b a c):=(h.take c).drop a
theorem qq (b) (a c):(aS b a c).length≤b.length:=by unfold aS;rw[jt,cL];omega
def e8 (b:List Nat) (k:Nat):Int:=IntKind.wrap .u32 ((val (aS b (20+4*k) (24+4*k))).toNat:Int)
theorem wrap32 (v:BitVec 64):IntKind.wrap .u32 v.toInt=IntKind.wrap .u32 (v.toNat:Int):=by
 simp only[IntKind.wrap,IntKind.bits,IntKind.signed,BitVec.toInt_eq_toNat_bmod,Int.bmod];simp only[Bool.false_and,pO,if_false];split<;>omega
def mr (b:List Nat) (k i:Nat):Int:=if k<i then e8 b k else 0
def tG (e:Int):List L:=[.i e,.i 0,.i 0,.i 0,.i 0,.i 0,.i 0,.i 0,.i 0,.i 0,.i 0,.r []]
def z7 (b:List Nat):Int:=IntKind.wrap .i64 (52+IntKind.wrap .i64 (24*(val (aS b 44 48)).toInt))
noncomputable def AO (b:List Nat):List L:=
 if b.length<52 then tG 4 else if aS b 0 4≠ [78,73,68,88]then tG 3 else if(b.length:Int)<z7 b then tG 4 else if z7 b<b.length then tG 3 else
 if cf (aS b 0 (b.length-4))≠aS b (b.length-4) b.length then tG 5 else
 match dec ((aS b 48 (b.length-4)).length+1) (aS b 48 (b.length-4)) []with
 |[.i e,.r rows]=>if e≠0 then tG e else if∃l:List It,rows=l.map ao∧jl (val (aS b 4 6)).toInt (val (aS b 6 8)).toInt (val (aS b 8 12)).toInt (val (aS b 12 20)).toInt l then
  [.i 0,.i (val (aS b 4 6)).toInt,.i (val (aS b 6 8)).toInt,.i (val (aS b 8 12)).toInt,.i (val (aS b 12 20)).toInt,.i (e8 b 0),.i (e8 b 1),.i (e8 b 2),.i (e8 b 3),.i (e8 b 4),.i (e8 b 5),.r rows]else tG 3
 |_=> []
theorem Z5:∀{l m:List It},l.map ao=m.map ao→l=m
 |[],[],_=>rfl
 |[],_::_,h=>by simp at h
 |_::_,[],h=>by simp at h
 |a::l,b::m,h=>by
  simp only[cu,List.cons.injEq]at h;rw[Z5 h.2];have h1:=h.1;obtain⟨a1,a2,a3,a4⟩:=a;obtain⟨rfl,rfl,rfl,rfl⟩:=h1;rfl
theorem WZ {a g r n} {l}:(∃m,l.map ao=m.map ao∧jl a g r n m) ↔ jl a g r n l:=⟨fun ⟨m,h1,h2⟩=>by rw[Z5 h1];exact h2,fun h=> ⟨l,rfl,h⟩⟩
theorem asL (b) (hb:B8 b) (h52:52≤b.length) (hl:b.length≤4294967296):L9 [.r (b.map b1)]=some [.i (val (aS b 4 6)).toInt,.i (val (aS b 6 8)).toInt,.i (val (aS b 8 12)).toInt,.i (val (aS b 12 20)).toInt,.i (e8 b 0),.i (e8 b 1),.i (e8 b 2),.i (e8 b 3),.i (e8 b 4),.i (e8 b 5)]:=by
 have hlen:∀a c,(aS b a c).length≤4294967296:=fun a c=>by have:=qq b a c;omega
 refine aH ?_;refine uR ?_;refine eC (a:=4) (c:=6) rfl rfl rfl om om (nW ?_);refine ag (xI (aS b 4 6) (hb.cut _ _) (hlen _ _)) rfl rfl (uR ?_);refine eC (a:=6) (c:=8) rfl rfl rfl om om (nW ?_);refine ag (xI (aS b 6 8) (hb.cut _ _) (hlen _ _)) rfl rfl (uR ?_);refine eC (a:=8) (c:=12) rfl rfl rfl om om (nW ?_);refine ag (xI (aS b 8 12) (hb.cut _ _) (hlen _ _)) rfl rfl (uR ?_);refine eC (a:=12) (c:=20) rfl rfl rfl om om (nW ?_);refine ag (xI (aS b 12 20) (hb.cut _ _) (hlen _ _)) rfl rfl (nW ?_);refine aB (fun xs=>xs=[.i (e8 b 0),.i (e8 b 1),.i (e8 b 2),.i (e8 b 3),.i (e8 b 4),.i (e8 b 5)]) ?_ ?_;rotate_left
 · rintro _ rfl;refine nW ?_;exact ad rfl
 refine wp_loop (I:=fun a=>∃i:Nat,a=[.i i,.i (mr b 0 i),.i (mr b 1 i),.i (mr b 2 i),.i (mr b 3 i),.i (mr b 4 i),.i (mr b 5 i)]∧i≤6) (mu:=fun a=>match a with| .i i::_=>6-i.toNat|_=>0) ⟨0,rfl,om⟩ ?_;rintro a ⟨i,rfl,e1⟩;refine uR ?_;refine aI rfl (fun hc=> ?_) (fun hc=> ?_);rotate_left
 · obtain rfl:i=6:=om;exact ad rfl
 refine aB (fun xs=>xs=[.i i,.i (mr b 0 (i+1)),.i (mr b 1 (i+1)),.i (mr b 2 (i+1)),.i (mr b 3 (i+1)),.i (mr b 4 (i+1)),.i (mr b 5 (i+1))]) ?_ ?_;rotate_left
 · rintro _ rfl;refine nW ?_;refine bg (i:=i) rfl om (nW ?_);refine ad ⟨⟨i+1,rfl,om⟩,?_⟩;show 6- ((i+1:Nat):Int).toNat<6-i;omega
 refine iS (n:=((4*i:Nat):Int)) oO om om (nW ?_);refine cm (n:=((20+4*i:Nat):Int)) oO om om (nW ?_);refine cm (n:=((24+4*i:Nat):Int)) oO om om (uR ?_);refine eC (a:=20+4*i) (c:=24+4*i) rfl rfl rfl om om (nW ?_);refine ag (xI (aS b (20+4*i) (24+4*i)) (hb.cut _ _) (hlen _ _)) rfl rfl (nW ?_);refine uf (n:=e8 b i) (wrap32 _) (nW ?_);have hi:i=0∨i=1∨i=2∨i=3∨i=4∨i=5:=om;rcases hi with rfl|rfl|rfl|rfl|rfl|rfl<;>
   (repeat (first| (refine cS rfl dc ?_)| (refine ba rfl dc ?_)| (refine sT rfl ?_;try dsimp only[At.ev,d1,d2,d3,d4,d5,d6,d7,d8,d9,e0,List.map,cb,Kd.pv])))<;>exact ad rfl
theorem avI (b) (hb:B8 b) (hl:b.length≤4294967296):Lq [.r (b.map b1)]=some (AO b):=by
 have hlen:∀a c,(aS b a c).length≤4294967296:=fun a c=>by have:=qq b a c;omega
 obtain⟨o,ho⟩:∃o,AO b=o:=⟨_,rfl⟩
 rw[ho];unfold AO at ho;refine aH ?_;refine uR ?_;refine aI rfl (fun h1=> ?_) (fun h1=> ?_)
 · rw[aA]at h1;rw[ay om]at ho;refine ad ?_;exact ho
 rw[aA]at h1;rw[aC om]at ho;refine uR ?_;refine eC (a:=0) (c:=4) rfl rfl rfl om om (nW ?_);refine wv rfl (nW ?_);obtain⟨t,ht⟩:=dU (aS b 0 4≠ [78,73,68,88]);refine Ik (a:=aS b 0 4) (b:=[78,73,68,88]) rfl (by rfl) (hb.cut _ _) (by unfold B8;decide) ht (nW ?_);refine bc (fun h2=> ?_) (fun h2=> ?_)
 · rw[ay (ht.1 h2)]at ho;refine ad ?_;exact ho
 rw[aC fun h=>by rw[ht.2 h]at h2;cases h2]at ho;refine uR ?_;refine eC (a:=44) (c:=48) rfl rfl rfl om om (nW ?_);refine ag (xI (aS b 44 48) (hb.cut _ _) (hlen _ _)) rfl rfl (nW ?_);refine cv (l:= .i (IntKind.wrap .i64 (24*(val (aS b 44 48)).toInt))) rfl (nW ?_);refine cv (l:= .i (z7 b)) rfl (uR ?_);refine ck (n:=((b.length-4:Nat):Int)) (by show((b.map b1).length:Int) -4=_;rw[aA];omega) om om (uR ?_);refine aI rfl (fun h3=> ?_) (fun h3=> ?_)
 · rw[aA]at h3;rw[ay h3]at ho;refine ad ?_;exact ho
 rw[aA]at h3;rw[aC h3]at ho;refine uR ?_;refine aI rfl (fun h4=> ?_) (fun h4=> ?_)
 · rw[aA]at h4;rw[ay h4]at ho;refine ad ?_;exact ho
 rw[aA]at h4;rw[aC h4]at ho;refine uR ?_;refine eC (a:=0) (c:=b.length-4) rfl rfl rfl om om (nW ?_);refine ag (Va (aS b 0 (b.length-4)) (hlen _ _)) rfl rfl (uR ?_);refine eC (a:=b.length-4) (c:=b.length) rfl rfl (by show((b.map b1).length:Int)=_;rw[aA]) om om (nW ?_);obtain⟨u,hu⟩:=dU (cf (aS b 0 (b.length-4))=aS b (b.length-4) b.length);refine ag (IA _ (aS b (b.length-4) b.length) (xV _) (hb.cut _ _) (by show 4≤_;omega) hu) rfl rfl (uR ?_);refine bc (fun h5=> ?_) (fun h5=> ?_)
 · rw[ay fun h=>by rw[hu.2 h]at h5;cases h5]at ho;refine ad ?_;exact ho
 have h5:(!u)=false:=h5;rw[aC (gg.2 (hu.1 (by simpa using h5)))]at ho;refine uR ?_;refine eC (a:=48) (c:=b.length-4) rfl rfl rfl om om (nW ?_);have hd:=aqm (aS b 48 (b.length-4)) (hb.cut _ _) (hlen _ _);have gF:=qq b 48 (b.length-4);rcases Ye (f:=(aS b 48 (b.length-4)).length+1) (c:=aS b 48 (b.length-4)) (acc:=[]) om with⟨l,dQ,hl2,lH⟩| ⟨e,he,dQ⟩
 · rw[dQ]at hd ho;simp only[ne_eq,not_true_eq_false,if_false]at ho;rw[WZ]at ho;refine ag hd rfl rfl (uR ?_);refine ba rfl dc ?_;refine ag (asL b hb om hl) rfl rfl (nW ?_);obtain⟨v,hv⟩:=dU (jl (val (aS b 4 6)).toInt (val (aS b 6 8)).toInt (val (aS b 8 12)).toInt (val (aS b 12 20)).toInt l);refine ag (Sv _ _ _ _ (.i (e8 b 0)) (.i (e8 b 1)) (.i (e8 b 2)) (.i (e8 b 3)) (.i (e8 b 4)) (.i (e8 b 5)) l (by simp only[nj]at lH;omega) hv) rfl rfl (uR ?_);refine bc (fun h6=> ?_) (fun h6=> ?_)
   · rw[aC fun h=>by rw[hv.2 h]at h6;cases h6]at ho;refine ad ?_;exact ho
   · have h6:(!v)=false:=h6;rw[ay (hv.1 (by simpa using h6))]at ho;refine ad ?_;exact ho
 · rw[dQ]at hd ho;simp only[ne_eq,he,not_false_eq_true,if_true]at ho;refine ag hd rfl rfl (uR ?_);refine cS rfl he ?_;refine ad ?_;exact ho
def AB (e:Int):List L:=[.i 0,.i e,.i 0,.i 0,.b false,.r []]
def kV (b:List Nat):Nat:=(val (aS b 16 20)).toNat
def tx (b:List Nat):Prop:=b.getD 0 0≠78∨b.getD 1 0≠165∨1<b.getD 2 0∨b.getD 3 0≠0∨4096<kV b∨(b.getD 2 0=1∧0<kV b)
def bM (n:Nat):Nat:=(n+31) /8*8
def Be (b:List Nat):Prop:=∀i,kV b+24≤i→i<bM (kV b)→b.getD i 0=0
noncomputable def xg (b:List Nat):List L:=
 if b.length<20 then AB 4 else if tx b then AB 3 else if b.length<bM (kV b)then AB 4 else
 if cf (aS b 0 (kV b+20))≠aS b (kV b+20) (kV b+24)then AB 5 else if¬Be b then AB 3 else
 [.i (bM (kV b)),.i 0,.i ((val (aS b 8 16)).toNat:Int),.i (IntKind.wrap .u32 ((val (aS b 4 8)).toNat:Int)),.b (decide (b.getD 2 0=1)),.r ((aS b 20 (kV b+20)).map b1)]
theorem zP {n:Nat} (h:n≤4096):bU (n:Int)=((bM n:Nat):Int):=by unfold bU bM;omega
theorem getD_at {b:List Nat} {i} (h):b[i]=b.getD i 0:=by rw[mo,bW h];rfl
theorem NR {b} {a c j} (h):(aS b a c)[j]=b.getD (a+j) 0:=by
 have h1:(aS b a c).length=min c b.length-a:=by unfold aS;rw[jt,cL]
 rw[←getD_at (show a+j<b.length by omega)];simp only[aS,List.getElem_drop,abV]
theorem J1 {b} {a c} (h:c≤b.length):(aS b a c).length=c-a:=by unfold aS;rw[jt,cL,wo h]
theorem vc {ρ} {Q} {k} {b:List Nat} {x i:At} {j:Nat} (hx:(x.ev ρ).az=b.map b1) (hi:(i.ev ρ).ah=j) (hj:j<b.length) (hk:k.wp (ρ++ [.c (b1 (b.getD j 0))]) Q):(ae.op (.row x i 1) k).wp ρ Q:=
 aP (f:=b1) (j:=j) hx hi hj rfl (by rw[getD_at hj];exact hk)
theorem Z2 (b) (hb:B8 b) (hl:b.length≤4294967296):Fy [.r (b.map b1)]=some (xg b):=by
 have hlen:∀a c,(aS b a c).length≤4294967296:=fun a c=>by have:=qq b a c;omega
 obtain⟨o,ho⟩:∃o,xg b=o:=⟨_,rfl⟩
 rw[ho];unfold xg at ho;refine aH ?_;refine uR ?_;refine aI rfl (fun h1=> ?_) (fun h1=> ?_)
 · rw[aA]at h1;rw[ay om]at ho;refine ad ?_;exact ho
 rw[aA]at h1;rw[aC om]at ho;refine uR ?_;refine eC (a:=16) (c:=20) rfl rfl rfl om om (nW ?_);refine ag (NI (aS b 16 20) (hb.cut _ _) (hlen _ _)) rfl rfl ?_;show ae.wp _ (_++ [L.i ((kV b:Nat):Int)]) _;obtain⟨n,hn⟩:∃n,kV b=n:=⟨_,rfl⟩
 have iI:tx b ↔ b.getD 0 0≠78∨b.getD 1 0≠165∨1<b.getD 2 0∨b.getD 3 0≠0∨4096<n∨(b.getD 2 0=1∧0<n):=by unfold tx;rw[hn]
 have HN:Be b ↔∀i,n+24≤i→i<bM n→b.getD i 0=0:=by unfold Be;rw[hn]
 rw[hn]at ho⊢;refine nW ?_;refine aB (bT (tx b)) ?_ ?_
 · refine vc (j:=0) rfl rfl om (uR ?_);refine aI rfl (fun c0=> ?_) (fun c0=> ?_)
   · exact ad (cz (by rw[iI];omega))
   refine vc (j:=1) rfl rfl om (uR ?_);refine aI rfl (fun c1=> ?_) (fun c1=> ?_)
   · exact ad (cz (by rw[iI];omega))
   refine vc (j:=2) rfl rfl om (uR ?_);refine aI rfl (fun c2=> ?_) (fun c2=> ?_)
   · exact ad (cz (by rw[iI];omega))
   refine vc (j:=3) rfl rfl om (uR ?_);refine aI rfl (fun c3=> ?_) (fun c3=> ?_)
   · exact ad (cz (by rw[iI];omega))
   refine uR ?_;refine aI rfl (fun c4=> ?_) (fun c4=> ?_)
   · exact ad (cz (by rw[iI];omega))
   refine vc (j:=2) rfl rfl om (uR ?_);refine aI rfl (fun c5=> ?_) (fun c5=> ?_)
   · refine uR ?_;exact ad (dW (show(0:Int)< (n:Int) ↔ _ by rw[iI];omega))
   · exact ad (dN (by rw[iI];omega))
 rintro _ ⟨t,rfl,ht⟩;refine nW ?_;refine bc (fun h2=> ?_) (fun h2=> ?_)
 · rw[ay (ht.1 h2)]at ho;refine ad ?_;exact ho
 have aO:¬tx b:=fun h=>by rw[ht.2 h]at h2;cases h2
 rw[aC aO]at ho;have hn4:n≤4096:=by rw[iI]at aO;omega
 have hsz:n+24≤bM n∧bM n≤n+31:=by unfold bM;omega
 refine po (n:=(n:Int)) rfl om om (nW ?_);refine ag (rR (n:Int)) rfl rfl ?_;rw[zP hn4];refine nW ?_;refine po (n:=(n:Int)) rfl om om (nW ?_);refine cm (n:=((n+20:Nat):Int)) oO om om (uR ?_);refine aI rfl (fun h3=> ?_) (fun h3=> ?_)
 · rw[aA]at h3;rw[ay om]at ho;refine ad ?_;exact ho
 rw[aA]at h3;rw[aC om]at ho;refine uR ?_;refine eC (a:=0) (c:=n+20) rfl rfl rfl om om (nW ?_);refine ag (Ux (aS b 0 (n+20)) (hlen _ _)) rfl rfl (nW ?_);have rm:=Rk (aS b 0 (n+20));refine fU (n:=ff (aS b 0 (n+20))) rfl om om (nW ?_);refine ag (auz (aS b 0 (n+20))) rfl rfl (nW ?_);refine cm (n:=((n+24:Nat):Int)) oO om om (uR ?_);refine eC (a:=n+20) (c:=n+24) rfl rfl rfl om om (nW ?_);obtain⟨u,hu⟩:=dU (cf (aS b 0 (n+20))=aS b (n+20) (n+24));refine ag (IA _ (aS b (n+20) (n+24)) (xV _) (hb.cut _ _) (by show 4≤_;omega) hu) rfl rfl (uR ?_);refine bc (fun h5=> ?_) (fun h5=> ?_)
 · rw[ay (fun h=>by rw[hu.2 h]at h5;cases h5)]at ho;refine ad ?_;exact ho
 have h5:(!u)=false:=h5;rw[aC (gg.2 (hu.1 (by simpa using h5)))]at ho;refine aB (fun xs=>xs=[]∧Be b) ?_ ?_
 · refine cm (n:=((n+24:Nat):Int)) oO om om (uR ?_);refine eC (a:=n+24) (c:=bM n) rfl rfl rfl om om ?_;show ae.wp _ (_++ [L.r ((aS b (n+24) (bM n)).map b1)]) _;have ey:=J1 (b:=b) (a:=n+24) (c:=bM n) om;have hsa:=fun j h=>NR (b:=b) (a:=n+24) (c:=bM n) (j:=j) h
   generalize aS b (n+24) (bM n)=s at ey hsa;refine uR ?_;refine wp_loop (I:=fun a=>∃i:Nat,a=[.i i]∧i≤s.length∧∀j,j<i→b.getD (n+24+j) 0=0) (mu:=fun a=>match a with|[.i i]=>s.length-i.toNat|_=>0) ⟨0,rfl,om,fun j hj=>by omega⟩ ?_;rintro a ⟨i,rfl,e1,e2⟩;refine uR ?_;refine aI rfl (fun hc=> ?_) (fun hc=> ?_);rotate_left
   · rw[aA]at hc;exact ad ⟨rfl,HN.2 fun i h1 h2=>by have:=e2 (i- (n+24)) om;rwa [show n+24+(i- (n+24))=i by omega]at this⟩
   rw[aA]at hc;have hi:i<s.length:=om;refine vc (j:=i) rfl rfl hi ?_;rw[←getD_at hi,hsa i hi];refine uR ?_;refine aI rfl (fun hx=> ?_) (fun hx=> ?_)
   · rw[ay fun h=>hx (by rw[HN.1 h _ om om];rfl)]at ho;refine ad ?_;exact ho
   · refine bg (i:=i) rfl om (nW ?_);refine ad ⟨⟨i+1,rfl,om,fun j hj=> ?_⟩,?_⟩
     · by_cases he:j=i
       · subst he;omega
       · exact e2 j om
     · show s.length- ((i+1:Nat):Int).toNat<s.length-i;omega
 rintro _ ⟨rfl,hz⟩;rw[aC (gg.2 hz)]at ho;refine uR ?_;refine eC (a:=8) (c:=16) rfl rfl rfl om om (nW ?_);refine ag (NI (aS b 8 16) (hb.cut _ _) (hlen _ _)) rfl rfl (uR ?_);refine eC (a:=4) (c:=8) rfl rfl rfl om om (nW ?_);refine ag (NI (aS b 4 8) (hb.cut _ _) (hlen _ _)) rfl rfl (nW ?_);refine jM (nW ?_);refine vc (j:=2) rfl rfl om (uR ?_);refine eC (a:=20) (c:=n+20) rfl rfl rfl om om (nW ?_);refine ag (l:=[]) (show xw [.r ((aS b 20 (n+20)).map b1)]=_ from ay ⟨pA _,by rw[aA];have:=hlen 20 (n+20);omega⟩) rfl rfl (nW ?_);refine ad ?_;rw[←ho];show[L.i _,L.i 0,L.i _,L.i _,L.b (decide (((b.getD 2 0:Nat):Int)=1)),L.r _]=_;rw[show decide (((b.getD 2 0:Nat):Int)=1)=decide (b.getD 2 0=1)by rw[decide_eq_decide];omega]
 try rfl
theorem sQ {ρ} {Q} {k} {α:Type} {f} {l:List α} {x i:At} {ps} {j:Nat} {v} (hx:(x.ev ρ).az=l.map f) (hi:(i.ev ρ).ah=j) (hj) (hn:(f l[j]).length=ps.length) (hv:cb ρ ps=f v) (hk:k.wp (ρ++ [.r ((l.set j v).map f)]) Q):(ae.op (.set x i 0 ps) k).wp ρ Q:=
 I1 (r:=f l[j]) (by rw[hx,hi,fA,bV,bW hj];rfl) om (by
  rw[hx,hi,fA,hv,List.take_zero,mm,pR om,eW,←List.map_set];exact hk)
theorem axT (l:List It) (hl:l.length≤4294967296) (x):∃r,NU [.r (l.map ao),.i x.key,.i x.cookie,.i x.off,.i x.size]=some [.i r]∧(0≤r ↔ x∈l):=by
 have run:ae.wp Ud [.r (l.map ao),.i x.key,.i x.cookie,.i x.off,.i x.size] (kW fun y=>∃r:Int,y=[.i r]∧(0≤r ↔ x∈l)):=by
  refine aB (fun xs=>xs=[]∧x∉l) ?_ ?_;rotate_left
  · rintro _ ⟨rfl,h⟩;refine nW ?_;exact ad ⟨-1,rfl,fun h=>by omega,fun h'=>absurd h' h⟩
  refine uR ?_;refine wp_loop (I:=fun a=>∃i:Nat,a=[.i i]∧i≤l.length∧∀(j:Nat) (h:j<l.length),j<i→l[j]≠x) (mu:=fun a=>match a with|[.i i]=>l.length-i.toNat|_=>0) ⟨0,rfl,om,fun j _ hj=>by omega⟩ ?_;rintro a ⟨i,rfl,e1,e2⟩;refine uR ?_;refine aI rfl (fun hc=> ?_) (fun hc=> ?_);rotate_left
  · rw[aA]at hc;exact ad ⟨rfl,fun h=>by obtain⟨j,hj,h⟩:=iq h;exact e2 j hj om h⟩
  rw[aA]at hc;have hi:i<l.length:=om;refine aP (f:=ao) (j:=i) rfl rfl hi rfl (uR ?_);refine bc (fun hy=> ?_) (fun hy=> ?_)
  · have hy:(((decide (x.key=l[i].key)&&decide (x.cookie=l[i].cookie))&&decide (x.off=l[i].off))&&decide (x.size=l[i].size))=true:=hy;simp only[bt,dj]at hy;refine ad ⟨i,rfl,fun _=> ?_,fun _=>by omega⟩;have:x=l[i]:=by obtain⟨⟨⟨h1,h2⟩,h3⟩,h4⟩:=hy;cases x;cases h:l[i];simp only[h]at*;subst h1 h2 h3 h4;rfl
    rw[this];exact b8 hi
  · have hg:l[i]≠x:=fun h=>by
      have hy:(((decide (x.key=l[i].key)&&decide (x.cookie=l[i].cookie))&&decide (x.off=l[i].off))&&decide (x.size=l[i].size))=false:=hy;rw[←h]at hy;simp at hy
    refine bg (i:=i) rfl om (nW ?_);refine ad ⟨⟨i+1,rfl,om,fun j hj jI=> ?_⟩,?_⟩
    · by_cases he:j=i
      · subst he;exact hg
      · exact e2 j hj om
    · show l.length- ((i+1:Nat):Int).toNat<l.length-i;omega
 obtain⟨o,h1,r,rfl,h2⟩:=iH run;exact⟨r,h1,h2⟩
theorem ahD (l:List It) (hl:l.length≤4294967296) (x) {b} (hb:b=true ↔ x∈l):tv [.r (l.map ao),.i x.key,.i x.cookie,.i x.off,.i x.size]=some [.b b]:=by
 obtain⟨r,h1,h2⟩:=axT l hl x;refine aH ?_;refine ag h1 rfl rfl (uR ?_);refine ad ?_;show[L.b (decide (r≥0))]=[L.b b]
 rw[iK.2 (show decide (r≥0)=true ↔ b=true by rw[dj,hb,←h2])]
def fR (f:List Nat):List PV:=[.sl (f.map b1)]
def hR (t:Bool):List PV:=[.sc (.bool t)]
def kR (a:Nat):List PV:=[.sc (.int .i64 (a:Nat))]
theorem YR (a g r n) (m4 m5 m6 m7 m8 m9) (l) (hl:l.length≤4294967296) (fs:List (List Nat)) (hf:fs.length=6) (hv:List Bool) (hh:hv.length=6) {b} (hb:b=true ↔ jl a g r n l):se [.i a,.i g,.i r,.i n,m4,m5,m6,m7,m8,m9,.r (l.map ao),.r (fs.map fR),.r (hv.map hR)]=some [.b b]:=by
 refine aH ?_;refine aB (fun xs=>xs=[.b b]) ?_ ?_
 · refine ag (Sv a g r n m4 m5 m6 m7 m8 m9 l hl hb) rfl rfl (nW ?_);refine bc (fun hx=> ?_) (fun hx=> ?_)
   · subst hx;refine uR ?_;refine cS rfl (by rw[aA,hf];rfl) (uR ?_);refine ad ?_;exact dT (by rw[aA,hh];rfl)
   · subst hx;exact ad rfl
 rintro _ rfl;refine nW ?_;exact ad rfl
theorem ara (n) (h0:0≤n) (h1:n≤1048576):Nv [.i n]=some [.i (oQ n)]:=by
 refine aH ?_;refine uR ?_;refine aI rfl (fun hc=> ?_) (fun hc=> ?_)
 · refine ad ?_;show[L.i 0]=[L.i (oQ n)]
   unfold oQ;rw[ay hc]
 refine ck (n:=n-1) rfl om om (nW ?_);refine cv (l:= .i ((n-1) /256)) (by
   show(if(256:Int)≠0 then some (L.i (IntKind.wrap .i64 ((n-1).tdiv 256)))else none)=_;rw[ay dc,abT om,wrap64 om om]) ?_
 refine nW ?_;refine cm (n:=(n-1) /256+1) rfl om om (nW ?_);refine iS (n:=((n-1) /256+1)*64) rfl om om (nW ?_);refine ad ?_;show[L.i _]=[L.i (oQ n)]
 unfold oQ;rw[aC hc]
theorem akO (s:List Nat) (hs:s.length≤4294967296) (k:Nat):∃r,Jd [.r (s.map kR),.i k]=some [.i r]∧(0≤r ↔ k∈s):=by
 have run:ae.wp Vm [.r (s.map kR),.i k] (kW fun y=>∃r:Int,y=[.i r]∧(0≤r ↔ k∈s)):=by
  refine aB (fun xs=>xs=[]∧k∉s) ?_ ?_;rotate_left
  · rintro _ ⟨rfl,h⟩;refine nW ?_;exact ad ⟨-1,rfl,fun h=>by omega,fun h'=>absurd h' h⟩
  refine uR ?_;refine wp_loop (I:=fun a=>∃i:Nat,a=[.i i]∧i≤s.length∧∀(j:Nat) (h:j<s.length),j<i→s[j]≠k) (mu:=fun a=>match a with|[.i i]=>s.length-i.toNat|_=>0) ⟨0,rfl,om,fun j _ hj=>by omega⟩ ?_;rintro a ⟨i,rfl,e1,e2⟩;refine uR ?_;refine aI rfl (fun hc=> ?_) (fun hc=> ?_);rotate_left
  · rw[aA]at hc;exact ad ⟨rfl,fun h=>by obtain⟨j,hj,h⟩:=iq h;exact e2 j hj om h⟩
  rw[aA]at hc;have hi:i<s.length:=om;refine aP (f:=kR) (j:=i) rfl rfl hi rfl (uR ?_);refine aI rfl (fun hy=> ?_) (fun hy=> ?_)
  · refine ad ⟨i,rfl,fun _=> ?_,fun _=>by omega⟩;have:k=s[i]:=Int.ofNat_inj.1 hy;rw[this];exact b8 hi
  · have hg:s[i]≠k:=fun h=>hy (by subst h;rfl)
    refine bg (i:=i) rfl om (nW ?_);refine ad ⟨⟨i+1,rfl,om,fun j hj jI=> ?_⟩,?_⟩
    · by_cases he:j=i
      · subst he;exact hg
      · exact e2 j hj om
    · show s.length- ((i+1:Nat):Int).toNat<s.length-i;omega
 obtain⟨o,h1,r,rfl,h2⟩:=iH run;exact⟨r,h1,h2⟩
theorem ami (s:List Nat) (hs:s.length≤4294967296) (k) {b} (hb:b=true ↔ k∈s):NT [.r (s.map kR),.i k]=some [.b b]:=by
 obtain⟨r,h1,h2⟩:=akO s hs k;refine aH ?_;refine ag h1 rfl rfl (uR ?_);refine ad ?_;show[L.b (decide (r≥0))]=[L.b b]
 rw[iK.2 (show decide (r≥0)=true ↔ b=true by rw[dj,hb,←h2])]
end
end
end Go.Proofs.YtndegphojkiblaaGreatDoor
