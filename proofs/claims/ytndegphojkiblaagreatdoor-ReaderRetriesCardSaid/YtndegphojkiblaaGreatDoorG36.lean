/- A part of the proof. -/
import Derived.Test.YtndegphojkiblaaGreatDoorG33
import Derived.Test.YtndegphojkiblaaGreatDoorG35
set_option linter.all false
set_option maxHeartbeats 4000000
set_option maxRecDepth 100000
namespace Go.Proofs.YtndegphojkiblaaGreatDoor
noncomputable section
section
open Go.RowKit AI
attribute [local irreducible] ae.wp
theorem FY {d} (hd:mE d) {b} (hb:b=true ↔ lU d):L7 [.i d.cap,.i d.left,.r (d.files.map aQ)]=some [.b b]:=by
 refine aH ?_;refine aB (bT (¬(0≤d.cap∧-1≤d.left∧d.files.length≤256))) ?_ ?_
 · refine uR ?_;refine bc (fun hx=> ?_) (fun hx=> ?_)
   · have hx:d.cap<0:=dG hx;exact ad (cz om)
   have hx:¬d.cap<0:=eh hx;refine uR ?_;refine bc (fun hy=> ?_) (fun hy=> ?_)
   · have hy:d.left< -1:=dG hy;exact ad (cz om)
   have hy:¬d.left< -1:=eh hy;refine uR ?_;exact ad (dW (show(256:Int)< (d.files.map aQ).length ↔ _ by rw[aA];omega))
 rintro _ ⟨t,rfl,ht⟩;refine nW ?_;refine bc (fun hx=> ?_) (fun hx=> ?_)
 · refine ad ?_;show[L.b false]=[.b b]
   rw[fu hb fun h=>ht.1 hx h.1]
 have js:0≤d.cap∧-1≤d.left∧d.files.length≤256:=gg.1 fun h=>by rw[ht.2 h]at hx;cases hx
 refine aB (fun xs=>xs=[]∧b=true) ?_ ?_;rotate_left
 · rintro _ ⟨rfl,h⟩;refine nW ?_;refine ad ?_;show[L.b true]=[.b b]
   rw[h]
 refine uR ?_;refine wp_loop (I:=fun a=>∃i:Nat,a=[.i i]∧i≤d.files.length∧∀j,j<i→xo d j) (mu:=fun a=>match a with|[.i i]=>d.files.length-i.toNat|_=>0) ⟨0,rfl,om,fun j hj=>by omega⟩ ?_;rintro a ⟨i,rfl,e1,e2⟩;refine uR ?_;refine bc (fun hc=> ?_) (fun hc=> ?_);rotate_left
 · have hi:i=d.files.length:=by
     have:¬(i:Int)< (d.files.map aQ).length:=eh hc;rw[aA]at this;omega
   exact ad ⟨rfl,hb.2 ⟨js,fun j hj=>e2 j om hj⟩⟩
 have hi:i<d.files.length:=by
   have:(i:Int)< (d.files.map aQ).length:=dG hc;rw[aA]at this;omega
 have jb:=hd.2 _ (b8 hi);refine aP (f:=aQ) (j:=i) rfl rfl hi rfl (uR ?_);refine aB (bT (¬xo d i)) ?_ ?_;rotate_left
 · rintro _ ⟨u,rfl,hu⟩;refine nW ?_;refine bc (fun hy=> ?_) (fun hy=> ?_)
   · refine ad ?_;show[L.b false]=[.b b]
     rw[fu hb fun h=>hu.1 hy (h.2 i)]
   have hg:xo d i:=gg.1 fun h=>by rw[hu.2 h]at hy;cases hy
   refine bg (i:=i) rfl om (nW ?_);refine ad ⟨⟨i+1,?_,om,fun j hj=> ?_⟩,?_⟩
   · rfl
   · by_cases he:j=i
     · subst he;exact hg
     · exact e2 j om
   · show d.files.length- (((i+1:Nat):Int)).toNat<d.files.length-i;omega
 obtain⟨bn,gH⟩:=dU (gk d.files[i].name);obtain⟨bf,wb⟩:=dU (okF d.files[i].base d.files[i].aY);refine ag (Dy _ jb.2 gH) rfl rfl (uR ?_);refine bc (fun hy=> ?_) (fun hy=> ?_)
 · exact ad (cz fun h=>by rw[gH.2 (h hi).1.1]at hy;cases hy)
 have hy:(!bn)=false:=hy;have hn:=gH.1 (by simpa using hy);refine ag (V4 jb.1 wb) rfl rfl (uR ?_);refine bc (fun hu=> ?_) (fun hu=> ?_)
 · exact ad (cz fun h=>by rw[wb.2 (h hi).1.2]at hu;cases hu)
 have hu:(!bf)=false:=hu;have aO:=wb.1 (by simpa using hu);refine uR ?_;refine bc (fun hz=> ?_) (fun hz=> ?_)
 · have h0:0<i:=by have:(0:Int)<i:=dG hz;omega
   refine ck (n:=((i-1:Nat):Int)) oO om om (nW ?_);refine aP (f:=aQ) (j:=i-1) rfl rfl om rfl (uR ?_);refine mM rfl (nW ?_);refine ad ⟨pg d.files[i].name (d.files[i-1]'om).name,rfl,?_⟩;constructor
   · intro h k;have:=(k hi).2 h0;rw[h]at this;cases this
   · intro h;rcases ace (pg d.files[i].name (d.files[i-1]'om).name)with q|q
     · exact q
     · exact absurd (fun _=> ⟨⟨hn,aO⟩,fun _=>q⟩) h
 · have h0:¬0<i:=by have:¬(0:Int)<i:=eh hz;omega
   exact ad (dN fun h=>h fun _=> ⟨⟨hn,aO⟩,fun k=>absurd k h0⟩)
theorem xE:∀(x y),Op.bytesLess x y=true ↔ x<y
 |[],[]=>by simp[Op.bytesLess]
 |_::_,[]=>by simp[Op.bytesLess]
 |[],_::_=>by simp[Op.bytesLess]
 |a::x,b::y=>by
  have ih:=xE x y;rw[Op.bytesLess];simp only[List.cons_lt_cons_iff,←ih];by_cases h1:a<b<;>by_cases h2:a=b<;>simp[h1,h2]
theorem aqJ {a b} (h:pg a b=false):b.toList<a.toList:=by
 unfold pg at h;rw[Bool.or_eq_false_iff]at h;have h1:¬a.toList<b.toList:=fun k=>by rw[(xE _ _).2 k]at h;cases h.1
 have h2:a.toList≠b.toList:=fun k=>by rw[k]at h;simp at h
 rcases List.le_iff_lt_or_eq.1 (List.not_lt.1 h1)with k|k
 · exact k
 · exact absurd k.symm h2
theorem Yw {d} (hd:lU d) {i j} (hij:i<j) (hj:j<d.files.length):(d.files[i]'om).name.toList<d.files[j].name.toList:=by
 induction j with
 |zero=>omega
 |succ j ih=>
  have h1:=aqJ ((hd.2 (j+1) hj).2 om);by_cases he:i=j
  · subst he;exact h1
  · exact Ic (ih om om) h1
theorem Qt {n s} {b p:By}:∃c,GK [.s n,.r b,.r p,.s s]=some [.i c]∧(c<0 ↔ n.toList<s.toList)∧(c=0 ↔ n.toList=s.toList):=by
 have abe:∀x:fo,EE [.s x]=some [.b false]:=fun x=>by
   refine aH ?_;refine mM rfl (nW ?_);refine ad ?_;show[L.b (!(x.toList==x.toList))]=_;simp
 have aDW:NC [.s n,.s s]=some [.i (if Op.bytesLess n.toList s.toList=true then-1 else if(Op.bytesLess n.toList s.toList||n.toList==s.toList)=true then 0 else 1)]:=by
   refine aH ?_;refine ag (abe n) rfl rfl (nW ?_);refine ag (abe s) rfl rfl (nW ?_);refine bj rfl ?_;refine bj rfl ?_;refine mM rfl (nW ?_);refine bc (fun hx=> ?_) (fun hx=> ?_)
   · have hx:Op.bytesLess n.toList s.toList=true:=hx;refine ad ?_;show[L.i (-1)]=_;rw[ay hx]
   refine mM rfl (nW ?_);refine bc (fun hy=> ?_) (fun hy=> ?_)
   · have hy:(!(Op.bytesLess n.toList s.toList||n.toList==s.toList))=true:=hy;refine ad ?_;show[L.i 1]=_;rw[aC (by rw[show Op.bytesLess n.toList s.toList=false from hx];decide),aC (by rw[pN]at hy;rw[hy];decide)]
   · have hy:(!(Op.bytesLess n.toList s.toList||n.toList==s.toList))=false:=hy;refine ad ?_;show[L.i 0]=_;rw[aC (by rw[show Op.bytesLess n.toList s.toList=false from hx];decide),ay (by rwa [Bool.not_eq_false']at hy)]
 have hl:=xE n.toList s.toList;have aDX:n.toList<s.toList→n.toList≠s.toList:=fun h e=>by rw[e]at h;exact tq _ h
 have he:(n.toList==s.toList)=true ↔ n.toList=s.toList:=beq_iff_eq;refine⟨if Op.bytesLess n.toList s.toList=true then-1 else if(Op.bytesLess n.toList s.toList||n.toList==s.toList)=true then 0 else 1,?_,?_,?_⟩
 · refine aH ?_;refine ag (l:=[]) ?_ rfl rfl ?_
   · refine aH ?_;exact ad rfl
   refine nW ?_;refine ag aDW rfl rfl (nW ?_);exact ad rfl
 · rw[←hl]
   cases Op.bytesLess n.toList s.toList with
   |true=>simp
   | false=>
     simp only[pO,if_false,Bool.false_or,iff_false];split<;>omega
 · rw[←he]
   cases hX:Op.bytesLess n.toList s.toList with
   | true=>
     have:=aDX (hl.1 hX);simp[this]
   | false=>
     cases n.toList==s.toList<;>simp
theorem asu {d} (hd:lU d) {s}:(∀i,ji d s i→yB [.r (d.files.map aQ),.s s]=some [.i i,.b true])∧(mw d s→∃i,yB [.r (d.files.map aQ),.s s]=some [.i i,.b false]):=by
 have hlen:=hd.1.2.2
 suffices h:∃i:Nat,∃b:Bool,yB [.r (d.files.map aQ),.s s]=some [.i i,.b b]∧(∀j,ji d s j→i=j∧b=true)∧(mw d s→b=false)by
  obtain⟨i,b,h1,h2,h3⟩:=h;exact⟨fun j hj=>by obtain⟨rfl,rfl⟩:=h2 j hj;exact h1,fun hn=> ⟨i,by rw[h1,h3 hn]⟩⟩
 have fin:∀lo:Nat,lo≤d.files.length→(∀(j:Nat) (h:j<d.files.length),j<lo→d.files[j].name.toList<s.toList)→(∀(j:Nat) (h:j<d.files.length),lo≤j→¬d.files[j].name.toList<s.toList)→
    ∀b:Bool,(b=true ↔∃h:lo<d.files.length,d.files[lo].name.toList=s.toList)→(∀j,ji d s j→lo=j∧b=true)∧(mw d s→b=false):=fun lo h0 h1 h2 b hb=>by
  constructor
  · rintro j ⟨hj,heq,_⟩;have heq:d.files[j].name.toList=s.toList:=beq_iff_eq.1 heq;have cg:lo=j:=by
      rcases HZ lo j with h|h|h
      · exact absurd (heq▸Yw hd h hj) (h2 lo om (cn _))
      · exact h
      · exact absurd (h1 j hj h) (by rw[heq];exact tq _)
    subst cg;exact⟨rfl,hb.2 ⟨hj,heq⟩⟩
  · intro hn;refine fu hb ?_;rintro⟨h,k⟩;have:=hn lo h;rw[beq_iff_eq.2 k]at this;cases this
 have hle:∀{j m:Nat} (HU:j≤m) (hm:m<d.files.length),d.files[m].name.toList<s.toList→(d.files[j]'om).name.toList<s.toList:=fun {j m} HU hm h=>by
  by_cases e:j=m
  · subst e;exact h
  · exact Ic (Yw hd om hm) h
 have run:ae.wp Zz [.r (d.files.map aQ),.s s] (kW fun x=>∃(i:Nat) (b:Bool),x=[.i i,.b b]∧(∀j,ji d s j→i=j∧b=true)∧(mw d s→b=false)):=by
  refine uR ?_;refine aB (fun xs=>∃lo:Nat,xs=[.i lo]∧lo≤d.files.length∧(∀(j:Nat) (h:j<d.files.length),j<lo→d.files[j].name.toList<s.toList)∧(∀(j:Nat) (h:j<d.files.length),lo≤j→¬d.files[j].name.toList<s.toList)) ?_ ?_
  · refine wp_loop (I:=fun a=>∃lo hi:Nat,a=[.i lo,.i hi]∧lo≤hi∧hi≤d.files.length∧(∀(j:Nat) (h:j<d.files.length),j<lo→d.files[j].name.toList<s.toList)∧(∀(j:Nat) (h:j<d.files.length),hi≤j→¬d.files[j].name.toList<s.toList)) (mu:=fun a=>match a with|[.i lo,.i hi]=> (hi-lo).toNat|_=>0) ⟨0,d.files.length,by show[L.i ((0:Nat):Int),L.i (d.files.map aQ).length]=_;rw[aA],om,om,fun j _ hj=>by omega,fun j hj h=>absurd hj om⟩ ?_;rintro a ⟨lo,hi,rfl,e1,e2,p1,p2⟩;refine uR ?_;refine bc (fun hc=> ?_) (fun hc=> ?_);rotate_left
    · have hc:¬(lo:Int)<hi:=eh hc;obtain rfl:lo=hi:=om;exact ad ⟨lo,rfl,e2,p1,p2⟩
    have hc:(lo:Int)<hi:=dG hc;obtain⟨m,hm⟩:∃m,m=(lo+hi) /2:=⟨_,rfl⟩
    refine cm (n:=((lo+hi:Nat):Int)) oO om om (nW ?_);refine fU (n:=((lo+hi:Nat):Int)) (by rfl) om om (nW ?_);refine cv (l:= .i m) (by
      show some (L.i (((lo+hi:Nat):Int).fdiv (2^min (Int.toNat 1) IntKind.u64.bits)))=_;rw[show(2:Int) ^min (Int.toNat 1) IntKind.u64.bits=2 by decide,PA _ om];congr 2;omega) ?_
    refine nW ?_;refine po (n:=(m:Int)) (by rfl) om om (nW ?_);have lA:m<d.files.length:=om;refine aP (f:=aQ) (j:=m) rfl rfl lA rfl (uR ?_);obtain⟨c,pH,hc1,hc2⟩:=Qt (n:=d.files[m].name) (s:=s) (b:=d.files[m].base) (p:=d.files[m].aY.map fE);refine ag pH rfl rfl (uR ?_);refine bc (fun hx=> ?_) (fun hx=> ?_)
    · have hx:c<0:=dG hx;refine bg (i:=m) rfl om (nW ?_);refine ad ⟨⟨m+1,hi,?_,om,e2,fun j hj HU=>hle om lA (hc1.1 hx),p2⟩,?_⟩
      · rfl
      · show((hi:Int) - ((m+1:Nat):Int)).toNat< ((hi:Int) -lo).toNat;omega
    · have hx:¬c<0:=eh hx;refine ad ⟨⟨lo,m,rfl,om,om,p1,fun j hj HU h=>hx (hc1.2 (hle HU hj h))⟩,?_⟩;show((m:Int) -lo).toNat< ((hi:Int) -lo).toNat;omega
  · rintro _ ⟨lo,rfl,e1,p1,p2⟩;refine nW ?_;refine aB (bT (∃h:lo<d.files.length,d.files[lo].name.toList=s.toList)) ?_ ?_
    · refine uR ?_;refine bc (fun hx=> ?_) (fun hx=> ?_)
      · have hx:lo<d.files.length:=by
         have:(lo:Int)< (d.files.map aQ).length:=dG hx;rw[aA]at this;omega
        refine aP (f:=aQ) (j:=lo) rfl rfl hx rfl (uR ?_);obtain⟨c,pH,hc1,hc2⟩:=Qt (n:=d.files[lo].name) (s:=s) (b:=d.files[lo].base) (p:=d.files[lo].aY.map fE);refine ag pH rfl rfl (uR ?_);exact ad (dW (show c=0 ↔ _ from⟨fun h=> ⟨hx,hc2.1 h⟩,fun ⟨_,h⟩=>hc2.2 h⟩))
      · have hx:¬lo<d.files.length:=by
         have:¬(lo:Int)< (d.files.map aQ).length:=eh hx;rw[aA]at this;omega
        exact ad (dN fun ⟨h,_⟩=>hx h)
    · rintro _ ⟨b,rfl,hb⟩;refine nW ?_;exact ad ⟨lo,b,rfl,fin lo e1 p1 p2 b hb⟩
 obtain⟨o,h1,i,b,rfl,h2,h3⟩:=iH run;exact⟨i,b,h1,h2,h3⟩
theorem QP {d} (hd:lU d) {s} {x y}:(∀i,ji d s i→AX [x,y,.r (d.files.map aQ),.s s]=some [.i i,.b true])∧(mw d s→∃i,AX [x,y,.r (d.files.map aQ),.s s]=some [.i i,.b false]):=by
 have w:∀i b,yB [.r (d.files.map aQ),.s s]=some [.i i,.b b]→AX [x,y,.r (d.files.map aQ),.s s]=some [.i i,.b b]:=fun i b h=>by
  have h2:Na [.r (d.files.map aQ),.s s]=some [.i i,.b b]:=by
   refine aH ?_;refine ag h rfl rfl (nW ?_);exact ad rfl
  refine aH ?_;refine ag h2 rfl rfl (nW ?_);exact ad rfl
 obtain⟨h1,h2⟩:=asu hd (s:=s);exact⟨fun i hi=>w _ _ (h1 i hi),fun hn=>by obtain⟨i,hi⟩:=h2 hn;exact⟨i,w _ _ hi⟩⟩
theorem YN {d} (hd:mE d) {s} (hs:s.size≤4611686018427387904):
   (∀i,Rd d s→ji d s i→zG [.i d.cap,.i d.left,.r (d.files.map aQ),.s s]=some [.i i,.i 0])∧(¬(Rd d s∧∃i,ji d s i)→∃e,e≠0∧zG [.i d.cap,.i d.left,.r (d.files.map aQ),.s s]=some [.i 0,.i e]):=by
 obtain⟨bd,js⟩:=dU (lU d);obtain⟨bn,gH⟩:=dU (gk s);constructor
 · rintro i ⟨h1,h2,h3⟩ hi;have hv:=FY hd js;have hn:=Dy s hs gH;rw[js.2 h1]at hv;rw[gH.2 h2]at hn;refine aH ?_;refine aB (fun xs=>xs=[.b false]) ?_ ?_
   · refine ag hv rfl rfl (uR ?_);refine bj rfl ?_;refine ag hn rfl rfl (uR ?_);exact ad rfl
   rintro _ rfl;refine nW ?_;refine bj rfl (uR ?_);refine ba rfl h3 ?_;refine ag ((QP h1).1 i hi) rfl rfl (uR ?_);refine bj rfl ?_;exact ad rfl
 · intro hno;by_cases h1:lU d;rotate_left
   · refine⟨1,dc,?_⟩;refine aH ?_;refine aB (fun xs=>xs=[.b true]) ?_ ?_
     · refine ag (FY hd js) rfl rfl ?_;rw[fu js h1];refine uR ?_;refine dX rfl ?_;exact ad rfl
     rintro _ rfl;refine nW ?_;refine dX rfl ?_;exact ad rfl
   by_cases h2:gk s;rotate_left
   · refine⟨1,dc,?_⟩;refine aH ?_;refine aB (fun xs=>xs=[.b true]) ?_ ?_
     · refine ag (FY hd js) rfl rfl ?_;rw[js.2 h1];refine uR ?_;refine bj rfl ?_;refine ag (Dy s hs gH) rfl rfl ?_;rw[fu gH h2];refine uR ?_;exact ad rfl
     rintro _ rfl;refine nW ?_;refine dX rfl ?_;exact ad rfl
   have hv:=FY hd js;have hn:=Dy s hs gH;rw[js.2 h1]at hv;rw[gH.2 h2]at hn;have pre:∀{Q:Lf×List L→Prop},ae.wp _ ([.i d.cap,.i d.left,.r (d.files.map aQ),.s s]++ [.b false]) Q→ae.wp P_ [.i d.cap,.i d.left,.r (d.files.map aQ),.s s] Q:=fun {Q} h=>by
     refine aB (fun xs=>xs=[.b false]) ?_ ?_
     · refine ag hv rfl rfl (uR ?_);refine bj rfl ?_;refine ag hn rfl rfl (uR ?_);exact ad rfl
     rintro _ rfl;exact h
   by_cases h3:d.left=0
   · refine⟨13,dc,?_⟩;refine aH (pre ?_);refine nW ?_;refine bj rfl (uR ?_);refine cS rfl h3 ?_;exact ad rfl
   · have hnf:mw d s:=(IP d s).resolve_right fun h=>hno ⟨⟨h1,h2,h3⟩,h⟩
     obtain⟨i,hf⟩:=(QP h1 (x:= .i d.cap) (y:= .i d.left)).2 hnf;refine⟨6,dc,?_⟩;refine aH (pre ?_);refine nW ?_;refine bj rfl (uR ?_);refine ba rfl h3 ?_;refine ag hf rfl rfl (uR ?_);refine dX rfl ?_;exact ad rfl
theorem T8 {d} (hd:mE d) {s} (hs:s.size≤4611686018427387904):
   (∀c,Wh d s c→∀off n:Int,(jy c off n→qw [.i d.cap,.i d.left,.r (d.files.map aQ),.s s,.i off,.i n]=some [.i 2,.r []])∧(¬jy c off n→qw [.i d.cap,.i d.left,.r (d.files.map aQ),.s s,.i off,.i n]=some [.i 0,.r ((c.take (off+n).toNat).drop off.toNat)]))∧((∀c,¬Wh d s c)→∃e,e≠0∧∀off n:Int,qw [.i d.cap,.i d.left,.r (d.files.map aQ),.s s,.i off,.i n]=some [.i e,.r []]):=by
 obtain⟨yes,no⟩:=YN hd hs;constructor
 · rintro c ⟨h1,h2,h3,i,hi,rfl⟩ off n;have hat:=yes i ⟨h1,h2,h3⟩ hi;have hlt:=hi.1;have jb:=hd.2 _ (b8 hlt);have aO:=(h1.2 i hlt).1.2;have hc:=auJ jb.1 aO;have hlen:=ss aO.1 (r5.1 aO.2) (cn _);rw[ju]at hlen;have qY:=tS jb.1.1 jb.1.2.2.2;have pre:∀{o:List L},(∀x:Bool,(x=true ↔ jy (cD d.files[i].base d.files[i].aY) off n)→(x=true→o=[.i 2,.r []])∧(x=false→o=[.i 0,.r (((cD d.files[i].base d.files[i].aY).take (off+n).toNat).drop off.toNat)]))→qw [.i d.cap,.i d.left,.r (d.files.map aQ),.s s,.i off,.i n]=some o:=fun {o} ho=>by
    refine aH ?_;refine ag hat rfl rfl (uR ?_);refine bj rfl ?_;refine aP (f:=aQ) (j:=i) rfl rfl hlt rfl (uR ?_);refine ag hc rfl rfl (nW ?_);generalize cD d.files[i].base d.files[i].aY=g at hlen qY ho;refine uR ?_;refine aB (bT (jy g off n)) ?_ ?_
    · unfold jy;refine uR ?_;refine aI rfl (fun g1=>ad (cz om)) fun g1=>uR ?_
      refine aI rfl (fun g2=>ad (cz om)) fun g2=>uR ?_
      refine aI rfl (fun g3=>ad (cz om)) fun g3=> ?_
      refine ck (n:=(g.length:Int) -off) rfl om om (uR ?_);exact ad (dW om)
    · rintro _ ⟨x,rfl,hx⟩;refine nW ?_;refine bc (fun hq=> ?_) (fun hq=> ?_)
      · rw[(ho x hx).1 hq];exact ad rfl
      have hno:¬jy g off n:=fun h=>by rw[hx.2 h]at hq;cases hq
      unfold jy at hno;rw[(ho x hx).2 hq];refine cm (n:=off+n) rfl om om (uR ?_);refine yH (r:=(g.take (off+n).toNat).drop off.toNat) ⟨by show 0≤off;omega,by show off≤off+n;omega,by show(off+n).toNat≤g.length;omega,qY⟩ rfl (nW ?_);refine ag (Rx (UB (Es qY)) (by rw[jt,cL];omega)) rfl rfl (nW ?_);exact ad rfl
   exact⟨fun h=>pre fun x hx=> ⟨fun _=>rfl,fun hx'=>by rw[hx.2 h]at hx';cases hx'⟩,fun h=>pre fun x hx=> ⟨fun hx'=>absurd (hx.1 hx') h,fun _=>rfl⟩⟩
 · intro hno;obtain⟨e,he,hat⟩:=no (fun ⟨h,i,hi⟩=>hno _ ⟨h.1,h.2.1,h.2.2,i,hi,rfl⟩);refine⟨e,he,fun off n=>aH ?_⟩;refine ag hat rfl rfl (uR ?_);refine cS rfl he ?_;exact ad rfl
theorem aeC {d} (hd:mE d) {s} (hs:s.size≤4611686018427387904):
   (∀c,Wh d s c→wX [.i d.cap,.i d.left,.r (d.files.map aQ),.s s]=some [.b true,.r c])∧((∀c,¬Wh d s c)→wX [.i d.cap,.i d.left,.r (d.files.map aQ),.s s]=some [.b false,.r []]):=by
 obtain⟨yes,no⟩:=YN hd hs;constructor
 · rintro c ⟨h1,h2,h3,i,hi,rfl⟩;have hat:=yes i ⟨h1,h2,h3⟩ hi;have hlt:=hi.1;have jb:=hd.2 _ (b8 hlt);have aO:=(h1.2 i hlt).1.2;have hl:=adE jb.1 aO;have O7:GN [.i d.cap,.i d.left,.r (d.files.map aQ),.s s]=some [.i (cD d.files[i].base d.files[i].aY).length,.i 0]:=by
    refine aH ?_;refine ag hat rfl rfl (uR ?_);refine bj rfl ?_;refine aP (f:=aQ) (j:=i) rfl rfl hlt rfl (uR ?_);refine ag hl rfl rfl (nW ?_);exact ad rfl
   have aDZ:qw [.i d.cap,.i d.left,.r (d.files.map aQ),.s s,.i 0,.i (cD d.files[i].base d.files[i].aY).length]=some [.i 0,.r (cD d.files[i].base d.files[i].aY)]:=by
    rw[((T8 hd hs).1 _ ⟨h1,h2,h3,i,hi,rfl⟩ 0 _).2 (by unfold jy;omega),Int.zero_add,fA,ju,H2,zk]
   refine aH ?_;refine ag O7 rfl rfl (uR ?_);refine bj rfl ?_;refine ag aDZ rfl rfl (uR ?_);exact ad rfl
 · intro hno;obtain⟨e,he,hat⟩:=no (fun ⟨h,i,hi⟩=>hno _ ⟨h.1,h.2.1,h.2.2,i,hi,rfl⟩);have O7:GN [.i d.cap,.i d.left,.r (d.files.map aQ),.s s]=some [.i 0,.i e]:=by
    refine aH ?_;refine ag hat rfl rfl (uR ?_);refine cS rfl he ?_;exact ad rfl
   refine aH ?_;refine ag O7 rfl rfl (uR ?_);refine cS rfl he ?_;exact ad rfl
end
section
open Go.RowKit Pl AI
attribute [local irreducible] ae.wp
def Lx (e:Nat):List UInt8:=cond (Nat.beq e 0) [100,97,116] (cond (Nat.beq e 1) [100,101,108] (cond (Nat.beq e 8) [105,100,120] [101,99,UInt8.ofNat (46+e)]))
def lV (j:Nat):List UInt8:=[118,46,49,46,UInt8.ofNat (49+j/9),46]++Lx (j%9)
def nm (j:Nat):fo:=⟨(lV j).toArray⟩
theorem lg (j):(nm j).toList=lV j:=by rw[Lib.toList_data];rfl
def Ut (n:Nat):Bool:=(Nat.ble 97 n&&Nat.ble n 122)|| (Nat.ble 48 n&&Nat.ble n 57)||Nat.beq n 46||Nat.beq n 45
theorem atf:(List.range 72).all (fun j=> (lV j).all fun c=>Ut c.toNat)=true:=kr
theorem avn:(List.range 71).all (fun j=>Op.bytesLess (lV j) (lV (j+1)))=true:=kr
theorem Mx (j):1≤(lV j).length∧(lV j).length≤9:=by
 have:(Lx (j%9)).length=3:=by
  unfold Lx
  cases Nat.beq (j%9) 0 with
  |true=>rfl
  |false=>cases Nat.beq (j%9) 1 with
   |true=>rfl
   |false=>cases Nat.beq (j%9) 8<;>rfl
 unfold lV;rw[bE,this];exact⟨by show 1≤6+3;omega,by show 6+3≤9;omega⟩
theorem N1 (j):(nm j).size=(lV j).length:=by
 show(lV j).toArray.size=_;rw[rC]
theorem uE (j):(nm j).size≤4611686018427387904:=by
 have:=Mx j;rw[N1];omega
theorem uF {j} (hj:j<72):gk (nm j):=by
 refine⟨fun i b h=> ?_,?_,?_⟩
 · rw[chars]at h;have h1:b∈lV j:=dn h;have h2:=bC.1 (bC.1 atf j (lJ.2 hj)) b h1;simp only[Ut,tm,bt,Nat.ble_eq,Nat.beq_eq]at h2;unfold kG;omega
 · rw[N1];exact(Mx j).1
 · rw[N1];have:=(Mx j).2;omega
theorem qH:∀{b a:Nat},a<b→b<72→lV a<lV b
 |0,_,h,_=>om
 |b+1,a,h,hb=>by
  have h1:=(xE _ _).1 (bC.1 avn b (lJ.2 om));by_cases e:a=b
  · subst e;exact h1
  · exact Ic (qH (b:=b) om om) h1
theorem Zl {a b} (h:a≠b) (ha:a<72) (hb:b<72):((nm a).toList==(nm b).toList)=false:=by
 rw[lg,lg];rcases Nat.lt_or_gt_of_ne h with h|h
 · exact beq_false_of_ne fun e=>by have:=qH h hb;rw[e]at this;exact tq _ this
 · exact beq_false_of_ne fun e=>by have:=qH h ha;rw[e]at this;exact tq _ this
abbrev Fs:=Nat→Option (List Nat)
def dO (j:Nat) (b:List Nat):Fl:=⟨nm j,b.map b1,[]⟩
def fQ (f:Fs):Nat→Nat→List Fl
 |_,0=> []
 |lo,n+1=> (match f lo with|some b=> [dO lo b]|none=> [])++fQ f (lo+1) n
def okB (b:List Nat):Prop:=B8 b∧b.length≤1048576
def eZ (f:Fs):Prop:=∀j b,f j=some b→okB b
def cj (f:Fs) (j:Nat) (b:Option (List Nat)):Fs:=fun i=>if i=j then b else f i
theorem jw {f} {j} {b}:cj f j b j=b:=ay rfl
theorem cV {f} {i j} {b} (h:i≠j):cj f j b i=f i:=aC h
theorem eZ.cj {f} (h:eZ f) {j} {b} (hb:∀x,b=some x→okB x):eZ (cj f j b):=fun i x hx=>by
 by_cases e:i=j
 · subst e;rw[jw]at hx;exact hb x hx
 · rw[cV e]at hx;exact h i x hx
theorem nq (f):∀n lo,(fQ f lo n).length≤n
 |0,_=>cn 0
 |n+1,lo=>by
  have:=nq f n (lo+1);rw[fQ,bE]
  cases f lo with
  |none=>simp only[nj];omega
  |some b=>simp only[CW];omega
theorem lS {f} {x}:∀{n lo},x∈fQ f lo n→∃j b,lo≤j∧j<lo+n∧f j=some b∧x=dO j b
 |0,_,h=>by cases h
 |n+1,lo,h=>by
  rw[fQ]at h;rcases im.1 h with h|h
  · cases hf:f lo with
    |none=>rw[hf]at h;cases h
    |some b=>rw[hf]at h;exact⟨lo,b,om,om,hf,tn.1 h⟩
  · obtain⟨j,b,h1,h2,h3,h4⟩:=lS h;exact⟨j,b,om,om,h3,h4⟩
theorem SH (f):∀m n lo,fQ f lo (m+n)=fQ f lo m++fQ f (lo+m) n
 |0,n,lo=>by rw[pP,kS];rfl
 |m+1,n,lo=>by
  rw[show m+1+n=(m+n)+1 by omega,fQ,fQ,SH f m n (lo+1),cd,show lo+1+m=lo+(m+1)by omega]
theorem JQ {f g:Fs}:∀{n lo},(∀j,lo≤j→j<lo+n→f j=g j)→fQ f lo n=fQ g lo n
 |0,_,_=>rfl
 |n+1,lo,h=>by
  rw[fQ,fQ,h lo om om,JQ (n:=n) (lo:=lo+1) fun j h1 h2=>h j om om]
def cw (f:Fs) (j:Nat):List Fl:=fQ f 0 j
def jg (f:Fs) (j:Nat):List Fl:=fQ f (j+1) (71-j)
def bL (f:Fs):List Fl:=fQ f 0 72
theorem Si {f} {j} (hj:j<72):bL f=cw f j++((match f j with|some b=> [dO j b]|none=> [])++jg f j):=by
 unfold bL cw jg;rw[show(72:Nat)=j+((71-j)+1)by omega,SH,pP,fQ]
theorem UX {f} {j} {b}:cw (cj f j b) j=cw f j:=JQ fun i _ h=>cV om
theorem QY {f} {j} {b}:jg (cj f j b) j=jg f j:=JQ fun i h _=>cV om
def cM (f:Fs) (j:Nat) (g:Fl):List Fl:=cw f j++g::jg f j
theorem tu {f} {j} {b} (hj:j<72) (h:f j=some b):bL f=cM f j (dO j b):=by rw[Si hj,h];rfl
theorem UR {f} {j} (hj:j<72) (h:f j=none):bL f=cw f j++jg f j:=by rw[Si hj,h];rfl
theorem We {f} {j} {b} (hj:j<72):bL (cj f j (some b))=cM f j (dO j b):=by
 rw[tu hj jw,cM,cM,UX,QY]
theorem apJ {f} {j} (hj:j<72):bL (cj f j none)=cw f j++jg f j:=by
 rw[UR hj jw,UX,QY]
abbrev dA (l:List Fl):List L:=[.i 0,.i (-1),.r (l.map aQ)]
structure qj (j:Nat) (g:Fl):Prop where
 hj:j<72
 hn:g.name=nm j
 hb:okF g.base g.aY
 hf:vB g
theorem pS {j} (hj:j<72) {b} (hb:okB b):qj j (dO j b):=
 ⟨hj,rfl,⟨by show(b.map b1).length≤_;rw[aA];exact hb.2,trivial⟩,pA b,by show(b.map b1).length≤_;rw[aA];have:=hb.2;omega,fm _,fun w hw=>by cases hw⟩
theorem avi {f} (hf:eZ f) {j} {g} (hg:qj j g) {x} (hx:x∈cM f j g):∃i,qj i x:=by
 rcases im.1 hx with h|h
 · obtain⟨i,b,h1,h2,h3,rfl⟩:=lS h;exact⟨i,pS (by have:=hg.hj;omega) (hf i b h3)⟩
 · rcases dL.1 h with rfl|h
   · exact⟨j,hg⟩
   · obtain⟨i,b,h1,h2,h3,rfl⟩:=lS h;exact⟨i,pS (by have:=hg.hj;omega) (hf i b h3)⟩
theorem Al (f) {j} (hj:j<72) (g):(cM f j g).length≤72:=by
 have h1:=nq f j 0;have h2:=nq f (71-j) (j+1);unfold cM cw jg;rw[bE,ir];omega
abbrev zY (f:Fs) (j:Nat) (g:Fl):Dk:=⟨0,-1,cM f j g⟩
theorem Gw (f):∀n lo,lo+n≤72→(fQ f lo n).Pairwise fun x y=>x.name.toList<y.name.toList
 |0,_,_=>List.Pairwise.nil
 | n +1,lo,h=>by
  rw[fQ];refine abX.2 ⟨?_,Gw f n (lo+1) om,fun x hx y hy=> ?_⟩
  · cases f lo with
    |none=>exact List.Pairwise.nil
    |some b=>exact List.pairwise_singleton _ _
  · obtain⟨j,b,h1,h2,_,rfl⟩:=lS hy
    cases hl:f lo with
    |none=>rw[hl]at hx;cases hx
    |some c=>
     rw[hl]at hx;rw[tn.1 hx];show(nm lo).toList< (nm j).toList;rw[lg,lg];exact qH om om
theorem akP {f} {j} {g} (hg:qj j g):(cM f j g).Pairwise fun x y=>x.name.toList<y.name.toList:=by
 have hj:=hg.hj;refine abX.2 ⟨Gw f j 0 om,gf.2 ⟨fun y hy=> ?_,Gw f _ _ om⟩,fun x hx y hy=> ?_⟩
 · obtain⟨i,b,h1,h2,_,rfl⟩:=lS hy;rw[hg.hn];show(nm j).toList< (nm i).toList;rw[lg,lg];exact qH om om
 · obtain⟨i,b,h1,h2,_,rfl⟩:=lS hx;show(nm i).toList<_;rcases dL.1 hy with rfl|hy
   · rw[hg.hn,lg,lg];exact qH om om
   · obtain⟨k,c,h3,h4,_,rfl⟩:=lS hy;show _< (nm k).toList;rw[lg,lg];exact qH om om
theorem avG {a b:fo} (h:a.toList<b.toList):pg b a=false:=by
 unfold pg;rw[Bool.or_eq_false_iff];constructor
 · exact H8.2 fun h'=>tq _ (Ic h ((xE _ _).1 h'))
 · exact beq_false_of_ne fun e=>by rw[e]at h;exact tq _ h
theorem Tj {l:List Fl} (hl:l.length≤72) (hm:∀x∈l,∃i,qj i x) (ha:l.Pairwise fun x y=>x.name.toList<y.name.toList):lU ⟨0,-1,l⟩∧mE ⟨0,-1,l⟩:=by
 refine⟨⟨⟨by show(0:Int)≤0;omega,by show(-1:Int)≤-1;omega,by show l.length≤256;omega⟩,fun i hi=> ?_⟩,⟨by show l.length≤_;omega,fun x hx=> ?_⟩⟩
 · obtain⟨k,hk⟩:=hm _ (b8 hi);refine⟨⟨by show gk (l[i]).name;rw[hk.hn];exact uF hk.hj,hk.hb⟩,fun h0=> ?_⟩;exact avG (jL.1 ha (i-1) i (by have:i<l.length:=hi;omega) hi om)
 · obtain⟨k,hk⟩:=hm x hx;exact⟨hk.hf,by rw[hk.hn];exact uE k⟩
theorem xY {f} (hf:eZ f) {j} {g} (hg:qj j g):lU (zY f j g)∧mE (zY f j g):=
 Tj (Al f hg.hj g) (fun _ hx=>avi hf hg hx) (akP hg)
theorem amz {f} (hf:eZ f):lU ⟨0,-1,bL f⟩∧mE ⟨0,-1,bL f⟩:=
 Tj (nq f 72 0) (fun x hx=>by obtain⟨i,b,_,h2,h3,rfl⟩:=lS hx;exact⟨i,pS om (hf i b h3)⟩) (Gw f 72 0 om)
theorem uy {f} {j} {g} (h):(cM f j g)[(cw f j).length]'h=g:=by
 simp only[cM,PL (cn _),wj,List.getElem_cons_zero]
theorem nt (f) (j) (g):(cw f j).length< (cM f j g).length:=by
 unfold cM;rw[bE,ir];omega
theorem Bp {f} {j} {g} (hg:qj j g):ji (zY f j g) (nm j) (cw f j).length:=by
 refine⟨nt f j g,?_,fun k hk=> ?_⟩
 · show(((cM f j g)[(cw f j).length]'_).name.toList==(nm j).toList)=true;rw[uy,hg.hn];exact beq_self_eq_true _
 · have:(cM f j g)[k]'(Nat.lt_trans hk (nt f j g))=(cw f j)[k]:=by
    unfold cM;rw[PM hk]
   show(((cM f j g)[k]'_).name.toList==_)=false;rw[this];obtain⟨i,b,h1,h2,_,h4⟩:=lS (b8 hk);have h4:(cw f j)[k]=dO i b:=h4;rw[h4];have:=hg.hj;exact Zl om om om
theorem aeE {f} {j} (hj:j<72) (h:f j=none):mw ⟨0,-1,bL f⟩ (nm j):=fun k hk=>by
 obtain⟨i,b,h1,h2,h3,h4⟩:=lS (b8 hk);have h4:(bL f)[k]=dO i b:=h4;show((bL f)[k].name.toList==_)=false;rw[h4];exact Zl (fun e=>by subst e;rw[h]at h3;cases h3) om hj
theorem Ir {f} (hf:eZ f) {j} {g} (hg:qj j g):o5 (dA (cM f j g)++ [.s (nm j)])=some [.i (cw f j).length,.i 0]:=
 (Ki (xY hf hg).2 (uE j)).1 _ ⟨(xY hf hg).1,uF hg.hj,by show(-1:Int)≠0;omega⟩ (Bp hg)
theorem o8 (l:List Fl):bu 3 (l.map aQ)=true:=by
 unfold bu;rw[bC];intro x hx;obtain⟨y,_,rfl⟩:=fe.1 hx;rfl
theorem FE (c) (l:List Fl) (hl:l.length≤1000000):xH [c,.i (-1),.r (l.map aQ)]=some [.i (-1),.r (l.map aQ)]:=by
 refine aH ?_;refine uR ?_;refine dC (r:=l.map aQ) rfl (o8 l) oO oO dc rfl (nW ?_);refine aB (fun xs=>xs=[.i (-1)]) ?_ (by rintro _ rfl;refine nW ?_;exact ad rfl);refine uR ?_;refine bj rfl ?_;exact ad rfl
def iN (A B:List Fl) (g:Fl) (i:Nat):List Fl:=A.take i++if A.length<i then g::B.take (i-A.length)else[]
def nM (A B:List Fl) (g:Fl) (i:Nat):List Fl:=A.take i++if A.length≤i then g::B.take (i-A.length)else[]
theorem ajk {A B} {g} {i} (hi:i< (A++B).length):nM A B g i++ [(A++B)[i]]=iN A B g (i+1):=by
 unfold nM iN;by_cases h:A.length≤i
 · have hb:i-A.length<B.length:=by rw[bE]at hi;omega
   rw[ay h,ay om,fD (l:=A) h,fD (l:=A) (show A.length≤i+1 by omega),PL h,show i+1-A.length=(i-A.length)+1 by omega,gX hb];simp
 · have ha:i<A.length:=om;rw[aC h,aC om,eW,eW,PM ha,←gX ha]
theorem aqx {A B} {g} {i}:(iN A B g i).length≤A.length+B.length+1:=by
 unfold iN;split<;>simp only[bE,cL,ir,nj]<;>omega
theorem awY {A B} {g} {i}:(nM A B g i).length≤A.length+B.length+1:=by
 unfold nM;split<;>simp only[bE,cL,ir,nj]<;>omega
theorem aoQ (c l:L) (A B:List Fl) (g:Fl) (hn:A.length+B.length≤1000000) (hA:∀x∈A,x.name.toList<g.name.toList) (hB:∀x∈B,g.name.toList<x.name.toList):
   K2 [c,l,.r ((A++B).map aQ),.s g.name,.r g.base,.r (g.aY.map fE)]=some [.r ((A++g::B).map aQ)]:=by
 have hl:(A++B).length=A.length+B.length:=bE;refine aH ?_;refine aB (fun xs=>xs=[.b (decide (A.length<A.length+B.length)),.r ((iN A B g (A.length+B.length)).map aQ)]) ?_ ?_;rotate_left
 · rintro _ rfl;refine nW ?_;refine aB (fun xs=>xs=[.r ((A++g::B).map aQ)]) ?_ (by rintro _ rfl;refine nW ?_;exact ad rfl);refine uR ?_;refine qu rfl decide_eq_true_iff (fun h=> ?_) (fun h=> ?_)
   · have h0:B.length=0:=om;have e:iN A B g (A.length+B.length)=A:=by
       unfold iN;rw[aC h,eW,fD om]
     rw[e];refine uR ?_;refine dC (r:=(A++ [g]).map aQ) (o8 A) rfl (by show(A.map aQ).length≤_;rw[aA];omega) (by show(1:Nat)≤_;omega) dc (by show List.map aQ A++List.map aQ [g]=_;rw[←dk]) (nW ?_);refine ad ?_;rw[ni h0];rfl
   · refine ad ?_;show[L.r ((iN A B g (A.length+B.length)).map aQ)]=_;unfold iN;rw[ay h,fD om,fD om]
 refine wp_loop (I:=fun a=>∃i:Nat,a=[.b (decide (A.length<i)),.i i,.r ((iN A B g i).map aQ)]∧i≤A.length+B.length) (mu:=fun a=>match a with|[_,.i i,_]=>A.length+B.length-i.toNat|_=>0) ⟨0,?_,om⟩ ?_
 · show[L.b false,L.i 0,L.r []]=_;rw[decide_eq_false om];unfold iN;rw[aC om];rfl
 rintro a ⟨i,rfl,e1⟩;have Cz:=aqx (A:=A) (B:=B) (g:=g) (i:=i);have lA:=awY (A:=A) (B:=B) (g:=g) (i:=i);refine uR ?_;rw[aA,hl];refine aI rfl (fun hc=> ?_) (fun hc=> ?_);rotate_left
 · obtain rfl:i=A.length+B.length:=om;exact ad rfl
 have hi:i< (A++B).length:=om;obtain⟨x,hx⟩:∃x,(A++B)[i]=x:=⟨_,rfl⟩
 have mc:Op.bytesLess x.name.toList g.name.toList=decide (i<A.length):=by
   rw[iK,xE,decide_eq_true_iff];constructor
   · intro h;by_cases O8:i<A.length
     · exact O8
     · rw[PL om]at hx;have:=hB x (by rw[←hx];exact b8 _);exact absurd (Ic h this) (tq _)
   · intro h;rw[PM h]at hx;exact hA x (by rw[←hx];exact b8 _)
 have hne:(x.name.toList==g.name.toList)=false:=by
   refine beq_false_of_ne fun e=> ?_
   by_cases O8:i<A.length
   · rw[PM O8]at hx;have:=hA x (by rw[←hx];exact b8 _);rw[e]at this;exact tq _ this
   · rw[PL om]at hx;have:=hB x (by rw[←hx];exact b8 _);rw[e]at this;exact tq _ this
 refine aB (fun xs=>xs=[.b (decide (A.length<i+1)),.r ((iN A B g (i+1)).map aQ)]) ?_ ?_;rotate_left
 · rintro _ rfl;refine nW ?_;refine bg (i:=i) rfl om (nW ?_);refine ad ⟨⟨i+1,rfl,om⟩,?_⟩;show A.length+B.length- ((i+1:Nat):Int).toNat<A.length+B.length-i;omega
 refine aB (fun xs=>xs=[.b (decide (A.length≤i)),.r ((nM A B g i).map aQ)]) ?_ ?_
 · refine aB (bT (i=A.length)) ?_ ?_
   · refine uR ?_;refine qu rfl decide_eq_true_iff (fun h=> ?_) (fun h=>ad (dN om));refine aP (f:=aQ) (j:=i) rfl rfl hi rfl ?_;rw[hx];refine uR ?_;refine mM (l:= .b (!decide (i<A.length))) (by show some (L.b (!(Op.bytesLess x.name.toList g.name.toList)))=_;rw[mc]) (nW ?_);exact ad (oU om)
   · rintro _ ⟨t,rfl,ht⟩;refine nW ?_;refine iR rfl ht (fun h=> ?_) (fun h=> ?_)
     · refine uR ?_;refine dC (r:=(nM A B g i).map aQ) (o8 _) rfl (by show((iN A B g i).map aQ).length≤_;rw[aA];omega) (by show(1:Nat)≤_;omega) dc ?_ (nW ?_)
       · show(iN A B g i).map aQ++ [aQ g]=_;unfold iN nM;rw[aC om,ay om,h,wj,eW,dk];rfl
       · refine ad ?_;rw[decide_eq_true (show A.length≤i by omega)];rfl
     · refine ad ?_;have e:iN A B g i=nM A B g i:=by
         unfold iN nM;by_cases h2:A.length<i
         · rw[ay h2,ay om]
         · rw[aC h2,aC om]
       show[L.b (decide (A.length<i)),L.r ((iN A B g i).map aQ)]=_;rw[e,decide_eq_decide.2 (show A.length<i ↔ A.length≤i by omega)]
 · rintro _ rfl;refine nW ?_;refine aP (f:=aQ) (j:=i) rfl rfl hi rfl ?_;rw[hx];refine uR ?_;refine mM (l:= .b true) (by show some (L.b (!(x.name.toList==g.name.toList)))=_;rw[hne];rfl) (nW ?_);refine dX rfl ?_;refine aP (f:=aQ) (j:=i) rfl rfl hi rfl ?_;rw[hx];refine uR ?_;refine dC (r:=(iN A B g (i+1)).map aQ) (o8 _) rfl (by show((nM A B g i).map aQ).length≤_;rw[aA];omega) (by show(1:Nat)≤_;omega) dc (by rw[←ajk hi,hx];show List.map aQ (nM A B g i)++List.map aQ [x]=_;rw[←dk]) (nW ?_);refine ad ?_;rw[decide_eq_decide.2 (show A.length<i+1 ↔ A.length≤i by omega)];rfl
theorem aiv:okB []:=⟨fun x hx=> (by cases hx),dc⟩
theorem ahC {f} (hf:eZ f) {j} (hj:j<72) (h:f j=none):wL (dA (bL f)++ [.s (nm j)])=some (.i 0::dA (bL (cj f j (some [])))):=by
 have aO:=amz hf;have hlen:(bL f).length≤72:=nq f 72 0;obtain⟨e,he,hr⟩:=ND aO.2 (uE j);obtain rfl:e=0:=hr.2 ⟨aO.1,uF hj,by show(-1:Int)≠0;omega⟩;have O9:=Jq (d:=⟨0,-1,bL f⟩) (s:=nm j) (by show(bL f).length≤_;omega) (r:= -1) (fun i hi=>by obtain⟨a1,a2,_⟩:=hi;rw[aeE hj h i a1]at a2;cases a2) (fun _=>rfl);refine aH ?_;refine ag he rfl rfl (uR ?_);refine ba rfl oO ?_;refine ag O9 rfl rfl (uR ?_);refine ba rfl oO ?_;refine uR ?_;rw[aA];refine ba rfl om ?_;refine ag (FE (.i 0) (bL f) om) rfl rfl (nW ?_);have hpl:(cw f j).length≤j:=nq f j 0;have ey:(jg f j).length≤71-j:=nq f _ _;have had:=aoQ (.i 0) (.i (-1)) (cw f j) (jg f j) (dO j []) om
  (fun x hx=>by
   obtain⟨i,b,h1,h2,_,rfl⟩:=lS hx;show(nm i).toList< (nm j).toList;rw[lg,lg];exact qH om hj)
  (fun x hx=>by
   obtain⟨i,b,h1,h2,_,rfl⟩:=lS hx;show(nm j).toList< (nm i).toList;rw[lg,lg];exact qH om om)
 rw[←UR hj h]at had;refine ag had rfl rfl (nW ?_);refine ad ?_;rw[We hj];rfl
theorem aeX {f} (hf:eZ f) {j} (hj:j<72) {b} (h:f j=some b):wL (dA (bL f)++ [.s (nm j)])=some [.i 7,.i 0,.i 0,.r []]:=by
 have hg:=pS hj (hf j b h);have aO:=xY hf hg;have hlen:=Al f hj (dO j b);rw[tu hj h];obtain⟨e,he,hr⟩:=ND aO.2 (uE j);obtain rfl:e=0:=hr.2 ⟨aO.1,uF hj,by show(-1:Int)≠0;omega⟩;have hat:=Bp (f:=f) hg;have O9:=Jq (d:=zY f j (dO j b)) (s:=nm j) (by show(cM f j _).length≤_;omega) (r:=(cw f j).length) (fun i hi=>by rw[hi.uniq hat]) (fun hn=>by obtain⟨a1,a2,_⟩:=hat;rw[hn _ a1]at a2;cases a2);refine aH ?_;refine ag he rfl rfl (uR ?_);refine ba rfl oO ?_;refine ag O9 rfl rfl (uR ?_);refine cS rfl om ?_;exact ad rfl
theorem SK (s:fo) {b:List Nat} (hb:okB b):mz [.s s,.r (b.map b1),.r []]=some [.r (b.map b1)]:=
 (BL (f:=⟨s,b.map b1,[]⟩) ⟨pA b,by show(b.map b1).length≤_;rw[aA];have:=hb.2;omega,fm _,fun w hw=>by cases hw⟩ (s:=s)).1 ⟨by show(b.map b1).length≤_;rw[aA];exact hb.2,trivial⟩
def kv (j:Nat) (b x:List Nat):Fl:=⟨nm j,b.map b1,[⟨b.length,x.map b1,false⟩]⟩
theorem J4 (b x:List Nat):fP (b.map b1) ⟨b.length,x.map b1,false⟩=(b++x).map b1:=by
 unfold fP;rw[aC (fun h=>by cases h)];show((b.map b1)++List.replicate (b.length- (b.map b1).length) gZ).take b.length++x.map b1++(b.map b1).drop (b.length+(x.map b1).length)=_;rw[aA,wj,List.replicate_zero,eW,fD (by rw[aA];omega),pR (by rw[aA,aA];omega),eW,dk]
theorem S0 {j} (hj:j<72) {b x} (hb:okB b) (hx:okB x) (h:(b++x).length≤1048576):qj j (kv j b x):=by
 have h2:=hb.2;have h3:=hx.2;refine⟨hj,rfl,⟨by show(b.map b1).length≤_;rw[aA];exact hb.2,⟨⟨by show(0:Int)≤(b.length:Int);omega,by show(b.length:Int)≤_;omega,fun h=>by cases h.1⟩,?_,trivial⟩⟩,⟨pA b,by show(b.map b1).length≤_;rw[aA];omega,by show(1:Nat)≤_;omega,fun w hw=> ?_⟩⟩
 · show(fP (b.map b1) ⟨b.length,x.map b1,false⟩).length≤_;rw[J4,aA];exact h
 · rw[tn.1 hw];exact⟨pA x,by show(x.map b1).length≤_;rw[aA];omega⟩
theorem Ru {f} {j} {g h:Fl}:(cM f j g).set (cw f j).length h=cM f j h:=by
 unfold cM;rw[List.set_append_right _ _ (cn _),wj,List.set_cons_zero]
theorem acM {f} {j} (hj:j<72) {b x} (hb:okB b) (hx:okB x) (h:(b++x).length≤1048576):
   Fv (dA (cM f j (dO j b))++ [.i (cw f j).length,.i b.length,.r (x.map b1),.b false])=some (.i 0::dA (cM f j (kv j b x))):=by
 have h2:=hb.2;have h3:=hx.2;have hlen:=Al f hj (dO j b);have hp:=S0 hj hb hx h;rw[bE]at h;have hc2:=(BL (f:=kv j b x) hp.hf (s:=nm j)).1 hp.hb;rw[show cD (kv j b x).base (kv j b x).aY=(b++x).map b1 from J4 b x]at hc2;refine aH ?_;refine aP (f:=aQ) (j:=(cw f j).length) rfl rfl (nt f j _) rfl ?_;rw[uy];refine uR ?_;refine ag (SK (nm j) hb) rfl rfl (uR ?_);rw[aA,aA];refine cm (n:=(b.length:Int)+x.length) rfl om om (uR ?_);refine ba rfl om ?_;refine uR ?_;refine eX (a:=[]) (c:=x) rfl rfl (fm _) om (uR ?_);refine dC (r:=[]) rfl rfl (by show(0:Nat)≤_;omega) (by show(0:Nat)≤_;omega) dc rfl (uR ?_);refine dC (r:=[[.sc (.int .i64 b.length),.sl (x.map b1),.sc (.bool false)]]) rfl rfl (by show(0:Nat)≤_;omega) (by show(1:Nat)≤_;omega) dc rfl (nW ?_);refine pd (m:=b++x) hc2 rfl rfl (uR ?_);rw[aA,bE];refine ck (n:=x.length) (by show((b.length+x.length:Nat):Int) - (b.length:Int)=x.length;omega) om om (nW ?_);refine aB (fun xs=>xs=[.b false]) ?_ ?_
 · refine uR ?_;refine ba rfl oO ?_;exact ad rfl
 rintro _ rfl;refine nW ?_;refine bj rfl ?_;refine ag (FE (.i 0) (cM f j (dO j b)) om) rfl rfl (nW ?_);refine aP (f:=aQ) (j:=(cw f j).length) rfl rfl (nt f j _) rfl (nW ?_);refine sQ (f:=aQ) (j:=(cw f j).length) (v:=kv j b x) rfl rfl (nt f j _) rfl rfl ?_;rw[Ru];refine nW ?_;exact ad rfl
theorem PZ {f} (hf:eZ f) {j} (hj:j<72) {b x} (hb:f j=some b) (hx:okB x) (h:(b++x).length≤1048576):
  Mq (dA (bL f)++ [.s (nm j),.r (x.map b1)])=some (.i 0::dA (cM f j (kv j b x))):=by
 have Cp:=hf j b hb;rw[tu hj hb];refine aH ?_;refine ag (Ir hf (pS hj Cp)) rfl rfl (uR ?_);refine ba rfl oO ?_;refine aP (f:=aQ) (j:=(cw f j).length) rfl rfl (nt f j _) rfl ?_;rw[uy];refine uR ?_;refine ag (SK (nm j) Cp) rfl rfl (uR ?_);rw[aA];refine ag (acM hj Cp hx h) rfl rfl (nW ?_);exact ad rfl
theorem awy {f} (hf:eZ f) {j} (hj:j<72) {b x} (hb:f j=some b) (hx:okB x) (h:(b++x).length≤1048576):
 J8 (dA (bL f)++ [.s (nm j),.r (x.map b1)])=some (.i 0::dA (cM f j (kv j b x))):=PZ hf hj hb hx h
theorem alK {f} (hf:eZ f) {j} (hj:j<72) {b x} (hb:okB b) (hx:okB x) (h:(b++x).length≤1048576):
  Fp (dA (cM f j (kv j b x))++ [.s (nm j)])=some (.i 0::dA (bL (cj f j (some (b++x))))):=by
 have hp:=S0 hj hb hx h;have hlen:=Al f hj (kv j b x);have hc2:=(BL (f:=kv j b x) hp.hf (s:=nm j)).1 hp.hb;rw[show cD (kv j b x).base (kv j b x).aY=(b++x).map b1 from J4 b x]at hc2;rw[We hj];refine aH ?_;refine ag (Ir hf hp) rfl rfl (uR ?_);refine ba rfl oO ?_;refine ag (FE (.i 0) (cM f j (kv j b x)) om) rfl rfl (nW ?_);refine aP (f:=aQ) (j:=(cw f j).length) rfl rfl (nt f j _) rfl (nW ?_)
 repeat refine dx (f:=aQ) (l:=cM f j (kv j b x)) (j:=(cw f j).length) rfl rfl (nt f j _) (by rw[uy];rfl) rfl (nW ?_)
 refine ag hc2 rfl rfl (nW ?_);refine aP (f:=aQ) (j:=(cw f j).length) rfl rfl (nt f j _) rfl (nW ?_);refine sQ (f:=aQ) (j:=(cw f j).length) (v:=dO j (b++x)) rfl rfl (nt f j _) rfl rfl ?_;rw[Ru];refine nW ?_;exact ad rfl
def e7 (f:Fs) (j:Nat):List Nat:=match f j with|some b=>b|none=> []
theorem wI {f} (hf:eZ f) {j} (hj:j<72) {x} (hx:okB x) (h:(e7 f j++x).length≤1048576) (m3 m4 m5 m6 m7:L):
   BM (dA (bL f)++ [m3,m4,m5,m6,m7,.s (nm j),.r (x.map b1)])=some (dA (bL (cj f j (some (e7 f j++x)))))∧Bi (dA (bL f)++ [m3,m4,m5,m6,m7,.s (nm j),.r (x.map b1)])=some (dA (bL (cj f j (some (e7 f j++x))))):=by
 obtain⟨f',hf',hb,hr,hu⟩:∃f':Fs,eZ f'∧f' j=some (e7 f j)∧(∃e,wL (dA (bL f)++ [.s (nm j)])=some e∧((f'=f∧e=[.i 7,.i 0,.i 0,.r []])∨e= .i 0::dA (bL f')))∧cj f' j (some (e7 f j++x))=cj f j (some (e7 f j++x)):=by
   cases HV:f j with
   | none=>
     refine⟨cj f j (some []),hf.cj fun y hy=>by cases hy;exact aiv,by rw[jw];unfold e7;rw[HV],⟨_,ahC hf hj HV,.inr rfl⟩,?_⟩;funext i;by_cases e:i=j
     · subst e;rw[jw,jw]
     · rw[cV e,cV e,cV e]
   |some b=>exact⟨f,hf,by unfold e7;rw[HV],⟨_,aeX hf hj HV,.inl ⟨rfl,rfl⟩⟩,rfl⟩
 obtain⟨e,he,abf⟩:=hr;have hgb:okB (e7 f j):=hf' j _ hb;have hap:=PZ hf' hj hb hx h;have aEa:=awy hf' hj hb hx h;have O_:=alK hf' hj hgb hx h;rw[hu]at O_;constructor
 · refine aH ?_;refine aB (fun xs=>xs=dA (bL f')) ?_ ?_
   · rcases abf with⟨rfl,rfl⟩|rfl
     · refine ag he rfl rfl (uR ?_);refine ba rfl oO ?_;exact ad rfl
     · refine ag he rfl rfl (uR ?_);refine cS rfl rfl ?_;exact ad rfl
   rintro _ rfl;refine nW ?_;refine ag hap rfl rfl (nW ?_);refine ag O_ rfl rfl (nW ?_);exact ad rfl
 · refine aH ?_;refine aB (fun xs=>xs=dA (bL f')) ?_ ?_
   · rcases abf with⟨rfl,rfl⟩|rfl
     · refine ag he rfl rfl (uR ?_);refine ba rfl oO ?_;exact ad rfl
     · refine ag he rfl rfl (uR ?_);refine cS rfl rfl ?_;exact ad rfl
   rintro _ rfl;refine nW ?_;refine ag aEa rfl rfl (nW ?_);refine ag O_ rfl rfl (nW ?_);exact ad rfl
theorem anz {f} (hf:eZ f) {j} (hj:j<72) {b} (hb:f j=some b):JI (dA (bL f)++ [.s (nm j)])=some (.i 0::dA (bL (cj f j none))):=by
 have hg:=pS hj (hf j b hb);have hlen:=Al f hj (dO j b);have hlt:=nt f j (dO j b);rw[tu hj hb,apJ hj];have jJ:(cM f j (dO j b)).take (cw f j).length=cw f j:=by unfold cM;rw[List.take_left]
 have hdr:(cM f j (dO j b)).drop ((cw f j).length+1)=jg f j:=by
   unfold cM;rw[show cw f j++dO j b::jg f j=(cw f j++ [dO j b])++jg f j by simp];exact List.drop_left' (by simp)
 refine aH ?_;refine ag (Ir hf hg) rfl rfl (uR ?_);refine ba rfl oO ?_;refine ag (FE (.i 0) (cM f j (dO j b)) om) rfl rfl (uR ?_);refine nh ⟨by show(0:Int)≤0;omega,by show(0:Int)≤((cw f j).length:Int);omega,by show(cw f j).length≤((cM f j (dO j b)).map aQ).length;rw[aA];omega,lT (o8 _)⟩ (nW ?_);refine jW (ls:=[.r ((cw f j).map aQ)]) ?_ (nW ?_)
 · show some [L.r ((((cM f j (dO j b)).map aQ).drop 0).take (cw f j).length)]=_;rw[zk,←nk,jJ]
 have hpl:(cw f j).length≤j:=nq f j 0;have ey:(jg f j).length≤71-j:=nq f _ _;refine xQ (r:=(cw f j).map aQ) rfl (o8 _) (fm _) (by show((cw f j).map aQ).length≤_;rw[aA];omega) dc rfl (nW ?_);refine cm (n:=(((cw f j).length+1:Nat):Int)) rfl om om (uR ?_);rw[aA];refine nh ⟨by show(0:Int)≤(((cw f j).length+1:Nat):Int);omega,by show(((cw f j).length+1:Nat):Int)≤((cM f j (dO j b)).length:Int);omega,by show(cM f j (dO j b)).length≤((cM f j (dO j b)).map aQ).length;rw[aA];omega,lT (o8 _)⟩ (nW ?_);refine jW (ls:=[.r ((jg f j).map aQ)]) ?_ (nW ?_)
 · show some [L.r ((((cM f j (dO j b)).map aQ).drop ((cw f j).length+1)).take ((cM f j (dO j b)).length- ((cw f j).length+1)))]=_;rw[←ml,hdr,fD];rw[aA,←hdr,jt];omega
 refine xQ (r:=(cw f j++jg f j).map aQ) (o8 _) (o8 _) (by show((cw f j).map aQ).length≤_;rw[aA];omega) (by show((jg f j).map aQ).length≤_;rw[aA];omega) dc (by show(cw f j).map aQ++(jg f j).map aQ=_;rw[←dk]) (nW ?_);exact ad rfl
theorem atV {f} (hf:eZ f) {j} (hj:j<72) {b} (hb:f j=some b):Ap (dA (bL f)++ [.s (nm j)])=some [.r (b.map b1),.i 0]:=by
 have hg:=pS hj (hf j b hb);have aO:=xY hf hg;rw[tu hj hb];refine(avr aO.2 (uE j)).1 _ ⟨aO.1,uF hj,(by show(-1:Int)≠0;omega),_,Bp hg,?_⟩;show _=cD ((cM f j (dO j b))[(cw f j).length]'_).base ((cM f j (dO j b))[(cw f j).length]'_).aY;rw[uy];rfl
end
end
end Go.Proofs.YtndegphojkiblaaGreatDoor
