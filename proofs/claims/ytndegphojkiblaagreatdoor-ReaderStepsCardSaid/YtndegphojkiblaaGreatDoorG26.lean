/- A part. -/
import Derived.Test.YtndegphojkiblaaGreatDoorG12
import Derived.Test.YtndegphojkiblaaGreatDoorG25
set_option linter.all false
set_option maxHeartbeats 4000000
set_option maxRecDepth 100000
namespace Go.Proofs.YtndegphojkiblaaGreatDoor
noncomputable section
section
open Go.RowKit Pl AI
attribute [local irreducible] a8.wp
theorem TO(l)(hl:l.length<=4294967296){b}(hb:b=true↔gd l):BH [.r (l.map bw)]=some [.b b]:=by
 rw[Iz]at hb;refine bN ?_;refine bE (λxs=>xs=[]/\b=true) ?_ ?_;rotate_left
 .rintro _ ⟨rfl,h⟩;refine nW ?_;refine a7 ?_;show[L.b true]=[.b b]
  rw[h]
 refine uR ?_;refine wp_loop (I:=λa=>∃i:Nat,a=[.i i]/\i<=l.length/\∀j,j<i->nN l j) (mu:=λa=>match a with|[.i i]=>l.length-i.toNat|_=>0) ⟨0,rfl,om,λj hj=>by omega⟩ ?_;rintro a ⟨i,rfl,e1,e2⟩;refine uR ?_;refine bG rfl (λhc=>?_) (λhc=>?_);rotate_left
 .rw[bC]at hc;exact a7 ⟨rfl,hb.2 λj=>by
   by_cases hj:j<i
   .exact e2 j hj
   .exact λh _=>by omega⟩
 rw[bC]at hc;have hi:i<l.length:=om;refine bU (f:=bw) (j:=i) rfl rfl hi rfl (nW ?_);refine eb (f:=bw) (j:=i) rfl rfl hi rfl rfl (nW ?_);refine eb (f:=bw) (j:=i) rfl rfl hi rfl rfl (nW ?_);refine eb (f:=bw) (j:=i) rfl rfl hi rfl rfl (nW ?_);refine eb (f:=bw) (j:=i) rfl rfl hi rfl rfl (nW ?_);refine bE (cI (¬nN l i)) ?_ ?_;rotate_left
 .rintro _ ⟨u,rfl,hu⟩;refine nW ?_;refine bZ (λhy=>?_) (λhy=>?_)
  .refine a7 ?_;show[L.b false]=[.b b]
   rw[ft hb λh=>hu.1 hy (h i)]
  have hg:nN l i:=eM.1 λh=>by
   rw[hu.2 h]at hy;cases hy
  refine cm (i:=i) rfl om (nW ?_);refine a7 ⟨⟨i+1,rfl,om,λj hj=>?_⟩,?_⟩
  .by_cases he:j=i
   .subst he;exact hg
   .exact e2 j om
  .show l.length- ((i+1:Nat):Int).toNat<l.length-i;omega
 refine uR ?_;refine bG rfl (λhz=>?_) (λhz=>?_)
 .have h0:0<i:=om;refine dk (n:=((i-1:Nat):Int)) oO om om (nW ?_);refine bU (f:=bw) (j:=i-1) rfl rfl om rfl (nW ?_);refine eb (f:=bw) (j:=i-1) rfl rfl om rfl rfl (uR ?_);exact a7 (d' (show l[i].key<=(l[i-1]'om).key↔_ from⟨λh k=>by have:=k hi h0;omega,λh=>lu λk=>h λ_ _=>by omega⟩))
 .exact a7 (d_ λh=>h λ_ k=>absurd k om)
theorem auK(l)(g:l.length<=4294967296){b}(i:b=true↔VL l):Jp [.r (l.map bw)]=some [.b b]:=by
 obtain⟨r,e,j⟩:=RY l g;have a:Ir [.r (l.map bw)]=some [.b (decide (0<=r))]:=by
  refine bN ?_;refine bu e rfl rfl (uR ?_);exact a7 rfl
 obtain⟨c,f⟩:=dC (gd l);refine bN ?_;refine bE (cI (VL l)) ?_ ?_
 .refine bu (TO l g f) rfl rfl (nW ?_);refine bZ (λd=>?_) (λd=>?_)
  .refine bu a rfl rfl (uR ?_);exact a7 (px (show¬0<=r↔_ by rw[j,eM];exact⟨λh=>⟨f.1 d,h⟩,λh=>h.2⟩))
  .exact a7 (d_ λh=>by rw[f.2 h.1]at d;cases d)
 rintro _ ⟨t,rfl,m⟩;refine nW ?_;refine a7 ?_;show[L.b t]=[L.b b];rw[hZ.2 (m.trans i.symm)]
def js(a g r n:Int)(l:List It):Prop:=(0<=a/\a<4/\1<=g/\g<=8/\0<=r/\r<4294967296)/\16<=n/\n<=524288/\VL l/\∀x∈l,x.off+cJ x.size<=n
def yF(l:List It)(n:Int)(i:Nat):Prop:=∀h:i<l.length,l[i].off+cJ l[i].size<=n
theorem IT{l n}(h:∀j,j<l.length->yF l n j):∀x∈l,x.off+cJ x.size<=n:=λx b=>by
 obtain⟨j,a,rfl⟩:=iE b;exact h j a a
theorem yP(n):0<=cJ n/\cJ n<=4120:=by unfold cJ;split<;>omega
theorem Cn{x}(h:fe x=true):16<=x.off/\x.off<=1048576/\0<=x.size/\x.size<=4096:=by
 simp only[fe,cd,dj]at h;omega
theorem Zk(a g r n)(m4 m5 m6 m7 m8 m9)(l)(hl:l.length<=4294967296){b}(hb:b=true↔js a g r n l):AF [.i a,.i g,.i r,.i n,m4,m5,m6,m7,m8,m9,.r (l.map bw)]=some [.b b]:=by
 obtain⟨bs,uQ⟩:=dC (0<=a/\a<4/\1<=g/\g<=8/\0<=r/\r<4294967296);obtain⟨bv,uS⟩:=dC (VL l);refine bN ?_;refine bE (cI (¬((0<=a/\a<4/\1<=g/\g<=8/\0<=r/\r<4294967296)/\16<=n/\n<=524288/\VL l))) ?_ ?_
 .refine bu (UX a g r uQ) rfl rfl (uR ?_);refine bZ (λhx=>?_) (λhx=>?_)
  .exact a7 (cC λh=>by rw[uQ.2 h.1]at hx;cases hx)
  have hx:(!bs)=false:=hx;have Pw:=uQ.1 (by simpa using hx);refine uR ?_;refine bG rfl (λh1=>?_) (λh1=>?_)
  .exact a7 (cC λh=>by omega)
  refine uR ?_;refine bG rfl (λh2=>?_) (λh2=>?_)
  .exact a7 (cC λh=>by omega)
  refine bu (CV l hl uS) rfl rfl (uR ?_);refine a7 ⟨!bv,rfl,?_⟩;constructor
  .intro h k;rw[uS.2 k.2.2.2]at h;cases h
  .intro h
   cases hq:bv with
   |false=>rfl
   |true=>exact absurd ⟨Pw,om,om,uS.1 hq⟩ h
 rintro _ ⟨t,rfl,ht⟩;refine nW ?_;refine bZ (λhx=>?_) (λhx=>?_)
 .refine a7 ?_;show[L.b false]=[.b b]
  rw[ft hb λh=>ht.1 hx ⟨h.1,h.2.1,h.2.2.1,h.2.2.2.1⟩]
 have dm:=eM.1 λh=>by rw[ht.2 h]at hx;cases hx
 refine bE (λxs=>xs=[]/\b=true) ?_ ?_;rotate_left
 .rintro _ ⟨rfl,h⟩;refine nW ?_;refine a7 ?_;show[L.b true]=[.b b]
  rw[h]
 refine wp_loop (I:=λa=>∃i:Nat,a=[.i i]/\i<=l.length/\∀j,j<i->yF l n j) (mu:=λa=>match a with|[.i i]=>l.length-i.toNat|_=>0) ⟨0,rfl,om,λj hj=>by omega⟩ ?_;rintro a ⟨i,rfl,e1,e2⟩;refine uR ?_;refine bG rfl (λhc=>?_) (λhc=>?_);rotate_left
 .rw[bC]at hc;exact a7 ⟨rfl,hb.2 ⟨dm.1,dm.2.1,dm.2.2.1,dm.2.2.2,IT λj hj=>e2 j om⟩⟩
 rw[bC]at hc;have hi:i<l.length:=om;have h1:=Cn (dm.2.2.2.2 _ (cT hi));have h2:=yP l[i].size;refine bU (f:=bw) (j:=i) rfl rfl hi rfl (uR ?_);refine nW ?_;refine bU (f:=bw) (j:=i) rfl rfl hi rfl (uR ?_);refine nW ?_;refine bu (pH l[i].size) rfl rfl (nW ?_);refine c_ (n:=l[i].off+cJ l[i].size) (by rfl) om om (uR ?_);refine bG rfl (λhy=>?_) (λhy=>?_)
 .refine a7 ?_;show[L.b false]=[.b b]
  rw[ft hb λh=>by have:=h.2.2.2.2 _ (cT hi);omega]
 .refine cm (i:=i) rfl om (nW ?_);refine a7 ⟨⟨i+1,rfl,om,λj hj=>?_⟩,?_⟩
  .by_cases he:j=i
   .subst he;exactλ_=>om
   .exact e2 j om
  .show l.length- ((i+1:Nat):Int).toNat<l.length-i;omega
theorem amV(a g r n)(m4 m5 m6 m7 m8 m9)(l)(hl:l.length<=4294967296){b}(hb:b=true↔js a g r n l):Jg [.i a,.i g,.i r,.i n,m4,m5,m6,m7,m8,m9,.r (l.map bw)]=some [.b b]:=by
 obtain⟨bs,uQ⟩:=dC (0<=a/\a<4/\1<=g/\g<=8/\0<=r/\r<4294967296);obtain⟨bv,uS⟩:=dC (VL l);refine bN ?_;refine bE (cI (¬((0<=a/\a<4/\1<=g/\g<=8/\0<=r/\r<4294967296)/\16<=n/\n<=524288/\VL l))) ?_ ?_
 .refine bu (UX a g r uQ) rfl rfl (uR ?_);refine bZ (λhx=>?_) (λhx=>?_)
  .exact a7 (cC λh=>by rw[uQ.2 h.1]at hx;cases hx)
  have hx:(!bs)=false:=hx;have Pw:=uQ.1 (by simpa using hx);refine uR ?_;refine bG rfl (λh1=>?_) (λh1=>?_)
  .exact a7 (cC λh=>by omega)
  refine uR ?_;refine bG rfl (λh2=>?_) (λh2=>?_)
  .exact a7 (cC λh=>by omega)
  refine bu (CV l hl uS) rfl rfl (uR ?_);refine a7 ⟨!bv,rfl,?_⟩;constructor
  .intro h k;rw[uS.2 k.2.2.2]at h;cases h
  .intro h
   cases hq:bv with
   |false=>rfl
   |true=>exact absurd ⟨Pw,om,om,uS.1 hq⟩ h
 rintro _ ⟨t,rfl,ht⟩;refine nW ?_;refine bZ (λhx=>?_) (λhx=>?_)
 .refine a7 ?_;show[L.b false]=[.b b]
  rw[ft hb λh=>ht.1 hx ⟨h.1,h.2.1,h.2.2.1,h.2.2.2.1⟩]
 have dm:=eM.1 λh=>by rw[ht.2 h]at hx;cases hx
 refine bE (λxs=>xs=[]/\b=true) ?_ ?_;rotate_left
 .rintro _ ⟨rfl,h⟩;refine nW ?_;refine a7 ?_;show[L.b true]=[.b b]
  rw[h]
 refine wp_loop (I:=λa=>∃i:Nat,a=[.i i]/\i<=l.length/\∀j,j<i->yF l n j) (mu:=λa=>match a with|[.i i]=>l.length-i.toNat|_=>0) ⟨0,rfl,om,λj hj=>by omega⟩ ?_;rintro a ⟨i,rfl,e1,e2⟩;refine uR ?_;refine bG rfl (λhc=>?_) (λhc=>?_);rotate_left
 .rw[bC]at hc;exact a7 ⟨rfl,hb.2 ⟨dm.1,dm.2.1,dm.2.2.1,dm.2.2.2,IT λj hj=>e2 j om⟩⟩
 rw[bC]at hc;have hi:i<l.length:=om;have h1:=Cn (dm.2.2.2.2 _ (cT hi));have h2:=yP l[i].size;refine bU (f:=bw) (j:=i) rfl rfl hi rfl (nW ?_);refine eb (f:=bw) (j:=i) rfl rfl hi rfl rfl (nW ?_);refine bU (f:=bw) (j:=i) rfl rfl hi rfl (nW ?_);refine eb (f:=bw) (j:=i) rfl rfl hi rfl rfl (nW ?_);refine bu (pH l[i].size) rfl rfl (nW ?_);refine c_ (n:=l[i].off+cJ l[i].size) (by rfl) om om (uR ?_);refine bG rfl (λhy=>?_) (λhy=>?_)
 .refine a7 ?_;show[L.b false]=[.b b]
  rw[ft hb λh=>by have:=h.2.2.2.2 _ (cT hi);omega]
 .refine cm (i:=i) rfl om (nW ?_);refine a7 ⟨⟨i+1,rfl,om,λj hj=>?_⟩,?_⟩
  .by_cases he:j=i
   .subst he;exactλ_=>om
   .exact e2 j om
  .show l.length- ((i+1:Nat):Int).toNat<l.length-i;omega
theorem atA(x)(a:fe x=true){ls n}(c:ls.length=11)(d:ls[3]?=some (.i n)){b}(e:b=true↔n<x.off+cJ x.size):N9 ([.i x.key,.i x.cookie,.i x.off,.i x.size]++ls)=some [.b b]:=by
 match ls,c with
 |[g,h,i,j,l,m,o,p,q,r,f],_=>
  cases d;have s:=Cn a;have t:=yP x.size;refine bN ?_;refine bu (qQ x.size) rfl rfl (nW ?_);refine c_ (n:=x.off+cJ x.size) (by rfl) om om (uR ?_);refine a7 ?_;show[L.b (decide (n<x.off+cJ x.size))]=[.b b]
  have:decide (n<x.off+cJ x.size)=b:=by rw[hZ,dj,e]
  rw[this]
theorem art(l:List It)(hl:l.length<=4294967296)(hv:∀x∈l,fe x=true)(m0 m1 m2 m4 m5 m6 m7 m8 m9 m10)(n):∃r,HF [.r (l.map bw),m0,m1,m2,.i n,m4,m5,m6,m7,m8,m9,m10]=some [.i r]/\(0<=r↔¬∀x∈l,x.off+cJ x.size<=n):=by
 have run:a8.wp Us [.r (l.map bw),m0,m1,m2,.i n,m4,m5,m6,m7,m8,m9,m10] (dX λx=>∃r:Int,x=[.i r]/\(0<=r↔¬∀x∈l,x.off+cJ x.size<=n)):=by
  refine bE (λxs=>xs=[]/\∀x∈l,x.off+cJ x.size<=n) ?_ ?_;rotate_left
  .rintro _ ⟨rfl,h⟩;refine nW ?_;exact a7 ⟨-1,rfl,λh=>by omega,λh'=>absurd h h'⟩
  refine uR ?_;refine wp_loop (I:=λa=>∃i:Nat,a=[.i i]/\i<=l.length/\∀j,j<i->yF l n j) (mu:=λa=>match a with|[.i i]=>l.length-i.toNat|_=>0) ⟨0,rfl,om,λj hj=>by omega⟩ ?_;rintro a ⟨i,rfl,e1,e2⟩;refine uR ?_;refine bG rfl (λhc=>?_) (λhc=>?_);rotate_left
  .rw[bC]at hc;exact a7 ⟨rfl,IT λj hj=>e2 j om⟩
  rw[bC]at hc;have hi:i<l.length:=om;refine bU (f:=bw) (j:=i) rfl rfl hi rfl (uR ?_);obtain⟨c,hc1⟩:=dC (n<l[i].off+cJ l[i].size);refine bu (atA l[i] (hv _ (cT hi)) (ls:=[m0,m1,m2,.i n,m4,m5,m6,m7,m8,m9,m10]) rfl rfl hc1) rfl rfl (nW ?_);refine bZ (λhy=>?_) (λhy=>?_)
  .exact a7 ⟨i,rfl,λ_ h=>by have:=hc1.1 hy;have:=h _ (cT hi);omega,λ_=>by omega⟩
  .have hg:yF l n i:=λ_=>by
    have:¬n<l[i].off+cJ l[i].size:=λh=>by rw[hc1.2 h]at hy;cases hy
    omega
   refine cm (i:=i) rfl om (nW ?_);refine a7 ⟨⟨i+1,rfl,om,λj hj=>?_⟩,?_⟩
   .by_cases he:j=i
    .subst he;exact hg
    .exact e2 j om
   .show l.length- ((i+1:Nat):Int).toNat<l.length-i;omega
 obtain⟨o,h1,r,rfl,h2⟩:=gi run;exact⟨r,h1,h2⟩
theorem TY(a g r n)(o p s u v w)(l)(y:l.length<=4294967296){b}(z:b=true↔js a g r n l):Co [.i a,.i g,.i r,.i n,o,p,s,u,v,w,.r (l.map bw)]=some [.b b]:=by
 obtain⟨bs,e⟩:=dC (0<=a/\a<4/\1<=g/\g<=8/\0<=r/\r<4294967296);obtain⟨A,f⟩:=dC (VL l);refine bN ?_;refine bE (cI (¬((0<=a/\a<4/\1<=g/\g<=8/\0<=r/\r<4294967296)/\16<=n/\n<=524288/\VL l))) ?_ ?_
 .refine bu (aoN a g r e) rfl rfl (uR ?_);refine bZ (λc=>?_) (λc=>?_)
  .exact a7 (cC λh=>by rw[e.2 h.1]at c;cases c)
  have c:(!bs)=false:=c;have i:=e.1 (by simpa using c);refine uR ?_;refine bG rfl (λC=>?_) (λC=>?_)
  .exact a7 (cC λh=>by omega)
  refine uR ?_;refine bG rfl (λD=>?_) (λD=>?_)
  .exact a7 (cC λh=>by omega)
  refine bu (aan l y f) rfl rfl (uR ?_);refine a7 ⟨!A,rfl,?_⟩;constructor
  .intro h k;rw[f.2 k.2.2.2]at h;cases h
  .intro h
   cases x:A with
   |false=>rfl
   |true=>exact absurd ⟨i,om,om,f.1 x⟩ h
 rintro _ ⟨t,rfl,B⟩;refine nW ?_;refine bZ (λc=>?_) (λc=>?_)
 .refine a7 ?_;show[L.b false]=[.b b]
  rw[ft z λh=>B.1 c ⟨h.1,h.2.1,h.2.2.1,h.2.2.2.1⟩]
 have d:=eM.1 λh=>by rw[B.2 h]at c;cases c
 obtain⟨q,j,x⟩:=art l y d.2.2.2.2 (.i a) (.i g) (.i r) o p s u v w (.r (l.map bw)) n;have m:JG [.r (l.map bw),.i a,.i g,.i r,.i n,o,p,s,u,v,w,.r (l.map bw)]=some [.b (decide (0<=q))]:=by
  refine bN ?_;refine bu j rfl rfl (uR ?_);exact a7 rfl
 refine bu m rfl rfl (uR ?_);refine a7 ?_;show[L.b (!decide (0<=q))]=[.b b]
 have:(!decide (0<=q))=b:=by
  rw[hZ,z,o_,u6,x,eM];exact⟨λh=>⟨d.1,d.2.1,d.2.2.1,d.2.2.2,h⟩,λh=>h.2.2.2.2⟩
 rw[this]
end
section
open Go.RowKit Pl AI
open Classical
attribute [local irreducible] a8.wp
def mm(l:List Nat):fy:=strOfNums (l.map λn=>((n:Nat):Int))
theorem B8.sub{a b}(h:B8 b)(d:∀x∈a,x∈b):B8 a:=λx m=>h x (d x m)
theorem B8.take{a}(h:B8 a)(n):B8 (a.take n):=h.sub λ_ d=>iR d
theorem B8.drop{a}(h:B8 a)(n):B8 (a.drop n):=h.sub λ_ d=>pa d
theorem awx(c)(k):rM c k<256:=by
 unfold rM;omega
theorem wb(l):B8 (eC l):=λx a=>by
 simp only[eC,dn,iS,or_false]at a;rcases a with rfl|rfl|rfl|rfl<;>exact awx _ _
theorem ajh{a b}(f:B8 a)(g:B8 b):((mm a).toList==(mm b).toList)=true↔a=b:=by
 rw[beq_iff_eq,Lib.toList_data,Lib.toList_data];unfold mm;rw[strOfNums_data,strOfNums_data,h_,h_];constructor
 .intro h;have hlen:a.length=b.length:=by simpa using cO List.length h
  refine Ql hlen λi c d=>?_
  have e:=cO (·[i]?) h;simp only[cN,cW c,cW d,bS,iQ,Function.comp,fM]at e;have j:=f _ (cT c);have e2:=g _ (cT d);have:=cO UInt8.toNat e;simpa[UInt8.toNat_ofNat,GW j,GW e2]using this
 .intro h;rw[h]
section
variable{ρ:List L}{Q:Lf×List L->Prop}{k:a8}
theorem oI{x l}(a:(x.ev ρ).bm=l.map b1)(b:k.wp (ρ++[.s (mm l)]) Q):(a8.op (.str x) k).wp ρ Q:=kS (by
 show(lh (x.ev ρ).bm).map _=_;rw[a,atj];rfl) b
theorem xV{x y a b}(c:(x.ev ρ).du=mm a)(d:(y.ev ρ).du=mm b)(e:B8 a)(f:B8 b){t}(g:t=true↔a≠b)(h:k.wp (ρ++[.b t]) Q):(a8.op (.bs .neq x y) k).wp ρ Q:=ot (by
 show some (L.b (!((x.ev ρ).du.toList==(y.ev ρ).du.toList)))=_;rw[c,d];have:(!((mm a).toList==(mm b).toList))=t:=by
  rw[hZ,g,o_,<-Bool.not_eq_true];exact not_congr (ajh e f)
 rw[this]) h
theorem dA{x f g:At}{l:List Nat}{a c:Nat}(d:(x.ev ρ).bm=l.map b1)(e:(f.ev ρ).a_=a)(b:(g.ev ρ).a_=c)(i:a<=c)(j:c<=l.length)(h:k.wp (ρ++[.r (((l.take c).drop a).map b1)]) Q):(a8.op (.part x f g 1) k).wp ρ Q:=
 zn ⟨om,om,by rw[b,d,bC];omega,by rw[d];exact lO _⟩ (by rw[d,e,b,fM,fM,<-mW,<-nX]) h
theorem qi{x}{v:BitVec 64}(h:(x.ev ρ).a_=(v.toNat:Int))(a:k.wp (ρ++[.i v.toInt]) Q):(a8.op (.conv .i64 x) k).wp ρ Q:=pN (by rw[h,MQ,Av]) a
end
def vr(b:List Nat):It:=⟨((val (b.take 8)).toNat:Int),IntKind.wrap .u32 ((val ((b.take 12).drop 8)).toNat:Int),(val ((b.take 16).drop 12)).toInt,(val ((b.take 20).drop 16)).toInt⟩
def dec:Nat->List Nat->List It->List L
 |0,_,_=>[]
 |f+1,b,acc=>if b=[]then(if VL acc then[.i 0,.r (acc.map bw)]else[.i 3,.r []])else if b.length<24 then[.i 4,.r []]else if eC (b.take 20)≠(b.take 24).drop 20 then[.i 5,.r []]else dec f (b.drop 24) (acc++[vr b])
theorem jw(l:List It):cf 4 (l.map bw)=true:=by
 unfold cf;rw[cj];intro r a;obtain⟨n,_,rfl⟩:=eV.1 a;rfl
theorem awd(b:List Nat)(hb:B8 b)(hl:b.length<=4294967296):L0 [.r (b.map b1)]=some (dec (b.length+1) b []):=by
 obtain⟨o,ho⟩:∃o,dec (b.length+1) b []=o:=⟨_,rfl⟩
 rw[ho];refine bN ?_;refine bE (λxs=>∃acc:List It,xs=[.r (acc.map bw)]/\acc.length<=b.length/\o=if VL acc then[.i 0,.r (acc.map bw)]else[.i 3,.r []]) ?_ ?_;rotate_left
 .rintro _ ⟨acc,rfl,h1,h2⟩;refine nW ?_;obtain⟨c,hc⟩:=dC (VL acc);refine bu (auK acc om hc) rfl rfl (uR ?_);refine bZ (λhx=>?_) (λhx=>?_)
  .refine a7 ?_;show[L.i 3,L.r []]=o;rw[h2,bO λh=>by rw[hc.2 h]at hx;cases hx]
  .have hx:(!c)=false:=hx;refine a7 ?_;show[L.i 0,L.r (acc.map bw)]=o;rw[h2,bF (hc.1 (by simpa using hx))]
 refine wp_loop (I:=λa=>∃(cur:List Nat)(acc:List It)(f:Nat),a=[.r (cur.map b1),.r (acc.map bw)]/\B8 cur/\cur.length<f/\acc.length+cur.length<=b.length/\dec f cur acc=o) (mu:=λa=>match a with|[.r r,_]=>r.length|_=>0) ⟨b,[],b.length+1,rfl,hb,om,by simp,ho⟩ ?_;rintro a ⟨cur,acc,f,rfl,e1,e2,e3,e4⟩
 cases f with
 |zero=>omega
 |succ f=>
 rw[dec]at e4;refine uR ?_;refine bG rfl (λhc=>?_) (λhc=>?_);rotate_left
 .rw[bC]at hc;have hnil:cur=[]:=jX om;rw[bF hnil]at e4;exact a7 ⟨acc,rfl,om,e4.symm⟩
 rw[bO λh=>by rw[h]at hc;simp at hc]at e4;refine uR ?_;refine bG rfl (λhx=>?_) (λhx=>?_)
 .rw[bC]at hx;rw[bF om]at e4;refine a7 ?_;exact e4
 rw[bC]at hx;rw[bO om]at e4;refine uR ?_;refine dA (a:=0) (c:=20) rfl rfl rfl om om (nW ?_);refine bu (awc _ (by rw[iw,eA];omega)) rfl rfl (uR ?_);refine dA (a:=20) (c:=24) rfl rfl rfl om om (nW ?_);obtain⟨t,ht⟩:=dC (eC (cur.take 20)=(cur.take 24).drop 20);refine bu (Ic _ _ (wb _) ((e1.take _).drop _) (by show 4<=_;omega) ht) rfl rfl (uR ?_);refine bZ (λhy=>?_) (λhy=>?_)
 .rw[bF λh=>by rw[ht.2 h]at hy;cases hy]at e4;refine a7 ?_;exact e4
 have hy:(!t)=false:=hy;rw[bO (eM.2 (ht.1 (by simpa using hy)))]at e4;have hlen:∀a c,((cur.take c).drop a).length<=4294967296:=λa c=>by rw[iw,eA];omega
 refine uR ?_;refine dA (a:=0) (c:=8) rfl rfl rfl om om (nW ?_);refine bu (zm _ ((e1.take _).drop _) (hlen _ _)) rfl rfl (uR ?_);refine dA (a:=8) (c:=12) rfl rfl rfl om om (nW ?_);refine bu (zm _ ((e1.take _).drop _) (hlen _ _)) rfl rfl (nW ?_);refine jo (uR ?_);refine dA (a:=12) (c:=16) rfl rfl rfl om om (nW ?_);refine bu (zm _ ((e1.take _).drop _) (hlen _ _)) rfl rfl (nW ?_);refine qi rfl (uR ?_);refine dA (a:=16) (c:=20) rfl rfl rfl om om (nW ?_);refine bu (zm _ ((e1.take _).drop _) (hlen _ _)) rfl rfl (nW ?_);refine qi rfl (uR ?_);refine fa (r:=(acc++[vr cur]).map bw) (jw acc) rfl (by show(acc.map bw).length<=_;rw[bC];omega) (by show(1:Nat)<=_;omega) om (by rw[eB];rfl) (uR ?_);refine dA (a:=24) (c:=cur.length) rfl rfl (by show((cur.map b1).length:Int)=_;rw[bC]) om om ?_;rw[iT];refine nW ?_;refine a7 ⟨⟨cur.drop 24,acc++[vr cur],f,rfl,e1.drop _,by rw[iw];omega,by rw[ez,iw];simp only[sC];omega,e4⟩,?_⟩;show((cur.drop 24).map b1).length< (cur.map b1).length;rw[bC,bC,iw];omega
theorem aln(b)(hb:B8 b)(hl:b.length<=4294967296):Kz [.r (b.map b1)]=some (dec (b.length+1) b []):=by
 obtain⟨o,ho⟩:∃o,dec (b.length+1) b []=o:=⟨_,rfl⟩
 rw[ho];refine bN ?_;refine bE (λxs=>∃acc:List It,xs=[.r (acc.map bw)]/\acc.length<=b.length/\o=if VL acc then[.i 0,.r (acc.map bw)]else[.i 3,.r []]) ?_ ?_;rotate_left
 .rintro _ ⟨acc,rfl,h1,h2⟩;refine nW ?_;obtain⟨c,hc⟩:=dC (VL acc);refine bu (CV acc om hc) rfl rfl (uR ?_);refine bZ (λhx=>?_) (λhx=>?_)
  .refine a7 ?_;show[L.i 3,L.r []]=o;rw[h2,bO λh=>by rw[hc.2 h]at hx;cases hx]
  .have hx:(!c)=false:=hx;refine a7 ?_;show[L.i 0,L.r (acc.map bw)]=o;rw[h2,bF (hc.1 (by simpa using hx))]
 refine wp_loop (I:=λa=>∃(at':Nat)(acc:List It)(f:Nat),a=[.i at',.r (acc.map bw)]/\at'<=b.length/\b.length-at'<f/\acc.length<=at'/\dec f (b.drop at') acc=o) (mu:=λa=>match a with|[.i n,_]=>b.length-n.toNat|_=>0) ⟨0,[],b.length+1,rfl,om,om,by simp,ho⟩ ?_;rintro a ⟨p,acc,f,rfl,e0,e2,e3,e4⟩
 cases f with
 |zero=>omega
 |succ f=>
 rw[dec]at e4;have jW:(b.drop p).length=b.length-p:=iw;refine uR ?_;refine bG rfl (λhc=>?_) (λhc=>?_);rotate_left
 .rw[bC]at hc;have hnil:b.drop p=[]:=jX om;rw[bF hnil]at e4;exact a7 ⟨acc,rfl,om,e4.symm⟩
 rw[bC]at hc;rw[bO λh=>by rw[h]at jW;simp at jW;omega]at e4;refine uR ?_;refine dk (n:=((b.length-p:Nat):Int)) (by show((b.map b1).length:Int) -p=_;rw[bC];omega) om om (uR ?_);refine bG rfl (λhx=>?_) (λhx=>?_)
 .rw[bF om]at e4;refine a7 ?_;exact e4
 rw[bO om]at e4;refine c_ (n:=((p+24:Nat):Int)) (by rfl) om om (uR ?_);refine dA (a:=p) (c:=p+24) rfl rfl rfl om om ?_;have hs:(b.take (p+24)).drop p=(b.drop p).take 24:=by rw[List.drop_take];congr 1;omega
 rw[hs];have e1:B8 (b.drop p):=hb.drop _;have ayd:(b.drop p).drop 24=b.drop (p+24):=by rw[List.drop_drop]
 rw[ayd]at e4;generalize aAa:b.drop p=cur at jW e4 e1;have se:(cur.take 24).length=24:=by rw[eA];omega
 have fI:∀c,c<=24->(cur.take 24).take c=cur.take c:=λc h=>by rw[List.take_take,u7 h]
 refine uR ?_;refine dA (a:=0) (c:=20) rfl rfl rfl om om ?_;rw[fI 20 om];refine nW ?_;refine bu (II _ (by rw[iw,eA];omega)) rfl rfl (nW ?_);refine oI rfl (uR ?_);refine dA (a:=20) (c:=24) rfl rfl (by show(((cur.take 24).map b1).length:Int)=_;rw[bC,se]) om om ?_;rw[fI 24 om];refine nW ?_;refine oI rfl (nW ?_);obtain⟨t,ht⟩:=dC (eC (cur.take 20)≠(cur.take 24).drop 20);refine xV rfl rfl (wb _) ((e1.take _).drop _) ht (nW ?_);refine bZ (λhy=>?_) (λhy=>?_)
 .rw[bF (ht.1 hy)]at e4;refine a7 ?_;exact e4
 rw[bO λh=>by rw[ht.2 h]at hy;cases hy]at e4;have hlen:∀a c,((cur.take c).drop a).length<=4294967296:=λa c=>by rw[iw,eA];omega
 refine uR ?_;refine dA (a:=0) (c:=8) rfl rfl rfl om om ?_;rw[fI 8 om];refine nW ?_;refine bu (lM _ ((e1.take _).drop _) (hlen _ _)) rfl rfl (uR ?_);refine dA (a:=8) (c:=12) rfl rfl rfl om om ?_;rw[fI 12 om];refine nW ?_;refine bu (lM _ ((e1.take _).drop _) (hlen _ _)) rfl rfl (nW ?_);refine jo (uR ?_);refine dA (a:=12) (c:=16) rfl rfl rfl om om ?_;rw[fI 16 om];refine nW ?_;refine bu (lM _ ((e1.take _).drop _) (hlen _ _)) rfl rfl (nW ?_);refine qi rfl (uR ?_);refine dA (a:=16) (c:=20) rfl rfl rfl om om ?_;rw[fI 20 om];refine nW ?_;refine bu (lM _ ((e1.take _).drop _) (hlen _ _)) rfl rfl (nW ?_);refine qi rfl (uR ?_);refine fa (r:=(acc++[vr cur]).map bw) (jw acc) rfl (by show(acc.map bw).length<=_;rw[bC];omega) (by show(1:Nat)<=_;omega) om (by rw[eB];rfl) (nW ?_);refine c_ (n:=((p+24:Nat):Int)) (by rfl) om om (nW ?_);refine a7 ⟨⟨p+24,acc++[vr cur],f,rfl,om,om,by rw[ez];simp only[sC];omega,e4⟩,?_⟩;show b.length- ((p+24:Nat):Int).toNat<b.length-p;omega
end
section
open Go.RowKit
namespace AI
def a8.calls:a8->List (Nat×(List L->Option (List L)))
 |.br _=>[]
 |.op a k=>(match a with| .call t F _ _ _=>[(t,F)]|_=>[])++calls k
 |.ite _ x y=>calls x++calls y
 |.join x y=>calls x++calls y
 |.loop _ y=>calls y
def oj(tb:Nat->Option dO):List (Nat×(List L->Option (List L)))->Prop
 |[]=>True
 |(t,F)::r=>(∀s,tb t=some s->s.ok F)/\oj tb r
theorem oj.left{tb:Nat->Option dO}:∀{a b:List (Nat×(List L->Option (List L)))},oj tb (a++b)->oj tb a
 |[],_,_=>trivial
 |(_,_)::_,_,h=>⟨h.1,h.2.left⟩
theorem oj.right{tb:Nat->Option dO}:∀{a b:List (Nat×(List L->Option (List L)))},oj tb (a++b)->oj tb b
 |[],_,h=>h
 |(_,_)::a,_,h=>oj.right (a:=a) h.2
theorem rO{tb:Nat->Option dO}:∀{f:a8},oj tb (a8.calls f)->oR tb f
 |.br _,_=>trivial
 |.op b k,h=>by
  refine⟨?_,rO h.right⟩
  cases b with
  |call t F a n u=>exact h.left.1
  |_=>trivial
 |.ite _ _ _,h=>⟨rO h.left,rO h.right⟩
 |.join _ _,h=>⟨rO h.left,rO h.right⟩
 |.loop _ y,h=>rO (f:=y) h
theorem azu{tb:Nat->Option dO}{f:a8}{cs:List (Nat×(List L->Option (List L)))}(e:a8.calls f=cs)(h:oj tb cs):oR tb f:=rO (by rw[e];exact h)
theorem tbk{tb:Nat->Option dO}{t:Nat}{S:dO}{F:List L->Option (List L)}(e:tb t=some S)(h:S.ok F):∀s,tb t=some s->s.ok F:=λs a=>by
 rw[e]at a;cases a;exact h
theorem tbn{tb:Nat->Option dO}{t:Nat}{F:List L->Option (List L)}(e:tb t=none):∀s,tb t=some s->s.ok F:=λs a=>by
 rw[e]at a;cases a
def tbl(l:List (Nat×dO)):Nat->Option dO:=λt=>lk l t
def mx:Int:=9223372036854775807
def c0:List AC:=[.sl 262208 [.int .u8 0 255]]
def c1:List AC:=[.str 9,.sl 2097152 [.int .u8 0 255],.sl 0 []]
def c2:List AC:=[.int .i64 0 1048576,.sl 1048576 [.int .u8 0 255],.bool]
def c3:List AC:=[.int .u64 0 7,.int .u32 0 3,.bool,.sl 30 [.int .u8 0 255]]
def c4:List AC:=[.int .u64 0 7,.int .u32 0 3,.int .i64 16 1048576,.int .i64 0 30]
def c5:List AC:=[.str 9,.sl 2097152 [.int .u8 0 255],.sl 1 c2]
def c6:List AC:=[.int .u64 0 18446744073709551615,.int .u32 0 4294967295,.bool,.sl mx [.int .u8 0 255]]
def c7:List AC:=[.int .i64 1 1,.int .i64 0 0,.int .i64 1 1,.int .i64 16 16,.sl 0 [],.sl 0 [],.sl 0 [],.sl 0 [],.sl 0 [],.sl 0 [],.sl 0 [],.sl 0 [],.int .i64 0 0,.int .i64 0 0]
def c8:List AC:=[.int .i64 0 8,.int .i64 0 0,.int .i64 0 3,.int .i64 (-18446744073709551615) mx,.sl 8 c4,.sl 8 c4,.sl 8 c4,.sl 8 c4,.sl 8 c4,.sl 8 c4,.sl 8 c4,.sl 8 c4,.int .i64 (-18446744073709551615) mx,.int .i64 0 2199023255552]
def f(a b:Nat)(c:Int):Fa:=⟨a,b,c⟩
def g(i n:Nat)(c:List AC):List (Nat×Option (List AC)):=(List.range n).map λj=>(i+j,some c)
def b8:List AC:=[.int .u8 0 255]
def z(n:Nat):Fa:=⟨0,n,0⟩
def y(n:Nat)(c:Int):Fa:=⟨n,0,c⟩
def x(n:Nat)(c:Int):Fa:=⟨0,n,c⟩
def t0:iX:=⟨[],[],[],[]⟩
def t1(a:List Fa):iX:=⟨a,[],[],[]⟩
def t2(a:List Fa)(b:List (Nat×Option (List AC))):iX:=⟨a,b,[],[]⟩
def t3(a:List Fa)(b:List (Nat×Option (List AC)))(c:List (Nat×Bool)):iX:=⟨a,b,c,[]⟩
structure So where
 t:Nat
 F:List L->Option (List L)
 s:dO
 h:s.ok F
def So.look(t:Nat):List So->Option So
 |[]=>none
 |z::l=>cond (Nat.beq z.t t) (some z) (So.look t l)
def O2(E:List So)(t:Nat):Option dO:=(So.look t E).map So.s
theorem jT{s:dO}{x:a8}(e:List Nat)(E:List So)(f:jD)(h:FL (O2 E) x f s e=true)(b:a8.calls x=(a8.calls x).map λc=>(c.1,((So.look c.1 E).map So.F).getD c.2)):s.ok (Fo x):=by
 refine auq h (rO ?_);generalize a8.calls x=l at b
 induction l with
 |nil=>trivial
 |cons c l ih=>
  obtain⟨t,F⟩:=c;simp only[ct,GY,Prod.mk.injEq,true_and]at b;refine⟨λs a=>?_,ih b.2⟩;unfold O2 at a
  cases d:So.look t E with
  |none=>rw[d]at a;cases a
  |some z=>rw[d]at a;cases a;rw[b.1,d];exact z.h
theorem cQ{s:dO}{x:a8}(E:List So)(a:jD)(h:FL (O2 E) x a s []=true)(b:a8.calls x=(a8.calls x).map λc=>(c.1,((So.look c.1 E).map So.F).getD c.2)):s.ok (Fo x):=jT [] E a h b
end AI
namespace AI
def dw:List AC:=[.int .u8 0 255]
def B9:dO:=⟨2,1,{fs:=[⟨4,0,8⟩,⟨0,4,0⟩]},[{fs:=[⟨8,4,0⟩,⟨4,8,0⟩,⟨8,0,8⟩,⟨0,8,0⟩],rw:=[(2,some dw)]}]⟩
theorem WD(n):AC.rows dw [[.sc (.int .u8 (IntKind.wrap .u8 n))]]:=by
 intro r a;rw[fO.1 a];have:=QZ .u8 n;exact⟨⟨_,rfl,this.1,this.2⟩,trivial⟩
theorem vn{cs a b}(c:AC.rows cs a)(d:AC.rows cs b):AC.rows cs (a++b):=λr e=>by
 rcases fo.1 e with h|h
 .exact c r h
 .exact d r h
theorem Z7(q):cf 1 [[q]]=true:=rfl
theorem aof(l0 l1)(h0:0<=l1.a_)(h8:l1.a_<=8):∃o,EH [l0,l1]=some o/\∃rows,o=[.r rows]/\(rows.length:Int)=l1.a_/\AC.rows dw rows:=by
 have hw:=wrap64 (n:=l1.a_-1) om om;refine gi ?_;unfold YG;simp only[eZ,ek,Nd.ev,cw,At.ev,d6,d1,d2,d3,d4,d5,bS,hw];refine wp_loop (I:=λa=>∃(i:Int)(rows:List (List PV)),a=[.i i,.r rows]/\i=l1.a_-1-rows.length/\(rows.length:Int)<=l1.a_/\AC.rows dw rows) (mu:=λa=>match a with|[.i i,_]=>(i+1).toNat|_=>0) ⟨l1.a_-1,[],by simp only[At.ev,ct,dp,d3,d4,d5],by simp,by simpa using h0,λr hr=>by cases hr⟩ ?_;rintro a ⟨i,rows,rfl,e1,e2,e3⟩;by_cases hi:0<=i
 .have hm:=wrap64 (n:=8*i) om om;have hc:IntKind.wrap .u64 (8*i)=8*i:=rn .u64 (by simp[IntKind.min,IntKind.signed];omega) (by simp[IntKind.max,IntKind.signed,IntKind.bits];omega);have hs:=wrap64 (n:=i-1) om om;have h8i:(0:Int)<=8*i:=om;have hR:cf 1 rows=true:=AC.tR (cs:=dw) e3;have gz:rows.length+1<=9223372036854775807:=om;have hl2:(rows.length+1)<=140737488355328:=om;simp[eZ,dv,dq,Nd.ev,cw,At.ev,d6,d7,d8,ey,cH,Kd.pv,ct,dp,bS,hi,hm,hc,h8i,hR,gz,hl2,hs,Z7];refine⟨⟨_,_,⟨rfl,rfl⟩,by simp only[ez,sC];omega,by simp only[ez,sC];omega,vn e3 (WD _)⟩,om⟩
 .simp[eZ,dv,dq,Nd.ev,cw,At.ev,d6,d7,eh,ey,dX,ct,dp,bS,hi];exact⟨om,e3⟩
theorem aoG:B9.ok EH:=by
 intro ls c hp
 match ls,c with
 |[l0,l1],_=>
  have d:=hp.fs ⟨4,0,8⟩ (by simp[B9]);have e:=hp.fs ⟨0,4,0⟩ (by simp[B9]);simp[Fa.holds,cz]at d e;obtain⟨o,g,rows,rfl,i,h⟩:=aof l0 l1 om om;refine⟨_,g,rfl,_,fO.2 rfl,⟨λf b=>?_,λx a=>?_,λx a=>(by cases a),λx a=>(by cases a)⟩⟩
  .simp at b;rcases b with rfl|rfl|rfl|rfl<;>simp[Fa.holds,cz,qj]<;>omega
  .simp at a;subst a;exact h
def AR:So:=⟨42,EH,B9,aoG⟩
def qO:dO:=⟨4,1,{fs:=[⟨2,0,2097152⟩,⟨0,2,0⟩,⟨4,0,1048576⟩,⟨0,4,0⟩,⟨8,0,1048576⟩,⟨0,8,0⟩],rw:=[(0,some dw),(2,some dw)]},[{fs:=[⟨14,0,2097152⟩,⟨0,14,0⟩],rw:=[(4,some dw)]}]⟩
theorem CI{cs a}(h:AC.rows cs a)(n):AC.rows cs (a.take n):=λr b=>h r (iR b)
theorem aid{cs a}(h:AC.rows cs a)(n):AC.rows cs (a.drop n):=λr b=>h r (pa b)
theorem abo(l0 l1 l2 l3)(h0:l0.bm.length<=2097152)(h1:0<=l1.a_)(Gy:l1.a_<=1048576)(h2:l2.bm.length<=1048576)(r0:AC.rows dw l0.bm)(r2:AC.rows dw l2.bm):
 ∃o,qz [l0,l1,l2,l3]=some o/\∃rows,o=[.r rows]/\rows.length<=2097152/\AC.rows dw rows:=by
 have GA:cf 1 l0.bm=true:=AC.tR (cs:=dw) r0;have hR2:cf 1 l2.bm=true:=AC.tR (cs:=dw) r2;have hN:cf 1 []=true:=rfl;have a1:l0.bm.length<=9223372036854775807:=om;have a2:l0.bm.length<=140737488355328:=om;obtain⟨m,hm⟩:=Int.eq_ofNat_of_zero_le h1;refine gi ?_;unfold abz;by_cases hc:l3.ck=true
 .have hh:=lG GA;by_cases b1:m<l0.bm.length
  .have b2:m<=l0.bm.length:=om;simp[eZ,dv,dq,Nd.ev,At.ev,d6,d8,dX,ct,dp,hc,GA,hN,a1,a2,hh,hm,b1,b2];exact⟨om,CI r0 _⟩
  .simp[eZ,dv,dq,Nd.ev,At.ev,d6,d8,dX,ct,dp,hc,GA,hN,a1,a2,hh,hm,b1];exact⟨om,r0⟩
 .simp[eZ,dv,ek,Nd.ev,At.ev,d8,dp,hc,GA,hN,a1,a2];refine wp_loop (I:=λa=>∃(rows:List (List PV)),a=[.r rows]/\rows.length<=2097152/\AC.rows dw rows) (mu:=λa=>match a with|[.r rows]=>2097152-rows.length|_=>0) ⟨l0.bm,by simp only[At.ev,ct,dp,d3,d4,d5],h0,r0⟩ ?_;rintro a ⟨rows,rfl,e1,e2⟩;have hR:cf 1 rows=true:=AC.tR (cs:=dw) e2;have hh:=lG hR;by_cases hi:rows.length<m
  .have gz:rows.length+1<=9223372036854775807:=om;have hl2:(rows.length+1)<=140737488355328:=om;simp[eZ,dv,dq,Nd.ev,cw,At.ev,d6,d7,d8,ey,cH,Kd.pv,ct,dp,bS,hm,hi,hR,gz,hl2,Z7];exact⟨⟨om,vn e2 (WD 0)⟩,om⟩
  .have hw:=wrap64 (n:=(m:Int)+l2.bm.length) om om;have c2:m<=rows.length:=om;by_cases hj:(rows.length:Int)< (m:Int)+(l2.bm.length:Int)
   .have c3:cf 1 (rows.take m)=true:=AC.tR (CI e2 _);have c4:m+l2.bm.length<=9223372036854775807:=om;have c5:m+l2.bm.length<=140737488355328:=om;simp[eZ,dv,dq,Nd.ev,cw,At.ev,d6,d7,d8,eh,ey,dX,ct,dp,bS,hi,hw,hj,hh,hm,c2,c3,c4,c5,hR2];exact⟨om,vn (CI e2 _) r2⟩
   .have d2:((m:Int)+(l2.bm.length:Int)).toNat=m+l2.bm.length:=om;have d3:m+l2.bm.length<=rows.length:=om;have d1:(m:Int)<=(m:Int)+(l2.bm.length:Int):=om;simp[eZ,dv,dq,Nd.ev,cw,At.ev,d6,d7,d8,eh,ey,dX,ct,dp,bS,hi,hw,hj,hh,hm,d1,d2,d3,hR2];exact⟨om,vn (CI e2 _) (vn r2 (aid e2 _))⟩
theorem agU:qO.ok qz:=by
 intro ls c hp
 match ls,c with
 |[l0,l1,l2,l3],_=>
  have d:=hp.fs ⟨2,0,2097152⟩ (by simp[qO]);have e:=hp.fs ⟨4,0,1048576⟩ (by simp[qO]);have g:=hp.fs ⟨0,4,0⟩ (by simp[qO]);have h:=hp.fs ⟨8,0,1048576⟩ (by simp[qO]);have b1:=hp.rw (0,some dw) (by simp[qO]);have i:=hp.rw (2,some dw) (by simp[qO]);simp[Fa.holds,cz]at d e g h;obtain⟨o,j,rows,rfl,m,l⟩:=abo l0 l1 l2 l3 om om om om b1 i;refine⟨_,j,rfl,_,fO.2 rfl,⟨λf b=>?_,λx a=>?_,λx a=>(by cases a),λx a=>(by cases a)⟩⟩
  .simp at b;rcases b with rfl|rfl<;>simp[Fa.holds,cz,qj]<;>omega
  .simp at a;subst a;exact l
def Z33:So:=⟨33,qz,qO,agU⟩
end AI
namespace AI
def rb:List AC:=[.int .i64 (-9223372036854775808) 9223372036854775807,.sl 4194304 dw,.bool]
def Fb:List AC:=[.int .i64 0 1048576,.sl 1048576 dw,.bool]
def uo:dO:=⟨3,1,{fs:=[⟨3,0,9⟩,⟨5,0,4194304⟩,⟨8,0,1099511627776⟩],rw:=[(1,some dw),(2,some rb)]},[{bs:=[(3,true)],fs:=[⟨5,0,1048576⟩],rw:=[(2,some Fb)]},{bs:=[(3,false)]}]⟩
theorem Wc{α:Type}:∀{r:List α},r.length=3->∃a b c,r=[a,b,c]
 |[a,b,c],_=>⟨a,b,c,rfl⟩
theorem ajv(l0 l1 l2)(A':∃v,rq [l0]=some [v])(h1:l1.bm.length<=4194304)(h2:l2.bm.length<=1099511627776)(r1:AC.rows dw l1.bm)(r2:AC.rows rb l2.bm):
 ∃o,uj [l0,l1,l2]=some o/\∃b,o=[.b b]/\(b=true->l1.bm.length<=1048576/\AC.rows Fb l2.bm):=by
 obtain⟨v,A'⟩:=A';refine gi ?_;unfold US;by_cases hv:v.ck=true;rotate_left
 .simp[eZ,dv,dq,ek,Nd.ev,At.ev,d7,eh,dX,ct,dp,A',hv]
 by_cases hl:(1048576:Int)<l1.bm.length
 .simp[eZ,dv,dq,ek,Nd.ev,cw,At.ev,d6,d7,eh,dX,ct,dp,bS,A',hv,hl]
 simp[eZ,dv,dq,ek,Nd.ev,cw,At.ev,d6,d7,eh,ct,dp,bS,A',hv,hl];refine wp_loop (I:=λa=>∃(l:L)(i:Nat),a=[l,.i i]/\i<=l2.bm.length/\l.bm.length<=1048576/\AC.rows dw l.bm/\∀j r,j<i->l2.bm[j]?=some r->AC.dS Fb r) (mu:=λa=>match a with|[_,.i i]=>l2.bm.length-i.toNat|_=>0) (by exact⟨l1,0,rfl,om,om,r1,λj r hj=>by omega⟩) ?_;rintro a ⟨l,i,rfl,e1,e2,e3,e4⟩;by_cases hi:i<l2.bm.length;rotate_left
 .simp[eZ,dv,dq,Nd.ev,cw,At.ev,d6,d7,eh,ey,dX,ct,dp,bS,hi];refine⟨om,λr hr=>?_⟩;obtain⟨j,hj,rfl⟩:=iE hr;exact e4 j _ om (cW hj)
 have hg:l2.bm[i]?=some l2.bm[i]:=cW hi;have hr:=r2 _ (dB hg);generalize l2.bm[i]=r at hg hr;obtain⟨q0,q1,q2,rfl⟩:=Wc (AC.tV hr);obtain⟨⟨off,rfl,o1,o2⟩,⟨data,rfl,d1,d2⟩,⟨cut,rfl⟩,_⟩:=hr;have sf:l2.bm[i]=_:=pf ((cW hi).symm.trans hg)
 .by_cases c1:off<0
  .simp[eZ,dv,dq,ek,Nd.ev,cw,At.ev,d6,d7,d9,eh,ey,dX,ct,dp,bS,hi,sf,Kd.of,c1]
  by_cases c2:1048576<off
  .simp[eZ,dv,dq,ek,Nd.ev,cw,At.ev,d6,d7,d9,eh,ey,dX,ct,dp,bS,hi,sf,Kd.of,c1,c2]
  have good:data.length<=1048576->∃l':L,qz [l,.i off,.r data,.b cut]=some [l']/\l'.bm.length<=2097152/\AC.rows dw l'.bm:=λhd=>by
   obtain⟨o,k1,rows,rfl,k2,k3⟩:=abo l (.i off) (.r data) (.b cut) om (by simp only[o0];omega) (by simp only[o0];omega) (by simp only[qj];omega) e3 d2;exact⟨_,k1,k2,k3⟩
  have w:IntKind.wrap .i64 ((i:Int)+1)=(i:Int)+1:=wrap64 om om;have e4':data.length<=1048576->∀j r,j<i+1->l2.bm[j]?=some r->AC.dS Fb r:=λhd j r hj hr=>by
   by_cases kG:j=i
   .subst kG;rw[hg]at hr;cases hr;exact⟨⟨off,rfl,om,om⟩,⟨data,rfl,om,d2⟩,⟨cut,rfl⟩,trivial⟩
   .exact e4 j r om hr
  cases cut with
  |true=>
   by_cases c3:0<data.length
   .simp[eZ,dv,dq,ek,Nd.ev,cw,At.ev,d6,d7,d8,d9,eh,ey,dX,ct,dp,bS,hi,sf,Kd.of,c1,c2,c3]
   have c4:¬(1048576:Int)<data.length:=om;obtain⟨l',k1,k2,k3⟩:=good om;by_cases c5:(1048576:Int)<l'.bm.length
   .simp[eZ,dv,dq,ek,Nd.ev,cw,At.ev,d6,d7,d8,d9,eh,ey,dX,ct,dp,bS,hi,sf,Kd.of,c1,c2,c3,c4,k1,c5]
   .have e5:=e4' om;simp[eZ,dv,dq,ek,Nd.ev,cw,At.ev,d6,d7,d8,d9,eh,ey,ct,dp,bS,hi,sf,Kd.of,c1,c2,c3,c4,k1,c5,w];exact⟨⟨l',i+1,⟨rfl,om⟩,om,om,k3,e5⟩,om⟩
  |false=>
   by_cases c4:(1048576:Int)<data.length
   .simp[eZ,dv,dq,ek,Nd.ev,cw,At.ev,d6,d7,d8,d9,eh,ey,dX,ct,dp,bS,hi,sf,Kd.of,c1,c2,c4]
   obtain⟨l',k1,k2,k3⟩:=good om;by_cases c5:(1048576:Int)<l'.bm.length
   .simp[eZ,dv,dq,ek,Nd.ev,cw,At.ev,d6,d7,d8,d9,eh,ey,dX,ct,dp,bS,hi,sf,Kd.of,c1,c2,c4,k1,c5]
   .have e5:=e4' om;simp[eZ,dv,dq,ek,Nd.ev,cw,At.ev,d6,d7,d8,d9,eh,ey,ct,dp,bS,hi,sf,Kd.of,c1,c2,c4,k1,c5,w];exact⟨⟨l',i+1,⟨rfl,om⟩,om,om,k3,e5⟩,om⟩
end AI
end
section
open Go.RowKit Pl AI
open Classical
attribute [local irreducible] a8.wp
theorem Dj:∀{f}{c}{acc},c.length<f->(∃l,dec f c acc=[.i 0,.r (l.map bw)]/\VL l/\l.length<=acc.length+c.length)\/∃e,e≠0/\dec f c acc=[.i e,.r []]
 |0,_,_,h=>om
 |f+1,c,acc,h=>by
  rw[dec];split
  .split
   .exact .inl ⟨acc,rfl,by assumption,om⟩
   .exact .inr ⟨3,dc,rfl⟩
  .split
   .exact .inr ⟨4,dc,rfl⟩
   .split
    .exact .inr ⟨5,dc,rfl⟩
    .have g:(c.drop 24).length=c.length-24:=iw;rcases Dj (f:=f) (c:=c.drop 24) (acc:=acc++[vr c]) om with⟨l,a,d,b⟩|a
     .refine .inl ⟨l,a,d,?_⟩;rw[ez]at b;simp only[sC]at b;omega
     .exact .inr a
def ca(b:List Nat)(a c:Nat):List Nat:=(b.take c).drop a
theorem B8.cut{b}(h:B8 b)(a c):B8 (ca b a c):=(h.take c).drop a
theorem qR(b)(a c):(ca b a c).length<=b.length:=by unfold ca;rw[iw,eA];omega
def dL(b:List Nat)(k:Nat):Int:=IntKind.wrap .u32 ((val (ca b (20+4*k) (24+4*k))).toNat:Int)
theorem wrap32(v:BitVec 64):IntKind.wrap .u32 v.toInt=IntKind.wrap .u32 (v.toNat:Int):=by
 simp only[IntKind.wrap,IntKind.bits,IntKind.signed,BitVec.toInt_eq_toNat_bmod,Int.bmod];simp only[Bool.false_and,qp,if_false];split<;>omega
def gw(b:List Nat)(k i:Nat):Int:=if k<i then dL b k else 0
def oA(e:Int):List L:=[.i e,.i 0,.i 0,.i 0,.i 0,.i 0,.i 0,.i 0,.i 0,.i 0,.i 0,.r []]
def vK(b:List Nat):Int:=IntKind.wrap .i64 (52+IntKind.wrap .i64 (24*(val (ca b 44 48)).toInt))
def oC(b:List Nat):List L:=
 if b.length<52 then oA 4 else if ca b 0 4≠ [78,73,68,88]then oA 3 else if(b.length:Int)<vK b then oA 4 else if vK b<b.length then oA 3 else
 if eC (ca b 0 (b.length-4))≠ca b (b.length-4) b.length then oA 5 else
 match dec ((ca b 48 (b.length-4)).length+1) (ca b 48 (b.length-4)) []with
 |[.i e,.r rows]=>if e≠0 then oA e else if∃l:List It,rows=l.map bw/\js (val (ca b 4 6)).toInt (val (ca b 6 8)).toInt (val (ca b 8 12)).toInt (val (ca b 12 20)).toInt l then
  [.i 0,.i (val (ca b 4 6)).toInt,.i (val (ca b 6 8)).toInt,.i (val (ca b 8 12)).toInt,.i (val (ca b 12 20)).toInt,.i (dL b 0),.i (dL b 1),.i (dL b 2),.i (dL b 3),.i (dL b 4),.i (dL b 5),.r rows]else oA 3
 |_=>[]
theorem Yf:∀{l m:List It},l.map bw=m.map bw->l=m
 |[],[],_=>rfl
 |[],_::_,h=>by simp at h
 |_::_,[],h=>by simp at h
 |a::l,b::m,h=>by
  simp only[ct,GY]at h;rw[Yf h.2];have c:=h.1;obtain⟨d,e,f,g⟩:=a;obtain⟨rfl,rfl,rfl,rfl⟩:=c;rfl
theorem aap{a g r n l}:(∃m,l.map bw=m.map bw/\js a g r n m)↔js a g r n l:=⟨λ⟨m,b,c⟩=>by rw[Yf b];exact c,λh=>⟨l,rfl,h⟩⟩
theorem aqa(b)(hb:B8 b)(h52:52<=b.length)(hl:b.length<=4294967296):HT [.r (b.map b1)]=some [.i (val (ca b 4 6)).toInt,.i (val (ca b 6 8)).toInt,.i (val (ca b 8 12)).toInt,.i (val (ca b 12 20)).toInt,.i (dL b 0),.i (dL b 1),.i (dL b 2),.i (dL b 3),.i (dL b 4),.i (dL b 5)]:=by
 have hlen:∀a c,(ca b a c).length<=4294967296:=λa c=>by have:=qR b a c;omega
 refine bN ?_;refine uR ?_;refine dA (a:=4) (c:=6) rfl rfl rfl om om (nW ?_);refine bu (vq (ca b 4 6) (hb.cut _ _) (hlen _ _)) rfl rfl (uR ?_);refine dA (a:=6) (c:=8) rfl rfl rfl om om (nW ?_);refine bu (vq (ca b 6 8) (hb.cut _ _) (hlen _ _)) rfl rfl (uR ?_);refine dA (a:=8) (c:=12) rfl rfl rfl om om (nW ?_);refine bu (vq (ca b 8 12) (hb.cut _ _) (hlen _ _)) rfl rfl (uR ?_);refine dA (a:=12) (c:=20) rfl rfl rfl om om (nW ?_);refine bu (vq (ca b 12 20) (hb.cut _ _) (hlen _ _)) rfl rfl (nW ?_);refine bE (λxs=>xs=[.i (dL b 0),.i (dL b 1),.i (dL b 2),.i (dL b 3),.i (dL b 4),.i (dL b 5)]) ?_ ?_;rotate_left
 .rintro _ rfl;refine nW ?_;exact a7 rfl
 refine wp_loop (I:=λa=>∃i:Nat,a=[.i i,.i (gw b 0 i),.i (gw b 1 i),.i (gw b 2 i),.i (gw b 3 i),.i (gw b 4 i),.i (gw b 5 i)]/\i<=6) (mu:=λa=>match a with| .i i::_=>6-i.toNat|_=>0) ⟨0,rfl,om⟩ ?_;rintro a ⟨i,rfl,e1⟩;refine uR ?_;refine bG rfl (λhc=>?_) (λhc=>?_);rotate_left
 .obtain rfl:i=6:=om;exact a7 rfl
 refine bE (λxs=>xs=[.i i,.i (gw b 0 (i+1)),.i (gw b 1 (i+1)),.i (gw b 2 (i+1)),.i (gw b 3 (i+1)),.i (gw b 4 (i+1)),.i (gw b 5 (i+1))]) ?_ ?_;rotate_left
 .rintro _ rfl;refine nW ?_;refine cm (i:=i) rfl om (nW ?_);refine a7 ⟨⟨i+1,rfl,om⟩,?_⟩;show 6- ((i+1:Nat):Int).toNat<6-i;omega
 refine fZ (n:=((4*i:Nat):Int)) oO om om (nW ?_);refine c_ (n:=((20+4*i:Nat):Int)) oO om om (nW ?_);refine c_ (n:=((24+4*i:Nat):Int)) oO om om (uR ?_);refine dA (a:=20+4*i) (c:=24+4*i) rfl rfl rfl om om (nW ?_);refine bu (vq (ca b (20+4*i) (24+4*i)) (hb.cut _ _) (hlen _ _)) rfl rfl (nW ?_);refine pN (n:=dL b i) (wrap32 _) (nW ?_);have hi:i=0\/i=1\/i=2\/i=3\/i=4\/i=5:=om;rcases hi with rfl|rfl|rfl|rfl|rfl|rfl<;>
  (repeat (first| (refine fD rfl dc ?_)| (refine db rfl dc ?_)| (refine sT rfl ?_;try dsimp only[At.ev,d1,d2,d3,d4,d5,d6,d7,d8,d9,e0,List.map,cH,Kd.pv])))<;>exact a7 rfl
theorem ags(b)(m:B8 b)(C:b.length<=4294967296):Mh [.r (b.map b1)]=some (oC b):=by
 have hlen:∀a c,(ca b a c).length<=4294967296:=λa c=>by have:=qR b a c;omega
 obtain⟨o,d⟩:∃o,oC b=o:=⟨_,rfl⟩
 rw[d];unfold oC at d;refine bN ?_;refine uR ?_;refine bG rfl (λw=>?_) (λw=>?_)
 .rw[bC]at w;rw[bF om]at d;refine a7 ?_;exact d
 rw[bC]at w;rw[bO om]at d;refine uR ?_;refine dA (a:=0) (c:=4) rfl rfl rfl om om (nW ?_);refine oI rfl (nW ?_);obtain⟨t,x⟩:=dC (ca b 0 4≠ [78,73,68,88]);refine xV (a:=ca b 0 4) (b:=[78,73,68,88]) rfl (by rfl) (m.cut _ _) (by unfold B8;decide) x (nW ?_);refine bZ (λr=>?_) (λr=>?_)
 .rw[bF (x.1 r)]at d;refine a7 ?_;exact d
 rw[bO λh=>by rw[x.2 h]at r;cases r]at d;refine uR ?_;refine dA (a:=44) (c:=48) rfl rfl rfl om om (nW ?_);refine bu (vq (ca b 44 48) (m.cut _ _) (hlen _ _)) rfl rfl (nW ?_);refine cP (l:=.i (IntKind.wrap .i64 (24*(val (ca b 44 48)).toInt))) rfl (nW ?_);refine cP (l:=.i (vK b)) rfl (uR ?_);refine dk (n:=((b.length-4:Nat):Int)) (by show((b.map b1).length:Int) -4=_;rw[bC];omega) om om (uR ?_);refine bG rfl (λp=>?_) (λp=>?_)
 .rw[bC]at p;rw[bF p]at d;refine a7 ?_;exact d
 rw[bC]at p;rw[bO p]at d;refine uR ?_;refine bG rfl (λq=>?_) (λq=>?_)
 .rw[bC]at q;rw[bF q]at d;refine a7 ?_;exact d
 rw[bC]at q;rw[bO q]at d;refine uR ?_;refine dA (a:=0) (c:=b.length-4) rfl rfl rfl om om (nW ?_);refine bu (QK (ca b 0 (b.length-4)) (hlen _ _)) rfl rfl (uR ?_);refine dA (a:=b.length-4) (c:=b.length) rfl rfl (by show((b.map b1).length:Int)=_;rw[bC]) om om (nW ?_);obtain⟨u,y⟩:=dC (eC (ca b 0 (b.length-4))=ca b (b.length-4) b.length);refine bu (Ic _ (ca b (b.length-4) b.length) (wb _) (m.cut _ _) (by show 4<=_;omega) y) rfl rfl (uR ?_);refine bZ (λi=>?_) (λi=>?_)
 .rw[bF λh=>by rw[y.2 h]at i;cases i]at d;refine a7 ?_;exact d
 have i:(!u)=false:=i;rw[bO (eM.2 (y.1 (by simpa using i)))]at d;refine uR ?_;refine dA (a:=48) (c:=b.length-4) rfl rfl rfl om om (nW ?_);have s:=awd (ca b 48 (b.length-4)) (m.cut _ _) (hlen _ _);have D:=qR b 48 (b.length-4);rcases Dj (f:=(ca b 48 (b.length-4)).length+1) (c:=ca b 48 (b.length-4)) (acc:=[]) om with⟨l,g,E,z⟩| ⟨e,B,g⟩
 .rw[g]at s d;simp only[ne_eq,not_true_eq_false,if_false]at d;rw[aap]at d;refine bu s rfl rfl (uR ?_);refine db rfl dc ?_;refine bu (aqa b m om C) rfl rfl (nW ?_);obtain⟨v,A⟩:=dC (js (val (ca b 4 6)).toInt (val (ca b 6 8)).toInt (val (ca b 8 12)).toInt (val (ca b 12 20)).toInt l);refine bu (TY _ _ _ _ (.i (dL b 0)) (.i (dL b 1)) (.i (dL b 2)) (.i (dL b 3)) (.i (dL b 4)) (.i (dL b 5)) l (by simp only[su]at z;omega) A) rfl rfl (uR ?_);refine bZ (λj=>?_) (λj=>?_)
  .rw[bO λh=>by rw[A.2 h]at j;cases j]at d;refine a7 ?_;exact d
  .have j:(!v)=false:=j;rw[bF (A.1 (by simpa using j))]at d;refine a7 ?_;exact d
 .rw[g]at s d;simp only[ne_eq,B,not_false_eq_true,if_true]at d;refine bu s rfl rfl (uR ?_);refine fD rfl B ?_;refine a7 ?_;exact d
theorem aoZ(b)(hb:B8 b)(hl:b.length<=4294967296):HB [.r (b.map b1)]=some (oC b):=by
 have hlen:∀a c,(ca b a c).length<=4294967296:=λa c=>by have:=qR b a c;omega
 obtain⟨o,ho⟩:∃o,oC b=o:=⟨_,rfl⟩
 rw[ho];unfold oC at ho;refine bN ?_;refine uR ?_;refine bG rfl (λh1=>?_) (λh1=>?_)
 .rw[bC]at h1;rw[bF om]at ho;refine a7 ?_;exact ho
 rw[bC]at h1;rw[bO om]at ho;refine uR ?_;refine dA (a:=0) (c:=4) rfl rfl rfl om om (nW ?_);refine oI rfl (nW ?_);obtain⟨t,ht⟩:=dC (ca b 0 4≠ [78,73,68,88]);refine xV (a:=ca b 0 4) (b:=[78,73,68,88]) rfl (by rfl) (hb.cut _ _) (by unfold B8;decide) ht (nW ?_);refine bZ (λh2=>?_) (λh2=>?_)
 .rw[bF (ht.1 h2)]at ho;refine a7 ?_;exact ho
 rw[bO λh=>by rw[ht.2 h]at h2;cases h2]at ho;refine uR ?_;refine dA (a:=44) (c:=48) rfl rfl rfl om om (nW ?_);refine bu (lM (ca b 44 48) (hb.cut _ _) (hlen _ _)) rfl rfl (nW ?_);refine qi rfl (nW ?_);refine cP (l:=.i (IntKind.wrap .i64 (24*(val (ca b 44 48)).toInt))) rfl (nW ?_);refine cP (l:=.i (vK b)) rfl (uR ?_);refine bG rfl (λh3=>?_) (λh3=>?_)
 .rw[bC]at h3;rw[bF h3]at ho;refine a7 ?_;exact ho
 rw[bC]at h3;rw[bO h3]at ho;refine uR ?_;refine bG rfl (λh4=>?_) (λh4=>?_)
 .rw[bC]at h4;rw[bF h4]at ho;refine a7 ?_;exact ho
 rw[bC]at h4;rw[bO h4]at ho;refine dk (n:=((b.length-4:Nat):Int)) (by show((b.map b1).length:Int) -4=_;rw[bC];omega) om om (uR ?_);refine dA (a:=0) (c:=b.length-4) rfl rfl rfl om om (nW ?_);refine bu (II (ca b 0 (b.length-4)) (hlen _ _)) rfl rfl (nW ?_);refine oI rfl (nW ?_);refine dk (n:=((b.length-4:Nat):Int)) (by show((b.map b1).length:Int) -4=_;rw[bC];omega) om om (uR ?_);refine dA (a:=b.length-4) (c:=b.length) rfl rfl (by show((b.map b1).length:Int)=_;rw[bC]) om om (nW ?_);refine oI rfl (nW ?_);obtain⟨u,hu⟩:=dC (eC (ca b 0 (b.length-4))≠ca b (b.length-4) b.length);refine xV (a:=eC (ca b 0 (b.length-4))) (b:=ca b (b.length-4) b.length) rfl rfl (wb _) (hb.cut _ _) hu (nW ?_);refine bZ (λh5=>?_) (λh5=>?_)
 .rw[bF (hu.1 h5)]at ho;refine a7 ?_;exact ho
 rw[bO λh=>by rw[hu.2 h]at h5;cases h5]at ho;refine dk (n:=((b.length-4:Nat):Int)) (by show((b.map b1).length:Int) -4=_;rw[bC];omega) om om (uR ?_);refine dA (a:=48) (c:=b.length-4) rfl rfl rfl om om (nW ?_);have hd:=aln (ca b 48 (b.length-4)) (hb.cut _ _) (hlen _ _);have jW:=qR b 48 (b.length-4);rcases Dj (f:=(ca b 48 (b.length-4)).length+1) (c:=ca b 48 (b.length-4)) (acc:=[]) om with⟨l,gz,hl2,Gv⟩| ⟨e,he,gz⟩
 rotate_left
 .rw[gz]at hd ho;simp only[ne_eq,he,not_false_eq_true,if_true]at ho;refine bu hd rfl rfl (uR ?_);refine fD rfl he ?_;refine a7 ?_;exact ho
 rw[gz]at hd ho;simp only[ne_eq,not_true_eq_false,if_false]at ho;rw[aap]at ho;refine bu hd rfl rfl (uR ?_);refine db rfl dc (uR ?_);refine dA (a:=4) (c:=6) rfl rfl rfl om om (nW ?_);refine bu (lM (ca b 4 6) (hb.cut _ _) (hlen _ _)) rfl rfl (nW ?_);refine qi rfl (uR ?_);refine dA (a:=6) (c:=8) rfl rfl rfl om om (nW ?_);refine bu (lM (ca b 6 8) (hb.cut _ _) (hlen _ _)) rfl rfl (nW ?_);refine qi rfl (uR ?_);refine dA (a:=8) (c:=12) rfl rfl rfl om om (nW ?_);refine bu (lM (ca b 8 12) (hb.cut _ _) (hlen _ _)) rfl rfl (nW ?_);refine qi rfl (uR ?_);refine dA (a:=12) (c:=20) rfl rfl rfl om om (nW ?_);refine bu (lM (ca b 12 20) (hb.cut _ _) (hlen _ _)) rfl rfl (nW ?_);refine qi rfl (nW ?_);refine bE (λxs=>xs=[.i (dL b 0),.i (dL b 1),.i (dL b 2),.i (dL b 3),.i (dL b 4),.i (dL b 5)]) ?_ ?_;rotate_left
 .rintro _ rfl;refine nW ?_;obtain⟨v,hv⟩:=dC (js (val (ca b 4 6)).toInt (val (ca b 6 8)).toInt (val (ca b 8 12)).toInt (val (ca b 12 20)).toInt l);refine bu (amV _ _ _ _ (.i (dL b 0)) (.i (dL b 1)) (.i (dL b 2)) (.i (dL b 3)) (.i (dL b 4)) (.i (dL b 5)) l (by simp only[su]at Gv;omega) hv) rfl rfl (uR ?_);refine bZ (λh6=>?_) (λh6=>?_)
  .rw[bO λh=>by rw[hv.2 h]at h6;cases h6]at ho;refine a7 ?_;exact ho
  .have h6:(!v)=false:=h6;rw[bF (hv.1 (by simpa using h6))]at ho;refine a7 ?_;exact ho
 refine wp_loop (I:=λa=>∃i:Nat,a=[.i i,.i (gw b 0 i),.i (gw b 1 i),.i (gw b 2 i),.i (gw b 3 i),.i (gw b 4 i),.i (gw b 5 i)]/\i<=6) (mu:=λa=>match a with| .i i::_=>6-i.toNat|_=>0) ⟨0,rfl,om⟩ ?_;rintro a ⟨i,rfl,e1⟩;refine uR ?_;refine bG rfl (λhc=>?_) (λhc=>?_);rotate_left
 .obtain rfl:i=6:=om;exact a7 rfl
 refine bE (λxs=>xs=[.i i,.i (gw b 0 (i+1)),.i (gw b 1 (i+1)),.i (gw b 2 (i+1)),.i (gw b 3 (i+1)),.i (gw b 4 (i+1)),.i (gw b 5 (i+1))]) ?_ ?_;rotate_left
 .rintro _ rfl;refine nW ?_;refine cm (i:=i) rfl om (nW ?_);refine a7 ⟨⟨i+1,rfl,om⟩,?_⟩;show 6- ((i+1:Nat):Int).toNat<6-i;omega
 refine fZ (n:=((4*i:Nat):Int)) oO om om (nW ?_);refine c_ (n:=((20+4*i:Nat):Int)) oO om om (nW ?_);refine fZ (n:=((4*i:Nat):Int)) oO om om (nW ?_);refine c_ (n:=((24+4*i:Nat):Int)) oO om om (uR ?_);refine dA (a:=20+4*i) (c:=24+4*i) rfl rfl rfl om om (nW ?_);refine bu (lM (ca b (20+4*i) (24+4*i)) (hb.cut _ _) (hlen _ _)) rfl rfl (nW ?_);refine pN (n:=dL b i) rfl (nW ?_);have hi:i=0\/i=1\/i=2\/i=3\/i=4\/i=5:=om;rcases hi with rfl|rfl|rfl|rfl|rfl|rfl<;>
  (repeat (first| (refine fD rfl dc ?_)| (refine db rfl dc ?_)| (refine sT rfl ?_;try dsimp only[At.ev,d1,d2,d3,d4,d5,d6,d7,d8,d9,e0,List.map,cH,Kd.pv])))<;>exact a7 rfl
def vR(e:Int):List L:=[.i 0,.i e,.i 0,.i 0,.b false,.r []]
def kV(b:List Nat):Nat:=(val (ca b 16 20)).toNat
def pT(b:List Nat):Prop:=b.getD 0 0≠78\/b.getD 1 0≠165\/1<b.getD 2 0\/b.getD 3 0≠0\/4096<kV b\/(b.getD 2 0=1/\0<kV b)
def eu(n:Nat):Nat:=(n+31) /8*8
def tS(b:List Nat):Prop:=∀i,kV b+24<=i->i<eu (kV b)->b.getD i 0=0
def mK(b:List Nat):List L:=
 if b.length<20 then vR 4 else if pT b then vR 3 else if b.length<eu (kV b)then vR 4 else
 if eC (ca b 0 (kV b+20))≠ca b (kV b+20) (kV b+24)then vR 5 else if¬tS b then vR 3 else
 [.i (eu (kV b)),.i 0,.i ((val (ca b 8 16)).toNat:Int),.i (IntKind.wrap .u32 ((val (ca b 4 8)).toNat:Int)),.b (decide (b.getD 2 0=1)),.r ((ca b 20 (kV b+20)).map b1)]
theorem VM{n:Nat}(h:n<=4096):cJ (n:Int)=((eu n:Nat):Int):=by unfold cJ eu;omega
theorem getD_at{b:List Nat}{i}(h):b[i]=b.getD i 0:=by rw[sE,cW h];rfl
theorem att{b a c j}(h):(ca b a c)[j]=b.getD (a+j) 0:=by
 have d:(ca b a c).length=min c b.length-a:=by unfold ca;rw[iw,eA]
 rw[<-getD_at (show a+j<b.length by omega)];simp only[ca,List.getElem_drop,List.getElem_take]
theorem FC{b a c}(h:c<=b.length):(ca b a c).length=c-a:=by unfold ca;rw[iw,eA,u7 h]
theorem lb{ρ Q k}{b:List Nat}{x i:At}{j:Nat}(c:(x.ev ρ).bm=b.map b1)(d:(i.ev ρ).a_=j)(a:j<b.length)(e:k.wp (ρ++[.c (b1 (b.getD j 0))]) Q):(a8.op (.row x i 1) k).wp ρ Q:=
 bU (f:=b1) (j:=j) c d a rfl (by rw[getD_at a];exact e)
theorem abD(b)(hb:B8 b)(hl:b.length<=4294967296):BW [.r (b.map b1)]=some (mK b):=by
 have hlen:∀a c,(ca b a c).length<=4294967296:=λa c=>by have:=qR b a c;omega
 obtain⟨o,ho⟩:∃o,mK b=o:=⟨_,rfl⟩
 rw[ho];unfold mK at ho;refine bN ?_;refine uR ?_;refine bG rfl (λh1=>?_) (λh1=>?_)
 .rw[bC]at h1;rw[bF om]at ho;refine a7 ?_;exact ho
 rw[bC]at h1;rw[bO om]at ho;refine uR ?_;refine dA (a:=16) (c:=20) rfl rfl rfl om om (nW ?_);refine bu (L3 (ca b 16 20) (hb.cut _ _) (hlen _ _)) rfl rfl ?_;show a8.wp _ (_++[L.i ((kV b:Nat):Int)]) _;obtain⟨n,hn⟩:∃n,kV b=n:=⟨_,rfl⟩
 have fW:pT b↔b.getD 0 0≠78\/b.getD 1 0≠165\/1<b.getD 2 0\/b.getD 3 0≠0\/4096<n\/(b.getD 2 0=1/\0<n):=by unfold pT;rw[hn]
 have Ba:tS b↔∀i,n+24<=i->i<eu n->b.getD i 0=0:=by unfold tS;rw[hn]
 rw[hn]at ho⊢;refine nW ?_;refine bE (cI (pT b)) ?_ ?_
 .refine lb (j:=0) rfl rfl om (uR ?_);refine bG rfl (λc0=>?_) (λc0=>?_)
  .exact a7 (cC (by rw[fW];omega))
  refine lb (j:=1) rfl rfl om (uR ?_);refine bG rfl (λc1=>?_) (λc1=>?_)
  .exact a7 (cC (by rw[fW];omega))
  refine lb (j:=2) rfl rfl om (uR ?_);refine bG rfl (λc2=>?_) (λc2=>?_)
  .exact a7 (cC (by rw[fW];omega))
  refine lb (j:=3) rfl rfl om (uR ?_);refine bG rfl (λc3=>?_) (λc3=>?_)
  .exact a7 (cC (by rw[fW];omega))
  refine uR ?_;refine bG rfl (λc4=>?_) (λc4=>?_)
  .exact a7 (cC (by rw[fW];omega))
  refine lb (j:=2) rfl rfl om (uR ?_);refine bG rfl (λc5=>?_) (λc5=>?_)
  .refine uR ?_;exact a7 (d' (show(0:Int)< (n:Int)↔_ by rw[fW];omega))
  .exact a7 (d_ (by rw[fW];omega))
 rintro _ ⟨t,rfl,ht⟩;refine nW ?_;refine bZ (λh2=>?_) (λh2=>?_)
 .rw[bF (ht.1 h2)]at ho;refine a7 ?_;exact ho
 have dm:¬pT b:=λh=>by rw[ht.2 h]at h2;cases h2
 rw[bO dm]at ho;have Px:n<=4096:=by rw[fW]at dm;omega
 have gn:n+24<=eu n/\eu n<=n+31:=by unfold eu;omega
 refine od (n:=(n:Int)) rfl om om (nW ?_);refine bu (qQ (n:Int)) rfl rfl ?_;rw[VM Px];refine nW ?_;refine od (n:=(n:Int)) rfl om om (nW ?_);refine c_ (n:=((n+20:Nat):Int)) oO om om (uR ?_);refine bG rfl (λh3=>?_) (λh3=>?_)
 .rw[bC]at h3;rw[bF om]at ho;refine a7 ?_;exact ho
 rw[bC]at h3;rw[bO om]at ho;refine uR ?_;refine dA (a:=0) (c:=n+20) rfl rfl rfl om om (nW ?_);refine bu (Tx (ca b 0 (n+20)) (hlen _ _)) rfl rfl (nW ?_);have ql:=auN (ca b 0 (n+20));refine qe (n:=gj (ca b 0 (n+20))) rfl om om (nW ?_);refine bu (afj (ca b 0 (n+20))) rfl rfl (nW ?_);refine c_ (n:=((n+24:Nat):Int)) oO om om (uR ?_);refine dA (a:=n+20) (c:=n+24) rfl rfl rfl om om (nW ?_);obtain⟨u,hu⟩:=dC (eC (ca b 0 (n+20))=ca b (n+20) (n+24));refine bu (Ic _ (ca b (n+20) (n+24)) (wb _) (hb.cut _ _) (by show 4<=_;omega) hu) rfl rfl (uR ?_);refine bZ (λh5=>?_) (λh5=>?_)
 .rw[bF (λh=>by rw[hu.2 h]at h5;cases h5)]at ho;refine a7 ?_;exact ho
 have h5:(!u)=false:=h5;rw[bO (eM.2 (hu.1 (by simpa using h5)))]at ho;refine bE (λxs=>xs=[]/\tS b) ?_ ?_
 .refine c_ (n:=((n+24:Nat):Int)) oO om om (uR ?_);refine dA (a:=n+24) (c:=eu n) rfl rfl rfl om om ?_;show a8.wp _ (_++[L.r ((ca b (n+24) (eu n)).map b1)]) _;have se:=FC (b:=b) (a:=n+24) (c:=eu n) om;have hsa:=λj h=>att (b:=b) (a:=n+24) (c:=eu n) (j:=j) h
  generalize ca b (n+24) (eu n)=s at se hsa;refine uR ?_;refine wp_loop (I:=λa=>∃i:Nat,a=[.i i]/\i<=s.length/\∀j,j<i->b.getD (n+24+j) 0=0) (mu:=λa=>match a with|[.i i]=>s.length-i.toNat|_=>0) ⟨0,rfl,om,λj hj=>by omega⟩ ?_;rintro a ⟨i,rfl,e1,e2⟩;refine uR ?_;refine bG rfl (λhc=>?_) (λhc=>?_);rotate_left
  .rw[bC]at hc;exact a7 ⟨rfl,Ba.2 λi h1 h2=>by have:=e2 (i- (n+24)) om;rwa [show n+24+(i- (n+24))=i by omega]at this⟩
  rw[bC]at hc;have hi:i<s.length:=om;refine lb (j:=i) rfl rfl hi ?_;rw[<-getD_at hi,hsa i hi];refine uR ?_;refine bG rfl (λhx=>?_) (λhx=>?_)
  .rw[bF λh=>hx (by rw[Ba.1 h _ om om];rfl)]at ho;refine a7 ?_;exact ho
  .refine cm (i:=i) rfl om (nW ?_);refine a7 ⟨⟨i+1,rfl,om,λj hj=>?_⟩,?_⟩
   .by_cases he:j=i
    .subst he;omega
    .exact e2 j om
   .show s.length- ((i+1:Nat):Int).toNat<s.length-i;omega
 rintro _ ⟨rfl,hz⟩;rw[bO (eM.2 hz)]at ho;refine uR ?_;refine dA (a:=8) (c:=16) rfl rfl rfl om om (nW ?_);refine bu (L3 (ca b 8 16) (hb.cut _ _) (hlen _ _)) rfl rfl (uR ?_);refine dA (a:=4) (c:=8) rfl rfl rfl om om (nW ?_);refine bu (L3 (ca b 4 8) (hb.cut _ _) (hlen _ _)) rfl rfl (nW ?_);refine jo (nW ?_);refine lb (j:=2) rfl rfl om (uR ?_);refine dA (a:=20) (c:=n+20) rfl rfl rfl om om (nW ?_);refine bu (l:=[]) (show qH [.r ((ca b 20 (n+20)).map b1)]=_ from bF ⟨lO _,by rw[bC];have:=hlen 20 (n+20);omega⟩) rfl rfl (nW ?_);refine a7 ?_;rw[<-ho];show[L.i _,L.i 0,L.i _,L.i _,L.b (decide (((b.getD 2 0:Nat):Int)=1)),L.r _]=_;rw[show decide (((b.getD 2 0:Nat):Int)=1)=decide (b.getD 2 0=1)by rw[decide_eq_decide];omega]
 try rfl
theorem UD(b)(hb:B8 b)(hl:b.length<=4294967296):CU [.r (b.map b1)]=some (mK b):=by
 have hlen:∀a c,(ca b a c).length<=4294967296:=λa c=>by have:=qR b a c;omega
 obtain⟨o,ho⟩:∃o,mK b=o:=⟨_,rfl⟩
 rw[ho];unfold mK at ho;refine bN ?_;refine uR ?_;refine bG rfl (λh1=>?_) (λh1=>?_)
 .rw[bC]at h1;rw[bF om]at ho;refine a7 ?_;exact ho
 rw[bC]at h1;rw[bO om]at ho;refine uR ?_;refine dA (a:=16) (c:=20) rfl rfl rfl om om (nW ?_);refine bu (lM (ca b 16 20) (hb.cut _ _) (hlen _ _)) rfl rfl ?_;show a8.wp _ (_++[L.i ((kV b:Nat):Int)]) _;obtain⟨n,hn⟩:∃n,kV b=n:=⟨_,rfl⟩
 have fW:pT b↔b.getD 0 0≠78\/b.getD 1 0≠165\/1<b.getD 2 0\/b.getD 3 0≠0\/4096<n\/(b.getD 2 0=1/\0<n):=by unfold pT;rw[hn]
 have Ba:tS b↔∀i,n+24<=i->i<eu n->b.getD i 0=0:=by unfold tS;rw[hn]
 rw[hn]at ho⊢;refine nW ?_;refine bE (cI (pT b)) ?_ ?_
 .refine lb (j:=0) rfl rfl om (uR ?_);refine bG rfl (λc0=>?_) (λc0=>?_)
  .exact a7 (cC (by rw[fW];omega))
  refine lb (j:=1) rfl rfl om (uR ?_);refine bG rfl (λc1=>?_) (λc1=>?_)
  .exact a7 (cC (by rw[fW];omega))
  refine lb (j:=2) rfl rfl om (uR ?_);refine bG rfl (λc2=>?_) (λc2=>?_)
  .exact a7 (cC (by rw[fW];omega))
  refine lb (j:=3) rfl rfl om (uR ?_);refine bG rfl (λc3=>?_) (λc3=>?_)
  .exact a7 (cC (by rw[fW];omega))
  refine uR ?_;refine bG rfl (λc4=>?_) (λc4=>?_)
  .exact a7 (cC (by rw[fW];omega))
  refine lb (j:=2) rfl rfl om (uR ?_);refine bG rfl (λc5=>?_) (λc5=>?_)
  .refine uR ?_;exact a7 (d' (show(0:Int)< (n:Int)↔_ by rw[fW];omega))
  .exact a7 (d_ (by rw[fW];omega))
 rintro _ ⟨t,rfl,ht⟩;refine nW ?_;refine bZ (λh2=>?_) (λh2=>?_)
 .rw[bF (ht.1 h2)]at ho;refine a7 ?_;exact ho
 have dm:¬pT b:=λh=>by rw[ht.2 h]at h2;cases h2
 rw[bO dm]at ho;have Px:n<=4096:=by rw[fW]at dm;omega
 have gn:n+24<=eu n/\eu n<=n+31:=by unfold eu;omega
 refine od (n:=(n:Int)) rfl om om (nW ?_);refine bu (pH (n:Int)) rfl rfl ?_;rw[VM Px];refine nW ?_;refine od (n:=(n:Int)) rfl om om (nW ?_);refine c_ (n:=((n+20:Nat):Int)) oO om om (uR ?_);refine bG rfl (λh3=>?_) (λh3=>?_)
 .rw[bC]at h3;rw[bF om]at ho;refine a7 ?_;exact ho
 rw[bC]at h3;rw[bO om]at ho;refine uR ?_;refine dA (a:=0) (c:=n+20) rfl rfl rfl om om (nW ?_);refine bu (II (ca b 0 (n+20)) (hlen _ _)) rfl rfl (nW ?_);refine oI rfl (nW ?_);refine c_ (n:=((n+24:Nat):Int)) oO om om (uR ?_);refine dA (a:=n+20) (c:=n+24) rfl rfl rfl om om (nW ?_);refine oI rfl (nW ?_);obtain⟨u,hu⟩:=dC (eC (ca b 0 (n+20))≠ca b (n+20) (n+24));refine xV (a:=eC (ca b 0 (n+20))) (b:=ca b (n+20) (n+24)) rfl rfl (wb _) (hb.cut _ _) hu (nW ?_);refine bZ (λh5=>?_) (λh5=>?_)
 .rw[bF (hu.1 h5)]at ho;refine a7 ?_;exact ho
 rw[bO λh=>by rw[hu.2 h]at h5;cases h5]at ho;refine bE (λxs=>xs=[]/\tS b) ?_ ?_
 .refine c_ (n:=((n+24:Nat):Int)) oO om om (nW ?_);refine wp_loop (I:=λa=>∃i:Nat,a=[.i i]/\n+24<=i/\i<=eu n/\∀j,n+24<=j->j<i->b.getD j 0=0) (mu:=λa=>match a with|[.i i]=>eu n-i.toNat|_=>0) ⟨n+24,rfl,om,om,λj h1 h2=>by omega⟩ ?_;rintro a ⟨i,rfl,e0,e1,e2⟩;refine uR ?_;refine bG rfl (λhc=>?_) (λhc=>?_);rotate_left
  .exact a7 ⟨rfl,Ba.2 λi h1 h2=>e2 i h1 om⟩
  have hi:i<b.length:=om;refine lb (j:=i) rfl rfl hi (uR ?_);refine bG rfl (λhx=>?_) (λhx=>?_)
  .rw[bF λh=>hx (by rw[Ba.1 h _ om om];rfl)]at ho;refine a7 ?_;exact ho
  .refine cm (i:=i) rfl om (nW ?_);refine a7 ⟨⟨i+1,rfl,om,om,λj h1 hj=>?_⟩,?_⟩
   .by_cases he:j=i
    .subst he;omega
    .exact e2 j h1 om
   .show eu n- ((i+1:Nat):Int).toNat<eu n-i;omega
 rintro _ ⟨rfl,hz⟩;rw[bO (eM.2 hz)]at ho;refine uR ?_;refine dA (a:=8) (c:=16) rfl rfl rfl om om (nW ?_);refine bu (lM (ca b 8 16) (hb.cut _ _) (hlen _ _)) rfl rfl (uR ?_);refine dA (a:=4) (c:=8) rfl rfl rfl om om (nW ?_);refine bu (lM (ca b 4 8) (hb.cut _ _) (hlen _ _)) rfl rfl (nW ?_);refine jo (nW ?_);refine lb (j:=2) rfl rfl om (uR ?_);refine dA (a:=20) (c:=n+20) rfl rfl rfl om om (nW ?_);refine fa (r:=(ca b 20 (n+20)).map b1) rfl (lO _) oO (by show((ca b 20 (n+20)).map b1).length<=_;rw[bC];have:=hlen 20 (n+20);omega) om rfl (nW ?_);refine a7 ?_;rw[<-ho];show[L.i _,L.i 0,L.i _,L.i _,L.b (decide (((b.getD 2 0:Nat):Int)=1)),L.r _]=_;rw[show decide (((b.getD 2 0:Nat):Int)=1)=decide (b.getD 2 0=1)by rw[decide_eq_decide];omega]
 try rfl
end
end
end Go.Proofs.YtndegphojkiblaaGreatDoor
