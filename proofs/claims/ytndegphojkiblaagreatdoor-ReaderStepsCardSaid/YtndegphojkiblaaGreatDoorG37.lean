/- A part. -/
import Derived.Test.YtndegphojkiblaaGreatDoorG12
import Derived.Test.YtndegphojkiblaaGreatDoorG13
import Derived.Test.YtndegphojkiblaaGreatDoorG25
import Derived.Test.YtndegphojkiblaaGreatDoorG36
set_option linter.all false
set_option maxHeartbeats 4000000
set_option maxRecDepth 100000
namespace Go.Proofs.YtndegphojkiblaaGreatDoor
noncomputable section
section
open Go.RowKit AI
attribute [local irreducible] a8.wp
theorem aqx{s:fy}{i}(h:i<s.size):∃b,s[i]?=some b:=⟨s[i],getElem?_pos s i h⟩
theorem abC{s:fy}{i b}(h:s[i]?=some b):i<s.size:=by
 rcases qs i s.size with a|a
 .exact a
 .rw[getElem?_neg s i (by simpa using a)]at h;cases h
theorem XM(s)(hs:s.size<=4611686018427387904){b}(hb:b=true↔ic s):rq [.s s]=some [.b b]:=by
 refine bN ?_;refine Dt ?_;refine wp_loop (I:=λa=>∃i:Nat,a=[.i i]/\i<=s.size/\∀(j:Nat)(c:UInt8),j<i->s[j]?=some c->kO c.toNat) (mu:=λa=>match a with|[.i i]=>s.size-i.toNat|_=>0) ⟨0,rfl,om,λj c hj=>by omega⟩ ?_;rintro a ⟨i,rfl,e1,e2⟩;refine nW ?_;refine AQ (uR ?_);refine bZ (λhc=>?_) (λhc=>?_)
 .have hi:i<s.size:=by have:(i:Int)<s.size:=dZ hc;omega
  obtain⟨c,hcc⟩:=aqx hi;refine avW (b:=c) oO (by exact hcc) (nW ?_);refine bE (cI (¬kO c.toNat)) ?_ ?_
  .repeat' first
    |(refine bG rfl (λhx=>?_) (λhx=>?_))
    |(refine uT rfl ?_)
   all_goals
    refine a7 ?_;show cI (¬kO c.toNat) _
    try dsimp only[At.ev,d1,d2,d3,d4,d5,d6,d7,d8,d9,e0,List.map,cH,Kd.pv]
    first
     |exact px (P:=¬kO c.toNat) (by unfold kO;omega)
     |exact d' (P:=¬kO c.toNat) (by unfold kO;omega)
     |exact d_ (P:=¬kO c.toNat) (by unfold kO;omega)
  .rintro _ ⟨t,rfl,ht⟩;refine nW ?_;refine bZ (λhn=>?_) (λhn=>?_)
   .have fW:=ht.1 hn;refine a7 ?_;show[L.b false]=[.b b]
    rw[ft hb λh=>fW (h.1 i c hcc)]
   .have ayC:kO c.toNat:=eM.1 λh=>by
     have:=ht.2 h;rw[show t=false from hn]at this;cases this
    refine cm (i:=i) rfl om (nW ?_);refine a7 ⟨⟨i+1,?_,om,λj d hj hd=>?_⟩,?_⟩
    .rfl
    .by_cases he:j=i
     .subst he;rw[hcc]at hd;cases hd;exact ayC
     .exact e2 j d om hd
    .show s.size- (((i+1:Nat):Int)).toNat<s.size-i;omega
 .have hi:¬i<s.size:=by have:¬(i:Int)<s.size:=eR hc;omega
  refine a7 ?_;refine bE (cI (ic s)) ?_ ?_
  .refine AQ (uR ?_);have hall:∀(j:Nat)(c:UInt8),s[j]?=some c->kO c.toNat:=λj c hj=>e2 j c (by have:=abC hj;omega) hj
   refine bZ (λhx=>?_) (λhx=>?_)
   .have hx:(1:Int)<=s.size:=dZ hx;refine AQ (uR ?_);refine a7 ?_;exact d' (show((s.size:Int)<=40)↔ic s from⟨λh=>⟨hall,om,om⟩,λh=>by have:=h.2.2;omega⟩)
   .have hx:¬(1:Int)<=s.size:=eR hx;refine a7 (d_ λh=>hx (by have:=h.2.1;omega))
  .rintro _ ⟨t,rfl,ht⟩;refine nW ?_;refine a7 ?_;show[L.b t]=[.b b]
   rw[hZ.2 (ht.trans hb.symm)]
theorem Ls{α:Type}{p}:∀{l:List α},(∀x∈l.dropWhile p,p x=true)->∀x∈l,p x=true
 |[],_,x,b=>by cases b
 |a::l,h,x,b=>by
  rw[List.dropWhile_cons]at h;split at h
  .rename_i c;rcases dn.1 b with rfl|b
   .exact c
   .exact Ls h x b
  .rename_i c;exact absurd (h a eJ) c
theorem SK{α:Type}{p}:∀{l:List α},(∀x∈l,p x=true)->l.dropWhile p=[]
 |[],_=>rfl
 |a::l,h=>by
  rw[List.dropWhile_cons,bF (h a eJ)];exact SK λx b=>h x (fp _ b)
theorem aud(l cs):Lib.trimS l cs=[]↔∀x∈l,cs.contains x=true:=by
 unfold Lib.trimS Lib.trimLeftS Lib.trimRightS;constructor
 .intro h x b;have c:∀y∈(l.reverse.dropWhile (cs.contains ·)).reverse,cs.contains y=true:=Ls λy a=>by rw[h]at a;cases a
  exact Ls (l:=l.reverse) (λy a=>c y (adp.2 a)) x (adp.2 b)
 .intro h;rw[show l.reverse.dropWhile (cs.contains ·)=[]from SK λx b=>h x (adp.1 b)];rfl
def E6:List UInt8:=[97,98,99,100,101,102,103,104,105,106,107,108,109,110,111,112,113,114,115,116,117,118,119,120,121,122,48,49,50,51,52,53,54,55,56,57,46,45]
theorem adG:∀n:Nat,n<256->(E6.contains (UInt8.ofNat n)=true↔((97<=n/\n<=122)\/(48<=n/\n<=57)\/n=46\/n=45)):=by decide
theorem chars(s:fy)(i:Nat):s[i]?=s.data.toList[i]?:=by
 have a:s.data.toList.length=s.size:=P5;rcases qs i s.size with h|h
 .rw[getElem?_pos s i h,cW om];simp[ByteArray.getElem_eq_getElem_data]
 .rw[getElem?_neg s i (by simpa using h),adl om]
theorem C9(s)(o:s.size<=4611686018427387904){b}(m:b=true↔ic s):Eo [.s s]=some [.b b]:=by
 have g:s.data.toList.length=s.size:=P5;have hall:(∀x∈s.data.toList,E6.contains x=true)↔∀(i:Nat)(c:UInt8),s[i]?=some c->kO c.toNat:=by
  have k:∀x:UInt8,E6.contains x=true↔kO x.toNat:=λx=>by
   have:=adG x.toNat x.toNat_lt
   rwa [UInt8.ofNat_toNat]at this
  constructor
  .exact λh i c j=>(k c).1 (h c (dB ((chars s i).symm.trans j)))
  .intro h x a;obtain⟨i,j⟩:=List.mem_iff_getElem?.1 a;exact(k x).2 (h i x ((chars s i).trans j))
 have e:∀l:List UInt8,((⟨l.toArray⟩:fy).toList==(⟨#[]⟩:fy).toList)=true↔l=[]:=λl=>by
  rw[beq_iff_eq,Lib.toList_data,Lib.toList_data]
 refine bN ?_;refine bE (cI (ic s)) ?_ ?_
 .refine ot rfl (nW ?_);have f:((s.toList==(⟨#[]⟩:fy).toList)=true)↔s.size=0:=by
   rw[beq_iff_eq,Lib.toList_data,Lib.toList_data,<-g];exact⟨λh=>by rw[h];rfl,λh=>jX h⟩
  refine bZ (λa=>?_) (λa=>?_)
  .have p:1<=s.size:=by
    rcases Nat.eq_zero_or_pos s.size with h|h
    .rw[f.2 h]at a;cases a
    .exact h
   refine AQ (uR ?_);refine bZ (λd=>?_) (λd=>?_)
   .have d:(s.size:Int)<=40:=dZ d;refine bu (l:=[.s ⟨(Lib.trimS s.data.toList E6).toArray⟩]) ?_ rfl rfl ?_
    .exact bF ⟨om,dc,dc⟩
    refine nW ?_;refine ot rfl (nW ?_);refine a7 ⟨_,rfl,?_⟩;rw[e,aud,hall];exact⟨λh=>⟨h,om,om⟩,λh=>h.1⟩
   .have d:¬(s.size:Int)<=40:=eR d;exact a7 (d_ λh=>d (by have:=h.2.2;omega))
  .exact a7 (d_ λh=>by
    have a:(!(s.toList==(⟨#[]⟩:fy).toList))=false:=a;rw[Bool.not_eq_false']at a;have:=f.1 a;have:=h.2.1;omega)
 .rintro _ ⟨t,rfl,n⟩;refine nW ?_;refine a7 ?_;show[L.b t]=[.b b]
  rw[hZ.2 (n.trans m.symm)]
theorem Z2{b a k}(h)(c:¬(okW a[k]/\(dG b (a.take (k+1))).length<=1048576)):¬okF b a:=λd=>c (pV.1 d.2 k h h)
theorem auY{b w}(h:okW w)(e:1048576<w.data.length):1048576< (gD b w).length:=by
 obtain⟨a,f,c⟩:=h;have d:¬w.cut=true:=λh=>c ⟨h,om⟩
 have:=KI (b:=b) a;unfold qZ at this;rw[bO d]at this;omega
theorem YA{f}(hf:we f)(hs:f.name.size<=4611686018427387904){b}(hb:b=true↔ic f.name/\okF f.base f.bT):uj [.s f.name,.r f.base,.r (f.bT.map eX)]=some [.b b]:=by
 obtain⟨hr,hl,hp,hw⟩:=hf;obtain⟨bn,uY⟩:=dC (ic f.name);refine bN ?_;refine bE (cI (¬(ic f.name/\f.base.length<=1048576))) ?_ ?_
 .refine bu (XM f.name hs uY) rfl rfl (uR ?_);refine bZ (λhx=>?_) (λhx=>?_)
  .exact a7 (cC λh=>by rw[uY.2 h.1]at hx;cases hx)
  .have hx:(!bn)=false:=hx;have hn:ic f.name:=uY.1 (by simpa using hx);refine uR ?_;exact a7 (d' (show(1048576:Int)<f.base.length↔_ from⟨λh1 h2=>by omega,λh=>lu λh1=>h ⟨hn,om⟩⟩))
 rintro _ ⟨t,rfl,ht⟩;refine nW ?_;refine bZ (λhx=>?_) (λhx=>?_)
 .refine a7 ?_;show[L.b false]=[.b b]
  rw[ft hb λh=>ht.1 hx ⟨h.1,h.2.1⟩]
 have hbase:ic f.name/\f.base.length<=1048576:=eM.1 λh=>by rw[ht.2 h]at hx;cases hx
 refine bE (λxs=>xs=[]/\b=true) ?_ ?_;rotate_left
 .rintro _ ⟨rfl,h⟩;refine nW ?_;refine a7 ?_;show[L.b true]=[.b b]
  rw[h]
 refine wp_loop (I:=λa=>∃i:Nat,a=[.r (dG f.base (f.bT.take i)),.i i]/\i<=f.bT.length/\uq f.base f.bT i) (mu:=λa=>match a with|[_,.i i]=>f.bT.length-i.toNat|_=>0) ⟨0,rfl,om,R6⟩ ?_;rintro a ⟨i,rfl,e1,e2⟩;have o9:=pL hbase.2 e2 e1;have ql:cf 1 (dG f.base (f.bT.take i))=true:=tM hr λw hx=>hw w (iR hx)
 refine uR ?_;refine bZ (λhc=>?_) (λhc=>?_);rotate_left
 .have hi:i=f.bT.length:=by
   have:¬(i:Int)< (f.bT.map eX).length:=eR hc;rw[bC]at this;omega
  refine a7 ⟨rfl,hb.2 ⟨hbase.1,hbase.2,pV.2 (by rw[<-hi];exact e2)⟩⟩
 have hi:i<f.bT.length:=by
  have:(i:Int)< (f.bT.map eX).length:=dZ hc;rw[bC]at this;omega
 have nQ:=hw _ (cT hi);have hno:=Z2 (b:=f.base) hi;have hstep:=Ww hi e2;refine bU (f:=eX) (j:=i) rfl rfl hi rfl ?_;rw[tK hi]at hno hstep;have e7:=tK (b:=f.base) hi;generalize f.bT[i]=w at nQ hno hstep e7;generalize hg:dG f.base (f.bT.take i)=g at o9 ql hno hstep e7;refine uR ?_;refine bE (cI (¬okW w\/1048576<w.data.length)) ?_ ?_
 .refine uR ?_;refine bZ (λhy=>?_) (λhy=>?_)
  .have hy:w.off<0:=dZ hy;exact a7 (cC (.inl λh=>by have:=h.1;omega))
  have hy:¬w.off<0:=eR hy;refine uR ?_;refine bZ (λhz=>?_) (λhz=>?_)
  .have hz:1048576<w.off:=dZ hz;exact a7 (cC (.inl λh=>by have:=h.2.1;omega))
  have hz:¬1048576<w.off:=eR hz;refine bZ (λhu=>?_) (λhu=>?_)
  .refine uR ?_;refine bZ (λhv=>?_) (λhv=>?_)
   .have hv:(0:Int)<w.data.length:=dZ hv;exact a7 (cC (.inl λh=>h.2.2 ⟨hu,om⟩))
   .have hv:¬(0:Int)<w.data.length:=eR hv;refine uR ?_;exact a7 (d' (show(1048576:Int)<w.data.length↔_ from⟨λh=>by omega,λh=>by
     rcases h with h|h
     .exact absurd ⟨om,om,λk=>by omega⟩ h
     .omega⟩))
  .have hu:¬w.cut=true:=by rw[show w.cut=false from hu];decide
   refine uR ?_;exact a7 (d' (show(1048576:Int)<w.data.length↔_ from⟨λh=>.inr om,λh=>by
    rcases h with h|h
    .exact absurd ⟨om,om,λk=>hu k.1⟩ h
    .omega⟩))
 rintro _ ⟨u,rfl,hu⟩;refine nW ?_;refine bZ (λhy=>?_) (λhy=>?_)
 .refine a7 ?_;show[L.b false]=[.b b]
  rw [ft hb λh=>hno (λk=>by
   rcases hu.1 hy with q|q
   .exact q k.1
   .have:=auY (b:=g) k.1 q;omega) h.2]
 have hy:¬(¬okW w\/1048576<w.data.length):=λh=>by rw[hu.2 h]at hy;cases hy
 have dm:okW w:=eM.1 λh=>hy (.inl h)
 refine bu (Uu ql nQ dm.1 dm.2.1 om) rfl rfl (uR ?_);refine bZ (λhz=>?_) (λhz=>?_)
 .have hz:(1048576:Int)< (gD g w).length:=dZ hz;refine a7 ?_;show[L.b false]=[.b b]
  rw[ft hb λh=>hno (λk=>by omega) h.2]
 .have hz:¬(1048576:Int)< (gD g w).length:=eR hz;refine cm (i:=i) rfl om (nW ?_);refine a7 ⟨⟨i+1,?_,om,hstep dm om⟩,?_⟩
  .show[L.r _,L.i (((i+1:Nat):Int))]=_;rw[e7]
  .show f.bT.length- (((i+1:Nat):Int)).toNat<f.bT.length-i;omega
theorem ajr:ic ⟨#[120]⟩:=by
 refine⟨λi b h=>?_,dc,dc⟩;have:=abC h;obtain rfl:i=0:=by
  have:i<1:=this;omega
 cases h;exact .inl dc
theorem Y9{f}(hf:we f){s}:(okF f.base f.bT->oK [.s s,.r f.base,.r (f.bT.map eX)]=some [.r (dG f.base f.bT)])/\(¬okF f.base f.bT->oK [.s s,.r f.base,.r (f.bT.map eX)]=some [.r []]):=by
 obtain⟨b,hb⟩:=dC (ic ⟨#[120]⟩/\okF f.base f.bT);have hv:=YA (f:=⟨⟨#[120]⟩,f.base,f.bT⟩) hf (by show ByteArray.size ⟨#[120]⟩<=4611686018427387904;decide) hb;constructor
 .intro ho;refine bN ?_;refine bu hv rfl rfl (nW ?_);rw[hb.2 ⟨ajr,ho⟩];refine uR ?_;refine cZ rfl ?_;obtain⟨hr,hl,hp,hw⟩:=hf;have hk:=pV.1 ho.2;refine bE (λxs=>xs=[.r (dG f.base f.bT)]) ?_ ?_
  .refine wp_loop (I:=λa=>∃i:Nat,a=[.r (dG f.base (f.bT.take i)),.i i]/\i<=f.bT.length) (mu:=λa=>match a with|[_,.i i]=>f.bT.length-i.toNat|_=>0) ⟨0,rfl,om⟩ ?_;rintro a ⟨i,rfl,e1⟩;have o9:=pL ho.1 (k:=i) (λj hj h=>hk j hj om) e1;have ql:cf 1 (dG f.base (f.bT.take i))=true:=tM hr λw hx=>hw w (iR hx)
   refine uR ?_;refine bZ (λhc=>?_) (λhc=>?_)
   .have hi:i<f.bT.length:=by
     have:(i:Int)< (f.bT.map eX).length:=dZ hc;rw[bC]at this;omega
    have nQ:=hw _ (cT hi);have dm:=(hk i hi hi).1;refine bU (f:=eX) (j:=i) rfl rfl hi rfl ?_;have e7:=tK (b:=f.base) hi;refine uR ?_;refine bu (Uu ql nQ dm.1 dm.2.1 om) rfl rfl (nW ?_);refine cm (i:=i) rfl om (nW ?_);refine a7 ⟨⟨i+1,?_,om⟩,?_⟩
    .show[L.r _,L.i (((i+1:Nat):Int))]=_;rw[e7]
    .show f.bT.length- (((i+1:Nat):Int)).toNat<f.bT.length-i;omega
   .have hi:i=f.bT.length:=by
     have:¬(i:Int)< (f.bT.map eX).length:=eR hc;rw[bC]at this;omega
    refine a7 ?_;show[L.r (dG f.base (f.bT.take i))]=_;rw[hi,iT]
  .rintro _ rfl;have o9:=pL ho.1 hk (dx _);rw[iT]at o9;have ql:cf 1 (dG f.base f.bT)=true:=tM hr hw;refine uR ?_;refine fa rfl ql oO oO om rfl (nW ?_);exact a7 rfl
 .intro ho;refine bN ?_;refine bu hv rfl rfl (nW ?_);rw[ft hb λh=>ho h.2];refine uR ?_;refine eL rfl ?_;exact a7 rfl
def w_(d:Dk)(i:Nat):Prop:=∀h:i<d.files.length,(ic d.files[i].name/\okF d.files[i].base d.files[i].bT)/\∀a:0<i,rY d.files[i].name (d.files[i-1]'om).name=false
theorem agA{d}(hd:oZ d){b}(hb:b=true↔ov d):De [.i d.cap,.i d.left,.r (d.files.map ch)]=some [.b b]:=by
 refine bN ?_;refine bE (cI (¬(0<=d.cap∧-1<=d.left/\d.files.length<=256))) ?_ ?_
 .refine uR ?_;refine bZ (λhx=>?_) (λhx=>?_)
  .have hx:d.cap<0:=dZ hx;exact a7 (cC om)
  have hx:¬d.cap<0:=eR hx;refine uR ?_;refine bZ (λhy=>?_) (λhy=>?_)
  .have hy:d.left< -1:=dZ hy;exact a7 (cC om)
  have hy:¬d.left< -1:=eR hy;refine uR ?_;exact a7 (d' (show(256:Int)< (d.files.map ch).length↔_ by rw[bC];omega))
 rintro _ ⟨t,rfl,ht⟩;refine nW ?_;refine bZ (λhx=>?_) (λhx=>?_)
 .refine a7 ?_;show[L.b false]=[.b b]
  rw[ft hb λh=>ht.1 hx h.1]
 have Bh:0<=d.cap∧-1<=d.left/\d.files.length<=256:=eM.1 λh=>by rw[ht.2 h]at hx;cases hx
 refine bE (λxs=>xs=[]/\b=true) ?_ ?_;rotate_left
 .rintro _ ⟨rfl,h⟩;refine nW ?_;refine a7 ?_;show[L.b true]=[.b b]
  rw[h]
 refine wp_loop (I:=λa=>∃i:Nat,a=[.i i]/\i<=d.files.length/\∀j,j<i->w_ d j) (mu:=λa=>match a with|[.i i]=>d.files.length-i.toNat|_=>0) ⟨0,rfl,om,λj hj=>by omega⟩ ?_;rintro a ⟨i,rfl,e1,e2⟩;refine uR ?_;refine bZ (λhc=>?_) (λhc=>?_);rotate_left
 .have hi:i=d.files.length:=by
   have:¬(i:Int)< (d.files.map ch).length:=eR hc;rw[bC]at this;omega
  exact a7 ⟨rfl,hb.2 ⟨Bh,λj hj=>e2 j om hj⟩⟩
 have hi:i<d.files.length:=by
  have:(i:Int)< (d.files.map ch).length:=dZ hc;rw[bC]at this;omega
 have o7:=hd.2 _ (cT hi);refine bE (cI (¬w_ d i)) ?_ ?_;rotate_left
 .rintro _ ⟨u,rfl,hu⟩;refine nW ?_;refine bZ (λhy=>?_) (λhy=>?_)
  .refine a7 ?_;show[L.b false]=[.b b]
   rw[ft hb λh=>hu.1 hy (h.2 i)]
  have hg:w_ d i:=eM.1 λh=>by rw[hu.2 h]at hy;cases hy
  refine cm (i:=i) rfl om (nW ?_);refine a7 ⟨⟨i+1,?_,om,λj hj=>?_⟩,?_⟩
  .rfl
  .by_cases he:j=i
   .subst he;exact hg
   .exact e2 j om
  .show d.files.length- (((i+1:Nat):Int)).toNat<d.files.length-i;omega
 refine bU (f:=ch) (j:=i) rfl rfl hi rfl (uR ?_);obtain⟨bf,o8⟩:=dC (ic d.files[i].name/\okF d.files[i].base d.files[i].bT);refine bu (YA o7.1 o7.2 o8) rfl rfl (uR ?_);refine bZ (λhy=>?_) (λhy=>?_)
 .exact a7 (cC λh=>by rw[o8.2 (h hi).1]at hy;cases hy)
 have hy:(!bf)=false:=hy;have dm:=o8.1 (by simpa using hy);refine uR ?_;refine bZ (λhz=>?_) (λhz=>?_)
 .have h0:0<i:=by have:(0:Int)<i:=dZ hz;omega
  refine bU (f:=ch) (j:=i) rfl rfl hi rfl (uR ?_);refine dk (n:=((i-1:Nat):Int)) oO om om (nW ?_);refine bU (f:=ch) (j:=i-1) rfl rfl om rfl (uR ?_);refine ot rfl (nW ?_);refine a7 ⟨rY d.files[i].name (d.files[i-1]'om).name,rfl,?_⟩;constructor
  .intro h k;have:=(k hi).2 h0;rw[h]at this;cases this
  .intro h;rcases adq (rY d.files[i].name (d.files[i-1]'om).name)with q|q
   .exact q
   .exact absurd (λ_=>⟨dm,λ_=>q⟩) h
 .have h0:¬0<i:=by have:¬(0:Int)<i:=eR hz;omega
  exact a7 (d_ λh=>h λ_=>⟨dm,λk=>absurd k h0⟩)
theorem anj{d s}(hl:d.files.length<=4294967296){r:Int}(hr:∀i,jh d s i->r=i)(hn:nK d s->r= -1):zc [.i d.cap,.i d.left,.r (d.files.map ch),.s s]=some [.i r]:=by
 refine bN ?_;refine bE (λxs=>xs=[]/\nK d s) ?_ ?_;rotate_left
 .rintro _ ⟨rfl,h⟩;refine nW ?_;refine a7 ?_;show[L.i (-1)]=[.i r]
  rw[hn h]
 refine wp_loop (I:=λa=>∃i:Nat,a=[.i i]/\i<=d.files.length/\∀(j:Nat)(h:j<d.files.length),j<i->(d.files[j].name.toList==s.toList)=false) (mu:=λa=>match a with|[.i i]=>d.files.length-i.toNat|_=>0) ⟨0,rfl,om,λj _ hj=>by omega⟩ ?_;rintro a ⟨i,rfl,e1,e2⟩;refine uR ?_;refine bZ (λhc=>?_) (λhc=>?_);rotate_left
 .have hi:i=d.files.length:=by
   have:¬(i:Int)< (d.files.map ch).length:=eR hc;rw[bC]at this;omega
  exact a7 ⟨rfl,λj hj=>e2 j hj om⟩
 have hi:i<d.files.length:=by
  have:(i:Int)< (d.files.map ch).length:=dZ hc;rw[bC]at this;omega
 refine bU (f:=ch) (j:=i) rfl rfl hi rfl (uR ?_);refine ot rfl (nW ?_);refine bZ (λhy=>?_) (λhy=>?_)
 .refine a7 ?_;show[L.i i]=[.i r]
  rw[hr i ⟨hi,hy,λj hj=>e2 j om hj⟩]
 .refine cm (i:=i) rfl om (nW ?_);refine a7 ⟨⟨i+1,?_,om,λj hj kG=>?_⟩,?_⟩
  .rfl
  .by_cases he:j=i
   .subst he;exact hy
   .exact e2 j hj om
  .show d.files.length- (((i+1:Nat):Int)).toNat<d.files.length-i;omega
def Rd(d:Dk)(s:fy):Prop:=ov d/\ic s/\d.left≠0
theorem akk{d}(l:oZ d){s}(m:s.size<=4611686018427387904):∃e,Ea [.i d.cap,.i d.left,.r (d.files.map ch),.s s]=some [.i e]/\(e=0↔Rd d s):=by
 obtain⟨b,c⟩:=dC (ov d);obtain⟨i,f⟩:=dC (ic s)
 suffices h:Fo Wi [.i d.cap,.i d.left,.r (d.files.map ch),.s s]=some [.i (if b=false\/i=false then 1 else if d.left=0 then 13 else 0)]by
  refine⟨_,h,?_⟩;unfold Rd;rw[<-c,<-f];cases b<;>cases i<;>simp
 refine bN ?_;refine bE (cI (b=false\/i=false)) ?_ ?_
 .refine bu (agA l c) rfl rfl (uR ?_);refine bZ (λa=>?_) (λa=>?_)
  .have a:(!b)=true:=a;exact a7 (cC (.inl (by simpa using a)))
  .have a:(!b)=false:=a;refine bu (XM s m f) rfl rfl (uR ?_);refine a7 ⟨_,rfl,?_⟩;cases b<;>simp_all
 rintro _ ⟨t,rfl,k⟩;refine nW ?_;refine bZ (λa=>?_) (λa=>?_)
 .refine a7 ?_;show[L.i 1]=_;rw[bF (k.1 a)]
 have g:¬(b=false\/i=false):=λh=>by rw[k.2 h]at a;cases a
 refine uR ?_;refine bZ (λj=>?_) (λj=>?_)
 .refine a7 ?_;show[L.i 13]=_;rw[bO g,bF (dZ j)]
 .refine a7 ?_;show[L.i 0]=_;rw[bO g,bO (eR j)]
theorem Mz(d)(s):nK d s\/∃i,jh d s i:=by
 have : ∀n,n<=d.files.length->(∀(j:Nat)(h:j<d.files.length),j<n->(d.files[j].name.toList==s.toList)=false)\/∃i,jh d s i:=λn=>by
  induction n with
  |zero=>exactλ_=>.inl λj _ a=>om
  |succ n ih=>
   intro e;rcases ih om with h|h
   .rcases adq (d.files[n].name.toList==s.toList)with q|q
    .exact .inr ⟨n,om,q,λj a=>h j om a⟩
    .refine .inl λj a b=>?_
     by_cases c:j=n
     .subst c;exact q
     .exact h j a om
   .exact .inr h
 rcases this _ (dx _)with h|h
 .exact .inl λj a=>h j a a
 .exact .inr h
theorem jh.uniq{d s i j}(m:jh d s i)(o:jh d s j):i=j:=by
 obtain⟨u,a,q⟩:=m;obtain⟨b1,k,t⟩:=o;rcases GX i j with h|h|h
 .rw[t i h]at a;cases a
 .exact h
 .rw[q j h]at k;cases k
theorem abe{d}(p:oZ d){s}(t:s.size<=4611686018427387904):
 (∀i,Rd d s->jh d s i->p8 [.i d.cap,.i d.left,.r (d.files.map ch),.s s]=some [.i i,.i 0])/\(¬(Rd d s/\∃i,jh d s i)->∃e,e≠0/\p8 [.i d.cap,.i d.left,.r (d.files.map ch),.s s]=some [.i (-1),.i e]):=by
 obtain⟨e,k,g⟩:=akk p t;obtain⟨r,b,c⟩:∃r:Int,(∀i,jh d s i->r=i)/\(nK d s->r= -1):=by
  rcases Mz d s with h| ⟨i,h⟩
  .exact⟨-1,⟨λi l=>(by obtain⟨m,f,_⟩:=l;rw[h i m]at f;cases f),λ_=>rfl⟩⟩
  .exact⟨i,⟨λj u=>(by rw[h.uniq u]),λn=>(by obtain⟨m,f,_⟩:=h;rw[n i m]at f;cases f)⟩⟩
 have q:=anj (s:=s) p.1 b c;constructor
 .intro i a l;refine bN ?_;refine bu k rfl rfl (uR ?_);refine db rfl (λh=>h (g.2 a)) ?_;refine bu q rfl rfl (nW ?_);have:=b i l;subst this;refine uR ?_;refine db rfl oO ?_;refine a7 ?_;rfl
 .intro o;by_cases a:Rd d s
  .have n:nK d s:=(Mz d s).resolve_right λh=>o ⟨a,h⟩
   refine⟨6,dc,?_⟩;refine bN ?_;refine bu k rfl rfl (uR ?_);refine db rfl (λh=>h (g.2 a)) ?_;refine bu q rfl rfl (nW ?_);rw[c n];refine uR ?_;refine eL rfl ?_;exact a7 rfl
  .refine⟨e,λh=>a (g.1 h),?_⟩;refine bN ?_;refine bu k rfl rfl (uR ?_);refine fD rfl (λh=>a (g.1 h)) ?_;exact a7 rfl
theorem JZ{d}(z:oZ d){s}(C:s.size<=4611686018427387904):
 (∀c,Wh d s c->∀off n:Int,(jq c off n->nZ [.i d.cap,.i d.left,.r (d.files.map ch),.s s,.i off,.i n]=some [.r [],.i 2])/\(¬jq c off n->nZ [.i d.cap,.i d.left,.r (d.files.map ch),.s s,.i off,.i n]=some [.r ((c.take (off+n).toNat).drop off.toNat),.i 0]))/\((∀c,¬Wh d s c)->∃e,e≠0/\∀off n:Int,nZ [.i d.cap,.i d.left,.r (d.files.map ch),.s s,.i off,.i n]=some [.r [],.i e]):=by
 obtain⟨w,no⟩:=abe z C;constructor
 .rintro c ⟨A,D,E,i,v,rfl⟩ off n;have k:=w i ⟨A,D,E⟩ v;have l:=v.1;have m:=z.2 _ (cT l);have p:=(A.2 i l).1.2;have F:=(Y9 m.1 (s:=d.files[i].name)).1 p;have hlen:=pL p.1 (pV.1 p.2) (dx _);rw[iT]at hlen;have a:=tM m.1.1 m.1.2.2.2;have t:∀{o:List L},(∀x:Bool,(x=true↔jq (dG d.files[i].base d.files[i].bT) off n)->(x=true->o=[.r [],.i 2])/\(x=false->o=[.r (((dG d.files[i].base d.files[i].bT).take (off+n).toNat).drop off.toNat),.i 0]))->nZ [.i d.cap,.i d.left,.r (d.files.map ch),.s s,.i off,.i n]=some o:=λ{o}y=>by
   refine bN ?_;refine bu k rfl rfl (uR ?_);refine cZ rfl ?_;refine bU (f:=ch) (j:=i) rfl rfl l rfl (uR ?_);refine bu F rfl rfl (nW ?_);generalize dG d.files[i].base d.files[i].bT=g at hlen a y;refine bE (cI (jq g off n)) ?_ ?_
   .unfold jq;refine uR ?_;refine bG rfl (λG=>a7 (cC om)) λG=>uR ?_
    refine bG rfl (λH=>a7 (cC om)) λH=>uR ?_
    refine bG rfl (λI=>a7 (cC om)) λI=>uR ?_
    refine dk (n:=(g.length:Int) -off) rfl om om (uR ?_);exact a7 (d' om)
   .rintro _ ⟨x,rfl,q⟩;refine nW ?_;refine bZ (λu=>?_) (λu=>?_)
    .rw[(y x q).1 u];exact a7 rfl
    have r:¬jq g off n:=λh=>by rw[q.2 h]at u;cases u
    unfold jq at r;rw[(y x q).2 u];refine c_ (n:=off+n) rfl om om (uR ?_);refine na ⟨by show 0<=off;omega,by show off<=off+n;omega,by show(off+n).toNat<=g.length;omega,lG a⟩ (uR ?_);refine a7 ?_;show[L.r ((g.drop off.toNat).take ((((off+n).toNat-off.toNat:Nat):Int)).toNat),L.i 0]=_;rw[fM,List.drop_take]
  exact⟨λh=>t λx q=>⟨λ_=>rfl,λb=>by rw[q.2 h]at b;cases b⟩,λh=>t λx q=>⟨λb=>absurd (q.1 b) h,λ_=>rfl⟩⟩
 .intro r;obtain⟨e,B,k⟩:=no (λ⟨h,i,v⟩=>r _ ⟨h.1,h.2.1,h.2.2,i,v,rfl⟩);refine⟨e,B,λoff n=>bN ?_⟩;refine bu k rfl rfl (uR ?_);refine fD rfl B ?_;exact a7 rfl
theorem WV{d}(m:oZ d){s}(u:s.size<=4611686018427387904):
 (∀c,Wh d s c->qc [.i d.cap,.i d.left,.r (d.files.map ch),.s s]=some [.r c,.i 0])/\((∀c,¬Wh d s c)->∃e,e≠0/\qc [.i d.cap,.i d.left,.r (d.files.map ch),.s s]=some [.r [],.i e]):=by
 obtain⟨n,no⟩:=abe m u;constructor
 .rintro c ⟨o,v,w,i,k,rfl⟩;have b:=n i ⟨o,v,w⟩ k;have g:=k.1;have p:=m.2 _ (cT g);have q:=(o.2 i g).1.2;have x:=(Y9 p.1 (s:=d.files[i].name)).1 q;have a:z_ [.i d.cap,.i d.left,.r (d.files.map ch),.s s]=some [.i (dG d.files[i].base d.files[i].bT).length,.i 0]:=by
   refine bN ?_;refine bu b rfl rfl (uR ?_);refine cZ rfl ?_;refine bU (f:=ch) (j:=i) rfl rfl g rfl (uR ?_);refine bu x rfl rfl (uR ?_);exact a7 rfl
  have l:nZ [.i d.cap,.i d.left,.r (d.files.map ch),.s s,.i 0,.i (dG d.files[i].base d.files[i].bT).length]=some [.r (dG d.files[i].base d.files[i].bT),.i 0]:=by
   rw[((JZ m u).1 _ ⟨o,v,w,i,k,rfl⟩ 0 _).2 (by unfold jq;omega),Int.zero_add,fM,iT,xG,Bu]
  refine bN ?_;refine bu a rfl rfl (uR ?_);refine cZ rfl ?_;refine bu l rfl rfl (nW ?_);exact a7 rfl
 .intro r;obtain⟨e,t,b⟩:=no (λ⟨h,i,k⟩=>r _ ⟨h.1,h.2.1,h.2.2,i,k,rfl⟩);refine⟨e,t,?_⟩;have a:z_ [.i d.cap,.i d.left,.r (d.files.map ch),.s s]=some [.i 0,.i e]:=by
   refine bN ?_;refine bu b rfl rfl (uR ?_);refine fD rfl t ?_;exact a7 rfl
  refine bN ?_;refine bu a rfl rfl (uR ?_);refine fD rfl t ?_;exact a7 rfl
theorem H6{w n}(c: -4611686018427387904<=w.off)(d:w.off<=4611686018427387904)(b:wA w):yf [.i w.off,.r w.data,.b w.cut,.i n]=some [.i (qZ n w)]:=by
 have e:=b.2;refine bN ?_;refine bZ (λa=>?_) (λa=>?_)
 .refine Ce rfl (nW ?_);refine a7 ?_;show[L.i (min n w.off)]=_;unfold qZ;rw[bF (show w.cut=true from a)]
 .refine uR ?_;refine c_ (n:=w.off+w.data.length) (by rfl) om om (nW ?_);refine ID rfl (nW ?_);refine a7 ?_;show[L.i (max n (w.off+w.data.length))]=_;unfold qZ;rw[bO (by rw[show w.cut=false from a];decide)]
theorem abd{f}(hf:we f){b}(hb:b=true↔okF f.base f.bT):B4 [.s f.name,.r f.base,.r (f.bT.map eX)]=some [.b b]:=by
 obtain⟨hr,hl,hp,hw⟩:=hf;refine bN ?_;refine uR ?_;refine bZ (λhx=>?_) (λhx=>?_)
 .have hx:(1048576:Int)<f.base.length:=dZ hx;refine a7 ?_;show[L.b false]=[.b b]
  rw[ft hb λh=>by have:=h.1;omega]
 have hx:¬(1048576:Int)<f.base.length:=eR hx;have hbase:f.base.length<=1048576:=om;refine bE (λxs=>xs=[]/\b=true) ?_ ?_;rotate_left
 .rintro _ ⟨rfl,h⟩;refine nW ?_;refine a7 ?_;show[L.b true]=[.b b]
  rw[h]
 refine uR ?_;refine wp_loop (I:=λa=>∃i:Nat,a=[.i (dG f.base (f.bT.take i)).length,.i i]/\i<=f.bT.length/\uq f.base f.bT i) (mu:=λa=>match a with|[_,.i i]=>f.bT.length-i.toNat|_=>0) ⟨0,rfl,om,R6⟩ ?_;rintro a ⟨i,rfl,e1,e2⟩;have o9:=pL hbase e2 e1;refine uR ?_;refine bZ (λhc=>?_) (λhc=>?_);rotate_left
 .have hi:i=f.bT.length:=by
   have:¬(i:Int)< (f.bT.map eX).length:=eR hc;rw[bC]at this;omega
  exact a7 ⟨rfl,hb.2 ⟨hbase,pV.2 (by rw[<-hi];exact e2)⟩⟩
 have hi:i<f.bT.length:=by
  have:(i:Int)< (f.bT.map eX).length:=dZ hc;rw[bC]at this;omega
 have nQ:=hw _ (cT hi);have hno:=Z2 (b:=f.base) hi;have hstep:=Ww hi e2;refine bU (f:=eX) (j:=i) rfl rfl hi rfl ?_;rw[tK hi]at hno hstep;have e7:=tK (b:=f.base) hi;generalize f.bT[i]=w at nQ hno hstep e7;generalize hg:dG f.base (f.bT.take i)=g at o9 hno hstep e7;refine uR ?_;refine bE (cI (¬okW w)) ?_ ?_
 .refine uR ?_;refine bZ (λhy=>?_) (λhy=>?_)
  .have hy:w.off<0:=dZ hy;exact a7 (cC (λh=>by have:=h.1;omega))
  have hy:¬w.off<0:=eR hy;refine uR ?_;refine bZ (λhz=>?_) (λhz=>?_)
  .have hz:1048576<w.off:=dZ hz;exact a7 (cC (λh=>by have:=h.2.1;omega))
  have hz:¬1048576<w.off:=eR hz;refine bZ (λhu=>?_) (λhu=>?_)
  .refine uR ?_;exact a7 (d' (show(0:Int)<w.data.length↔_ from⟨λh k=>k.2.2 ⟨hu,om⟩,λh=>lu λk=>h ⟨om,om,λq=>k om⟩⟩))
  .have hu:¬w.cut=true:=by rw[show w.cut=false from hu];decide
   exact a7 (d_ λh=>h ⟨om,om,λk=>hu k.1⟩)
 rintro _ ⟨u,rfl,hu⟩;refine nW ?_;refine bZ (λhy=>?_) (λhy=>?_)
 .refine a7 ?_;show[L.b false]=[.b b]
  rw[ft hb λh=>hno (λk=>hu.1 hy k.1) h]
 have dm:okW w:=eM.1 λh=>by
  rw[hu.2 h]at hy;cases hy
 have hlen:=KI (b:=g) dm.1;refine bu (H6 (n:=g.length) (by have:=dm.1;omega) (by have:=dm.2.1;omega) nQ) rfl rfl ?_;rw[<-hlen];refine uR ?_;refine bZ (λhz=>?_) (λhz=>?_)
 .have hz:(1048576:Int)< (gD g w).length:=dZ hz;refine a7 ?_;show[L.b false]=[.b b]
  rw[ft hb λh=>hno (λk=>by omega) h]
 .have hz:¬(1048576:Int)< (gD g w).length:=eR hz;refine cm (i:=i) rfl om (nW ?_);refine a7 ⟨⟨i+1,?_,om,hstep dm om⟩,?_⟩
  .show[L.i _,L.i (((i+1:Nat):Int))]=_;rw[e7]
  .show f.bT.length- (((i+1:Nat):Int)).toNat<f.bT.length-i;omega
theorem avG{b:By}{w}(i:cf 1 b=true)(j:wA w)(k:okW w)(s:b.length<=1048576):LR [.i w.off,.r w.data,.b w.cut,.r b]=some [.r (gD b w)]:=by
 obtain⟨p,t,u⟩:=k;have v:=j.2;refine bN ?_;refine bZ (λc=>?_) (λc=>?_)
 .have c:w.cut=true:=c;refine uR ?_;refine ID (n:=w.off) oO (nW ?_);refine Ce rfl (uR ?_);refine na ⟨by exact oO,by exact oO,by exact oO,lG i⟩ (uR ?_);refine a7 ?_;show[L.r _]=_;unfold gD;rw[bF c];congr 2;rw[show(((min (b.length:Int) w.off).toNat-Int.toNat 0:Nat):Int).toNat=min b.length w.off.toNat by omega,List.take_eq_take_iff];omega
 have c:¬w.cut=true:=by rw[show w.cut=false from c];decide
 have l:qZ b.length w=max (b.length:Int) (w.off+w.data.length):=by unfold qZ;rw[bO c]
 refine bE (λxs=>xs=[.r (b++List.replicate (w.off.toNat+w.data.length-b.length) ie)]) ?_ ?_
 .refine uR ?_;refine bu (H6 (n:=b.length) om om j) rfl rfl ?_;rw[l];refine uR ?_;refine bZ (λf=>?_) (λf=>?_)
  .have f:(b.length:Int)<max (b.length:Int) (w.off+w.data.length):=dZ f;have e:max (b.length:Int) (w.off+w.data.length) -b.length=((w.off.toNat+w.data.length-b.length:Nat):Int):=om;have h:w.off.toNat+w.data.length-b.length<=8589934592:=om;have d:0<w.off.toNat+w.data.length-b.length:=om;refine uR ?_;refine dk (n:=((w.off.toNat+w.data.length-b.length:Nat):Int)) e om om (nW ?_);generalize w.off.toNat+w.data.length-b.length=m at h d;refine nu (r:=List.replicate m ie) ⟨by exact oO,by exact oO,by exact oO⟩ rfl (nW ?_);refine wP (r:=ie) oO (by simp only[At.ev,d3,d4,d5,d6,d8];rw[xG,ada,bF d]) rfl ?_;refine nW ?_;refine fa i (C3 rfl) oO oO om rfl (nW ?_);exact a7 rfl
  .have f:¬(b.length:Int)<max (b.length:Int) (w.off+w.data.length):=eR f;refine a7 ?_;show[L.r b]=_;rw[show w.off.toNat+w.data.length-b.length=0 by omega];simp
 rintro _ rfl;obtain⟨m,q⟩:∃m,m=w.off.toNat+w.data.length-b.length:=⟨_,rfl⟩
 rw[<-q];have o:(b++List.replicate m ie).length=b.length+m:=by simp
 have hR:cf 1 (b++List.replicate m ie)=true:=yu i (C3 rfl);have a:gD b w=(b++List.replicate m ie).take w.off.toNat++w.data++(b++List.replicate m ie).drop (w.off.toNat+w.data.length):=by
  unfold gD;rw[bO c];congr 1
  .congr 1;rw[List.take_append,List.take_append,ade,ade];congr 2;omega
  .rw[List.drop_append,show(List.replicate m ie).drop (w.off.toNat+w.data.length-b.length)=[]from qv (by simp;omega),ju]
 generalize b++List.replicate m ie=g at o hR a;refine uR ?_;refine na ⟨p,by exact oO,by exact oO,lG hR⟩ (nW ?_);refine abJ ⟨j.1,by exact oO⟩ rfl (nW ?_);refine a7 ?_;show[L.r _]=_;rw[a];have e:min w.data.length (((g.length:Int).toNat-w.off.toNat:Nat):Int).toNat=w.data.length:=om;rw[e,iT]
theorem agZ{b:By}(a:cf 1 b=true)(c:b.length<=4294967296):HI [.r b]=some [.r b]:=by
 refine bN ?_;refine uR ?_;refine zn (r:=[]) ⟨by exact oO,by exact oO,by exact oO,a⟩ (by simp only[At.ev,d3,d4,d5,d6,d8];rw[qv (by simp)]) (nW ?_);refine zn (r:=b) ⟨by exact oO,by exact oO,by exact oO,a⟩ (by simp only[At.ev,d3,d4,d5,d6,d8];rw[xG,Bu,fM,iT]) (nW ?_);exact a7 rfl
theorem RO{b:By}(a:cf 1 b=true)(c:b.length<=4294967296):vu [.r b]=some []:=bF ⟨a,om⟩
theorem ahe{f}(hf:we f)(ho:okF f.base f.bT):JN [.s f.name,.r f.base,.r (f.bT.map eX)]=some [.r (dG f.base f.bT)]:=by
 obtain⟨b,hb⟩:=dC (okF f.base f.bT);have hv:=abd hf hb;rw[hb.2 ho]at hv;obtain⟨hr,hl,hp,hw⟩:=hf;have hk:=pV.1 ho.2;refine bN ?_;refine bu hv rfl rfl (uR ?_);refine cZ rfl ?_;refine bu (RO hr hl) rfl rfl (nW ?_);refine bE (λxs=>xs=[.r (dG f.base f.bT)]) ?_ ?_
 .refine uR ?_;refine wp_loop (I:=λa=>∃i:Nat,a=[.i i,.r (dG f.base (f.bT.take i))]/\i<=f.bT.length) (mu:=λa=>match a with|[.i i,_]=>f.bT.length-i.toNat|_=>0) ⟨0,rfl,om⟩ ?_;rintro a ⟨i,rfl,e1⟩;have o9:=pL ho.1 (k:=i) (λj hj h=>hk j hj om) e1;have ql:cf 1 (dG f.base (f.bT.take i))=true:=tM hr λw hx=>hw w (iR hx)
  refine uR ?_;refine bZ (λhc=>?_) (λhc=>?_)
  .have hi:i<f.bT.length:=by
    have:(i:Int)< (f.bT.map eX).length:=dZ hc;rw[bC]at this;omega
   have nQ:=hw _ (cT hi);have dm:=(hk i hi hi).1;refine bU (f:=eX) (j:=i) rfl rfl hi rfl ?_;have e7:=tK (b:=f.base) hi;refine uR ?_;refine bu (avG ql nQ dm o9) rfl rfl (nW ?_);refine cm (i:=i) rfl om (nW ?_);refine a7 ⟨⟨i+1,?_,om⟩,?_⟩
   .show[L.i (((i+1:Nat):Int)),L.r _]=_;rw[e7]
   .show f.bT.length- (((i+1:Nat):Int)).toNat<f.bT.length-i;omega
  .have hi:i=f.bT.length:=by
    have:¬(i:Int)< (f.bT.map eX).length:=eR hc;rw[bC]at this;omega
   refine a7 ?_;show[L.r (dG f.base (f.bT.take i))]=_;rw[hi,iT]
 .rintro _ rfl;have o9:=pL ho.1 hk (dx _);rw[iT]at o9;refine nW ?_;refine bu (agZ (tM hr hw) om) rfl rfl (nW ?_);exact a7 rfl
theorem arD{f}(hf:we f)(ho:okF f.base f.bT):Mm [.s f.name,.r f.base,.r (f.bT.map eX)]=some [.i (dG f.base f.bT).length]:=by
 obtain⟨hr,hl,hp,hw⟩:=hf;have hk:=pV.1 ho.2;refine bN ?_;refine uR ?_;refine bE (λxs=>xs=[.i (dG f.base f.bT).length]) ?_ ?_;rotate_left
 .rintro _ rfl;refine nW ?_;exact a7 rfl
 refine uR ?_;refine wp_loop (I:=λa=>∃i:Nat,a=[.i (dG f.base (f.bT.take i)).length,.i i]/\i<=f.bT.length) (mu:=λa=>match a with|[_,.i i]=>f.bT.length-i.toNat|_=>0) ⟨0,rfl,om⟩ ?_;rintro a ⟨i,rfl,e1⟩;refine uR ?_;refine bZ (λhc=>?_) (λhc=>?_)
 .have hi:i<f.bT.length:=by
   have:(i:Int)< (f.bT.map eX).length:=dZ hc;rw[bC]at this;omega
  have nQ:=hw _ (cT hi);have dm:=(hk i hi hi).1;refine bU (f:=eX) (j:=i) rfl rfl hi rfl ?_;have e7:=tK (b:=f.base) hi;generalize dG f.base (f.bT.take i)=g at e7;have hlen:=KI (b:=g) dm.1;refine uR ?_;refine bu (H6 (n:=g.length) (by have:=dm.1;omega) (by have:=dm.2.1;omega) nQ) rfl rfl ?_;rw[<-hlen];refine nW ?_;refine cm (i:=i) rfl om (nW ?_);refine a7 ⟨⟨i+1,?_,om⟩,?_⟩
  .show[L.i _,L.i (((i+1:Nat):Int))]=_;rw[e7]
  .show f.bT.length- (((i+1:Nat):Int)).toNat<f.bT.length-i;omega
 .have hi:i=f.bT.length:=by
   have:¬(i:Int)< (f.bT.map eX).length:=eR hc;rw[bC]at this;omega
  refine a7 ?_;show[L.i (dG f.base (f.bT.take i)).length]=_;rw[hi,iT]
theorem Cu{d}(hd:oZ d){b}(hb:b=true↔ov d):L5 [.i d.cap,.i d.left,.r (d.files.map ch)]=some [.b b]:=by
 refine bN ?_;refine bE (cI (¬(0<=d.cap∧-1<=d.left/\d.files.length<=256))) ?_ ?_
 .refine uR ?_;refine bZ (λhx=>?_) (λhx=>?_)
  .have hx:d.cap<0:=dZ hx;exact a7 (cC om)
  have hx:¬d.cap<0:=eR hx;refine uR ?_;refine bZ (λhy=>?_) (λhy=>?_)
  .have hy:d.left< -1:=dZ hy;exact a7 (cC om)
  have hy:¬d.left< -1:=eR hy;refine uR ?_;exact a7 (d' (show(256:Int)< (d.files.map ch).length↔_ by rw[bC];omega))
 rintro _ ⟨t,rfl,ht⟩;refine nW ?_;refine bZ (λhx=>?_) (λhx=>?_)
 .refine a7 ?_;show[L.b false]=[.b b]
  rw[ft hb λh=>ht.1 hx h.1]
 have Bh:0<=d.cap∧-1<=d.left/\d.files.length<=256:=eM.1 λh=>by rw[ht.2 h]at hx;cases hx
 refine bE (λxs=>xs=[]/\b=true) ?_ ?_;rotate_left
 .rintro _ ⟨rfl,h⟩;refine nW ?_;refine a7 ?_;show[L.b true]=[.b b]
  rw[h]
 refine uR ?_;refine wp_loop (I:=λa=>∃i:Nat,a=[.i i]/\i<=d.files.length/\∀j,j<i->w_ d j) (mu:=λa=>match a with|[.i i]=>d.files.length-i.toNat|_=>0) ⟨0,rfl,om,λj hj=>by omega⟩ ?_;rintro a ⟨i,rfl,e1,e2⟩;refine uR ?_;refine bZ (λhc=>?_) (λhc=>?_);rotate_left
 .have hi:i=d.files.length:=by
   have:¬(i:Int)< (d.files.map ch).length:=eR hc;rw[bC]at this;omega
  exact a7 ⟨rfl,hb.2 ⟨Bh,λj hj=>e2 j om hj⟩⟩
 have hi:i<d.files.length:=by
  have:(i:Int)< (d.files.map ch).length:=dZ hc;rw[bC]at this;omega
 have o7:=hd.2 _ (cT hi);refine bU (f:=ch) (j:=i) rfl rfl hi rfl (uR ?_);refine bE (cI (¬w_ d i)) ?_ ?_;rotate_left
 .rintro _ ⟨u,rfl,hu⟩;refine nW ?_;refine bZ (λhy=>?_) (λhy=>?_)
  .refine a7 ?_;show[L.b false]=[.b b]
   rw[ft hb λh=>hu.1 hy (h.2 i)]
  have hg:w_ d i:=eM.1 λh=>by rw[hu.2 h]at hy;cases hy
  refine cm (i:=i) rfl om (nW ?_);refine a7 ⟨⟨i+1,?_,om,λj hj=>?_⟩,?_⟩
  .rfl
  .by_cases he:j=i
   .subst he;exact hg
   .exact e2 j om
  .show d.files.length- (((i+1:Nat):Int)).toNat<d.files.length-i;omega
 obtain⟨bn,uY⟩:=dC (ic d.files[i].name);obtain⟨bf,o8⟩:=dC (okF d.files[i].base d.files[i].bT);refine bu (C9 _ o7.2 uY) rfl rfl (uR ?_);refine bZ (λhy=>?_) (λhy=>?_)
 .exact a7 (cC λh=>by rw[uY.2 (h hi).1.1]at hy;cases hy)
 have hy:(!bn)=false:=hy;have hn:=uY.1 (by simpa using hy);refine bu (abd o7.1 o8) rfl rfl (uR ?_);refine bZ (λhu=>?_) (λhu=>?_)
 .exact a7 (cC λh=>by rw[o8.2 (h hi).1.2]at hu;cases hu)
 have hu:(!bf)=false:=hu;have dm:=o8.1 (by simpa using hu);refine uR ?_;refine bZ (λhz=>?_) (λhz=>?_)
 .have h0:0<i:=by have:(0:Int)<i:=dZ hz;omega
  refine dk (n:=((i-1:Nat):Int)) oO om om (nW ?_);refine bU (f:=ch) (j:=i-1) rfl rfl om rfl (uR ?_);refine ot rfl (nW ?_);refine a7 ⟨rY d.files[i].name (d.files[i-1]'om).name,rfl,?_⟩;constructor
  .intro h k;have:=(k hi).2 h0;rw[h]at this;cases this
  .intro h;rcases adq (rY d.files[i].name (d.files[i-1]'om).name)with q|q
   .exact q
   .exact absurd (λ_=>⟨⟨hn,dm⟩,λ_=>q⟩) h
 .have h0:¬0<i:=by have:¬(0:Int)<i:=eR hz;omega
  exact a7 (d_ λh=>h λ_=>⟨⟨hn,dm⟩,λk=>absurd k h0⟩)
theorem Jo:∀(x y),Op.bytesLess x y=true↔x<y
 |[],[]=>by simp[Op.bytesLess]
 |_::_,[]=>by simp[Op.bytesLess]
 |[],_::_=>by simp[Op.bytesLess]
 |a::x,b::y=>by
  have ih:=Jo x y;rw[Op.bytesLess];simp only[List.cons_lt_cons_iff,<-ih];by_cases c:a<b<;>by_cases d:a=b<;>simp[c,d]
theorem atr{a b}(h:rY a b=false):b.toList<a.toList:=by
 unfold rY at h;rw[Bool.or_eq_false_iff]at h;have c:¬a.toList<b.toList:=λk=>by rw[(Jo _ _).2 k]at h;cases h.1
 have d:a.toList≠b.toList:=λk=>by rw[k]at h;simp at h
 rcases List.le_iff_lt_or_eq.1 (List.not_lt.1 c)with k|k
 .exact k
 .exact absurd k.symm d
theorem Rr{d}(b:ov d){i j}(c:i<j)(e:j<d.files.length):(d.files[i]'om).name.toList<d.files[j].name.toList:=by
 induction j with
 |zero=>omega
 |succ j ih=>
  have a:=atr ((b.2 (j+1) e).2 om);by_cases f:i=j
  .subst f;exact a
  .exact List.lt_trans (ih om om) a
theorem Qv{n s}{b p:By}:∃c,Cm [.s n,.r b,.r p,.s s]=some [.i c]/\(c<0↔n.toList<s.toList)/\(c=0↔n.toList=s.toList):=by
 have a:∀x:fy,DU [.s x]=some [.b false]:=λx=>by
  refine bN ?_;refine ot rfl (nW ?_);refine a7 ?_;show[L.b (!(x.toList==x.toList))]=_;simp
 have g:Mg [.s n,.s s]=some [.i (if Op.bytesLess n.toList s.toList=true then-1 else if(Op.bytesLess n.toList s.toList||n.toList==s.toList)=true then 0 else 1)]:=by
  refine bN ?_;refine bu (a n) rfl rfl (nW ?_);refine bu (a s) rfl rfl (nW ?_);refine cZ rfl ?_;refine cZ rfl ?_;refine ot rfl (nW ?_);refine bZ (λf=>?_) (λf=>?_)
  .have f:Op.bytesLess n.toList s.toList=true:=f;refine a7 ?_;show[L.i (-1)]=_;rw[bF f]
  refine ot rfl (nW ?_);refine bZ (λd=>?_) (λd=>?_)
  .have d:(!(Op.bytesLess n.toList s.toList||n.toList==s.toList))=true:=d;refine a7 ?_;show[L.i 1]=_;rw[bO (by rw[show Op.bytesLess n.toList s.toList=false from f];decide),bO (by rw[o_]at d;rw[d];decide)]
  .have d:(!(Op.bytesLess n.toList s.toList||n.toList==s.toList))=false:=d;refine a7 ?_;show[L.i 0]=_;rw[bO (by rw[show Op.bytesLess n.toList s.toList=false from f];decide),bF (by rwa [Bool.not_eq_false']at d)]
 have j:=Jo n.toList s.toList;have i:n.toList<s.toList->n.toList≠s.toList:=λh e=>by rw[e]at h;exact List.lt_irrefl _ h
 have k:(n.toList==s.toList)=true↔n.toList=s.toList:=beq_iff_eq;refine⟨if Op.bytesLess n.toList s.toList=true then-1 else if(Op.bytesLess n.toList s.toList||n.toList==s.toList)=true then 0 else 1,?_,?_,?_⟩
 .refine bN ?_;refine bu (l:=[]) ?_ rfl rfl ?_
  .refine bN ?_;exact a7 rfl
  refine nW ?_;refine bu g rfl rfl (nW ?_);exact a7 rfl
 .rw[<-j]
  cases Op.bytesLess n.toList s.toList with
  |true=>simp
  |false=>
   simp only[qp,if_false,Bool.false_or,iff_false];split<;>omega
 .rw[<-k]
  cases m:Op.bytesLess n.toList s.toList with
  |true=>
   have:=i (j.1 m);simp[this]
  |false=>
   cases n.toList==s.toList<;>simp
theorem arZ{d}(hd:ov d){s}:(∀i,jh d s i->vx [.r (d.files.map ch),.s s]=some [.i i,.b true])/\(nK d s->∃i,vx [.r (d.files.map ch),.s s]=some [.i i,.b false]):=by
 have hlen:=hd.1.2.2
 suffices h:∃i:Nat,∃b:Bool,vx [.r (d.files.map ch),.s s]=some [.i i,.b b]/\(∀j,jh d s j->i=j/\b=true)/\(nK d s->b=false)by
  obtain⟨i,b,h1,h2,h3⟩:=h;exact⟨λj hj=>by obtain⟨rfl,rfl⟩:=h2 j hj;exact h1,λhn=>⟨i,by rw[h1,h3 hn]⟩⟩
 have fin:∀lo:Nat,lo<=d.files.length->(∀(j:Nat)(h:j<d.files.length),j<lo->d.files[j].name.toList<s.toList)->(∀(j:Nat)(h:j<d.files.length),lo<=j->¬d.files[j].name.toList<s.toList)->
  ∀b:Bool,(b=true↔∃h:lo<d.files.length,d.files[lo].name.toList=s.toList)->(∀j,jh d s j->lo=j/\b=true)/\(nK d s->b=false):=λlo h0 h1 h2 b hb=>by
  constructor
  .rintro j ⟨hj,heq,_⟩;have heq:d.files[j].name.toList=s.toList:=beq_iff_eq.1 heq;have xo:lo=j:=by
    rcases GX lo j with h|h|h
    .exact absurd (heq▸Rr hd h hj) (h2 lo om (dx _))
    .exact h
    .exact absurd (h1 j hj h) (by rw[heq];exact List.lt_irrefl _)
   subst xo;exact⟨rfl,hb.2 ⟨hj,heq⟩⟩
  .intro hn;refine ft hb ?_;rintro⟨h,k⟩;have:=hn lo h;rw[beq_iff_eq.2 k]at this;cases this
 have hle:∀{j m:Nat}(GM:j<=m)(hm:m<d.files.length),d.files[m].name.toList<s.toList->(d.files[j]'om).name.toList<s.toList:=λ{j m}GM hm h=>by
  by_cases e:j=m
  .subst e;exact h
  .exact List.lt_trans (Rr hd om hm) h
 have run:a8.wp WY [.r (d.files.map ch),.s s] (dX λx=>∃(i:Nat)(b:Bool),x=[.i i,.b b]/\(∀j,jh d s j->i=j/\b=true)/\(nK d s->b=false)):=by
  refine uR ?_;refine bE (λxs=>∃lo:Nat,xs=[.i lo]/\lo<=d.files.length/\(∀(j:Nat)(h:j<d.files.length),j<lo->d.files[j].name.toList<s.toList)/\(∀(j:Nat)(h:j<d.files.length),lo<=j->¬d.files[j].name.toList<s.toList)) ?_ ?_
  .refine wp_loop (I:=λa=>∃lo hi:Nat,a=[.i lo,.i hi]/\lo<=hi/\hi<=d.files.length/\(∀(j:Nat)(h:j<d.files.length),j<lo->d.files[j].name.toList<s.toList)/\(∀(j:Nat)(h:j<d.files.length),hi<=j->¬d.files[j].name.toList<s.toList)) (mu:=λa=>match a with|[.i lo,.i hi]=>(hi-lo).toNat|_=>0) ⟨0,d.files.length,by show[L.i ((0:Nat):Int),L.i (d.files.map ch).length]=_;rw[bC],om,om,λj _ hj=>by omega,λj hj h=>absurd hj om⟩ ?_;rintro a ⟨lo,hi,rfl,e1,e2,p1,p2⟩;refine uR ?_;refine bZ (λhc=>?_) (λhc=>?_);rotate_left
   .have hc:¬(lo:Int)<hi:=eR hc;obtain rfl:lo=hi:=om;exact a7 ⟨lo,rfl,e2,p1,p2⟩
   have hc:(lo:Int)<hi:=dZ hc;obtain⟨m,hm⟩:∃m,m=(lo+hi) /2:=⟨_,rfl⟩
   refine c_ (n:=((lo+hi:Nat):Int)) oO om om (nW ?_);refine qe (n:=((lo+hi:Nat):Int)) (by rfl) om om (nW ?_);refine cP (l:=.i m) (by
    show some (L.i (((lo+hi:Nat):Int).fdiv (2^min (Int.toNat 1) IntKind.u64.bits)))=_;rw[show(2:Int) ^min (Int.toNat 1) IntKind.u64.bits=2 by decide,G1 _ om];congr 2;omega) ?_
   refine nW ?_;refine od (n:=(m:Int)) (by rfl) om om (nW ?_);have xu:m<d.files.length:=om;refine bU (f:=ch) (j:=m) rfl rfl xu rfl (uR ?_);obtain⟨c,PU,hc1,hc2⟩:=Qv (n:=d.files[m].name) (s:=s) (b:=d.files[m].base) (p:=d.files[m].bT.map eX);refine bu PU rfl rfl (uR ?_);refine bZ (λhx=>?_) (λhx=>?_)
   .have hx:c<0:=dZ hx;refine cm (i:=m) rfl om (nW ?_);refine a7 ⟨⟨m+1,hi,?_,om,e2,λj hj GM=>hle om xu (hc1.1 hx),p2⟩,?_⟩
    .rfl
    .show((hi:Int) - ((m+1:Nat):Int)).toNat< ((hi:Int) -lo).toNat;omega
   .have hx:¬c<0:=eR hx;refine a7 ⟨⟨lo,m,rfl,om,om,p1,λj hj GM h=>hx (hc1.2 (hle GM hj h))⟩,?_⟩;show((m:Int) -lo).toNat< ((hi:Int) -lo).toNat;omega
  .rintro _ ⟨lo,rfl,e1,p1,p2⟩;refine nW ?_;refine bE (cI (∃h:lo<d.files.length,d.files[lo].name.toList=s.toList)) ?_ ?_
   .refine uR ?_;refine bZ (λhx=>?_) (λhx=>?_)
    .have hx:lo<d.files.length:=by
      have:(lo:Int)< (d.files.map ch).length:=dZ hx;rw[bC]at this;omega
     refine bU (f:=ch) (j:=lo) rfl rfl hx rfl (uR ?_);obtain⟨c,PU,hc1,hc2⟩:=Qv (n:=d.files[lo].name) (s:=s) (b:=d.files[lo].base) (p:=d.files[lo].bT.map eX);refine bu PU rfl rfl (uR ?_);exact a7 (d' (show c=0↔_ from⟨λh=>⟨hx,hc2.1 h⟩,λ⟨_,h⟩=>hc2.2 h⟩))
    .have hx:¬lo<d.files.length:=by
      have:¬(lo:Int)< (d.files.map ch).length:=eR hx;rw[bC]at this;omega
     exact a7 (d_ λ⟨h,_⟩=>hx h)
   .rintro _ ⟨b,rfl,hb⟩;refine nW ?_;exact a7 ⟨lo,b,rfl,fin lo e1 p1 p2 b hb⟩
 obtain⟨o,h1,i,b,rfl,h2,h3⟩:=gi run;exact⟨i,b,h1,h2,h3⟩
theorem ZQ{d}(e:ov d){s x y}:(∀i,jh d s i->zr [x,y,.r (d.files.map ch),.s s]=some [.i i,.b true])/\(nK d s->∃i,zr [x,y,.r (d.files.map ch),.s s]=some [.i i,.b false]):=by
 have w:∀i b,vx [.r (d.files.map ch),.s s]=some [.i i,.b b]->zr [x,y,.r (d.files.map ch),.s s]=some [.i i,.b b]:=λi b h=>by
  have a:JT [.r (d.files.map ch),.s s]=some [.i i,.b b]:=by
   refine bN ?_;refine bu h rfl rfl (nW ?_);exact a7 rfl
  refine bN ?_;refine bu a rfl rfl (nW ?_);exact a7 rfl
 obtain⟨f,a⟩:=arZ e (s:=s);exact⟨λi c=>w _ _ (f i c),λg=>by obtain⟨i,c⟩:=a g;exact⟨i,w _ _ c⟩⟩
theorem T5{d}(m:oZ d){s}(n:s.size<=4611686018427387904):
 (∀i,Rd d s->jh d s i->zQ [.i d.cap,.i d.left,.r (d.files.map ch),.s s]=some [.i i,.i 0])/\(¬(Rd d s/\∃i,jh d s i)->∃e,e≠0/\zQ [.i d.cap,.i d.left,.r (d.files.map ch),.s s]=some [.i 0,.i e]):=by
 obtain⟨t,a⟩:=dC (ov d);obtain⟨u,b⟩:=dC (ic s);constructor
 .rintro i ⟨c,f,g⟩ q;have j:=Cu m a;have k:=C9 s n b;rw[a.2 c]at j;rw[b.2 f]at k;refine bN ?_;refine bE (λxs=>xs=[.b false]) ?_ ?_
  .refine bu j rfl rfl (uR ?_);refine cZ rfl ?_;refine bu k rfl rfl (uR ?_);exact a7 rfl
  rintro _ rfl;refine nW ?_;refine cZ rfl (uR ?_);refine db rfl g ?_;refine bu ((ZQ c).1 i q) rfl rfl (uR ?_);refine cZ rfl ?_;exact a7 rfl
 .intro o;by_cases c:ov d;rotate_left
  .refine⟨1,dc,?_⟩;refine bN ?_;refine bE (λxs=>xs=[.b true]) ?_ ?_
   .refine bu (Cu m a) rfl rfl ?_;rw[ft a c];refine uR ?_;refine eL rfl ?_;exact a7 rfl
   rintro _ rfl;refine nW ?_;refine eL rfl ?_;exact a7 rfl
  by_cases f:ic s;rotate_left
  .refine⟨1,dc,?_⟩;refine bN ?_;refine bE (λxs=>xs=[.b true]) ?_ ?_
   .refine bu (Cu m a) rfl rfl ?_;rw[a.2 c];refine uR ?_;refine cZ rfl ?_;refine bu (C9 s n b) rfl rfl ?_;rw[ft b f];refine uR ?_;exact a7 rfl
   rintro _ rfl;refine nW ?_;refine eL rfl ?_;exact a7 rfl
  have j:=Cu m a;have k:=C9 s n b;rw[a.2 c]at j;rw[b.2 f]at k;have l:∀{Q:Lf×List L->Prop},a8.wp _ ([.i d.cap,.i d.left,.r (d.files.map ch),.s s]++[.b false]) Q->a8.wp Yc [.i d.cap,.i d.left,.r (d.files.map ch),.s s] Q:=λ{Q}h=>by
   refine bE (λxs=>xs=[.b false]) ?_ ?_
   .refine bu j rfl rfl (uR ?_);refine cZ rfl ?_;refine bu k rfl rfl (uR ?_);exact a7 rfl
   rintro _ rfl;exact h
  by_cases g:d.left=0
  .refine⟨13,dc,?_⟩;refine bN (l ?_);refine nW ?_;refine cZ rfl (uR ?_);refine fD rfl g ?_;exact a7 rfl
  .have p:nK d s:=(Mz d s).resolve_right λh=>o ⟨⟨c,f,g⟩,h⟩
   obtain⟨i,r⟩:=(ZQ c (x:=.i d.cap) (y:=.i d.left)).2 p;refine⟨6,dc,?_⟩;refine bN (l ?_);refine nW ?_;refine cZ rfl (uR ?_);refine db rfl g ?_;refine bu r rfl rfl (uR ?_);refine eL rfl ?_;exact a7 rfl
theorem IY{d}(A:oZ d){s}(D:s.size<=4611686018427387904):
 (∀c,Wh d s c->∀off n:Int,(jq c off n->p7 [.i d.cap,.i d.left,.r (d.files.map ch),.s s,.i off,.i n]=some [.i 2,.r []])/\(¬jq c off n->p7 [.i d.cap,.i d.left,.r (d.files.map ch),.s s,.i off,.i n]=some [.i 0,.r ((c.take (off+n).toNat).drop off.toNat)]))/\((∀c,¬Wh d s c)->∃e,e≠0/\∀off n:Int,p7 [.i d.cap,.i d.left,.r (d.files.map ch),.s s,.i off,.i n]=some [.i e,.r []]):=by
 obtain⟨y,no⟩:=T5 A D;constructor
 .rintro c ⟨B,E,F,i,w,rfl⟩ off n;have k:=y i ⟨B,E,F⟩ w;have l:=w.1;have m:=A.2 _ (cT l);have p:=(B.2 i l).1.2;have G:=ahe m.1 p;have hlen:=pL p.1 (pV.1 p.2) (dx _);rw[iT]at hlen;have a:=tM m.1.1 m.1.2.2.2;have u:∀{o:List L},(∀x:Bool,(x=true↔jq (dG d.files[i].base d.files[i].bT) off n)->(x=true->o=[.i 2,.r []])/\(x=false->o=[.i 0,.r (((dG d.files[i].base d.files[i].bT).take (off+n).toNat).drop off.toNat)]))->p7 [.i d.cap,.i d.left,.r (d.files.map ch),.s s,.i off,.i n]=some o:=λ{o}z=>by
   refine bN ?_;refine bu k rfl rfl (uR ?_);refine cZ rfl ?_;refine bU (f:=ch) (j:=i) rfl rfl l rfl (uR ?_);refine bu G rfl rfl (nW ?_);generalize dG d.files[i].base d.files[i].bT=g at hlen a z;refine uR ?_;refine bE (cI (jq g off n)) ?_ ?_
   .unfold jq;refine uR ?_;refine bG rfl (λH=>a7 (cC om)) λH=>uR ?_
    refine bG rfl (λI=>a7 (cC om)) λI=>uR ?_
    refine bG rfl (λJ=>a7 (cC om)) λJ=>?_
    refine dk (n:=(g.length:Int) -off) rfl om om (uR ?_);exact a7 (d' om)
   .rintro _ ⟨x,rfl,q⟩;refine nW ?_;refine bZ (λv=>?_) (λv=>?_)
    .rw[(z x q).1 v];exact a7 rfl
    have t:¬jq g off n:=λh=>by rw[q.2 h]at v;cases v
    unfold jq at t;rw[(z x q).2 v];refine c_ (n:=off+n) rfl om om (uR ?_);refine zn (r:=(g.take (off+n).toNat).drop off.toNat) ⟨by show 0<=off;omega,by show off<=off+n;omega,by show(off+n).toNat<=g.length;omega,a⟩ rfl (nW ?_);refine bu (RO (VP (FY a)) (by rw[iw,eA];omega)) rfl rfl (nW ?_);exact a7 rfl
  exact⟨λh=>u λx q=>⟨λ_=>rfl,λb=>by rw[q.2 h]at b;cases b⟩,λh=>u λx q=>⟨λb=>absurd (q.1 b) h,λ_=>rfl⟩⟩
 .intro t;obtain⟨e,C,k⟩:=no (λ⟨h,i,w⟩=>t _ ⟨h.1,h.2.1,h.2.2,i,w,rfl⟩);refine⟨e,C,λoff n=>bN ?_⟩;refine bu k rfl rfl (uR ?_);refine fD rfl C ?_;exact a7 rfl
theorem abH{d}(m:oZ d){s}(t:s.size<=4611686018427387904):
 (∀c,Wh d s c->ud [.i d.cap,.i d.left,.r (d.files.map ch),.s s]=some [.b true,.r c])/\((∀c,¬Wh d s c)->ud [.i d.cap,.i d.left,.r (d.files.map ch),.s s]=some [.b false,.r []]):=by
 obtain⟨n,no⟩:=T5 m t;constructor
 .rintro c ⟨o,u,v,i,k,rfl⟩;have b:=n i ⟨o,u,v⟩ k;have g:=k.1;have p:=m.2 _ (cT g);have q:=(o.2 i g).1.2;have x:=arD p.1 q;have a:B' [.i d.cap,.i d.left,.r (d.files.map ch),.s s]=some [.i (dG d.files[i].base d.files[i].bT).length,.i 0]:=by
   refine bN ?_;refine bu b rfl rfl (uR ?_);refine cZ rfl ?_;refine bU (f:=ch) (j:=i) rfl rfl g rfl (uR ?_);refine bu x rfl rfl (nW ?_);exact a7 rfl
  have l:p7 [.i d.cap,.i d.left,.r (d.files.map ch),.s s,.i 0,.i (dG d.files[i].base d.files[i].bT).length]=some [.i 0,.r (dG d.files[i].base d.files[i].bT)]:=by
   rw[((IY m t).1 _ ⟨o,u,v,i,k,rfl⟩ 0 _).2 (by unfold jq;omega),Int.zero_add,fM,iT,xG,Bu]
  refine bN ?_;refine bu a rfl rfl (uR ?_);refine cZ rfl ?_;refine bu l rfl rfl (uR ?_);exact a7 rfl
 .intro r;obtain⟨e,w,b⟩:=no (λ⟨h,i,k⟩=>r _ ⟨h.1,h.2.1,h.2.2,i,k,rfl⟩);have a:B' [.i d.cap,.i d.left,.r (d.files.map ch),.s s]=some [.i 0,.i e]:=by
   refine bN ?_;refine bu b rfl rfl (uR ?_);refine fD rfl w ?_;exact a7 rfl
  refine bN ?_;refine bu a rfl rfl (uR ?_);refine fD rfl w ?_;exact a7 rfl
end
end
end Go.Proofs.YtndegphojkiblaaGreatDoor
