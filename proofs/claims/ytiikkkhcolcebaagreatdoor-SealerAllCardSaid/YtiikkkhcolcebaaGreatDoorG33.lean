/- A part. -/
import Derived.Test.YtiikkkhcolcebaaGreatDoorG13
import Derived.Test.YtiikkkhcolcebaaGreatDoorG15
import Derived.Test.YtiikkkhcolcebaaGreatDoorG21
import Derived.Test.YtiikkkhcolcebaaGreatDoorG23
import Derived.Test.YtiikkkhcolcebaaGreatDoorG25
import Derived.Test.YtiikkkhcolcebaaGreatDoorG26
import Derived.Test.YtiikkkhcolcebaaGreatDoorG28
import Derived.Test.YtiikkkhcolcebaaGreatDoorG30
import Derived.Test.YtiikkkhcolcebaaGreatDoorG31
import Derived.Test.YtiikkkhcolcebaaGreatDoorG32
set_option linter.all false
set_option maxHeartbeats 4000000
set_option maxRecDepth 100000
namespace Go.Proofs.YtiikkkhcolcebaaGreatDoor
noncomputable section
section
open Go.RowKit
def bt(x:Pl.It):List PV:=[.sc (.int .u64 x.key),.sc (.int .u32 x.cookie),.sc (.int .i64 x.off),.sc (.int .i64 x.size)]
abbrev By:=List (List PV)
def iD:List PV:=[.sc (.int .u8 0)]
structure Wr where
 off:Int
 data:By
 cut:Bool
structure Fl where
 name:fu
 base:By
 bM:List Wr
structure Dk where
 cap:Int
 left:Int
 files:List Fl
def df(w:Wr):List PV:=[.sc (.int .i64 w.off),.sl w.data,.sc (.bool w.cut)]
def bJ(f:Fl):List PV:=[.sc (.string f.name),.sl f.base,.sl (f.bM.map df)]
def gM(b:By)(w:Wr):By:=if w.cut=true then b.take w.off.toNat else(b++List.replicate (w.off.toNat-b.length) iD).take w.off.toNat++w.data++b.drop (w.off.toNat+w.data.length)
def sd(n:Int)(w:Wr):Int:=if w.cut=true then min n w.off else max n (w.off+w.data.length)
def okW(w:Wr):Prop:=0<=w.off/\w.off<=1048576/\¬(w.cut=true/\0<w.data.length)
instance (w:Wr):Decidable (okW w):=inferInstanceAs (Decidable (_/\_/\_))
def BH:By->List Wr->Prop
 |_,[]=>True
 |b,w::a=>okW w/\(gM b w).length<=1048576/\BH (gM b w) a
def okF(b:By)(a:List Wr):Prop:=b.length<=1048576/\BH b a
def dm(b:By)(a:List Wr):By:=a.foldl gM b
theorem LZ{b w}(h:0<=w.off):((gM b w).length:Int)=sd b.length w:=by
 unfold gM sd;split
 .simp only[dz];omega
 .simp only[cD,dz,pU,mh];omega
def vC(w:Wr):Prop:=ct 1 w.data=true/\w.data.length<=4294967296
def jb(f:Fl):Prop:=ct 1 f.base=true/\f.base.length<=4294967296/\f.bM.length<=4294967296/\∀w∈f.bM,vC w
theorem zS{n a b}(c:ct n a=true)(d:ct n b=true):ct n (a++b)=true:=by
 unfold ct at*;simp[List.all_append,c,d]
theorem C4{n m a}(h:ct n a=true):ct n (a.take m)=true:=by
 unfold ct at*;rw[cz]at*;exactλx b=>h x (mO b)
theorem Tq{n m a}(h:ct n a=true):ct n (a.drop m)=true:=by
 unfold ct at*;rw[cz]at*;exactλx b=>h x (nP b)
theorem D3{n m r}(h:r.length=n):ct n (List.replicate m r)=true:=by
 unfold ct;rw[cz];exactλx a=>by rw[List.eq_of_mem_replicate a];simpa using h
theorem agK{b:By}{w}(a:ct 1 b=true)(c:vC w):ct 1 (gM b w)=true:=by
 unfold gM;split
 .exact C4 a
 .exact zS (zS (C4 (zS a (D3 rfl))) c.1) (Tq a)
theorem tn{a}:∀{b:By},ct 1 b=true->(∀w∈a,vC w)->ct 1 (dm b a)=true:=by
 induction a with
 |nil=>exactλh _=>h
 |cons w a ih=>exactλh c=>ih (agK h (c w iA)) λx d=>c x (iz _ d)
theorem ur{b}{a:List Wr}{k}(h):dm b (a.take (k+1))=gM (dm b (a.take k)) a[k]:=by
 unfold dm;rw[fi h,yg];rfl
def uP(b:By)(a:List Wr)(k:Nat):Prop:=∀(j:Nat)(h:j<a.length),j<k->okW a[j]/\(dm b (a.take (j+1))).length<=1048576
theorem qu{a:List Wr}:∀{b:By},BH b a↔uP b a a.length:=by
 induction a with
 |nil=>exactλ{b}=>⟨λ_ j h=>absurd h (rn _),λ_=>trivial⟩
 |cons w a ih=>
  intro b;unfold BH;rw[ih];constructor
  .rintro⟨d,e,f⟩ j c g
   cases j with
   |zero=>exact⟨d,by simpa[dm]using e⟩
   |succ j=>
    have:=f j (by simpa using c) (by simpa using c);simpa[dm]using this
  .intro h;refine⟨(h 0 (by simp) (by simp)).1,by simpa[dm]using(h 0 (by simp) (by simp)).2,λj c g=>?_⟩;have:=h (j+1) (by simpa using c) (by simpa using c);simpa[dm]using this
theorem Pq{b a}:uP b a 0:=λ_ _ h=>absurd h (rn _)
theorem Su{b a k}(h)(c:uP b a k)(d:okW a[k])(f:(dm b (a.take (k+1))).length<=1048576):uP b a (k+1):=λj g i=>by
 by_cases e:j=k
 .subst e;exact⟨d,f⟩
 .exact c j g om
theorem qJ{b a k}(c:b.length<=1048576)(h:uP b a k)(d:k<=a.length):(dm b (a.take k)).length<=1048576:=by
 cases k with
 |zero=>simpa[dm]using c
 |succ k=>exact(h k om om).2
def ko(c:Nat):Prop:=(97<=c/\c<=122)\/(48<=c/\c<=57)\/c=46\/c=45
def fP(s:fu):Prop:=(∀(i:Nat)(b:UInt8),s[i]?=some b->ko b.toNat)/\1<=s.size/\s.size<=40
def pD(a b:fu):Bool:=Op.bytesLess a.toList b.toList||a.toList==b.toList
def iw(d:Dk):Prop:=(0<=d.cap∧-1<=d.left/\d.files.length<=256)/\∀(i:Nat)(h:i<d.files.length),(fP d.files[i].name/\okF d.files[i].base d.files[i].bM)/\∀a:0<i,pD d.files[i].name (d.files[i-1]'om).name=false
def kc(d:Dk):Prop:=d.files.length<=4294967296/\∀f∈d.files,jb f/\f.name.size<=4611686018427387904
def kx(d:Dk)(s:fu)(i:Nat):Prop:=∃h:i<d.files.length,(d.files[i].name.toList==s.toList)=true/\∀(j:Nat)(a:j<i),((d.files[j]'om).name.toList==s.toList)=false
def nX(d:Dk)(s:fu):Prop:=∀(j:Nat)(h:j<d.files.length),(d.files[j].name.toList==s.toList)=false
def Wh(d:Dk)(s:fu)(c:By):Prop:=iw d/\fP s/\d.left≠0/\∃i,∃h:kx d s i,c=dm (d.files[i]'h.1).base (d.files[i]'h.1).bM
def kv(c:By)(off n:Int):Prop:=off<0\/n<0\/(c.length:Int)<off\/(c.length:Int) -off<n
theorem fH(P):∃b,(b=true↔P):=by
 by_cases h:P
 .exact⟨true,⟨λ_=>h,λ_=>rfl⟩⟩
 .exact⟨false,⟨λh=>(by cases h),λa=>absurd a h⟩⟩
end
section

end
section
open Go.RowKit AI
attribute [local irreducible] bl.wp
theorem V6{b:By}{w}(hb:ct 1 b=true)(hw:vC w)(h0:0<=w.off)(h1:w.off<=1048576)(hl:b.length<=4294967296):DV [.r b,.i w.off,.r w.data,.b w.cut]=some [.r (gM b w)]:=by
 have hd:=hw.2;refine bF ?_;refine uR ?_;refine er rfl hb oO oO om rfl (nW ?_);refine cJ (λhc=>?_) (λhc=>?_)
 .have hc:w.cut=true:=hc;refine uR ?_;refine Km rfl (uR ?_);refine mc ⟨by exact oO,by exact oO,by exact oO,lV hb⟩ (uR ?_);refine bk ?_;show[L.r _]=_;unfold gM;rw[bA hc];congr 2;rw[show(((min (b.length:Int) w.off).toNat-Int.toNat 0:Nat):Int).toNat=min b.length w.off.toNat by omega,List.take_eq_take_iff];omega
 have hc:¬w.cut=true:=by rw[show w.cut=false from hc];decide
 refine CF ?_;refine wp_loop (I:=λa=>∃m:Nat,a=[.r (b++List.replicate m iD)]/\m<=w.off.toNat-b.length) (mu:=λa=>match a with|[.r r]=>w.off.toNat-r.length|_=>0) ⟨0,by show[L.r b]=_;simp,om⟩ ?_;rintro a ⟨m,rfl,e1⟩;have hl2:(b++List.replicate m iD).length=b.length+m:=by simp
 have hR:ct 1 (b++List.replicate m iD)=true:=zS hb (D3 rfl);refine uR ?_;refine cJ (λhc=>?_) (λhc=>?_)
 .have hlt:((b++List.replicate m iD).length:Int)<w.off:=eE hc;refine uR ?_;refine er hR rfl oO oO om rfl (nW ?_);refine bk ⟨⟨m+1,?_,om⟩,?_⟩
  .rw[List.replicate_succ',<-dI];rfl
  .show w.off.toNat- ((b++List.replicate m iD)++_).length<w.off.toNat- (b++List.replicate m iD).length;rw[cD];show w.off.toNat- ((b++List.replicate m iD).length+1)<_;omega
 have hge:¬((b++List.replicate m iD).length:Int)<w.off:=fv hc;have hm:m=w.off.toNat-b.length:=om;refine bk ?_;obtain⟨g,hg⟩:∃g,b++List.replicate m iD=g:=⟨_,rfl⟩
 have Zi:gM b w=g.take w.off.toNat++w.data++b.drop (w.off.toNat+w.data.length):=by
  unfold gM;rw[bH (by assumption),<-hm,hg]
 have iJ:g.drop (w.off.toNat+w.data.length)=b.drop (w.off.toNat+w.data.length):=by
  rw[<-hg,Ov];rw[show(List.replicate m iD).drop (w.off.toNat+w.data.length-b.length)=[]from rl (by simp;omega),fW]
 rw[hg]at hl2 hR hge;rw[hg];refine uR ?_;refine dp (n:=w.off+w.data.length) (by rfl) om om (uR ?_);refine cJ (λhc=>?_) (λhc=>?_)
 .have me:(g.length:Int)<w.off+w.data.length:=eE hc;refine uR ?_;refine mc ⟨by exact oO,h0,by exact oO,lV hR⟩ (uR ?_);refine er (r:=g.take w.off.toNat++w.data) (C4 hR) hw.1 oO oO om ?_ ?_
  .try dsimp only[At.ev,d1,d2,d3,d4,d5,d6,d7,d8,d9,e0,List.map,db,Kd.pv]
   rw[show((w.off.toNat-Int.toNat 0:Nat):Int).toNat=w.off.toNat by omega]
  refine nW ?_;refine bk ?_;show[L.r _]=_;rw[Zi,<-iJ,rl om,fW]
 .have hle:¬(g.length:Int)<w.off+w.data.length:=fv hc;refine uR ?_;refine mc ⟨h0,by exact oO,by exact oO,lV hR⟩ (nW ?_);refine SM ⟨hw.1,by exact oO⟩ rfl (nW ?_);refine bk ?_;show[L.r _]=_;rw[Zi,<-iJ];have e:min w.data.length (((w.off+(w.data.length:Int)).toNat-w.off.toNat:Nat):Int).toNat=w.data.length:=om;rw[e,jY]
theorem atU{s:fu}{i}(h:i<s.size):∃b,s[i]?=some b:=⟨s[i],getElem?_pos s i h⟩
theorem Rf{s:fu}{i b}(h:s[i]?=some b):i<s.size:=by
 rcases mP i s.size with a|a
 .exact a
 .rw[getElem?_neg s i (by simpa using a)]at h;cases h
theorem W7(s)(hs:s.size<=4611686018427387904){b}(hb:b=true↔fP s):BF [.s s]=some [.b b]:=by
 refine bF ?_;refine CF ?_;refine wp_loop (I:=λa=>∃i:Nat,a=[.i i]/\i<=s.size/\∀(j:Nat)(c:UInt8),j<i->s[j]?=some c->ko c.toNat) (mu:=λa=>match a with|[.i i]=>s.size-i.toNat|_=>0) ⟨0,rfl,om,λj c hj=>by omega⟩ ?_;rintro a ⟨i,rfl,e1,e2⟩;refine nW ?_;refine Er (uR ?_);refine cJ (λhc=>?_) (λhc=>?_)
 .have hi:i<s.size:=by have:(i:Int)<s.size:=eE hc;omega
  obtain⟨c,hcc⟩:=atU hi;refine awI (b:=c) oO (by exact hcc) (nW ?_);refine bz (c8 (¬ko c.toNat)) ?_ ?_
  .repeat' first
    |(refine bO rfl (λhx=>?_) (λhx=>?_))
    |(refine uT rfl ?_)
   all_goals
    refine bk ?_;show c8 (¬ko c.toNat) _
    try dsimp only[At.ev,d1,d2,d3,d4,d5,d6,d7,d8,d9,e0,List.map,db,Kd.pv]
    first
     |exact qv (P:=¬ko c.toNat) (by unfold ko;omega)
     |exact e_ (P:=¬ko c.toNat) (by unfold ko;omega)
     |exact e7 (P:=¬ko c.toNat) (by unfold ko;omega)
  .rintro _ ⟨t,rfl,ht⟩;refine nW ?_;refine cJ (λhn=>?_) (λhn=>?_)
   .have aBz:=ht.1 hn;refine bk ?_;show[L.b false]=[.b b]
    rw[gF hb λh=>aBz (h.1 i c hcc)]
   .have aBA:ko c.toNat:=js.1 λh=>by
     have:=ht.2 h;rw[show t=false from hn]at this;cases this
    refine b8 (i:=i) rfl om (nW ?_);refine bk ⟨⟨i+1,?_,om,λj d hj hd=>?_⟩,?_⟩
    .rfl
    .by_cases he:j=i
     .subst he;rw[hcc]at hd;cases hd;exact aBA
     .exact e2 j d om hd
    .show s.size- (((i+1:Nat):Int)).toNat<s.size-i;omega
 .have hi:¬i<s.size:=by have:¬(i:Int)<s.size:=fv hc;omega
  refine bk ?_;refine bz (c8 (fP s)) ?_ ?_
  .refine Er (uR ?_);have hall:∀(j:Nat)(c:UInt8),s[j]?=some c->ko c.toNat:=λj c hj=>e2 j c (by have:=Rf hj;omega) hj
   refine cJ (λhx=>?_) (λhx=>?_)
   .have hx:(1:Int)<=s.size:=eE hx;refine Er (uR ?_);refine bk ?_;exact e_ (show((s.size:Int)<=40)↔fP s from⟨λh=>⟨hall,om,om⟩,λh=>by have:=h.2.2;omega⟩)
   .have hx:¬(1:Int)<=s.size:=fv hx;refine bk (e7 λh=>hx (by have:=h.2.1;omega))
  .rintro _ ⟨t,rfl,ht⟩;refine nW ?_;refine bk ?_;show[L.b t]=[.b b]
   rw[jT.2 (ht.trans hb.symm)]
theorem LX{α:Type}{p}:∀{l:List α},(∀x∈l.dropWhile p,p x=true)->∀x∈l,p x=true
 |[],_,x,b=>by cases b
 |a::l,h,x,b=>by
  rw[List.dropWhile_cons]at h;split at h
  .rename_i c;rcases eG.1 b with rfl|b
   .exact c
   .exact LX h x b
  .rename_i c;exact absurd (h a iA) c
theorem VR{α:Type}{p}:∀{l:List α},(∀x∈l,p x=true)->l.dropWhile p=[]
 |[],_=>rfl
 |a::l,h=>by
  rw[List.dropWhile_cons,bA (h a iA)];exact VR λx b=>h x (iz _ b)
theorem azE(l cs):Lib.trimS l cs=[]↔∀x∈l,cs.contains x=true:=by
 unfold Lib.trimS Lib.trimLeftS Lib.trimRightS;constructor
 .intro h x b;have c:∀y∈(l.reverse.dropWhile (cs.contains ·)).reverse,cs.contains y=true:=LX λy a=>by rw[h]at a;cases a
  exact LX (l:=l.reverse) (λy a=>c y (ZT.2 a)) x (ZT.2 b)
 .intro h;rw[show l.reverse.dropWhile (cs.contains ·)=[]from VR λx b=>h x (ZT.1 b)];rfl
def CG:List UInt8:=[97,98,99,100,101,102,103,104,105,106,107,108,109,110,111,112,113,114,115,116,117,118,119,120,121,122,48,49,50,51,52,53,54,55,56,57,46,45]
theorem arA:∀n:Nat,n<256->(CG.contains (UInt8.ofNat n)=true↔((97<=n/\n<=122)\/(48<=n/\n<=57)\/n=46\/n=45)):=by decide
theorem chars(s:fu)(i:Nat):s[i]?=s.data.toList[i]?:=by
 have a:s.data.toList.length=s.size:=Gq;rcases mP i s.size with h|h
 .rw[getElem?_pos s i h,cY om];simp[ByteArray.getElem_eq_getElem_data]
 .rw[getElem?_neg s i (by simpa using h),o0 om]
theorem vH(s)(o:s.size<=4611686018427387904){b}(m:b=true↔fP s):yO [.s s]=some [.b b]:=by
 have g:s.data.toList.length=s.size:=Gq;have hall:(∀x∈s.data.toList,CG.contains x=true)↔∀(i:Nat)(c:UInt8),s[i]?=some c->ko c.toNat:=by
  have k:∀x:UInt8,CG.contains x=true↔ko x.toNat:=λx=>by
   have:=arA x.toNat x.toNat_lt
   rwa [UInt8.ofNat_toNat]at this
  constructor
  .exact λh i c j=>(k c).1 (h c (eb ((chars s i).symm.trans j)))
  .intro h x a;obtain⟨i,j⟩:=List.mem_iff_getElem?.1 a;exact(k x).2 (h i x ((chars s i).trans j))
 have e:∀l:List UInt8,((⟨l.toArray⟩:fu).toList==(⟨#[]⟩:fu).toList)=true↔l=[]:=λl=>by
  rw[beq_iff_eq,Lib.toList_data,Lib.toList_data]
 refine bF ?_;refine bz (c8 (fP s)) ?_ ?_
 .refine mq rfl (nW ?_);have f:((s.toList==(⟨#[]⟩:fu).toList)=true)↔s.size=0:=by
   rw[beq_iff_eq,Lib.toList_data,Lib.toList_data,<-g];exact⟨λh=>by rw[h];rfl,λh=>mN h⟩
  refine cJ (λa=>?_) (λa=>?_)
  .have p:1<=s.size:=by
    rcases Nat.eq_zero_or_pos s.size with h|h
    .rw[f.2 h]at a;cases a
    .exact h
   refine Er (uR ?_);refine cJ (λd=>?_) (λd=>?_)
   .have d:(s.size:Int)<=40:=eE d;refine bm (l:=[.s ⟨(Lib.trimS s.data.toList CG).toArray⟩]) ?_ rfl rfl ?_
    .exact bA ⟨om,dc,dc⟩
    refine nW ?_;refine mq rfl (nW ?_);refine bk ⟨_,rfl,?_⟩;rw[e,azE,hall];exact⟨λh=>⟨h,om,om⟩,λh=>h.1⟩
   .have d:¬(s.size:Int)<=40:=fv d;exact bk (e7 λh=>d (by have:=h.2.2;omega))
  .exact bk (e7 λh=>by
    have a:(!(s.toList==(⟨#[]⟩:fu).toList))=false:=a;rw[Bool.not_eq_false']at a;have:=f.1 a;have:=h.2.1;omega)
 .rintro _ ⟨t,rfl,n⟩;refine nW ?_;refine bk ?_;show[L.b t]=[.b b]
  rw[jT.2 (n.trans m.symm)]
theorem Ue{b a k}(h)(c:¬(okW a[k]/\(dm b (a.take (k+1))).length<=1048576)):¬okF b a:=λd=>c (qu.1 d.2 k h h)
theorem ago{b w}(h:okW w)(e:1048576<w.data.length):1048576< (gM b w).length:=by
 obtain⟨a,f,c⟩:=h;have d:¬w.cut=true:=λh=>c ⟨h,om⟩
 have:=LZ (b:=b) a;unfold sd at this;rw[bH d]at this;omega
theorem Xw{f}(hf:jb f)(hs:f.name.size<=4611686018427387904){b}(hb:b=true↔fP f.name/\okF f.base f.bM):Dn [.s f.name,.r f.base,.r (f.bM.map df)]=some [.b b]:=by
 obtain⟨hr,hl,hp,hw⟩:=hf;obtain⟨bn,u5⟩:=fH (fP f.name);refine bF ?_;refine bz (c8 (¬(fP f.name/\f.base.length<=1048576))) ?_ ?_
 .refine bm (W7 f.name hs u5) rfl rfl (uR ?_);refine cJ (λhx=>?_) (λhx=>?_)
  .exact bk (dQ λh=>by rw[u5.2 h.1]at hx;cases hx)
  .have hx:(!bn)=false:=hx;have hn:fP f.name:=u5.1 (by simpa using hx);refine uR ?_;exact bk (e_ (show(1048576:Int)<f.base.length↔_ from⟨λh1 h2=>by omega,λh=>o2 λh1=>h ⟨hn,om⟩⟩))
 rintro _ ⟨t,rfl,ht⟩;refine nW ?_;refine cJ (λhx=>?_) (λhx=>?_)
 .refine bk ?_;show[L.b false]=[.b b]
  rw[gF hb λh=>ht.1 hx ⟨h.1,h.2.1⟩]
 have hbase:fP f.name/\f.base.length<=1048576:=js.1 λh=>by rw[ht.2 h]at hx;cases hx
 refine bz (λxs=>xs=[]/\b=true) ?_ ?_;rotate_left
 .rintro _ ⟨rfl,h⟩;refine nW ?_;refine bk ?_;show[L.b true]=[.b b]
  rw[h]
 refine wp_loop (I:=λa=>∃i:Nat,a=[.r (dm f.base (f.bM.take i)),.i i]/\i<=f.bM.length/\uP f.base f.bM i) (mu:=λa=>match a with|[_,.i i]=>f.bM.length-i.toNat|_=>0) ⟨0,rfl,om,Pq⟩ ?_;rintro a ⟨i,rfl,e1,e2⟩;have pR:=qJ hbase.2 e2 e1;have sH:ct 1 (dm f.base (f.bM.take i))=true:=tn hr λw hx=>hw w (mO hx)
 refine uR ?_;refine cJ (λhc=>?_) (λhc=>?_);rotate_left
 .have hi:i=f.bM.length:=by
   have:¬(i:Int)< (f.bM.map df).length:=fv hc;rw[bD]at this;omega
  refine bk ⟨rfl,hb.2 ⟨hbase.1,hbase.2,qu.2 (by rw[<-hi];exact e2)⟩⟩
 have hi:i<f.bM.length:=by
  have:(i:Int)< (f.bM.map df).length:=eE hc;rw[bD]at this;omega
 have oN:=hw _ (cQ hi);have hno:=Ue (b:=f.base) hi;have hstep:=Su hi e2;refine bS (f:=df) (j:=i) rfl rfl hi rfl ?_;rw[ur hi]at hno hstep;have dM:=ur (b:=f.base) hi;generalize f.bM[i]=w at oN hno hstep dM;generalize hg:dm f.base (f.bM.take i)=g at pR sH hno hstep dM;refine uR ?_;refine bz (c8 (¬okW w\/1048576<w.data.length)) ?_ ?_
 .refine uR ?_;refine cJ (λhy=>?_) (λhy=>?_)
  .have hy:w.off<0:=eE hy;exact bk (dQ (.inl λh=>by have:=h.1;omega))
  have hy:¬w.off<0:=fv hy;refine uR ?_;refine cJ (λhz=>?_) (λhz=>?_)
  .have hz:1048576<w.off:=eE hz;exact bk (dQ (.inl λh=>by have:=h.2.1;omega))
  have hz:¬1048576<w.off:=fv hz;refine cJ (λhu=>?_) (λhu=>?_)
  .refine uR ?_;refine cJ (λhv=>?_) (λhv=>?_)
   .have hv:(0:Int)<w.data.length:=eE hv;exact bk (dQ (.inl λh=>h.2.2 ⟨hu,om⟩))
   .have hv:¬(0:Int)<w.data.length:=fv hv;refine uR ?_;exact bk (e_ (show(1048576:Int)<w.data.length↔_ from⟨λh=>by omega,λh=>by
     rcases h with h|h
     .exact absurd ⟨om,om,λk=>by omega⟩ h
     .omega⟩))
  .have hu:¬w.cut=true:=by rw[show w.cut=false from hu];decide
   refine uR ?_;exact bk (e_ (show(1048576:Int)<w.data.length↔_ from⟨λh=>.inr om,λh=>by
    rcases h with h|h
    .exact absurd ⟨om,om,λk=>hu k.1⟩ h
    .omega⟩))
 rintro _ ⟨u,rfl,hu⟩;refine nW ?_;refine cJ (λhy=>?_) (λhy=>?_)
 .refine bk ?_;show[L.b false]=[.b b]
  rw [gF hb λh=>hno (λk=>by
   rcases hu.1 hy with q|q
   .exact q k.1
   .have:=ago (b:=g) k.1 q;omega) h.2]
 have hy:¬(¬okW w\/1048576<w.data.length):=λh=>by rw[hu.2 h]at hy;cases hy
 have dB:okW w:=js.1 λh=>hy (.inl h)
 refine bm (V6 sH oN dB.1 dB.2.1 om) rfl rfl (uR ?_);refine cJ (λhz=>?_) (λhz=>?_)
 .have hz:(1048576:Int)< (gM g w).length:=eE hz;refine bk ?_;show[L.b false]=[.b b]
  rw[gF hb λh=>hno (λk=>by omega) h.2]
 .have hz:¬(1048576:Int)< (gM g w).length:=fv hz;refine b8 (i:=i) rfl om (nW ?_);refine bk ⟨⟨i+1,?_,om,hstep dB om⟩,?_⟩
  .show[L.r _,L.i (((i+1:Nat):Int))]=_;rw[dM]
  .show f.bM.length- (((i+1:Nat):Int)).toNat<f.bM.length-i;omega
theorem atl:fP ⟨#[120]⟩:=by
 refine⟨λi b h=>?_,dc,dc⟩;have:=Rf h;obtain rfl:i=0:=by
  have:i<1:=this;omega
 cases h;exact .inl dc
theorem Ak{f}(hf:jb f){s}:(okF f.base f.bM->n_ [.s s,.r f.base,.r (f.bM.map df)]=some [.r (dm f.base f.bM)])/\(¬okF f.base f.bM->n_ [.s s,.r f.base,.r (f.bM.map df)]=some [.r []]):=by
 obtain⟨b,hb⟩:=fH (fP ⟨#[120]⟩/\okF f.base f.bM);have hv:=Xw (f:=⟨⟨#[120]⟩,f.base,f.bM⟩) hf (by show ByteArray.size ⟨#[120]⟩<=4611686018427387904;decide) hb;constructor
 .intro ho;refine bF ?_;refine bm hv rfl rfl (nW ?_);rw[hb.2 ⟨atl,ho⟩];refine uR ?_;refine cn rfl ?_;obtain⟨hr,hl,hp,hw⟩:=hf;have hk:=qu.1 ho.2;refine bz (λxs=>xs=[.r (dm f.base f.bM)]) ?_ ?_
  .refine wp_loop (I:=λa=>∃i:Nat,a=[.r (dm f.base (f.bM.take i)),.i i]/\i<=f.bM.length) (mu:=λa=>match a with|[_,.i i]=>f.bM.length-i.toNat|_=>0) ⟨0,rfl,om⟩ ?_;rintro a ⟨i,rfl,e1⟩;have pR:=qJ ho.1 (k:=i) (λj hj h=>hk j hj om) e1;have sH:ct 1 (dm f.base (f.bM.take i))=true:=tn hr λw hx=>hw w (mO hx)
   refine uR ?_;refine cJ (λhc=>?_) (λhc=>?_)
   .have hi:i<f.bM.length:=by
     have:(i:Int)< (f.bM.map df).length:=eE hc;rw[bD]at this;omega
    have oN:=hw _ (cQ hi);have dB:=(hk i hi hi).1;refine bS (f:=df) (j:=i) rfl rfl hi rfl ?_;have dM:=ur (b:=f.base) hi;refine uR ?_;refine bm (V6 sH oN dB.1 dB.2.1 om) rfl rfl (nW ?_);refine b8 (i:=i) rfl om (nW ?_);refine bk ⟨⟨i+1,?_,om⟩,?_⟩
    .show[L.r _,L.i (((i+1:Nat):Int))]=_;rw[dM]
    .show f.bM.length- (((i+1:Nat):Int)).toNat<f.bM.length-i;omega
   .have hi:i=f.bM.length:=by
     have:¬(i:Int)< (f.bM.map df).length:=fv hc;rw[bD]at this;omega
    refine bk ?_;show[L.r (dm f.base (f.bM.take i))]=_;rw[hi,jY]
  .rintro _ rfl;have pR:=qJ ho.1 hk (de _);rw[jY]at pR;have sH:ct 1 (dm f.base f.bM)=true:=tn hr hw;refine uR ?_;refine er rfl sH oO oO om rfl (nW ?_);exact bk rfl
 .intro ho;refine bF ?_;refine bm hv rfl rfl (nW ?_);rw[gF hb λh=>ho h.2];refine uR ?_;refine fT rfl ?_;exact bk rfl
def wg(d:Dk)(i:Nat):Prop:=∀h:i<d.files.length,(fP d.files[i].name/\okF d.files[i].base d.files[i].bM)/\∀a:0<i,pD d.files[i].name (d.files[i-1]'om).name=false
theorem aiw{d}(hd:kc d){b}(hb:b=true↔iw d):Hz [.i d.cap,.i d.left,.r (d.files.map bJ)]=some [.b b]:=by
 refine bF ?_;refine bz (c8 (¬(0<=d.cap∧-1<=d.left/\d.files.length<=256))) ?_ ?_
 .refine uR ?_;refine cJ (λhx=>?_) (λhx=>?_)
  .have hx:d.cap<0:=eE hx;exact bk (dQ om)
  have hx:¬d.cap<0:=fv hx;refine uR ?_;refine cJ (λhy=>?_) (λhy=>?_)
  .have hy:d.left< -1:=eE hy;exact bk (dQ om)
  have hy:¬d.left< -1:=fv hy;refine uR ?_;exact bk (e_ (show(256:Int)< (d.files.map bJ).length↔_ by rw[bD];omega))
 rintro _ ⟨t,rfl,ht⟩;refine nW ?_;refine cJ (λhx=>?_) (λhx=>?_)
 .refine bk ?_;show[L.b false]=[.b b]
  rw[gF hb λh=>ht.1 hx h.1]
 have F4:0<=d.cap∧-1<=d.left/\d.files.length<=256:=js.1 λh=>by rw[ht.2 h]at hx;cases hx
 refine bz (λxs=>xs=[]/\b=true) ?_ ?_;rotate_left
 .rintro _ ⟨rfl,h⟩;refine nW ?_;refine bk ?_;show[L.b true]=[.b b]
  rw[h]
 refine wp_loop (I:=λa=>∃i:Nat,a=[.i i]/\i<=d.files.length/\∀j,j<i->wg d j) (mu:=λa=>match a with|[.i i]=>d.files.length-i.toNat|_=>0) ⟨0,rfl,om,λj hj=>by omega⟩ ?_;rintro a ⟨i,rfl,e1,e2⟩;refine uR ?_;refine cJ (λhc=>?_) (λhc=>?_);rotate_left
 .have hi:i=d.files.length:=by
   have:¬(i:Int)< (d.files.map bJ).length:=fv hc;rw[bD]at this;omega
  exact bk ⟨rfl,hb.2 ⟨F4,λj hj=>e2 j om hj⟩⟩
 have hi:i<d.files.length:=by
  have:(i:Int)< (d.files.map bJ).length:=eE hc;rw[bD]at this;omega
 have mf:=hd.2 _ (cQ hi);refine bz (c8 (¬wg d i)) ?_ ?_;rotate_left
 .rintro _ ⟨u,rfl,hu⟩;refine nW ?_;refine cJ (λhy=>?_) (λhy=>?_)
  .refine bk ?_;show[L.b false]=[.b b]
   rw[gF hb λh=>hu.1 hy (h.2 i)]
  have hg:wg d i:=js.1 λh=>by rw[hu.2 h]at hy;cases hy
  refine b8 (i:=i) rfl om (nW ?_);refine bk ⟨⟨i+1,?_,om,λj hj=>?_⟩,?_⟩
  .rfl
  .by_cases he:j=i
   .subst he;exact hg
   .exact e2 j om
  .show d.files.length- (((i+1:Nat):Int)).toNat<d.files.length-i;omega
 refine bS (f:=bJ) (j:=i) rfl rfl hi rfl (uR ?_);obtain⟨bf,u6⟩:=fH (fP d.files[i].name/\okF d.files[i].base d.files[i].bM);refine bm (Xw mf.1 mf.2 u6) rfl rfl (uR ?_);refine cJ (λhy=>?_) (λhy=>?_)
 .exact bk (dQ λh=>by rw[u6.2 (h hi).1]at hy;cases hy)
 have hy:(!bf)=false:=hy;have dB:=u6.1 (by simpa using hy);refine uR ?_;refine cJ (λhz=>?_) (λhz=>?_)
 .have h0:0<i:=by have:(0:Int)<i:=eE hz;omega
  refine bS (f:=bJ) (j:=i) rfl rfl hi rfl (uR ?_);refine di (n:=((i-1:Nat):Int)) oO om om (nW ?_);refine bS (f:=bJ) (j:=i-1) rfl rfl om rfl (uR ?_);refine mq rfl (nW ?_);refine bk ⟨pD d.files[i].name (d.files[i-1]'om).name,rfl,?_⟩;constructor
  .intro h k;have:=(k hi).2 h0;rw[h]at this;cases this
  .intro h;rcases ZU (pD d.files[i].name (d.files[i-1]'om).name)with q|q
   .exact q
   .exact absurd (λ_=>⟨dB,λ_=>q⟩) h
 .have h0:¬0<i:=by have:¬(0:Int)<i:=fv hz;omega
  exact bk (e7 λh=>h λ_=>⟨dB,λk=>absurd k h0⟩)
theorem H_{d s}(hl:d.files.length<=4294967296){r:Int}(hr:∀i,kx d s i->r=i)(hn:nX d s->r= -1):CY [.i d.cap,.i d.left,.r (d.files.map bJ),.s s]=some [.i r]:=by
 refine bF ?_;refine bz (λxs=>xs=[]/\nX d s) ?_ ?_;rotate_left
 .rintro _ ⟨rfl,h⟩;refine nW ?_;refine bk ?_;show[L.i (-1)]=[.i r]
  rw[hn h]
 refine wp_loop (I:=λa=>∃i:Nat,a=[.i i]/\i<=d.files.length/\∀(j:Nat)(h:j<d.files.length),j<i->(d.files[j].name.toList==s.toList)=false) (mu:=λa=>match a with|[.i i]=>d.files.length-i.toNat|_=>0) ⟨0,rfl,om,λj _ hj=>by omega⟩ ?_;rintro a ⟨i,rfl,e1,e2⟩;refine uR ?_;refine cJ (λhc=>?_) (λhc=>?_);rotate_left
 .have hi:i=d.files.length:=by
   have:¬(i:Int)< (d.files.map bJ).length:=fv hc;rw[bD]at this;omega
  exact bk ⟨rfl,λj hj=>e2 j hj om⟩
 have hi:i<d.files.length:=by
  have:(i:Int)< (d.files.map bJ).length:=eE hc;rw[bD]at this;omega
 refine bS (f:=bJ) (j:=i) rfl rfl hi rfl (uR ?_);refine mq rfl (nW ?_);refine cJ (λhy=>?_) (λhy=>?_)
 .refine bk ?_;show[L.i i]=[.i r]
  rw[hr i ⟨hi,hy,λj hj=>e2 j om hj⟩]
 .refine b8 (i:=i) rfl om (nW ?_);refine bk ⟨⟨i+1,?_,om,λj hj u7=>?_⟩,?_⟩
  .rfl
  .by_cases he:j=i
   .subst he;exact hy
   .exact e2 j hj om
  .show d.files.length- (((i+1:Nat):Int)).toNat<d.files.length-i;omega
def Rd(d:Dk)(s:fu):Prop:=iw d/\fP s/\d.left≠0
theorem Nf{d}(k:kc d){s}(l:s.size<=4611686018427387904):∃e,FH [.i d.cap,.i d.left,.r (d.files.map bJ),.s s]=some [.i e]/\(e=0↔Rd d s):=by
 obtain⟨bd,b⟩:=fH (iw d);obtain⟨g,c⟩:=fH (fP s)
 suffices h:Fo Qe [.i d.cap,.i d.left,.r (d.files.map bJ),.s s]=some [.i (if bd=false\/g=false then 1 else if d.left=0 then 13 else 0)]by
  refine⟨_,h,?_⟩;unfold Rd;rw[<-b,<-c];cases bd<;>cases g<;>simp
 refine bF ?_;refine bz (c8 (bd=false\/g=false)) ?_ ?_
 .refine bm (aiw k b) rfl rfl (uR ?_);refine cJ (λa=>?_) (λa=>?_)
  .have a:(!bd)=true:=a;exact bk (dQ (.inl (by simpa using a)))
  .have a:(!bd)=false:=a;refine bm (W7 s l c) rfl rfl (uR ?_);refine bk ⟨_,rfl,?_⟩;cases bd<;>simp_all
 rintro _ ⟨t,rfl,j⟩;refine nW ?_;refine cJ (λa=>?_) (λa=>?_)
 .refine bk ?_;show[L.i 1]=_;rw[bA (j.1 a)]
 have f:¬(bd=false\/g=false):=λh=>by rw[j.2 h]at a;cases a
 refine uR ?_;refine cJ (λi=>?_) (λi=>?_)
 .refine bk ?_;show[L.i 13]=_;rw[bH f,bA (eE i)]
 .refine bk ?_;show[L.i 0]=_;rw[bH f,bH (fv i)]
theorem Hy(d)(s):nX d s\/∃i,kx d s i:=by
 have : ∀n,n<=d.files.length->(∀(j:Nat)(h:j<d.files.length),j<n->(d.files[j].name.toList==s.toList)=false)\/∃i,kx d s i:=λn=>by
  induction n with
  |zero=>exactλ_=>.inl λj _ a=>om
  |succ n ih=>
   intro e;rcases ih om with h|h
   .rcases ZU (d.files[n].name.toList==s.toList)with q|q
    .exact .inr ⟨n,om,q,λj a=>h j om a⟩
    .refine .inl λj a b=>?_
     by_cases c:j=n
     .subst c;exact q
     .exact h j a om
   .exact .inr h
 rcases this _ (de _)with h|h
 .exact .inl λj a=>h j a a
 .exact .inr h
theorem kx.uniq{d s i j}(m:kx d s i)(q:kx d s j):i=j:=by
 obtain⟨x,a,t⟩:=m;obtain⟨b1,k,u⟩:=q;rcases Bf i j with h|h|h
 .rw[u i h]at a;cases a
 .exact h
 .rw[t j h]at k;cases k
theorem Ja{d}(p:kc d){s}(t:s.size<=4611686018427387904):
 (∀i,Rd d s->kx d s i->qz [.i d.cap,.i d.left,.r (d.files.map bJ),.s s]=some [.i i,.i 0])/\(¬(Rd d s/\∃i,kx d s i)->∃e,e≠0/\qz [.i d.cap,.i d.left,.r (d.files.map bJ),.s s]=some [.i (-1),.i e]):=by
 obtain⟨e,k,g⟩:=Nf p t;obtain⟨r,b,c⟩:∃r:Int,(∀i,kx d s i->r=i)/\(nX d s->r= -1):=by
  rcases Hy d s with h| ⟨i,h⟩
  .exact⟨-1,⟨λi l=>(by obtain⟨m,f,_⟩:=l;rw[h i m]at f;cases f),λ_=>rfl⟩⟩
  .exact⟨i,⟨λj u=>(by rw[h.uniq u]),λn=>(by obtain⟨m,f,_⟩:=h;rw[n i m]at f;cases f)⟩⟩
 have q:=H_ (s:=s) p.1 b c;constructor
 .intro i a l;refine bF ?_;refine bm k rfl rfl (uR ?_);refine bR rfl (λh=>h (g.2 a)) ?_;refine bm q rfl rfl (nW ?_);have:=b i l;subst this;refine uR ?_;refine bR rfl oO ?_;refine bk ?_;rfl
 .intro o;by_cases a:Rd d s
  .have n:nX d s:=(Hy d s).resolve_right λh=>o ⟨a,h⟩
   refine⟨6,dc,?_⟩;refine bF ?_;refine bm k rfl rfl (uR ?_);refine bR rfl (λh=>h (g.2 a)) ?_;refine bm q rfl rfl (nW ?_);rw[c n];refine uR ?_;refine fT rfl ?_;exact bk rfl
  .refine⟨e,λh=>a (g.1 h),?_⟩;refine bF ?_;refine bm k rfl rfl (uR ?_);refine cP rfl (λh=>a (g.1 h)) ?_;exact bk rfl
theorem aqk{d}(z:kc d){s}(C:s.size<=4611686018427387904):
 (∀c,Wh d s c->∀off n:Int,(kv c off n->tH [.i d.cap,.i d.left,.r (d.files.map bJ),.s s,.i off,.i n]=some [.r [],.i 2])/\(¬kv c off n->tH [.i d.cap,.i d.left,.r (d.files.map bJ),.s s,.i off,.i n]=some [.r ((c.take (off+n).toNat).drop off.toNat),.i 0]))/\((∀c,¬Wh d s c)->∃e,e≠0/\∀off n:Int,tH [.i d.cap,.i d.left,.r (d.files.map bJ),.s s,.i off,.i n]=some [.r [],.i e]):=by
 obtain⟨w,no⟩:=Ja z C;constructor
 .rintro c ⟨A,D,E,i,v,rfl⟩ off n;have k:=w i ⟨A,D,E⟩ v;have l:=v.1;have m:=z.2 _ (cQ l);have p:=(A.2 i l).1.2;have F:=(Ak m.1 (s:=d.files[i].name)).1 p;have hlen:=qJ p.1 (qu.1 p.2) (de _);rw[jY]at hlen;have a:=tn m.1.1 m.1.2.2.2;have t:∀{o:List L},(∀x:Bool,(x=true↔kv (dm d.files[i].base d.files[i].bM) off n)->(x=true->o=[.r [],.i 2])/\(x=false->o=[.r (((dm d.files[i].base d.files[i].bM).take (off+n).toNat).drop off.toNat),.i 0]))->tH [.i d.cap,.i d.left,.r (d.files.map bJ),.s s,.i off,.i n]=some o:=λ{o}y=>by
   refine bF ?_;refine bm k rfl rfl (uR ?_);refine cn rfl ?_;refine bS (f:=bJ) (j:=i) rfl rfl l rfl (uR ?_);refine bm F rfl rfl (nW ?_);generalize dm d.files[i].base d.files[i].bM=g at hlen a y;refine bz (c8 (kv g off n)) ?_ ?_
   .unfold kv;refine uR ?_;refine bO rfl (λG=>bk (dQ om)) λG=>uR ?_
    refine bO rfl (λH=>bk (dQ om)) λH=>uR ?_
    refine bO rfl (λI=>bk (dQ om)) λI=>uR ?_
    refine di (n:=(g.length:Int) -off) rfl om om (uR ?_);exact bk (e_ om)
   .rintro _ ⟨x,rfl,q⟩;refine nW ?_;refine cJ (λu=>?_) (λu=>?_)
    .rw[(y x q).1 u];exact bk rfl
    have r:¬kv g off n:=λh=>by rw[q.2 h]at u;cases u
    unfold kv at r;rw[(y x q).2 u];refine dp (n:=off+n) rfl om om (uR ?_);refine mc ⟨by show 0<=off;omega,by show off<=off+n;omega,by show(off+n).toNat<=g.length;omega,lV a⟩ (uR ?_);refine bk ?_;show[L.r ((g.drop off.toNat).take ((((off+n).toNat-off.toNat:Nat):Int)).toNat),L.i 0]=_;rw[ey,List.drop_take]
  exact⟨λh=>t λx q=>⟨λ_=>rfl,λb=>by rw[q.2 h]at b;cases b⟩,λh=>t λx q=>⟨λb=>absurd (q.1 b) h,λ_=>rfl⟩⟩
 .intro r;obtain⟨e,B,k⟩:=no (λ⟨h,i,v⟩=>r _ ⟨h.1,h.2.1,h.2.2,i,v,rfl⟩);refine⟨e,B,λoff n=>bF ?_⟩;refine bm k rfl rfl (uR ?_);refine cP rfl B ?_;exact bk rfl
theorem aug{d}(m:kc d){s}(u:s.size<=4611686018427387904):
 (∀c,Wh d s c->y8 [.i d.cap,.i d.left,.r (d.files.map bJ),.s s]=some [.r c,.i 0])/\((∀c,¬Wh d s c)->∃e,e≠0/\y8 [.i d.cap,.i d.left,.r (d.files.map bJ),.s s]=some [.r [],.i e]):=by
 obtain⟨n,no⟩:=Ja m u;constructor
 .rintro c ⟨o,v,w,i,k,rfl⟩;have b:=n i ⟨o,v,w⟩ k;have g:=k.1;have p:=m.2 _ (cQ g);have q:=(o.2 i g).1.2;have x:=(Ak p.1 (s:=d.files[i].name)).1 q;have a:BA [.i d.cap,.i d.left,.r (d.files.map bJ),.s s]=some [.i (dm d.files[i].base d.files[i].bM).length,.i 0]:=by
   refine bF ?_;refine bm b rfl rfl (uR ?_);refine cn rfl ?_;refine bS (f:=bJ) (j:=i) rfl rfl g rfl (uR ?_);refine bm x rfl rfl (uR ?_);exact bk rfl
  have l:tH [.i d.cap,.i d.left,.r (d.files.map bJ),.s s,.i 0,.i (dm d.files[i].base d.files[i].bM).length]=some [.r (dm d.files[i].base d.files[i].bM),.i 0]:=by
   rw[((aqk m u).1 _ ⟨o,v,w,i,k,rfl⟩ 0 _).2 (by unfold kv;omega),Int.zero_add,ey,jY,Bj,vh]
  refine bF ?_;refine bm a rfl rfl (uR ?_);refine cn rfl ?_;refine bm l rfl rfl (nW ?_);exact bk rfl
 .intro r;obtain⟨e,t,b⟩:=no (λ⟨h,i,k⟩=>r _ ⟨h.1,h.2.1,h.2.2,i,k,rfl⟩);refine⟨e,t,?_⟩;have a:BA [.i d.cap,.i d.left,.r (d.files.map bJ),.s s]=some [.i 0,.i e]:=by
   refine bF ?_;refine bm b rfl rfl (uR ?_);refine cP rfl t ?_;exact bk rfl
  refine bF ?_;refine bm a rfl rfl (uR ?_);refine cP rfl t ?_;exact bk rfl
theorem K_{w n}(c: -4611686018427387904<=w.off)(d:w.off<=4611686018427387904)(b:vC w):yw [.i w.off,.r w.data,.b w.cut,.i n]=some [.i (sd n w)]:=by
 have e:=b.2;refine bF ?_;refine cJ (λa=>?_) (λa=>?_)
 .refine Km rfl (nW ?_);refine bk ?_;show[L.i (min n w.off)]=_;unfold sd;rw[bA (show w.cut=true from a)]
 .refine uR ?_;refine dp (n:=w.off+w.data.length) (by rfl) om om (nW ?_);refine Jq rfl (nW ?_);refine bk ?_;show[L.i (max n (w.off+w.data.length))]=_;unfold sd;rw[bH (by rw[show w.cut=false from a];decide)]
theorem UL{f}(hf:jb f){b}(hb:b=true↔okF f.base f.bM):Dy [.s f.name,.r f.base,.r (f.bM.map df)]=some [.b b]:=by
 obtain⟨hr,hl,hp,hw⟩:=hf;refine bF ?_;refine uR ?_;refine cJ (λhx=>?_) (λhx=>?_)
 .have hx:(1048576:Int)<f.base.length:=eE hx;refine bk ?_;show[L.b false]=[.b b]
  rw[gF hb λh=>by have:=h.1;omega]
 have hx:¬(1048576:Int)<f.base.length:=fv hx;have hbase:f.base.length<=1048576:=om;refine bz (λxs=>xs=[]/\b=true) ?_ ?_;rotate_left
 .rintro _ ⟨rfl,h⟩;refine nW ?_;refine bk ?_;show[L.b true]=[.b b]
  rw[h]
 refine uR ?_;refine wp_loop (I:=λa=>∃i:Nat,a=[.i (dm f.base (f.bM.take i)).length,.i i]/\i<=f.bM.length/\uP f.base f.bM i) (mu:=λa=>match a with|[_,.i i]=>f.bM.length-i.toNat|_=>0) ⟨0,rfl,om,Pq⟩ ?_;rintro a ⟨i,rfl,e1,e2⟩;have pR:=qJ hbase e2 e1;refine uR ?_;refine cJ (λhc=>?_) (λhc=>?_);rotate_left
 .have hi:i=f.bM.length:=by
   have:¬(i:Int)< (f.bM.map df).length:=fv hc;rw[bD]at this;omega
  exact bk ⟨rfl,hb.2 ⟨hbase,qu.2 (by rw[<-hi];exact e2)⟩⟩
 have hi:i<f.bM.length:=by
  have:(i:Int)< (f.bM.map df).length:=eE hc;rw[bD]at this;omega
 have oN:=hw _ (cQ hi);have hno:=Ue (b:=f.base) hi;have hstep:=Su hi e2;refine bS (f:=df) (j:=i) rfl rfl hi rfl ?_;rw[ur hi]at hno hstep;have dM:=ur (b:=f.base) hi;generalize f.bM[i]=w at oN hno hstep dM;generalize hg:dm f.base (f.bM.take i)=g at pR hno hstep dM;refine uR ?_;refine bz (c8 (¬okW w)) ?_ ?_
 .refine uR ?_;refine cJ (λhy=>?_) (λhy=>?_)
  .have hy:w.off<0:=eE hy;exact bk (dQ (λh=>by have:=h.1;omega))
  have hy:¬w.off<0:=fv hy;refine uR ?_;refine cJ (λhz=>?_) (λhz=>?_)
  .have hz:1048576<w.off:=eE hz;exact bk (dQ (λh=>by have:=h.2.1;omega))
  have hz:¬1048576<w.off:=fv hz;refine cJ (λhu=>?_) (λhu=>?_)
  .refine uR ?_;exact bk (e_ (show(0:Int)<w.data.length↔_ from⟨λh k=>k.2.2 ⟨hu,om⟩,λh=>o2 λk=>h ⟨om,om,λq=>k om⟩⟩))
  .have hu:¬w.cut=true:=by rw[show w.cut=false from hu];decide
   exact bk (e7 λh=>h ⟨om,om,λk=>hu k.1⟩)
 rintro _ ⟨u,rfl,hu⟩;refine nW ?_;refine cJ (λhy=>?_) (λhy=>?_)
 .refine bk ?_;show[L.b false]=[.b b]
  rw[gF hb λh=>hno (λk=>hu.1 hy k.1) h]
 have dB:okW w:=js.1 λh=>by
  rw[hu.2 h]at hy;cases hy
 have hlen:=LZ (b:=g) dB.1;refine bm (K_ (n:=g.length) (by have:=dB.1;omega) (by have:=dB.2.1;omega) oN) rfl rfl ?_;rw[<-hlen];refine uR ?_;refine cJ (λhz=>?_) (λhz=>?_)
 .have hz:(1048576:Int)< (gM g w).length:=eE hz;refine bk ?_;show[L.b false]=[.b b]
  rw[gF hb λh=>hno (λk=>by omega) h]
 .have hz:¬(1048576:Int)< (gM g w).length:=fv hz;refine b8 (i:=i) rfl om (nW ?_);refine bk ⟨⟨i+1,?_,om,hstep dB om⟩,?_⟩
  .show[L.i _,L.i (((i+1:Nat):Int))]=_;rw[dM]
  .show f.bM.length- (((i+1:Nat):Int)).toNat<f.bM.length-i;omega
theorem azk{b:By}{w}(i:ct 1 b=true)(j:vC w)(k:okW w)(s:b.length<=1048576):IC [.i w.off,.r w.data,.b w.cut,.r b]=some [.r (gM b w)]:=by
 obtain⟨p,t,u⟩:=k;have v:=j.2;refine bF ?_;refine cJ (λc=>?_) (λc=>?_)
 .have c:w.cut=true:=c;refine uR ?_;refine Jq (n:=w.off) oO (nW ?_);refine Km rfl (uR ?_);refine mc ⟨by exact oO,by exact oO,by exact oO,lV i⟩ (uR ?_);refine bk ?_;show[L.r _]=_;unfold gM;rw[bA c];congr 2;rw[show(((min (b.length:Int) w.off).toNat-Int.toNat 0:Nat):Int).toNat=min b.length w.off.toNat by omega,List.take_eq_take_iff];omega
 have c:¬w.cut=true:=by rw[show w.cut=false from c];decide
 have l:sd b.length w=max (b.length:Int) (w.off+w.data.length):=by unfold sd;rw[bH c]
 refine bz (λxs=>xs=[.r (b++List.replicate (w.off.toNat+w.data.length-b.length) iD)]) ?_ ?_
 .refine uR ?_;refine bm (K_ (n:=b.length) om om j) rfl rfl ?_;rw[l];refine uR ?_;refine cJ (λf=>?_) (λf=>?_)
  .have f:(b.length:Int)<max (b.length:Int) (w.off+w.data.length):=eE f;have e:max (b.length:Int) (w.off+w.data.length) -b.length=((w.off.toNat+w.data.length-b.length:Nat):Int):=om;have h:w.off.toNat+w.data.length-b.length<=8589934592:=om;have d:0<w.off.toNat+w.data.length-b.length:=om;refine uR ?_;refine di (n:=((w.off.toNat+w.data.length-b.length:Nat):Int)) e om om (nW ?_);generalize w.off.toNat+w.data.length-b.length=m at h d;refine wV (r:=List.replicate m iD) ⟨by exact oO,by exact oO,by exact oO⟩ rfl (nW ?_);refine iG (r:=iD) oO (by simp only[At.ev,d3,d4,d5,d6,d8];rw[Bj,Oo,bA d]) rfl ?_;refine nW ?_;refine er i (D3 rfl) oO oO om rfl (nW ?_);exact bk rfl
  .have f:¬(b.length:Int)<max (b.length:Int) (w.off+w.data.length):=fv f;refine bk ?_;show[L.r b]=_;rw[show w.off.toNat+w.data.length-b.length=0 by omega];simp
 rintro _ rfl;obtain⟨m,q⟩:∃m,m=w.off.toNat+w.data.length-b.length:=⟨_,rfl⟩
 rw[<-q];have o:(b++List.replicate m iD).length=b.length+m:=by simp
 have hR:ct 1 (b++List.replicate m iD)=true:=zS i (D3 rfl);have a:gM b w=(b++List.replicate m iD).take w.off.toNat++w.data++(b++List.replicate m iD).drop (w.off.toNat+w.data.length):=by
  unfold gM;rw[bH c];congr 1
  .congr 1;rw[List.take_append,List.take_append,List.take_replicate,List.take_replicate];congr 2;omega
  .rw[Ov,show(List.replicate m iD).drop (w.off.toNat+w.data.length-b.length)=[]from rl (by simp;omega),fW]
 generalize b++List.replicate m iD=g at o hR a;refine uR ?_;refine mc ⟨p,by exact oO,by exact oO,lV hR⟩ (nW ?_);refine SM ⟨j.1,by exact oO⟩ rfl (nW ?_);refine bk ?_;show[L.r _]=_;rw[a];have e:min w.data.length (((g.length:Int).toNat-w.off.toNat:Nat):Int).toNat=w.data.length:=om;rw[e,jY]
theorem aby{b:By}(a:ct 1 b=true)(c:b.length<=4294967296):KG [.r b]=some [.r b]:=by
 refine bF ?_;refine uR ?_;refine xy (r:=[]) ⟨by exact oO,by exact oO,by exact oO,a⟩ (by simp only[At.ev,d3,d4,d5,d6,d8];rw[rl (by simp)]) (nW ?_);refine xy (r:=b) ⟨by exact oO,by exact oO,by exact oO,a⟩ (by simp only[At.ev,d3,d4,d5,d6,d8];rw[Bj,vh,ey,jY]) (nW ?_);exact bk rfl
theorem qe{b:By}(a:ct 1 b=true)(c:b.length<=4294967296):pj [.r b]=some []:=bA ⟨a,om⟩
theorem WA{f}(hf:jb f)(ho:okF f.base f.bM):EN [.s f.name,.r f.base,.r (f.bM.map df)]=some [.r (dm f.base f.bM)]:=by
 obtain⟨b,hb⟩:=fH (okF f.base f.bM);have hv:=UL hf hb;rw[hb.2 ho]at hv;obtain⟨hr,hl,hp,hw⟩:=hf;have hk:=qu.1 ho.2;refine bF ?_;refine bm hv rfl rfl (uR ?_);refine cn rfl ?_;refine bm (qe hr hl) rfl rfl (nW ?_);refine bz (λxs=>xs=[.r (dm f.base f.bM)]) ?_ ?_
 .refine uR ?_;refine wp_loop (I:=λa=>∃i:Nat,a=[.i i,.r (dm f.base (f.bM.take i))]/\i<=f.bM.length) (mu:=λa=>match a with|[.i i,_]=>f.bM.length-i.toNat|_=>0) ⟨0,rfl,om⟩ ?_;rintro a ⟨i,rfl,e1⟩;have pR:=qJ ho.1 (k:=i) (λj hj h=>hk j hj om) e1;have sH:ct 1 (dm f.base (f.bM.take i))=true:=tn hr λw hx=>hw w (mO hx)
  refine uR ?_;refine cJ (λhc=>?_) (λhc=>?_)
  .have hi:i<f.bM.length:=by
    have:(i:Int)< (f.bM.map df).length:=eE hc;rw[bD]at this;omega
   have oN:=hw _ (cQ hi);have dB:=(hk i hi hi).1;refine bS (f:=df) (j:=i) rfl rfl hi rfl ?_;have dM:=ur (b:=f.base) hi;refine uR ?_;refine bm (azk sH oN dB pR) rfl rfl (nW ?_);refine b8 (i:=i) rfl om (nW ?_);refine bk ⟨⟨i+1,?_,om⟩,?_⟩
   .show[L.i (((i+1:Nat):Int)),L.r _]=_;rw[dM]
   .show f.bM.length- (((i+1:Nat):Int)).toNat<f.bM.length-i;omega
  .have hi:i=f.bM.length:=by
    have:¬(i:Int)< (f.bM.map df).length:=fv hc;rw[bD]at this;omega
   refine bk ?_;show[L.r (dm f.base (f.bM.take i))]=_;rw[hi,jY]
 .rintro _ rfl;have pR:=qJ ho.1 hk (de _);rw[jY]at pR;refine nW ?_;refine bm (aby (tn hr hw) om) rfl rfl (nW ?_);exact bk rfl
theorem BI{f}(hf:jb f)(ho:okF f.base f.bM):rC [.s f.name,.r f.base,.r (f.bM.map df)]=some [.i (dm f.base f.bM).length]:=by
 obtain⟨hr,hl,hp,hw⟩:=hf;have hk:=qu.1 ho.2;refine bF ?_;refine uR ?_;refine bz (λxs=>xs=[.i (dm f.base f.bM).length]) ?_ ?_;rotate_left
 .rintro _ rfl;refine nW ?_;exact bk rfl
 refine uR ?_;refine wp_loop (I:=λa=>∃i:Nat,a=[.i (dm f.base (f.bM.take i)).length,.i i]/\i<=f.bM.length) (mu:=λa=>match a with|[_,.i i]=>f.bM.length-i.toNat|_=>0) ⟨0,rfl,om⟩ ?_;rintro a ⟨i,rfl,e1⟩;refine uR ?_;refine cJ (λhc=>?_) (λhc=>?_)
 .have hi:i<f.bM.length:=by
   have:(i:Int)< (f.bM.map df).length:=eE hc;rw[bD]at this;omega
  have oN:=hw _ (cQ hi);have dB:=(hk i hi hi).1;refine bS (f:=df) (j:=i) rfl rfl hi rfl ?_;have dM:=ur (b:=f.base) hi;generalize dm f.base (f.bM.take i)=g at dM;have hlen:=LZ (b:=g) dB.1;refine uR ?_;refine bm (K_ (n:=g.length) (by have:=dB.1;omega) (by have:=dB.2.1;omega) oN) rfl rfl ?_;rw[<-hlen];refine nW ?_;refine b8 (i:=i) rfl om (nW ?_);refine bk ⟨⟨i+1,?_,om⟩,?_⟩
  .show[L.i _,L.i (((i+1:Nat):Int))]=_;rw[dM]
  .show f.bM.length- (((i+1:Nat):Int)).toNat<f.bM.length-i;omega
 .have hi:i=f.bM.length:=by
   have:¬(i:Int)< (f.bM.map df).length:=fv hc;rw[bD]at this;omega
  refine bk ?_;show[L.i (dm f.base (f.bM.take i)).length]=_;rw[hi,jY]
end
end
end Go.Proofs.YtiikkkhcolcebaaGreatDoor
