/- A part. -/
import Derived.Test.YtiikkkhcolcebaaGreatDoorG6
import Derived.Test.YtiikkkhcolcebaaGreatDoorG13
import Derived.Test.YtiikkkhcolcebaaGreatDoorG15
import Derived.Test.YtiikkkhcolcebaaGreatDoorG18
import Derived.Test.YtiikkkhcolcebaaGreatDoorG21
import Derived.Test.YtiikkkhcolcebaaGreatDoorG22
set_option linter.all false
set_option maxHeartbeats 4000000
set_option maxRecDepth 100000
namespace Go.Proofs.YtiikkkhcolcebaaGreatDoor
noncomputable section
section
open Go.RowKit AI
attribute [local irreducible] bp.wp
def val(l:List Nat):BitVec 64:=l.foldl (λv x=>(v<<<8)|||BitVec.ofNat 64 x) 0
def SQ(n):IntKind.wrap .u64 n=((BitVec.ofInt 64 n).toNat:Int):=by
 simp[IntKind.wrap,IntKind.bits,IntKind.signed,IH];omega
def JN(n):IntKind.wrap .i64 n=(BitVec.ofInt 64 n).toInt:=by
 simp[IntKind.wrap,IntKind.bits,IntKind.signed,Int.bmod];split<;>split<;>omega
def BN(v):BitVec.ofInt 64 (v.toNat:Int)=v:=by
 simp
def ofInt_toInt(v):BitVec.ofInt 64 v.toInt=v:=BitVec.ofInt_toInt
def Vk(v)(n)(h:BitVec.ofInt 64 n=v):BitVec.ofInt 64 (n*256)=v<<<8:=by
 subst h;apply BitVec.eq_of_toNat_eq;rw[BitVec.toNat_shiftLeft,IH,IH,C3];omega
def TZ(v:BitVec 64):eC .shl .u64 v.toNat 8=some (.i ((v<<<8).toNat:Int)):=by
 show some (L.i (IntKind.wrap .u64 ((v.toNat:Int)*2^8)))=_;rw[show(2:Int) ^8=256 by decide,SQ,Vk v _ (BN v)]
def R3(v:BitVec 64):eC .shl .i64 v.toInt 8=some (.i ((v<<<8).toInt)):=by
 show some (L.i (IntKind.wrap .i64 (v.toInt*2^8)))=_;rw[show(2:Int) ^8=256 by decide,JN,Vk v _ (ofInt_toInt v)]
def Ww(x:Nat):BitVec.ofInt 64 (x:Int)=BitVec.ofNat 64 x:=by
 simp
def Ta(v)(x:Nat):eC .or .u64 v.toNat (x:Int)=some (.i ((v|||BitVec.ofNat 64 x).toNat:Int)):=by
 show some (L.i (IntKind.wrap .u64 ((BitVec.ofInt 64 _|||BitVec.ofInt 64 _).toNat:Int)))=_;rw[BN,Ww,SQ,BN]
def Ve(v)(x:Nat):eC .or .i64 v.toInt (x:Int)=some (.i ((v|||BitVec.ofNat 64 x).toInt)):=by
 show some (L.i (IntKind.wrap .i64 ((BitVec.ofInt 64 _|||BitVec.ofInt 64 _).toNat:Int)))=_;rw[ofInt_toInt,Ww,JN,BN]
def Gp{l:List Nat}{i}(a):val (l.take (i+1))=(val (l.take i)<<<8)|||BitVec.ofNat 64 l[i]:=by
 unfold val;rw[fT a,zN];rfl
def B8(l:List Nat):Prop:=∀x∈l,x<256
def M4(l)(hb:B8 l)(hl:l.length<=4294967296):CB [.r (l.map b1)]=some [.i ((val l).toNat:Int)]:=by
 refine bJ ?_;refine bO (λxs=>xs=[.i ((val l).toNat:Int)]) ?_ ?_;rotate_left
 .rintro _ rfl;refine nW ?_;exact bm rfl
 refine wp_loop (I:=λa=>∃i:Nat,a=[.i ((val (l.take i)).toNat:Int),.i i]/\i<=l.length) (mu:=gX l.length) ⟨0,rfl,om⟩ ?_;rintro a ⟨i,rfl,e1⟩;refine cz (λhc=>?_) (λhc=>?_)
 .rw[bA]at hc;have hi:i<l.length:=om;have hx:=hb _ (cV hi);refine dw (TZ _) (nW ?_);refine dx b1 i hi ?_;refine iw ((l[i]:Int)) rfl ?_;refine dw (Ta _ _) (nW ?_);refine cj i ?_;refine bm ⟨⟨i+1,?_,om⟩,?_⟩
  .show[L.i _,L.i _]=_;rw[Gp hi]
  .show l.length- ((i+1:Nat):Int).toNat<l.length-i;omega
 .rw[bA]at hc;obtain rfl:i=l.length:=om;refine bm ?_;show[L.i ((val (l.take l.length)).toNat:Int)]=_;rw[jX]
def GB(l)(hb:B8 l)(hl:l.length<=4294967296):xS [.r (l.map b1)]=some [.i ((val l).toNat:Int)]:=by
 refine bJ ?_;refine bO (λxs=>xs=[.i ((val l).toNat:Int)]) ?_ ?_;rotate_left
 .rintro _ rfl;refine nW ?_;exact bm rfl
 refine uR ?_;refine wp_loop (I:=λa=>∃i:Nat,a=[.i ((val (l.take i)).toNat:Int),.i i]/\i<=l.length) (mu:=gX l.length) ⟨0,rfl,om⟩ ?_;rintro a ⟨i,rfl,e1⟩;refine cz (λhc=>?_) (λhc=>?_)
 .rw[bA]at hc;have hi:i<l.length:=om;have hx:=hb _ (cV hi);refine dx b1 i hi ?_;refine dw (TZ _) (nW ?_);refine iw ((l[i]:Int)) rfl ?_;refine dw (Ta _ _) (nW ?_);refine cj i ?_;refine bm ⟨⟨i+1,?_,om⟩,?_⟩
  .show[L.i _,L.i _]=_;rw[Gp hi]
  .show l.length- ((i+1:Nat):Int).toNat<l.length-i;omega
 .rw[bA]at hc;obtain rfl:i=l.length:=om;refine bm ?_;show[L.i ((val (l.take l.length)).toNat:Int)]=_;rw[jX]
def x_(l)(hb:B8 l)(hl:l.length<=4294967296):tU [.r (l.map b1)]=some [.i (val l).toInt]:=by
 refine bJ ?_;refine bO (λxs=>xs=[.i (val l).toInt]) ?_ ?_;rotate_left
 .rintro _ rfl;refine nW ?_;exact bm rfl
 refine uR ?_;refine wp_loop (I:=λa=>∃i:Nat,a=[.i (val (l.take i)).toInt,.i i]/\i<=l.length) (mu:=gX l.length) ⟨0,rfl,om⟩ ?_;rintro a ⟨i,rfl,e1⟩;refine cz (λhc=>?_) (λhc=>?_)
 .rw[bA]at hc;have hi:i<l.length:=om;have hx:=hb _ (cV hi);refine dx b1 i hi ?_;refine dw (R3 _) (nW ?_);refine pH (n:=(l[i]:Int)) rfl om om (nW ?_);refine dw (Ve _ _) (nW ?_);refine cj i ?_;refine bm ⟨⟨i+1,?_,om⟩,?_⟩
  .show[L.i _,L.i _]=_;rw[Gp hi]
  .show l.length- ((i+1:Nat):Int).toNat<l.length-i;omega
 .rw[bA]at hc;obtain rfl:i=l.length:=om;refine bm ?_;show[L.i (val (l.take l.length)).toInt]=_;rw[jX]
def Rg(a b)(ha:B8 a)(hb:B8 b)(hl:a.length<=4294967296){t}(ht:t=true↔a=b):Hv [.r (a.map b1),.r (b.map b1)]=some [.b t]:=by
 refine gp ?_;refine cD rfl (λhc=>?_) (λhc=>?_)
 .refine bm ?_;show[L.b false]=[.b t]
  rw[gZ ht λh=>hc (by rw[h])]
 rw[bA,bA]at hc;have hlen:a.length=b.length:=om;refine bO (λxs=>xs=[]/\t=true) ?_ ?_;rotate_left
 .rintro _ ⟨rfl,h⟩;refine nW ?_;refine bm ?_;show[L.b true]=[.b t]
  rw[h]
 refine uR ?_;refine wp_loop (I:=λx=>∃i:Nat,x=[.i i]/\i<=a.length/\∀(j:Nat)(h:j<a.length),j<i->a[j]=b[j]'om) (mu:=cN a.length) ⟨0,rfl,om,λj _ hj=>by omega⟩ ?_;rintro x ⟨i,rfl,e1,e2⟩;refine cz (λhx=>?_) (λhx=>?_)
 .rw [bA]at hx;have hi:i<a.length:=om;refine dx b1 i hi ?_;refine dV (f:=b1) (j:=i) rfl rfl (show i<b.length by omega) rfl (uR ?_);refine cD rfl (λhy=>?_) (λhy=>?_)
  .refine bm ?_;show[L.b false]=[.b t]
   rw[gZ ht λh=>hy (by subst h;rfl)]
  .have heq:a[i]=b[i]'om:=om;refine cj i ?_;refine bm ⟨⟨i+1,rfl,om,λj hj uc=>?_⟩,?_⟩
   .by_cases he:j=i
    .subst he;exact heq
    .exact e2 j hj om
   .show a.length- ((i+1:Nat):Int).toNat<a.length-i;omega
 .rw[bA]at hx;exact bm ⟨rfl,ht.2 (acH hlen λj h1 h2=>e2 j h1 om)⟩
def oW(l:List Nat):cC 1 (l.map b1)=true:=by
 unfold cC;rw[cI];intro r a;obtain⟨n,_,rfl⟩:=gg.1 a;rfl
def KU(l:List Nat):mD (l.map b1)=some (l.map λn=>((n:Nat):Int)):=by
 have:=azA (l.map λn=>((n:Nat):Int));rw[<-this,fy,gW];rfl
end
section
open Go.RowKit Pl AI
attribute [local irreducible] bp.wp
def ow(n):lB [.i n]=some [.i (dq n)]:=by
 refine bJ ?_;refine bO (dp (n<0\/4096<n)) ?_ ?_
 . (repeat' first| (refine cD rfl (λa=>?_) (λa=>?_))| (refine uT rfl ?_));all_goals (refine bm ?_;show dp _ _;try dsimp only[At.ev,d1,d2,d3,d4,d5,d6,d7,d8,d9,e0,List.map,cZ,Kd.pv];first|exact er om|exact fF om|exact fK om|exact qt om)
 rintro _ ⟨t,rfl,b⟩;refine nW ?_;refine dn (λa=>?_) (λa=>?_)
 .refine bm ?_;show[L.i 0]=[L.i (dq n)]
  unfold dq;rw[bB (b.1 a)]
 .have c:¬(n<0\/4096<n):=λh=>by rw[b.2 h]at a;cases a
  refine fg (20+n) (by rfl) ?_;refine fg (24+n) oO ?_;refine fg (n+31) oO ?_;refine dw (l:=.i ((n+31) /8)) (by
   show(if(8:Int)≠0 then some (L.i (IntKind.wrap .i64 ((n+31).tdiv 8)))else none)=_;rw[bB dc,acI om,wrap64 om om]) ?_
  refine nW ?_;refine mR ((n+31) /8*8) (by rfl) ?_;refine bm ?_;show[L.i _]=[L.i (dq n)]
  unfold dq;rw[bG c]
def Aq(n):F5 [.i n]=some [.i (dq n)]:=by
 refine bJ ?_;refine bO (dp (n<0\/4096<n)) ?_ ?_
 . (repeat' first| (refine cD rfl (λa=>?_) (λa=>?_))| (refine uT rfl ?_));all_goals (refine bm ?_;show dp _ _;try dsimp only[At.ev,d1,d2,d3,d4,d5,d6,d7,d8,d9,e0,List.map,cZ,Kd.pv];first|exact er om|exact fF om|exact fK om|exact qt om)
 rintro _ ⟨t,rfl,b⟩;refine nW ?_;refine dn (λa=>?_) (λa=>?_)
 .refine bm ?_;show[L.i 0]=[L.i (dq n)]
  unfold dq;rw[bB (b.1 a)]
 .have c:¬(n<0\/4096<n):=λh=>by rw[b.2 h]at a;cases a
  refine fg (20+n) (by rfl) ?_;refine fg (24+n) oO ?_;refine fg (n+32) oO ?_;refine eb (n+31) oO ?_;refine dw (l:=.i ((n+31) /8)) (by
   show(if(8:Int)≠0 then some (L.i (IntKind.wrap .i64 ((n+31).tdiv 8)))else none)=_;rw[bB dc,acI om,wrap64 om om]) ?_
  refine nW ?_;refine mR ((n+31) /8*8) (by rfl) ?_;refine bm ?_;show[L.i _]=[L.i (dq n)]
  unfold dq;rw[bG c]
def D5(x){b}(c:b=true↔ff x=true):Ba [.i x.key,.i x.cookie,.i x.off,.i x.size]=some [.b b]:=by
 have a:ff x=true↔16<=x.off/\x.off<=1048576/\x.off%8=0/\0<=x.size/\x.size<=4096:=by
  simp only[ff,cF,e_,and_assoc]
 rw[a]at c;refine bJ ?_;refine bO (dp (16<=x.off/\x.off<=1048576/\x.off%8=0/\0<=x.size/\x.size<=4096)) ?_ ?_
 .refine cz (λd=>?_) (λd=>?_)
  .refine cz (λe=>?_) (λe=>?_)
   .refine dw (l:=.i (x.off%8)) (by
     show(if(8:Int)≠0 then some (L.i (x.off.tmod 8))else none)=_;rw[bB dc,acJ om]) ?_
    refine nW ?_
    (repeat' first| (refine cD rfl (λf=>?_) (λf=>?_))| (refine uT rfl ?_));all_goals (refine bm ?_;show dp _ _;try dsimp only[At.ev,d1,d2,d3,d4,d5,d6,d7,d8,d9,e0,List.map,cZ,Kd.pv];first|exact er om|exact fF om|exact fK om|exact qt om)
   .exact bm (fF om)
  .exact bm (fF om)
 rintro _ ⟨t,rfl,g⟩;refine nW ?_;refine bm ?_;show[L.b t]=[L.b b];rw[kK.2 (g.trans c.symm)]
def ayt(x){b}(a:b=true↔ff x=true):F7 [.i x.key,.i x.cookie,.i x.off,.i x.size]=some [.b b]:=by
 rw[<-D5 x a];rfl
def aAf(x){b}(d:b=true↔¬ff x=true):F8 [.i x.key,.i x.cookie,.i x.off,.i x.size]=some [.b b]:=by
 obtain⟨c,a⟩:=fA (ff x=true);refine bJ ?_;refine bR (ayt x a) ?_;refine bm ?_;show[L.b (!c)]=[L.b b]
 have:(!c)=b:=by
  rw[kK,d,<-a];cases c<;>simp
 rw[this]
def Ng(a g r){b}(c:b=true↔0<=a/\a<4/\1<=g/\g<=8/\0<=r/\r<4294967296):AB [.i a,.i g,.i r]=some [.b b]:=by
 refine bJ ?_;refine bO (dp (0<=a/\a<4/\1<=g/\g<=8/\0<=r/\r<4294967296)) ?_ ?_
 . (repeat' first| (refine cD rfl (λd=>?_) (λd=>?_))| (refine uT rfl ?_));all_goals (refine bm ?_;show dp _ _;try dsimp only[At.ev,d1,d2,d3,d4,d5,d6,d7,d8,d9,e0,List.map,cZ,Kd.pv];first|exact er om|exact fF om|exact fK om|exact qt om)
 rintro _ ⟨t,rfl,e⟩;refine nW ?_;refine bm ?_;show[L.b t]=[L.b b];rw[kK.2 (e.trans c.symm)]
def Zo(a g r){b}(c:b=true↔0<=a/\a<4/\1<=g/\g<=8/\0<=r/\r<4294967296):F4 [.i a,.i g,.i r]=some [.b b]:=by
 refine bJ ?_;refine bO (dp (0<=a/\a<4/\1<=g/\g<=8/\0<=r/\r<4294967296)) ?_ ?_
 . (repeat' first| (refine cD rfl (λd=>?_) (λd=>?_))| (refine uT rfl ?_));all_goals (refine bm ?_;show dp _ _;try dsimp only[At.ev,d1,d2,d3,d4,d5,d6,d7,d8,d9,e0,List.map,cZ,Kd.pv];first|exact er om|exact fF om|exact fK om|exact qt om)
 rintro _ ⟨t,rfl,e⟩;refine nW ?_;refine bm ?_;show[L.b t]=[L.b b];rw[kK.2 (e.trans c.symm)]
def pO(l:List It)(i:Nat):Prop:=∀(h:i<l.length)(_:0<i),(l[i-1]'om).key<l[i].key
def Mm{l}:fL l↔∀i,pO l i:=by
 constructor
 .intro h i a f;exact lM.1 h (i-1) i om a om
 .intro h;refine lM.2 λi j a c d=>?_
  induction j with
  |zero=>omega
  |succ j ih=>
   have b:=h (j+1) c om;simp only[Iw]at b;by_cases e:i=j
   .subst e;exact b
   .have:=ih om om;omega
def yS(l:List It)(i:Nat):Prop:=∀h:i<l.length,ff l[i]=true
def agn{l}:VL l↔∀i,i<l.length->yS l i/\pO l i:=by
 unfold VL;rw[Mm];constructor
 .rintro⟨b,c⟩ i _;exact⟨λa=>c _ (cV a),b i⟩
 .intro h;refine⟨λi a=>(h i a).2 a,λx d=>?_⟩;obtain⟨i,a,rfl⟩:=kL d;exact(h i a).1 a
def Kj(l)(hl:l.length<=4294967296){b}(hb:b=true↔VL l):AN [.r (l.map bu)]=some [.b b]:=by
 rw[agn]at hb;refine bJ ?_;refine bO (λxs=>xs=[]/\b=true) ?_ ?_;rotate_left
 .rintro _ ⟨rfl,h⟩;refine nW ?_;refine bm ?_;show[L.b true]=[.b b]
  rw[h]
 refine wp_loop (I:=λa=>∃i:Nat,a=[.i i]/\i<=l.length/\∀j,j<i->yS l j/\pO l j) (mu:=cN l.length) ⟨0,rfl,om,λj hj=>by omega⟩ ?_;rintro a ⟨i,rfl,e1,e2⟩;refine cz (λhc=>?_) (λhc=>?_);rotate_left
 .rw[bA]at hc;exact bm ⟨rfl,hb.2 λj hj=>e2 j om⟩
 rw[bA]at hc;have hi:i<l.length:=om;refine bO (dp (¬(yS l i/\pO l i))) ?_ ?_;rotate_left
 .rintro _ ⟨u,rfl,hu⟩;refine nW ?_;refine dn (λhy=>?_) (λhy=>?_)
  .refine bm ?_;show[L.b false]=[.b b]
   rw[gZ hb λh=>hu.1 hy (h i hi)]
  have hg:yS l i/\pO l i:=jr.1 λh=>by
   rw[hu.2 h]at hy;cases hy
  refine cj i ?_;refine bm ⟨⟨i+1,rfl,om,λj hj=>?_⟩,?_⟩
  .by_cases he:j=i
   .subst he;exact hg
   .exact e2 j om
  .show l.length- ((i+1:Nat):Int).toNat<l.length-i;omega
 refine dx bu i hi ?_;obtain⟨c,hc1⟩:=fA (ff l[i]=true);refine bR (D5 l[i] hc1) ?_;refine dn (λhy=>?_) (λhy=>?_)
 .exact bm (er λh=>by rw[hc1.2 (h.1 hi)]at hy;cases hy)
 have hy:(!c)=false:=hy;have dQ:=hc1.1 (by simpa using hy);refine cz (λhz=>?_) (λhz=>?_)
 .have h0:0<i:=om;refine dx bu i hi ?_;refine eb (((i-1:Nat):Int)) oO ?_;refine dV (f:=bu) (j:=i-1) rfl rfl om rfl (uR ?_);exact bm (fK (show l[i].key<=(l[i-1]'om).key↔_ from⟨λh k=>by have:=k.2 hi h0;omega,λh=>qX λk=>h ⟨λ_=>dQ,λ_ _=>by omega⟩⟩))
 .exact bm (fF λh=>h ⟨λ_=>dQ,λ_ k=>absurd k om⟩)
def awC(l)(hl:l.length<=4294967296){b}(hb:b=true↔fL l):F9 [.r (l.map bu)]=some [.b b]:=by
 rw[Mm]at hb;refine bJ ?_;refine bO (λxs=>xs=[]/\b=true) ?_ ?_;rotate_left
 .rintro _ ⟨rfl,h⟩;refine nW ?_;refine bm ?_;show[L.b true]=[.b b]
  rw[h]
 refine uR ?_;refine wp_loop (I:=λa=>∃i:Nat,a=[.i i]/\i<=l.length/\∀j,j<i->pO l j) (mu:=cN l.length) ⟨0,rfl,om,λj hj=>by omega⟩ ?_;rintro a ⟨i,rfl,e1,e2⟩;refine cz (λhc=>?_) (λhc=>?_);rotate_left
 .rw[bA]at hc;exact bm ⟨rfl,hb.2 λj=>by
   by_cases hj:j<i
   .exact e2 j hj
   .exact λh _=>by omega⟩
 rw[bA]at hc;have hi:i<l.length:=om;refine dx bu i hi ?_;refine bO (dp (¬pO l i)) ?_ ?_;rotate_left
 .rintro _ ⟨u,rfl,hu⟩;refine nW ?_;refine dn (λhy=>?_) (λhy=>?_)
  .refine bm ?_;show[L.b false]=[.b b]
   rw[gZ hb λh=>hu.1 hy (h i)]
  have hg:pO l i:=jr.1 λh=>by
   rw[hu.2 h]at hy;cases hy
  refine cj i ?_;refine bm ⟨⟨i+1,rfl,om,λj hj=>?_⟩,?_⟩
  .by_cases he:j=i
   .subst he;exact hg
   .exact e2 j om
  .show l.length- ((i+1:Nat):Int).toNat<l.length-i;omega
 refine cz (λhz=>?_) (λhz=>?_)
 .have h0:0<i:=om;refine eb (((i-1:Nat):Int)) oO ?_;refine dV (f:=bu) (j:=i-1) rfl rfl om rfl (uR ?_);exact bm (fK (show l[i].key<=(l[i-1]'om).key↔_ from⟨λh k=>by have:=k hi h0;omega,λh=>qX λk=>h λ_ _=>by omega⟩))
 .exact bm (fF λh=>h λ_ k=>absurd k om)
def Zd(l:List It)(hl:l.length<=4294967296):∃r,HB [.r (l.map bu)]=some [.i r]/\(0<=r↔¬∀x∈l,ff x=true):=by
 have run:bp.wp Vp [.r (l.map bu)] (lS λx=>∃r:Int,x=[.i r]/\(0<=r↔¬∀x∈l,ff x=true)):=by
  refine bO (λxs=>xs=[]/\∀x∈l,ff x=true) ?_ ?_;rotate_left
  .rintro _ ⟨rfl,h⟩;refine nW ?_;exact bm ⟨-1,rfl,λh=>by omega,λh'=>absurd h h'⟩
  refine uR ?_;refine wp_loop (I:=λa=>∃i:Nat,a=[.i i]/\i<=l.length/\∀j,j<i->yS l j) (mu:=cN l.length) ⟨0,rfl,om,λj hj=>by omega⟩ ?_;rintro a ⟨i,rfl,e1,e2⟩;refine cz (λhc=>?_) (λhc=>?_);rotate_left
  .rw[bA]at hc;refine bm ⟨rfl,λx hx=>?_⟩;obtain⟨j,hj,rfl⟩:=kL hx;exact e2 j om hj
  rw[bA]at hc;have hi:i<l.length:=om;refine dx bu i hi ?_;obtain⟨c,hc1⟩:=fA (¬ff l[i]=true);refine bz (aAf l[i] hc1) ?_;refine dn (λhy=>?_) (λhy=>?_)
  .exact bm ⟨i,rfl,λ_ h=>hc1.1 hy (h _ (cV hi)),λ_=>by omega⟩
  .have hg:yS l i:=λ_=>jr.1 λh=>by
    rw[hc1.2 h]at hy;cases hy
   refine cj i ?_;refine bm ⟨⟨i+1,rfl,om,λj hj=>?_⟩,?_⟩
   .by_cases he:j=i
    .subst he;exact hg
    .exact e2 j om
   .show l.length- ((i+1:Nat):Int).toNat<l.length-i;omega
 obtain⟨o,h1,r,rfl,h2⟩:=kT run;exact⟨r,h1,h2⟩
def Mo(l)(g:l.length<=4294967296){b}(i:b=true↔VL l):BR [.r (l.map bu)]=some [.b b]:=by
 obtain⟨r,d,j⟩:=Zd l g;have e:Ke [.r (l.map bu)]=some [.b (decide (0<=r))]:=by
  refine bJ ?_;refine bR d ?_;exact bm rfl
 obtain⟨c,f⟩:=fA (fL l);refine bJ ?_;refine bO (dp (VL l)) ?_ ?_
 .refine bz (awC l g f) ?_;refine dn (λa=>?_) (λa=>?_)
  .refine bR e ?_;exact bm (qt (show¬0<=r↔_ by rw[j,jr];exact⟨λh=>⟨f.1 a,h⟩,λh=>h.2⟩))
  .exact bm (fF λh=>by rw[f.2 h.1]at a;cases a)
 rintro _ ⟨t,rfl,m⟩;refine nW ?_;refine bm ?_;show[L.b t]=[L.b b];rw[kK.2 (m.trans i.symm)]
def Ss(l)(hl:l.length<=4294967296){b}(hb:b=true↔fL l):E9 [.r (l.map bu)]=some [.b b]:=by
 rw[Mm]at hb;refine bJ ?_;refine bO (λxs=>xs=[]/\b=true) ?_ ?_;rotate_left
 .rintro _ ⟨rfl,h⟩;refine nW ?_;refine bm ?_;show[L.b true]=[.b b]
  rw[h]
 refine uR ?_;refine wp_loop (I:=λa=>∃i:Nat,a=[.i i]/\i<=l.length/\∀j,j<i->pO l j) (mu:=cN l.length) ⟨0,rfl,om,λj hj=>by omega⟩ ?_;rintro a ⟨i,rfl,e1,e2⟩;refine cz (λhc=>?_) (λhc=>?_);rotate_left
 .rw[bA]at hc;exact bm ⟨rfl,hb.2 λj=>by
   by_cases hj:j<i
   .exact e2 j hj
   .exact λh _=>by omega⟩
 rw[bA]at hc;have hi:i<l.length:=om;refine eR bu i hi ?_;refine dP bu i hi ?_;refine dP bu i hi ?_;refine dP bu i hi ?_;refine dP bu i hi ?_;refine bO (dp (¬pO l i)) ?_ ?_;rotate_left
 .rintro _ ⟨u,rfl,hu⟩;refine nW ?_;refine dn (λhy=>?_) (λhy=>?_)
  .refine bm ?_;show[L.b false]=[.b b]
   rw[gZ hb λh=>hu.1 hy (h i)]
  have hg:pO l i:=jr.1 λh=>by
   rw[hu.2 h]at hy;cases hy
  refine cj i ?_;refine bm ⟨⟨i+1,rfl,om,λj hj=>?_⟩,?_⟩
  .by_cases he:j=i
   .subst he;exact hg
   .exact e2 j om
  .show l.length- ((i+1:Nat):Int).toNat<l.length-i;omega
 refine cz (λhz=>?_) (λhz=>?_)
 .have h0:0<i:=om;refine eb (((i-1:Nat):Int)) oO ?_;refine dV (f:=bu) (j:=i-1) rfl rfl om rfl (nW ?_);refine gy (f:=bu) (j:=i-1) rfl rfl om rfl rfl (uR ?_);exact bm (fK (show l[i].key<=(l[i-1]'om).key↔_ from⟨λh k=>by have:=k hi h0;omega,λh=>qX λk=>h λ_ _=>by omega⟩))
 .exact bm (fF λh=>h λ_ k=>absurd k om)
def aiZ(l)(g:l.length<=4294967296){b}(i:b=true↔VL l):O9 [.r (l.map bu)]=some [.b b]:=by
 obtain⟨r,e,j⟩:=Zd l g;have a:Lm [.r (l.map bu)]=some [.b (decide (0<=r))]:=by
  refine bJ ?_;refine bR e ?_;exact bm rfl
 obtain⟨c,f⟩:=fA (fL l);refine bJ ?_;refine bO (dp (VL l)) ?_ ?_
 .refine bz (Ss l g f) ?_;refine dn (λd=>?_) (λd=>?_)
  .refine bR a ?_;exact bm (qt (show¬0<=r↔_ by rw[j,jr];exact⟨λh=>⟨f.1 d,h⟩,λh=>h.2⟩))
  .exact bm (fF λh=>by rw[f.2 h.1]at d;cases d)
 rintro _ ⟨t,rfl,m⟩;refine nW ?_;refine bm ?_;show[L.b t]=[L.b b];rw[kK.2 (m.trans i.symm)]
def jV(a g r n:Int)(l:List It):Prop:=(0<=a/\a<4/\1<=g/\g<=8/\0<=r/\r<4294967296)/\16<=n/\n<=524288/\VL l/\∀x∈l,x.off+dq x.size<=n
def C'(l:List It)(n:Int)(i:Nat):Prop:=∀h:i<l.length,l[i].off+dq l[i].size<=n
def UR{l n}(h:∀j,j<l.length->C' l n j):∀x∈l,x.off+dq x.size<=n:=λx b=>by
 obtain⟨j,a,rfl⟩:=kL b;exact h j a a
def I9(n):0<=dq n/\dq n<=4120:=by unfold dq;split<;>omega
def xI{x}(h:ff x=true):16<=x.off/\x.off<=1048576/\0<=x.size/\x.size<=4096:=by
 simp only[ff,cF,e_]at h;omega
def Z9(a g r n)(m4 m5 m6 m7 m8 m9)(l)(hl:l.length<=4294967296){b}(hb:b=true↔jV a g r n l):Dw [.i a,.i g,.i r,.i n,m4,m5,m6,m7,m8,m9,.r (l.map bu)]=some [.b b]:=by
 obtain⟨bs,zy⟩:=fA (0<=a/\a<4/\1<=g/\g<=8/\0<=r/\r<4294967296);obtain⟨bv,P5⟩:=fA (VL l);refine bJ ?_;refine bO (dp (¬((0<=a/\a<4/\1<=g/\g<=8/\0<=r/\r<4294967296)/\16<=n/\n<=524288/\VL l))) ?_ ?_
 .refine bR (Ng a g r zy) ?_;refine dn (λhx=>?_) (λhx=>?_)
  .exact bm (er λh=>by rw[zy.2 h.1]at hx;cases hx)
  have hx:(!bs)=false:=hx;have aFn:=zy.1 (by simpa using hx);refine cz (λh1=>?_) (λh1=>?_)
  .exact bm (er λh=>by omega)
  refine cz (λh2=>?_) (λh2=>?_)
  .exact bm (er λh=>by omega)
  refine bR (Kj l hl P5) ?_;refine bm ⟨!bv,rfl,?_⟩;constructor
  .intro h k;rw[P5.2 k.2.2.2]at h;cases h
  .intro h
   cases hq:bv with
   |false=>rfl
   |true=>exact absurd ⟨aFn,om,om,P5.1 hq⟩ h
 rintro _ ⟨t,rfl,ht⟩;refine nW ?_;refine dn (λhx=>?_) (λhx=>?_)
 .refine bm ?_;show[L.b false]=[.b b]
  rw[gZ hb λh=>ht.1 hx ⟨h.1,h.2.1,h.2.2.1,h.2.2.2.1⟩]
 have dQ:=jr.1 λh=>by rw[ht.2 h]at hx;cases hx
 refine bO (λxs=>xs=[]/\b=true) ?_ ?_;rotate_left
 .rintro _ ⟨rfl,h⟩;refine nW ?_;refine bm ?_;show[L.b true]=[.b b]
  rw[h]
 refine wp_loop (I:=λa=>∃i:Nat,a=[.i i]/\i<=l.length/\∀j,j<i->C' l n j) (mu:=cN l.length) ⟨0,rfl,om,λj hj=>by omega⟩ ?_;rintro a ⟨i,rfl,e1,e2⟩;refine cz (λhc=>?_) (λhc=>?_);rotate_left
 .rw[bA]at hc;exact bm ⟨rfl,hb.2 ⟨dQ.1,dQ.2.1,dQ.2.2.1,dQ.2.2.2,UR λj hj=>e2 j om⟩⟩
 rw[bA]at hc;have hi:i<l.length:=om;have h1:=xI (dQ.2.2.2.2 _ (cV hi));have h2:=I9 l[i].size;refine dx bu i hi ?_;refine nW ?_;refine dx bu i hi ?_;refine nW ?_;refine bz (ow l[i].size) ?_;refine iU (n:=l[i].off+dq l[i].size) (by rfl) om om (uR ?_);refine cD rfl (λhy=>?_) (λhy=>?_)
 .refine bm ?_;show[L.b false]=[.b b]
  rw[gZ hb λh=>by have:=h.2.2.2.2 _ (cV hi);omega]
 .refine cj i ?_;refine bm ⟨⟨i+1,rfl,om,λj hj=>?_⟩,?_⟩
  .by_cases he:j=i
   .subst he;exactλ_=>om
   .exact e2 j om
  .show l.length- ((i+1:Nat):Int).toNat<l.length-i;omega
def azT(x)(a:ff x=true){ls n}(c:ls.length=11)(d:ls[3]?=some (.i n)){b}(e:b=true↔n<x.off+dq x.size):MS ([.i x.key,.i x.cookie,.i x.off,.i x.size]++ls)=some [.b b]:=by
 match ls,c with
 |[g,h,i,j,l,m,o,p,q,r,f],_=>
  cases d;have s:=xI a;have t:=I9 x.size;refine bJ ?_;refine bz (Aq x.size) ?_;refine iU (n:=x.off+dq x.size) (by rfl) om om (uR ?_);refine bm ?_;show[L.b (decide (n<x.off+dq x.size))]=[.b b]
  have:decide (n<x.off+dq x.size)=b:=by rw[kK,e_,e]
  rw[this]
def axg(l:List It)(hl:l.length<=4294967296)(hv:∀x∈l,ff x=true)(m0 m1 m2 m4 m5 m6 m7 m8 m9 m10)(n):∃r,Jl [.r (l.map bu),m0,m1,m2,.i n,m4,m5,m6,m7,m8,m9,m10]=some [.i r]/\(0<=r↔¬∀x∈l,x.off+dq x.size<=n):=by
 have run:bp.wp aaz [.r (l.map bu),m0,m1,m2,.i n,m4,m5,m6,m7,m8,m9,m10] (lS λx=>∃r:Int,x=[.i r]/\(0<=r↔¬∀x∈l,x.off+dq x.size<=n)):=by
  refine bO (λxs=>xs=[]/\∀x∈l,x.off+dq x.size<=n) ?_ ?_;rotate_left
  .rintro _ ⟨rfl,h⟩;refine nW ?_;exact bm ⟨-1,rfl,λh=>by omega,λh'=>absurd h h'⟩
  refine uR ?_;refine wp_loop (I:=λa=>∃i:Nat,a=[.i i]/\i<=l.length/\∀j,j<i->C' l n j) (mu:=cN l.length) ⟨0,rfl,om,λj hj=>by omega⟩ ?_;rintro a ⟨i,rfl,e1,e2⟩;refine cz (λhc=>?_) (λhc=>?_);rotate_left
  .rw[bA]at hc;exact bm ⟨rfl,UR λj hj=>e2 j om⟩
  rw[bA]at hc;have hi:i<l.length:=om;refine dx bu i hi ?_;obtain⟨c,hc1⟩:=fA (n<l[i].off+dq l[i].size);refine bz (azT l[i] (hv _ (cV hi)) (ls:=[m0,m1,m2,.i n,m4,m5,m6,m7,m8,m9,m10]) rfl rfl hc1) ?_;refine dn (λhy=>?_) (λhy=>?_)
  .exact bm ⟨i,rfl,λ_ h=>by have:=hc1.1 hy;have:=h _ (cV hi);omega,λ_=>by omega⟩
  .have hg:C' l n i:=λ_=>by
    have:¬n<l[i].off+dq l[i].size:=λh=>by rw[hc1.2 h]at hy;cases hy
    omega
   refine cj i ?_;refine bm ⟨⟨i+1,rfl,om,λj hj=>?_⟩,?_⟩
   .by_cases he:j=i
    .subst he;exact hg
    .exact e2 j om
   .show l.length- ((i+1:Nat):Int).toNat<l.length-i;omega
 obtain⟨o,h1,r,rfl,h2⟩:=kT run;exact⟨r,h1,h2⟩
def Ev(a g r n)(o p s u v w)(l)(y:l.length<=4294967296){b}(z:b=true↔jV a g r n l):vO [.i a,.i g,.i r,.i n,o,p,s,u,v,w,.r (l.map bu)]=some [.b b]:=by
 obtain⟨bs,e⟩:=fA (0<=a/\a<4/\1<=g/\g<=8/\0<=r/\r<4294967296);obtain⟨A,f⟩:=fA (VL l);refine bJ ?_;refine bO (dp (¬((0<=a/\a<4/\1<=g/\g<=8/\0<=r/\r<4294967296)/\16<=n/\n<=524288/\VL l))) ?_ ?_
 .refine bR (Zo a g r e) ?_;refine dn (λc=>?_) (λc=>?_)
  .exact bm (er λh=>by rw[e.2 h.1]at c;cases c)
  have c:(!bs)=false:=c;have i:=e.1 (by simpa using c);refine cz (λC=>?_) (λC=>?_)
  .exact bm (er λh=>by omega)
  refine cz (λD=>?_) (λD=>?_)
  .exact bm (er λh=>by omega)
  refine bR (Mo l y f) ?_;refine bm ⟨!A,rfl,?_⟩;constructor
  .intro h k;rw[f.2 k.2.2.2]at h;cases h
  .intro h
   cases x:A with
   |false=>rfl
   |true=>exact absurd ⟨i,om,om,f.1 x⟩ h
 rintro _ ⟨t,rfl,B⟩;refine nW ?_;refine dn (λc=>?_) (λc=>?_)
 .refine bm ?_;show[L.b false]=[.b b]
  rw[gZ z λh=>B.1 c ⟨h.1,h.2.1,h.2.2.1,h.2.2.2.1⟩]
 have d:=jr.1 λh=>by rw[B.2 h]at c;cases c
 obtain⟨q,j,x⟩:=axg l y d.2.2.2.2 (.i a) (.i g) (.i r) o p s u v w (.r (l.map bu)) n;have m:Kf [.r (l.map bu),.i a,.i g,.i r,.i n,o,p,s,u,v,w,.r (l.map bu)]=some [.b (decide (0<=q))]:=by
  refine bJ ?_;refine bR j ?_;exact bm rfl
 refine bR m ?_;refine bm ?_;show[L.b (!decide (0<=q))]=[.b b]
 have:(!decide (0<=q))=b:=by
  rw[kK,z,pV,zF,x,jr];exact⟨λh=>⟨d.1,d.2.1,d.2.2.1,d.2.2.2,h⟩,λh=>h.2.2.2.2⟩
 rw[this]
end
section
open Go.RowKit Pl AI
open Classical
attribute [local irreducible] bp.wp
def sa(l:List Nat):gh:=strOfNums (l.map λn=>((n:Nat):Int))
def B8.sub{a b}(h:B8 b)(d:∀x∈a,x∈b):B8 a:=λx m=>h x (d x m)
def B8.take{a}(h:B8 a)(n):B8 (a.take n):=h.sub λ_ d=>ob d
def B8.drop{a}(h:B8 a)(n):B8 (a.drop n):=h.sub λ_ d=>oZ d
def Yz(c)(k):fe c k<256:=by
 unfold fe;omega
def Bj(l):B8 (d_ l):=λx a=>by
 simp only[d_,fh,IC,or_false]at a;rcases a with rfl|rfl|rfl|rfl<;>exact Yz _ _
def ahu{a b}(f:B8 a)(g:B8 b):((sa a).toList==(sa b).toList)=true↔a=b:=by
 rw[beq_iff_eq,Lib.toList_data,Lib.toList_data];unfold sa;rw[strOfNums_data,strOfNums_data,gW,gW];constructor
 .intro h;have hlen:a.length=b.length:=by simpa using cW List.length h
  refine acH hlen λi c d=>?_
  have e:=cW (·[i]?) h;simp only[cY,db c,db d,cg,ko,Function.comp,eO]at e;have j:=f _ (cV c);have l:=g _ (cV d);have:=cW UInt8.toNat e;simpa[UInt8.toNat_ofNat,zH j,zH l]using this
 .intro h;rw[h]
section
variable{ρ:List L}{Q:Lf×List L->Prop}{k:bp}
def qY{x l}(a:(x.ev ρ).bE=l.map b1)(b:k.wp (ρ++[.s (sa l)]) Q):(bp.op (.str x) k).wp ρ Q:=kh (by
 show(mD (x.ev ρ).bE).map _=_;rw[a,KU];rfl) b
def zS{x y a b}(c:(x.ev ρ).gJ=sa a)(d:(y.ev ρ).gJ=sa b)(e:B8 a)(f:B8 b){t}(g:t=true↔a≠b)(h:k.wp (ρ++[.b t]) Q):(bp.op (.bs .neq x y) k).wp ρ Q:=mP (by
 show some (L.b (!((x.ev ρ).gJ.toList==(y.ev ρ).gJ.toList)))=_;rw[c,d];have:(!((sa a).toList==(sa b).toList))=t:=by
  rw[kK,g,pV,<-Bool.not_eq_true];exact not_congr (ahu e f)
 rw[this]) h
def gx{x lo f:At}{l:List Nat}{a c:Nat}(d:(x.ev ρ).bE=l.map b1)(e:(lo.ev ρ).br=a)(b:(f.ev ρ).br=c)(h:a<=c)(i:c<=l.length)(g:k.wp (ρ++[.r (((l.take c).drop a).map b1)]) Q):(bp.op (.part x lo f 1) k).wp ρ Q:=
 y6 ⟨om,om,by rw[b,d,bA];omega,by rw[d];exact oW _⟩ (by rw[d,e,b,eO,eO,<-mo,<-o2]) g
def aaE{x}{v:BitVec 64}(h:(x.ev ρ).br=(v.toNat:Int))(a:k.wp (ρ++[.i v.toInt]) Q):(bp.op (.conv .i64 x) k).wp ρ Q:=tc (by rw[h,JN,BN]) a
end
def xV(b:List Nat):It:=⟨((val (b.take 8)).toNat:Int),IntKind.wrap .u32 ((val ((b.take 12).drop 8)).toNat:Int),(val ((b.take 16).drop 12)).toInt,(val ((b.take 20).drop 16)).toInt⟩
def dec:Nat->List Nat->List It->List L
 |0,_,_=>[]
 |f+1,b,acc=>if b=[]then(if VL acc then[.i 0,.r (acc.map bu)]else[.i 3,.r []])else if b.length<24 then[.i 4,.r []]else if d_ (b.take 20)≠(b.take 24).drop 20 then[.i 5,.r []]else dec f (b.drop 24) (acc++[xV b])
def gD(l:List It):cC 4 (l.map bu)=true:=by
 unfold cC;rw[cI];intro r a;obtain⟨n,_,rfl⟩:=gg.1 a;rfl
def asq(b:List Nat)(hb:B8 b)(hl:b.length<=4294967296):M8 [.r (b.map b1)]=some (dec (b.length+1) b []):=by
 obtain⟨o,ho⟩:∃o,dec (b.length+1) b []=o:=⟨_,rfl⟩
 rw[ho];refine bJ ?_;refine bO (λxs=>∃acc:List It,xs=[.r (acc.map bu)]/\acc.length<=b.length/\o=if VL acc then[.i 0,.r (acc.map bu)]else[.i 3,.r []]) ?_ ?_;rotate_left
 .rintro _ ⟨acc,rfl,h1,h2⟩;refine nW ?_;obtain⟨c,hc⟩:=fA (VL acc);refine bR (aiZ acc om hc) ?_;refine dn (λhx=>?_) (λhx=>?_)
  .refine bm ?_;show[L.i 3,L.r []]=o;rw[h2,bG λh=>by rw[hc.2 h]at hx;cases hx]
  .have hx:(!c)=false:=hx;refine bm ?_;show[L.i 0,L.r (acc.map bu)]=o;rw[h2,bB (hc.1 (by simpa using hx))]
 refine wp_loop (I:=λa=>∃(cur:List Nat)(acc:List It)(f:Nat),a=[.r (cur.map b1),.r (acc.map bu)]/\B8 cur/\cur.length<f/\acc.length+cur.length<=b.length/\dec f cur acc=o) (mu:=λa=>match a with|[.r r,_]=>r.length|_=>0) ⟨b,[],b.length+1,rfl,hb,om,by simp,ho⟩ ?_;rintro a ⟨cur,acc,f,rfl,e1,e2,e3,e4⟩
 cases f with
 |zero=>omega
 |succ f=>
 rw[dec]at e4;refine cz (λhc=>?_) (λhc=>?_);rotate_left
 .rw[bA]at hc;have hnil:cur=[]:=nu om;rw[bB hnil]at e4;exact bm ⟨acc,rfl,om,e4.symm⟩
 rw[bG λh=>by rw[h]at hc;simp at hc]at e4;refine cz (λhx=>?_) (λhx=>?_)
 .rw[bA]at hx;rw[bB om]at e4;refine bm ?_;exact e4
 rw[bA]at hx;rw[bG om]at e4;refine uR ?_;refine gx (a:=0) (c:=20) rfl rfl rfl om om (nW ?_);refine bR (YP _ (by rw[jE,dH];omega)) ?_;refine gx (a:=20) (c:=24) rfl rfl rfl om om (nW ?_);obtain⟨t,ht⟩:=fA (d_ (cur.take 20)=(cur.take 24).drop 20);refine bR (Rg _ _ (Bj _) ((e1.take _).drop _) (by show 4<=_;omega) ht) ?_;refine dn (λhy=>?_) (λhy=>?_)
 .rw[bB λh=>by rw[ht.2 h]at hy;cases hy]at e4;refine bm ?_;exact e4
 have hy:(!t)=false:=hy;rw[bG (jr.2 (ht.1 (by simpa using hy)))]at e4;have hlen:∀a c,((cur.take c).drop a).length<=4294967296:=λa c=>by rw[jE,dH];omega
 refine uR ?_;refine gx (a:=0) (c:=8) rfl rfl rfl om om (nW ?_);refine bR (GB _ ((e1.take _).drop _) (hlen _ _)) ?_;refine gx (a:=8) (c:=12) rfl rfl rfl om om (nW ?_);refine bz (GB _ ((e1.take _).drop _) (hlen _ _)) ?_;refine ju (uR ?_);refine gx (a:=12) (c:=16) rfl rfl rfl om om (nW ?_);refine bz (GB _ ((e1.take _).drop _) (hlen _ _)) ?_;refine aaE rfl (uR ?_);refine gx (a:=16) (c:=20) rfl rfl rfl om om (nW ?_);refine bz (GB _ ((e1.take _).drop _) (hlen _ _)) ?_;refine aaE rfl (uR ?_);refine eI (r:=(acc++[xV cur]).map bu) (gD acc) rfl (by show(acc.map bu).length<=_;rw[bA];omega) fO om (by rw[dU];rfl) (uR ?_);refine gx (a:=24) (c:=cur.length) rfl rfl (by show((cur.map b1).length:Int)=_;rw[bA]) om om ?_;rw[jX];refine nW ?_;refine bm ⟨⟨cur.drop 24,acc++[xV cur],f,rfl,e1.drop _,by rw[jE];omega,by rw[cw,jE];simp only[w8];omega,e4⟩,?_⟩;show((cur.drop 24).map b1).length< (cur.map b1).length;rw[bA,bA,jE];omega
end
section
open Go.RowKit
namespace AI
def bp.calls:bp->List (Nat×(List L->Option (List L)))
 |.bq _=>[]
 |.op a k=>(match a with| .call t F _ _ _=>[(t,F)]|_=>[])++calls k
 |.ite _ x y=>calls x++calls y
 |.join x y=>calls x++calls y
 |.loop _ y=>calls y
def sW(a:Nat->Option qL):List (Nat×(List L->Option (List L)))->Prop
 |[]=>True
 |(t,F)::r=>(∀s,a t=some s->s.ok F)/\sW a r
def sW.left{d:Nat->Option qL}:∀{a b:List (Nat×(List L->Option (List L)))},sW d (a++b)->sW d a
 |[],_,_=>trivial
 |(_,_)::_,_,h=>⟨h.1,h.2.left⟩
def sW.right{d:Nat->Option qL}:∀{a b:List (Nat×(List L->Option (List L)))},sW d (a++b)->sW d b
 |[],_,h=>h
 |(_,_)::a,_,h=>sW.right (a:=a) h.2
def mx:Int:=9223372036854775807
def c0:List AC:=[.sl 262208 [.int .u8 0 255]]
def c1:List AC:=[.str 9,.sl 2097152 [.int .u8 0 255],.sl 0 []]
def c2:List AC:=[.int .i64 0 1048576,.sl 1048576 [.int .u8 0 255],.bool]
def c3:List AC:=[.int .u64 0 7,.int .u32 0 3,.bool,.sl 30 [.int .u8 0 255]]
def c4:List AC:=[.int .u64 0 7,.int .u32 0 3,.int .i64 16 1048576,.int .i64 0 30]
def c5:List AC:=[.str 9,.sl 2097152 [.int .u8 0 255],.sl 1 c2]
def c6:List AC:=[.int .u64 0 18446744073709551615,.int .u32 0 4294967295,.bool,.sl mx [.int .u8 0 255]]
def c7:List AC:=[.int .i64 1 1,.int .i64 0 0,.int .i64 1 1,.int .i64 16 16,.sl 0 [],.sl 0 [],.sl 0 [],.sl 0 [],.sl 0 [],.sl 0 [],.sl 0 [],.sl 0 [],.int .i64 0 0,.int .i64 0 0]
def c8:List AC:=[.int .i64 0 8,.int .i64 0 0,.int .i64 0 3,.int .i64 (-18446744073709551615) mx,.sl 8 c4,.sl 8 c4,.sl 8 c4,.sl 8 c4,.sl 8 c4,.sl 8 c4,.sl 8 c4,.sl 8 c4,.int .i64 (-18446744073709551615) mx,.int .i64 0 2199023255552]
def f(a b:Nat)(c:Int):Fa:=⟨a,b,c⟩
def g(i n:Nat)(c:List AC):List (Nat×Option (List AC)):=(List.range n).map λj=>(i+j,some c)
end AI
namespace AI
end AI
namespace AI
end AI
end
section
open Go.RowKit Pl AI
open Classical
attribute [local irreducible] bp.wp
def Y3:∀{f}{c}{acc},c.length<f->(∃l,dec f c acc=[.i 0,.r (l.map bu)]/\VL l/\l.length<=acc.length+c.length)\/∃e,e≠0/\dec f c acc=[.i e,.r []]
 |0,_,_,h=>om
 |f+1,c,acc,h=>by
  rw[dec];split
  .split
   .exact .inl ⟨acc,rfl,by assumption,om⟩
   .exact .inr ⟨3,dc,rfl⟩
  .split
   .exact .inr ⟨4,dc,rfl⟩
   .split
    .exact .inr ⟨5,dc,rfl⟩
    .have g:(c.drop 24).length=c.length-24:=jE;rcases Y3 (f:=f) (c:=c.drop 24) (acc:=acc++[xV c]) om with⟨l,a,d,b⟩|a
     .refine .inl ⟨l,a,d,?_⟩;rw[cw]at b;simp only[w8]at b;omega
     .exact .inr a
def cQ(b:List Nat)(a c:Nat):List Nat:=(b.take c).drop a
def B8.cut{b}(h:B8 b)(a c):B8 (cQ b a c):=(h.take c).drop a
def Gz(b)(a c):(cQ b a c).length<=b.length:=by unfold cQ;rw[jE,dH];omega
def gQ(b:List Nat)(k:Nat):Int:=IntKind.wrap .u32 ((val (cQ b (20+4*k) (24+4*k))).toNat:Int)
def wrap32(v:BitVec 64):IntKind.wrap .u32 v.toInt=IntKind.wrap .u32 (v.toNat:Int):=by
 simp only[IntKind.wrap,IntKind.bits,IntKind.signed,BitVec.toInt_eq_toNat_bmod,Int.bmod];simp only[Bool.false_and,pW,if_false];split<;>omega
def oe(b:List Nat)(k i:Nat):Int:=if k<i then gQ b k else 0
def uH(e:Int):List L:=[.i e,.i 0,.i 0,.i 0,.i 0,.i 0,.i 0,.i 0,.i 0,.i 0,.i 0,.r []]
def Ap(b:List Nat):Int:=IntKind.wrap .i64 (52+IntKind.wrap .i64 (24*(val (cQ b 44 48)).toInt))
def A0(b:List Nat):List L:=
 if b.length<52 then uH 4 else if cQ b 0 4≠ [78,73,68,88]then uH 3 else if(b.length:Int)<Ap b then uH 4 else if Ap b<b.length then uH 3 else
 if d_ (cQ b 0 (b.length-4))≠cQ b (b.length-4) b.length then uH 5 else
 match dec ((cQ b 48 (b.length-4)).length+1) (cQ b 48 (b.length-4)) []with
 |[.i e,.r rows]=>if e≠0 then uH e else if∃l:List It,rows=l.map bu/\jV (val (cQ b 4 6)).toInt (val (cQ b 6 8)).toInt (val (cQ b 8 12)).toInt (val (cQ b 12 20)).toInt l then
  [.i 0,.i (val (cQ b 4 6)).toInt,.i (val (cQ b 6 8)).toInt,.i (val (cQ b 8 12)).toInt,.i (val (cQ b 12 20)).toInt,.i (gQ b 0),.i (gQ b 1),.i (gQ b 2),.i (gQ b 3),.i (gQ b 4),.i (gQ b 5),.r rows]else uH 3
 |_=>[]
def aaY:∀{l m:List It},l.map bu=m.map bu->l=m
 |[],[],_=>rfl
 |[],_::_,h=>by simp at h
 |_::_,[],h=>by simp at h
 |a::l,b::m,h=>by
  simp only[dE,List.cons.injEq]at h;rw[aaY h.2];have c:=h.1;obtain⟨d,e,f,g⟩:=a;obtain⟨rfl,rfl,rfl,rfl⟩:=c;rfl
def XX{a g r n l}:(∃m,l.map bu=m.map bu/\jV a g r n m)↔jV a g r n l:=⟨λ⟨m,b,c⟩=>by rw[aaY b];exact c,λh=>⟨l,rfl,h⟩⟩
def auM(b)(hb:B8 b)(h52:52<=b.length)(hl:b.length<=4294967296):Ny [.r (b.map b1)]=some [.i (val (cQ b 4 6)).toInt,.i (val (cQ b 6 8)).toInt,.i (val (cQ b 8 12)).toInt,.i (val (cQ b 12 20)).toInt,.i (gQ b 0),.i (gQ b 1),.i (gQ b 2),.i (gQ b 3),.i (gQ b 4),.i (gQ b 5)]:=by
 have hlen:∀a c,(cQ b a c).length<=4294967296:=λa c=>by have:=Gz b a c;omega
 refine gp ?_;refine gx (a:=4) (c:=6) rfl rfl rfl om om (nW ?_);refine bR (x_ (cQ b 4 6) (hb.cut _ _) (hlen _ _)) ?_;refine gx (a:=6) (c:=8) rfl rfl rfl om om (nW ?_);refine bR (x_ (cQ b 6 8) (hb.cut _ _) (hlen _ _)) ?_;refine gx (a:=8) (c:=12) rfl rfl rfl om om (nW ?_);refine bR (x_ (cQ b 8 12) (hb.cut _ _) (hlen _ _)) ?_;refine gx (a:=12) (c:=20) rfl rfl rfl om om (nW ?_);refine bz (x_ (cQ b 12 20) (hb.cut _ _) (hlen _ _)) ?_;refine bO (λxs=>xs=[.i (gQ b 0),.i (gQ b 1),.i (gQ b 2),.i (gQ b 3),.i (gQ b 4),.i (gQ b 5)]) ?_ ?_;rotate_left
 .rintro _ rfl;refine nW ?_;exact bm rfl
 refine wp_loop (I:=λa=>∃i:Nat,a=[.i i,.i (oe b 0 i),.i (oe b 1 i),.i (oe b 2 i),.i (oe b 3 i),.i (oe b 4 i),.i (oe b 5 i)]/\i<=6) (mu:=cN 6) ⟨0,rfl,om⟩ ?_;rintro a ⟨i,rfl,e1⟩;refine cz (λhc=>?_) (λhc=>?_);rotate_left
 .obtain rfl:i=6:=om;exact bm rfl
 refine bO (λxs=>xs=[.i i,.i (oe b 0 (i+1)),.i (oe b 1 (i+1)),.i (oe b 2 (i+1)),.i (oe b 3 (i+1)),.i (oe b 4 (i+1)),.i (oe b 5 (i+1))]) ?_ ?_;rotate_left
 .rintro _ rfl;refine nW ?_;refine cj i ?_;exact bm ⟨⟨i+1,rfl,om⟩,dy 6 i⟩
 refine mR (((4*i:Nat):Int)) oO ?_;refine fg (((20+4*i:Nat):Int)) oO ?_;refine iU (n:=((24+4*i:Nat):Int)) oO om om (uR ?_);refine gx (a:=20+4*i) (c:=24+4*i) rfl rfl rfl om om (nW ?_);refine bz (x_ (cQ b (20+4*i) (24+4*i)) (hb.cut _ _) (hlen _ _)) ?_;refine tc (n:=gQ b i) (wrap32 _) (nW ?_);have hi:i=0\/i=1\/i=2\/i=3\/i=4\/i=5:=om;rcases hi with rfl|rfl|rfl|rfl|rfl|rfl<;>
  (repeat (first| (refine c9 rfl dc ?_)| (refine bT rfl dc ?_)| (refine sT rfl ?_;try dsimp only[At.ev,d1,d2,d3,d4,d5,d6,d7,d8,d9,e0,List.map,cZ,Kd.pv])))<;>exact bm rfl
def axS(b)(m:B8 b)(C:b.length<=4294967296):Mq [.r (b.map b1)]=some (A0 b):=by
 have hlen:∀a c,(cQ b a c).length<=4294967296:=λa c=>by have:=Gz b a c;omega
 obtain⟨o,d⟩:∃o,A0 b=o:=⟨_,rfl⟩
 rw[d];unfold A0 at d;refine gp ?_;refine cD rfl (λw=>?_) (λw=>?_)
 .rw[bA]at w;rw[bB om]at d;refine bm ?_;exact d
 rw[bA]at w;rw[bG om]at d;refine uR ?_;refine gx (a:=0) (c:=4) rfl rfl rfl om om (nW ?_);refine qY rfl (nW ?_);obtain⟨t,x⟩:=fA (cQ b 0 4≠ [78,73,68,88]);refine zS (a:=cQ b 0 4) (b:=[78,73,68,88]) rfl (by rfl) (m.cut _ _) (by unfold B8;decide) x (nW ?_);refine dn (λr=>?_) (λr=>?_)
 .rw[bB (x.1 r)]at d;refine bm ?_;exact d
 rw[bG λh=>by rw[x.2 h]at r;cases r]at d;refine uR ?_;refine gx (a:=44) (c:=48) rfl rfl rfl om om (nW ?_);refine bz (x_ (cQ b 44 48) (m.cut _ _) (hlen _ _)) ?_;refine dw (l:=.i (IntKind.wrap .i64 (24*(val (cQ b 44 48)).toInt))) rfl (nW ?_);refine dw (l:=.i (Ap b)) rfl (uR ?_);refine nM (n:=((b.length-4:Nat):Int)) (by show((b.map b1).length:Int) -4=_;rw[bA];omega) om om (uR ?_);refine cD rfl (λp=>?_) (λp=>?_)
 .rw[bA]at p;rw[bB p]at d;refine bm ?_;exact d
 rw[bA]at p;rw[bG p]at d;refine cz (λq=>?_) (λq=>?_)
 .rw[bA]at q;rw[bB q]at d;refine bm ?_;exact d
 rw[bA]at q;rw[bG q]at d;refine uR ?_;refine gx (a:=0) (c:=b.length-4) rfl rfl rfl om om (nW ?_);refine bR (Mi (cQ b 0 (b.length-4)) (hlen _ _)) ?_;refine gx (a:=b.length-4) (c:=b.length) rfl rfl (by show((b.map b1).length:Int)=_;rw[bA]) om om (nW ?_);obtain⟨u,y⟩:=fA (d_ (cQ b 0 (b.length-4))=cQ b (b.length-4) b.length);refine bR (Rg _ (cQ b (b.length-4) b.length) (Bj _) (m.cut _ _) (by show 4<=_;omega) y) ?_;refine dn (λi=>?_) (λi=>?_)
 .rw[bB λh=>by rw[y.2 h]at i;cases i]at d;refine bm ?_;exact d
 have i:(!u)=false:=i;rw[bG (jr.2 (y.1 (by simpa using i)))]at d;refine uR ?_;refine gx (a:=48) (c:=b.length-4) rfl rfl rfl om om (nW ?_);have s:=asq (cQ b 48 (b.length-4)) (m.cut _ _) (hlen _ _);have D:=Gz b 48 (b.length-4);rcases Y3 (f:=(cQ b 48 (b.length-4)).length+1) (c:=cQ b 48 (b.length-4)) (acc:=[]) om with⟨l,g,E,z⟩| ⟨e,B,g⟩
 .rw[g]at s d;simp only[ne_eq,not_true_eq_false,if_false]at d;rw[XX]at d;refine bR s ?_;refine bT rfl dc ?_;refine bz (auM b m om C) ?_;obtain⟨v,A⟩:=fA (jV (val (cQ b 4 6)).toInt (val (cQ b 6 8)).toInt (val (cQ b 8 12)).toInt (val (cQ b 12 20)).toInt l);refine bR (Ev _ _ _ _ (.i (gQ b 0)) (.i (gQ b 1)) (.i (gQ b 2)) (.i (gQ b 3)) (.i (gQ b 4)) (.i (gQ b 5)) l (by simp only[jW]at z;omega) A) ?_;refine dn (λj=>?_) (λj=>?_)
  .rw[bG λh=>by rw[A.2 h]at j;cases j]at d;refine bm ?_;exact d
  .have j:(!v)=false:=j;rw[bB (A.1 (by simpa using j))]at d;refine bm ?_;exact d
 .rw[g]at s d;simp only[ne_eq,B,not_false_eq_true,if_true]at d;refine bR s ?_;refine c9 rfl B ?_;refine bm ?_;exact d
def cU(n:Nat):Nat:=(n+31) /8*8
def JG{n:Nat}(h:n<=4096):dq (n:Int)=((cU n:Nat):Int):=by unfold dq cU;omega
def sh{ρ Q k}{α:Type}{f}{l:List α}{x i:At}{ps}{j:Nat}{v}(a:(x.ev ρ).bE=l.map f)(b:(i.ev ρ).br=j)(c)(g:(f l[j]).length=ps.length)(d:cZ ρ ps=f v)(e:k.wp (ρ++[.r ((l.set j v).map f)]) Q):(bp.op (.set x i 0 ps) k).wp ρ Q:=
 Ad (r:=f l[j]) (by rw[a,b,eO,cY,db c];rfl) om (by
  rw[a,b,eO,d,IE,kZ,sJ om,gd,<-List.map_set];exact e)
def fR(f:List Nat):List PV:=[.sl (f.map b1)]
def hR(t:Bool):List PV:=[.sc (.bool t)]
def x9(n:Int):Int:=if n<=0 then 0 else((n-1) /256+1)*64
def fill(us:List Bool)(i:Nat):List Bool:=us.take i++List.replicate (6-i) false
end
section
open Go.RowKit AI
def oC(a b:Nat):Nat->Nat
 |0=>0
 |k+1=>if(b>>>k)%2=1 then oC a b k^^^ (a<<<k)else oC a b k
def lG(p:Nat):Nat->Nat
 |0=>p
 |n+1=>if(lG p n>>> (14-n))%2=1 then lG p n^^^ (285<<< (6-n))else lG p n
def gm(a b:Nat):Nat:=lG (oC a b 8) 7%256
def Ma{a b:Nat}(d:a<256):∀k,k<=8->oC a b k<2^15
 |0,_=>by show 0<2^15;decide
 |k+1,h=>by
  have c:=Ma (b:=b) d k om;unfold oC;split
  .refine C6 c ?_;have:2^k<=2^7:=C7 dc om;have:a*2^k<=255*2^7:=QB om this;omega
  .exact c
def SS{p:Nat}(hp:p<2^15):∀n,n<=7->lG p n<2^15
 |0,_=>hp
 |n+1,h=>by
  have a:=SS hp n om;unfold lG;split
  .refine C6 a ?_;have:2^ (6-n)<=2^6:=C7 dc om;omega
  .exact a
def LN(a b):gm a b<256:=Nat.mod_lt _ dc
def Fp{p n}(h:(List.range n).all p=true){i}(a:i<n):p i=true:=cI.1 h i (ku.2 a)
def adB{b}(h:b<256):gm 0 b=0:=um (Fp (p:=λb=>Nat.beq (gm 0 b) 0) (n:=256) kr h)
def aDo{b}(h:b<256):gm b 0=0:=um (Fp (p:=λb=>Nat.beq (gm b 0) 0) (n:=256) kr h)
def Oq{x k:Nat}(h:k<=62)(a:x*2^k<=4611686018427387904):eC .shl .i64 (x:Int) (k:Int)=some (.i ((x<<<k:Nat):Int)):=by
 show(if 0<=(k:Int)then some (L.i (IntKind.wrap .i64 ((x:Int)*2^ (min (k:Int).toNat IntKind.i64.bits))))else none)=_;rw[bB om,eO,o0 (show k<=IntKind.i64.bits by show k<=64;omega),C3];have e:(x:Int)*2^k=((x*2^k:Nat):Int):=by rfl
 rw[e,wrap64 om om]
def ofInt8{x:Nat}(h:x<256):(BitVec.ofInt 8 (x:Int)).toNat=x:=by rw[IH];omega
def ofInt64{x:Nat}(h:x<4611686018427387904):(BitVec.ofInt 64 (x:Int)).toNat=x:=by rw[IH];omega
def BT{x:Nat}(h:x<256):IntKind.wrap .u8 (x:Int)=x:=yZ .u8 (by simp[IntKind.min,IntKind.signed]) (by simp[IntKind.max,IntKind.signed,IntKind.bits];omega)
def TV{a b:Nat}(c:a<256)(d:b<256):eC .xor .u8 (a:Int) (b:Int)=some (.i ((a^^^b:Nat):Int)):=by
 show some (L.i (IntKind.wrap .u8 ((BitVec.ofInt 8 (a:Int) ^^^BitVec.ofInt 8 (b:Int)).toNat:Int)))=_;rw[BitVec.toNat_xor,ofInt8 c,ofInt8 d,BT (C6 (n:=8) c d)]
def EW{a b:Nat}(c:a<2^15)(d:b<2^15):eC .xor .i64 (a:Int) (b:Int)=some (.i ((a^^^b:Nat):Int)):=by
 have:=C6 c d;show some (L.i (IntKind.wrap .i64 ((BitVec.ofInt 64 (a:Int) ^^^BitVec.ofInt 64 (b:Int)).toNat:Int)))=_;rw[BitVec.toNat_xor,ofInt64 om,ofInt64 om,wrap64 om om]
def aaM{a:Nat}(b:a<256):eC .and .u8 (a:Int) 1=some (.i ((a%2:Nat):Int)):=by
 show some (L.i (IntKind.wrap .u8 ((BitVec.ofInt 8 (a:Int)&&&BitVec.ofInt 8 ((1:Nat):Int)).toNat:Int)))=_;rw[QH,ofInt8 b,ofInt8 dc,Nat.and_one_is_mod,BT om]
def aqA{a:Nat}(b:a<2^15):eC .and .i64 (a:Int) 1=some (.i ((a%2:Nat):Int)):=by
 show some (L.i (IntKind.wrap .i64 ((BitVec.ofInt 64 (a:Int)&&&BitVec.ofInt 64 ((1:Nat):Int)).toNat:Int)))=_;rw[QH,ofInt64 om,ofInt64 dc,Nat.and_one_is_mod,wrap64 om om]
def l8(c:Nat)(d s:List Nat):List Nat:=List.zipWith (λx y=>x^^^gm c y) d s
def KV{c d s}(h:d.length=s.length):(l8 c d s).length=s.length:=by unfold l8;rw[List.length_zipWith];omega
def Nh{c d s i}(h)(a:i<d.length)(b:i<s.length):(l8 c d s)[i]=d[i] ^^^gm c s[i]:=by simp only[l8,List.getElem_zipWith]
def arG{c d s}(b:B8 d):B8 (l8 c d s):=λx e=>by
 obtain⟨i,a,rfl⟩:=kL e;have h:i<d.length/\i<s.length:=by unfold l8 at a;rw[List.length_zipWith]at a;omega
 rw[Nh a h.1 h.2];exact C6 (n:=8) (b _ (cV h.1)) (LN _ _)
def lg(o d:List Nat)(i:Nat):List Nat:=o.take i++d.drop i
def ajA{o d}(h:o.length=d.length)(i):(lg o d i).length=d.length:=by unfold lg;rw[cw,dH,jE];omega
def Sb{o d}(h:o.length=d.length){i}(a)(b):(lg o d i)[i]=d[i]:=by
 have e:(lg o d i)[i]?=some d[i]:=by
  unfold lg;rw[kX (by rw[dH];omega),kU,dH,show i+(i-min i o.length)=i by omega,db a]
 rw[db b]at e;exact oc e
def S8{o d}(h:o.length=d.length){i}(a:i<d.length){v}(b:v=o[i]'om):(lg o d i).set i v=lg o d (i+1):=by
 unfold lg;rw[QI _ _ (by rw[dH];omega),fT om,dr,dH];rw[show i-min i o.length=0 by omega,uk a,QJ,b];rfl
def adN{o d}(h:o.length=d.length):lg o d d.length=o:=by unfold lg;rw[eP om,List.drop_length,gd]
def jk(c:Nat):Nat:=cond (Nat.blt (yY.getD c 0) 255) (yY.getD c 0) 0
def Ct(n:Nat):Nat:=(mK++mK).getD n 0
def Pe(c):jk c<255:=by
 unfold jk
 cases h:Nat.blt (yY.getD c 0) 255 with
 |true=>exact acK h
 |false=>exact(by decide:0<255)
def aaL{c}(h:c<256):yg[c]?=some (.i (jk c:Nat)):=by
 have a:yY.length=256:=kr;unfold yg jk;rw[cY,iD,db om];rfl
def agi{n}(h:n<510):Ae[n]?=some (.i (Ct n:Nat)):=by
 have a:(mK++mK).length=510:=kr;unfold Ae Ct;rw[cY,iD,db om];rfl
def EL(c:Nat):List Nat->List Nat->Bool
 |a::l,b::m=>Nat.beq a (gm c b)&&EL c l m
 |_,[]=>true
 |[],_=>false
def Dt(c:Nat):Bool:=EL c ((mK++mK).drop (jk c)) mK
def Se{c:Nat}:∀{l m:List Nat},EL c l m=true->∀{n:Nat},n<m.length->l.getD n 0=gm c (m.getD n 0)
 |a::l,b::m,h,n,d=>by
  rw[EL,cF]at h
  cases n with
  |zero=>exact um h.1
  |succ n=>exact Se (l:=l) (m:=m) h.2 (by simpa using d)
 |[],[],_,n,d=>absurd d (sK _)
 |_::_,[],_,n,d=>absurd d (sK _)
 |[],_::_,h,_,_=>by cases h
def arK{y}(h:y<256)(a:y≠0):mK.getD (jk y) 0=y:=by
 have:=Fp (p:=λy=>Nat.beq y 0||Nat.beq (mK.getD (jk y) 0) y) (n:=256) kr h;rw[pZ]at this;rcases this with h|h
 .exact absurd (um h) a
 .exact um h
def agy{c y}(h:Dt c=true)(b:y<256)(d:y≠0):Ct (jk c+jk y)=gm c y:=by
 have e:mK.length=255:=kr;have a:=Se h (n:=jk y) (by have:=Pe y;omega);rw[arK b d]at a;rw[<-a];unfold Ct;rw[iD,iD,kU]
end
section
open Go.RowKit AI
attribute [local irreducible] bp.wp
def JZ{a b:Nat}(ha:a<256)(hb:b<256):pE [.i a,.i b]=some [.i (gm a b:Nat)]:=by
 refine bJ ?_;refine dC [.i (oC a b 8:Nat)] ?_ ?_
 .refine wp_loop (I:=λx=>∃k:Nat,x=[.i (oC a b k:Nat),.i k]/\k<=8) (mu:=gX 8) ⟨0,rfl,om⟩ ?_;rintro x ⟨k,rfl,e1⟩;refine cz (λhc=>?_) (λhc=>?_);rotate_left
  .obtain rfl:k=8:=om;exact bm rfl
  have hp:=Ma (b:=b) ha k e1;refine dC [.i (oC a b (k+1):Nat)] ?_ ?_
  .refine iw ((k:Int)) rfl ?_;refine dw (l:=.i ((b>>>k:Nat):Int)) (A_ (show k<=8 by omega)) (nW ?_);refine dw (l:=.i ((b>>>k%2:Nat):Int)) (aaM (acB (Nat.shiftRight_le _ _) hb)) (uR ?_);refine cD rfl (λhx=>?_) (λhx=>?_)
   .refine pH (n:=(a:Int)) rfl om om (nW ?_);refine iw ((k:Int)) rfl ?_;have h2:2^k<=2^7:=C7 dc om;have h3:a*2^k<=255*2^7:=QB om h2;refine dw (l:=.i ((a<<<k:Nat):Int)) (Oq om om) (nW ?_);refine dw (l:=.i ((oC a b k^^^ (a<<<k):Nat):Int)) (EW hp om) (nW ?_);refine bm ?_;show[L.i _]=[L.i _]
    rw[oC,bB om]
   .refine bm ?_;show[L.i _]=[L.i _]
    rw[oC,bG om]
  refine cj k ?_;exact bm ⟨⟨k+1,rfl,om⟩,dy 8 k⟩
 have hq:=Ma (b:=b) ha 8 om;obtain⟨p,hpe⟩:∃p,oC a b 8=p:=⟨_,rfl⟩
 unfold gm;rw[hpe]at hq⊢;refine dC [.i (lG p 7:Nat)] ?_ ?_
 .refine wp_loop (I:=λx=>∃n:Nat,x=[.i (lG p n:Nat),.i ((14:Int) -n)]/\n<=7) (mu:=λx=>match x with|[_,.i k]=>k.toNat-7|_=>0) ⟨0,rfl,om⟩ ?_;rintro x ⟨n,rfl,e1⟩;refine cz (λhc=>?_) (λhc=>?_);rotate_left
  .obtain rfl:n=7:=om;exact bm rfl
  have hp:=SS hq n e1;have e14:(14:Int) -n=((14-n:Nat):Int):=om;refine dC [.i (lG p (n+1):Nat)] ?_ ?_
  .refine iw (((14-n:Nat):Int)) e14 ?_;refine dw (l:=.i ((lG p n>>> (14-n):Nat):Int)) (A_ (show 14-n<=64 by omega)) (nW ?_);refine dw (l:=.i ((lG p n>>> (14-n)%2:Nat):Int)) (aqA (acB (Nat.shiftRight_le _ _) hp)) (uR ?_);refine cD rfl (λhx=>?_) (λhx=>?_)
   .refine eb (((6-n:Nat):Int)) oO ?_;refine iw (((6-n:Nat):Int)) rfl ?_;have h2:2^ (6-n)<=2^6:=C7 dc om;refine dw (l:=.i ((285<<< (6-n):Nat):Int)) (Oq (x:=285) om om) (nW ?_);refine dw (l:=.i ((lG p n^^^ (285<<< (6-n)):Nat):Int)) (EW hp om) (nW ?_);refine bm ?_;show[L.i _]=[L.i _]
    rw[lG,bB om]
   .refine bm ?_;show[L.i _]=[L.i _]
    rw[lG,bG om]
  refine eb ((14:Int) - ((n+1:Nat):Int)) oO ?_;refine bm ⟨⟨n+1,rfl,om⟩,?_⟩;show((14:Int) - ((n+1:Nat):Int)).toNat-7< ((14:Int) - (n:Int)).toNat-7;omega
 refine tc (n:=((lG p 7%256:Nat):Int)) (by
  show IntKind.wrap .u8 ((lG p 7:Nat):Int)=_;simp[IntKind.wrap,IntKind.bits,IntKind.signed]) ?_
 refine nW ?_;exact bm rfl
def apH{c:Nat}(hc:c<256)(d s)(hd:B8 d)(hs:B8 s)(hl:d.length=s.length)(hn:s.length<=4294967296):M2 [.r (d.map b1),.r (s.map b1),.i c]=some [.i 0,.r ((l8 c d s).map b1)]:=by
 refine gp ?_;refine bT rfl (by rw[bA,bA];omega) ?_;obtain⟨o,ho⟩:∃o,l8 c d s=o:=⟨_,rfl⟩
 have kn:o.length=s.length:=by rw[<-ho];exact KV hl
 have sx:∀i(h:i<o.length)(h1:i<d.length)(h2:i<s.length),o[i]=d[i] ^^^gm c s[i]:=by subst ho;exactλi h h1 h2=>Nh h h1 h2
 rw[ho];refine bO (λxs=>xs=[.r (o.map b1)]) ?_ ?_;rotate_left
 .rintro _ rfl;refine nW ?_;exact bm rfl
 refine wp_loop (I:=λx=>∃i:Nat,x=[.i i,.r ((o.take i).map b1)]/\i<=o.length) (mu:=cN o.length) ⟨0,rfl,om⟩ ?_;rintro x ⟨i,rfl,e1⟩;refine uR ?_;refine cD rfl (λhc'=>?_) (λhc'=>?_);rotate_left
 .rw[bA]at hc';refine bm ?_;show[L.r ((o.take i).map b1)]=_;rw[eP om]
 rw[bA]at hc';have hi:i<d.length:=om;refine dx b1 i hi ?_;refine dV (f:=b1) (j:=i) rfl rfl (show i<s.length by omega) rfl (uR ?_);refine bz (JZ hc (hs _ (cV (show i<s.length by omega)))) ?_;refine dw (l:=.i ((o[i]'om:Nat):Int)) (by rw[sx i om hi om];exact TV (hd _ (cV hi)) (LN _ _)) (uR ?_);refine eI (r:=(o.take (i+1)).map b1) (oW _) rfl oO oO dc (by rw[fT om,dU];rfl) (nW ?_);refine cj i ?_;exact bm ⟨⟨i+1,rfl,om⟩,dy o.length i⟩
theorem amb:sg []=some []:=rfl
def Tc{c}(hc:c<256)(ht:c=0\/Dt c=true)(d s)(hd:B8 d)(hs:B8 s)(hl:d.length=s.length)(hn:s.length<=4294967296):Fq [.r (d.map b1),.r (s.map b1),.i c]=some [.i 0,.r ((l8 c d s).map b1)]:=by
 refine gp ?_;refine bT rfl (by rw[bA,bA];omega) ?_;refine bz amb ?_;refine eI (r:=d.map b1) rfl (oW _) oO oO dc rfl (nW ?_);obtain⟨o,ho⟩:∃o,l8 c d s=o:=⟨_,rfl⟩
 have kn:o.length=s.length:=by rw[<-ho];exact KV hl
 have sx:∀i(h:i<o.length)(h1:i<d.length)(h2:i<s.length),o[i]=d[i] ^^^gm c s[i]:=by subst ho;exactλi h h1 h2=>Nh h h1 h2
 rw[ho];have zA:o.length=d.length:=om;refine bO (λxs=>xs=[.r (o.map b1)]) ?_ ?_;rotate_left
 .rintro _ rfl;refine nW ?_;exact bm rfl
 refine uR ?_;refine wp_loop (I:=λx=>∃i:Nat,x=[.i i,.r ((lg o d i).map b1)]/\i<=o.length) (mu:=cN o.length) ⟨0,rfl,om⟩ ?_;rintro x ⟨i,rfl,e1⟩;have wR:=ajA zA i;refine uR ?_;refine cD rfl (λhc'=>?_) (λhc'=>?_);rotate_left
 .rw[bA]at hc';obtain rfl:i=d.length:=om;refine bm ?_;show[L.r ((lg o d d.length).map b1)]=_;rw[adN zA]
 rw[bA]at hc';have hi:i<d.length:=om;have P6:i<s.length:=om;have hy:=hs _ (cV P6);have hdx:=hd _ (cV hi);refine dC [.r ((lg o d (i+1)).map b1)] ?_ ?_
 .refine dx b1 i P6 ?_;have H8:=sx i om hi P6;refine bO (dp (c≠0/\s[i]≠0)) ?_ ?_
  .refine cz (λhx=>?_) (λhx=>?_)
   .refine uR ?_;exact bm (fK om)
   .exact bm (fF om)
  rintro _ ⟨t,rfl,hT⟩;refine nW ?_;refine dn (λhz=>?_) (λhz=>?_)
  .have hz:=hT.1 hz;refine dV (f:=b1) (j:=i) rfl rfl om rfl (nW ?_);refine gy (f:=b1) (j:=i) rfl rfl om rfl rfl ?_;rw[Sb zA hi];refine nW ?_;refine nH ⟨by show(0:Int)<=(c:Int);omega,by show(c:Int)<256;omega⟩ (nW ?_);refine yF (x:=.i (jk c:Nat)) (aaL hc) (nW ?_);refine nH ⟨by show(0:Int)<=(s[i]:Int);omega,by show(s[i]:Int)<256;omega⟩ (nW ?_);refine yF (x:=.i (jk s[i]:Nat)) (aaL hy) (nW ?_);have h1:=Pe c;have h2:=Pe s[i];refine fg (((jk c+jk s[i]:Nat):Int)) rfl ?_;refine nH ⟨by show(0:Int)<=((jk c+jk s[i]:Nat):Int);omega,by show((jk c+jk s[i]:Nat):Int)<510;omega⟩ (nW ?_);refine yF (x:=.i (Ct (jk c+jk s[i]):Nat)) (agi (n:=jk c+jk s[i]) om) ?_;rw[agy (ht.resolve_left hz.1) hy hz.2];refine nW ?_;refine dw (l:=.i ((d[i] ^^^gm c s[i]:Nat):Int)) (TV hdx (LN _ _)) (nW ?_);refine dV (f:=b1) (j:=i) rfl rfl om rfl (nW ?_);refine sh (f:=b1) (j:=i) (v:=d[i] ^^^gm c s[i]) rfl rfl om rfl rfl ?_;rw[S8 zA hi H8.symm];refine nW ?_;exact bm rfl
  .have hz:¬(c≠0/\s[i]≠0):=λh=>by rw[hT.2 h]at hz;cases hz
   have hg:gm c s[i]=0:=by
    by_cases h0:c=0
    .rw[h0,adB hy]
    .rw[show s[i]=0 by omega,aDo hc]
   refine bm ?_;show[L.r ((lg o d i).map b1)]=_;rw[<-S8 zA hi (v:=d[i]) (by rw[H8,hg,Nat.xor_zero])];rw[show(lg o d i).set i d[i]=lg o d i by
    rw[<-Sb zA hi om];exact List.set_getElem_self _]
 refine cj i ?_;exact bm ⟨⟨i+1,rfl,om⟩,dy o.length i⟩
def x7(a:Nat):Nat->Nat->Option Nat
 |0,_=>none
 |n+1,b=>cond (Nat.beq (gm a b) 1) (some b) (x7 a n (b+1))
def aaA(o:Option Nat):List L:=match o with|some b=>[.i (b:Nat),.i 0]|none=>[.i 0,.i 1]
def aiH{a:Nat}(ha:a<256):BB [.i a]=some (aaA (x7 a 255 1)):=by
 obtain⟨o,ho⟩:∃o,x7 a 255 1=o:=⟨_,rfl⟩
 rw[ho];refine bJ ?_;refine bO (λxs=>xs=[]/\o=none) ?_ ?_;rotate_left
 .rintro _ ⟨rfl,rfl⟩;refine nW ?_;exact bm rfl
 refine wp_loop (I:=λx=>∃i:Nat,x=[.i i]/\i<=256/\1<=i/\x7 a (256-i) i=o) (mu:=cN 256) ⟨1,rfl,om,om,ho⟩ ?_;rintro x ⟨i,rfl,e1,e0,e2⟩;refine cz (λhc=>?_) (λhc=>?_);rotate_left
 .obtain rfl:i=256:=om;exact bm ⟨rfl,e2.symm⟩
 have hi:i<256:=om;rw[show 256-i=(255-i)+1 by omega,x7]at e2;refine tc (n:=(i:Int)) (BT hi) (nW ?_);refine bR (JZ ha hi) ?_;refine cD rfl (λhx=>?_) (λhx=>?_)
 .have hx:gm a i=1:=om;rw[hx]at e2;refine tc (n:=(i:Int)) (BT hi) (nW ?_);refine bm ?_;rw[<-e2];rfl
 .have hx:Nat.beq (gm a i) 1=false:=by rw[acL];exactλh=>hx (by rw[um h];rfl)
  rw[hx]at e2;refine cj i ?_;refine bm ⟨⟨i+1,rfl,om,om,?_⟩,?_⟩
  .rw[show 256- (i+1)=255-i by omega];exact e2
  .show 256- ((i+1:Nat):Int).toNat<256-i;omega
def vo(x:Nat):Nat:=if x*2/256=1 then(x*2) ^^^285 else x*2
def pm:Nat->Nat->Nat->Nat->Nat
 |0,_,_,_=>0
 |n+1,b,p,x=>if b=0 then p else pm n (b/2) (if b%2=1 then p^^^x else p) (vo x)
def ayM{x}(h:x<256):vo x<256:=by
 have:∀x,x<256->vo x<256:=λx h=>acK (Fp (p:=λx=>Nat.blt (vo x) 256) (n:=256) kr h)
 exact this x h
def aDC{a b:Nat}(ha:a<256)(hb:b<256):sd [.i a,.i b]=some [.i (pm 9 b 0 a:Nat)]:=by
 obtain⟨o,ho⟩:∃o,pm 9 b 0 a=o:=⟨_,rfl⟩
 rw[ho];refine bJ ?_;refine pH (n:=(a:Int)) rfl om om (nW ?_);refine bO (λxs=>xs=[.i (o:Nat)]/\o<256) ?_ ?_;rotate_left
 .rintro _ ⟨rfl,h⟩;refine nW ?_;refine tc (n:=(o:Int)) (BT h) (nW ?_);exact bm rfl
 refine wp_loop (I:=λy=>∃n b p x:Nat,y=[.i b,.i p,.i x]/\b<2^n/\n<=8/\p<256/\x<256/\pm (n+1) b p x=o) (mu:=λy=>match y with|[.i b,_,_]=>b.toNat|_=>0) ⟨8,b,0,a,rfl,hb,om,om,ha,ho⟩ ?_;rintro y ⟨n,b,p,x,rfl,hb,hn,hp,hx,e⟩;have hb8:b<256:=nt hb (C7 dc hn);refine cz (λhc=>?_) (λhc=>?_);rotate_left
 .obtain rfl:b=0:=om;refine bm ⟨?_,?_⟩
  .show[L.i (p:Int)]=[L.i (o:Int)]
   rw[<-e,pm,bB rfl]
  .rw[<-e,pm,bB rfl];exact hp
 rw[pm,bG om]at e;have hxp:=C6 (n:=8) hp hx;refine dC [.i ((if b%2=1 then p^^^x else p:Nat):Int),.i (vo x:Nat)] ?_ ?_
 .refine dC [.i ((if b%2=1 then p^^^x else p:Nat):Int)] ?_ ?_
  .refine dw (l:=.i ((b%2:Nat):Int)) (aaM hb8) (uR ?_);refine cD rfl (λhy=>?_) (λhy=>?_)
   .refine dw (l:=.i ((p^^^x:Nat):Int)) (EW om om) (nW ?_);refine bm ?_;show[L.i _]=[L.i _]
    rw[bB om]
   .refine bm ?_;show[L.i _]=[L.i _]
    rw[bG om]
  refine dw (l:=.i ((x*2:Nat):Int)) ((Oq (x:=x) (k:=1) om om).trans (by rw[C3])) (nW ?_);refine dw (l:=.i ((x*2/256:Nat):Int)) ((A_ (x:=x*2) (k:=8) dc).trans (by rw[QF])) (uR ?_);refine cD rfl (λhy=>?_) (λhy=>?_)
  .refine dw (l:=.i (((x*2) ^^^285:Nat):Int)) (EW (a:=x*2) (b:=285) om om) (nW ?_);refine bm ?_;show[L.i _,L.i _]=[L.i _,L.i _]
   rw[show vo x=(x*2) ^^^285 from bB om]
  .refine bm ?_;show[L.i _,L.i _]=[L.i _,L.i _]
   rw[show vo x=x*2 from bG om]
 refine dw (l:=.i ((b/2:Nat):Int)) ((A_ (x:=b) (k:=1) dc).trans (by rw[QF])) (nW ?_);refine bm ⟨?_,?_⟩
 .match n,hb,e with
  |0,hb,_=>exact absurd hb om
  |n+1,hb,e=>exact⟨n,b/2,_,_,rfl,om,om,by split<;>omega,ayM hx,e⟩
 .show((b/2:Nat):Int).toNat<b;omega
end
section
open Go.RowKit
section
variable{α:Type}
def Hq(n:Int)(k:Int->α):α:=match n with
 |.ofNat 0=>k (.ofNat 0)
 |.ofNat (m+1)=>k (.ofNat (m+1))
 |.negSucc m=>k (.negSucc m)
def zZ:List PV->(List PV->α)->α
 |.sc (.int a n)::r,k=>Hq n λn=>zZ r λr=>k (.sc (.int a n)::r)
 |p::r,k=>zZ r λr=>k (p::r)
 |[],k=>k []
def DZ:List (List PV)->(List (List PV)->α)->α
 |a::r,k=>zZ a λa=>DZ r λr=>k (a::r)
 |[],k=>k []
def I2(x:L)(k:L->α):α:=match x with
 |.i n=>Hq n λn=>k (.i n)
 |.b true=>k (.b true)
 |.b false=>k (.b false)
 |.r rows=>DZ rows λrows=>k (.r rows)
 |x=>k x
def xR:List L->(List L->α)->α
 |a::r,k=>I2 a λa=>xR r λr=>k (a::r)
 |[],k=>k []
def xJ:List L->List L->(List L->α)->α
 |a::r,m,k=>xJ r m λr=>k (a::r)
 |[],m,k=>k m
def RJ(n)(k:Int->α):Hq n k=k n:=by
 unfold Hq;split<;>rfl
def LJ:∀(r:List PV)(k:List PV->α),zZ r k=k r
 |[],_=>rfl
 |p::r,k=>by
  unfold zZ;split
  .rename_i h;cases h;rw[RJ,LJ]
  .rename_i h;cases h;rw[LJ]
  .rename_i h;cases h
def RM:∀(r:List (List PV))(k:List (List PV)->α),DZ r k=k r
 |[],_=>rfl
 |a::r,k=>by rw[DZ,LJ,RM]
def ahO(x)(k:L->α):I2 x k=k x:=by
 unfold I2;split
 .rw[RJ]
 .rfl
 .rfl
 .rw[RM]
 .rfl
def GM:∀(r:List L)(k:List L->α),xR r k=k r
 |[],_=>rfl
 |a::r,k=>by rw[xR,ahO,GM]
def E8:∀(a m:List L)(k:List L->α),xJ a m k=k (a++m)
 |[],_,_=>rfl
 |x::a,m,k=>by rw[xJ,E8];rfl
end
abbrev GT:=Nat->Option (List L->Option (List L))
def Nd.run(a:GT)(ρ:List L)(nd:Nd):Option (List L):=match nd with
 |.call t _ args n us=>match a t with
  |some g=>match g (args.map (At.ev ρ))with
   |some l=>if l.length=n/\(us.all λi=>((l[i]?).getD (.b false)).bE.all (·.all PV.bare))=true then some l else none
   |none=>none
  |none=>none
 |nd=>nd.ev ρ
def bp.run(d:GT)(fuel:Nat):bp->List L->Out
 |.bq x,ρ=>some (x,ρ)
 |.op m k,ρ=>match m.run d ρ with
  |some ls=>xR ls λls=>xJ ρ ls λρ=>k.run d fuel ρ
  |none=>none
 |.ite c a b,ρ=>match(c.ev ρ).eF with
  |true=>a.run d fuel ρ
  |false=>b.run d fuel ρ
 |.join body rest,ρ=>match body.run d fuel ρ with
  |some (.jump 0 args,h)=>xR (args.map (At.ev h)) λa=>xJ ρ a λρ=>rest.run d fuel ρ
  |some (.jump (k+1) args,h)=>some (.jump k args,h)
  |r=>r
 |.loop init body,ρ=>iv (λa=>xR a λa=>xJ ρ a λρ=>oT (body.run d fuel ρ)) fuel (init.map (At.ev ρ))
def qC(a:GT):bp->Prop
 |.bq _=>True
 |.op b k=>(match b with| .call t F _ _ _=>∀g,a t=some g->∀ls o,g ls=some o->F ls=some o|_=>True)/\qC a k
 |.ite _ x y=>qC a x/\qC a y
 |.join x y=>qC a x/\qC a y
 |.loop _ y=>qC a y
def Nd.pC{d ρ}{a:Nd}{ls}(m:match a with| .call t F _ _ _=>∀g,d t=some g->∀ls o,g ls=some o->F ls=some o|_=>True)(h:a.run d ρ=some ls):a.ev ρ=some ls:=by
 cases a with
 |call t F args n us=>
  simp only[Nd.run]at h;split at h
  .rename_i g q;split at h
   .rename_i l u;simp only[Nd.ev,m g q _ _ u];exact h
   .cases h
  .cases h
 |_=>exact h
def XK{A R f g}(h:∀a x,f a=some x->g a=some x):∀{n}{a:A}{r:R},iv f n a=some r->iv g n a=some r
 |0,_,_,b=>by cases b
 |n+1,a,r,b=>by
  simp only[iv]at b⊢;split at b
  .rename_i a' c;rw[h _ _ c];exact XK h b
  .rename_i r' c;rw[h _ _ c];exact b
  .cases b
def bp.pC{u:GT}{fuel:Nat}:∀{f:bp}{ρ:List L}{r:Lf×List L},qC u f->f.run u fuel ρ=some r->f.a_ ρ=some r
 |.bq x,ρ,r,_,h=>h
 |.op G k,ρ,r,d,h=>by
  simp only[bp.run]at h;split at h
  .rename_i ls z;rw[GM,E8]at h;rw[bp.a_,Nd.pC d.1 z];exact bp.pC d.2 h
  .cases h
 |.ite c a b,ρ,r,d,h=>by
  simp only[bp.run]at h;split at h
  .rename_i B;rw[bp.a_,B];exact bp.pC d.1 h
  .rename_i B;rw[bp.a_,B];exact bp.pC d.2 h
 |.join a b,ρ,r,d,h=>by
  simp only[bp.run]at h;split at h
  .rename_i args q m;rw[GM,E8]at h;rw[bp.a_,bp.pC d.1 m];exact bp.pC d.2 h
  .rename_i k args q m;rw[bp.a_,bp.pC d.1 m];exact h
  .rename_i D E;have:=bp.pC d.1 h;obtain⟨F,q⟩:=r;rw[bp.a_,this]
   cases F with
   |st=>rfl
   |jump k args=>cases k with
    |zero=>exact absurd h (D _ _)
    |succ k=>exact absurd h (E _ _ _)
 |.loop init body,ρ,r,d,h=>by
  refine HU (n:=fuel) (XK (λa x t=>?_) h);rw[GM,E8]at t
  cases m:body.run u fuel (ρ++a)with
  |none=>rw[m]at t;cases t
  |some y=>rw[m]at t;rw[show body.a_ (ρ++a)=some y from bp.pC (f:=body) (fuel:=fuel) d m];exact t
def pz(a:GT):List (Nat×(List L->Option (List L)))->Prop
 |[]=>True
 |(t,F)::r=>(∀g,a t=some g->∀ls o,g ls=some o->F ls=some o)/\pz a r
def pz.left{d}:∀{a b},pz d (a++b)->pz d a
 |[],_,_=>trivial
 |(_,_)::_,_,h=>⟨h.1,h.2.left⟩
def pz.right{d}:∀{a b},pz d (a++b)->pz d b
 |[],_,h=>h
 |(_,_)::a,_,h=>pz.right (a:=a) h.2
def uW{b}:∀{f},pz b (AI.bp.calls f)->qC b f
 |.bq _,_=>trivial
 |.op c k,h=>by
  refine⟨?_,uW h.right⟩
  cases c with
  |call t F a n u=>exact h.left.1
  |_=>trivial
 |.ite _ _ _,h=>⟨uW h.left,uW h.right⟩
 |.join _ _,h=>⟨uW h.left,uW h.right⟩
 |.loop _ y,h=>uW (f:=y) h
def avW{a f cs}(e:AI.bp.calls f=cs)(h:pz a cs):qC a f:=uW (by rw[e];exact h)
def cP{a:GT}{t}{g F:List L->Option (List L)}(e:a t=some g)(h:∀ls o,g ls=some o->F ls=some o):∀g,a t=some g->∀ls o,g ls=some o->F ls=some o:=λg' b=>by
 rw[e]at b;cases b;exact h
def atv{a fuel f}(c:qC a f):∀ls o,gH (f.run a fuel ls)=some o->gH (f.a_ ls)=some o:=λls o h=>by
 cases b:f.run a fuel ls with
 |none=>rw[b]at h;cases h
 |some r=>rw[b]at h;rw[bp.pC c b];exact h
def RO(l:List (Nat×(List L->Option (List L)))):GT:=λt=>AI.lk l t
def rG(f:bp)(l:List (Nat×(List L->Option (List L)))):List L->Option (List L):=λls=>gH (f.run (RO l) 40 ls)
abbrev Gk(g F:List L->Option (List L)):Prop:=∀ls o,g ls=some o->F ls=some o
def rK{f l}(cs)(h:pz (RO l) cs)(e:AI.bp.calls f=cs:=by kernel_rfl):Gk (rG f l) (Fo f):=atv (avW e h)
def Lk:PV->PV->Bool
 |.sc (.int k n),.sc (.int a b)=>decide (k=a)&&decide (n=b)
 |_,_=>false
def GO:List PV->List PV->Bool
 |a::l,b::m=>Lk a b&&GO l m
 |[],[]=>true
 |_,_=>false
def DH:List (List PV)->List (List PV)->Bool
 |a::l,b::m=>GO a b&&DH l m
 |[],[]=>true
 |_,_=>false
def LU:L->L->Bool
 |.i a,.i b=>decide (a=b)
 |.s a,.s b=>decide (a.data.toList=b.data.toList)
 |.r a,.r b=>DH a b
 |_,_=>false
def HX:List L->List L->Bool
 |a::l,b::m=>LU a b&&HX l m
 |[],[]=>true
 |_,_=>false
def x5(o:Option (List L))(l:List L):Bool:=match o with|some m=>HX m l|none=>false
def aAJ{a b}(h:Lk a b=true):a=b:=by
 unfold Lk at h;split at h
 .rw[cF,e_,e_]at h;rw[h.1,h.2]
 .cases h
def VJ:∀{a b:List PV},GO a b=true->a=b
 |[],[],_=>rfl
 |a::l,b::m,h=>by
  rw[GO,cF]at h;rw[aAJ h.1,VJ h.2]
 |[],_::_,h=>by cases h
 |_::_,[],h=>by cases h
def T1:∀{a b:List (List PV)},DH a b=true->a=b
 |[],[],_=>rfl
 |a::l,b::m,h=>by
  rw[DH,cF]at h;rw[VJ h.1,T1 h.2]
 |[],_::_,h=>by cases h
 |_::_,[],h=>by cases h
def adV{a b}(h:LU a b=true):a=b:=by
 unfold LU at h;split at h
 .rw[e_]at h;rw[h]
 .rename_i x y;rw[e_]at h;obtain⟨⟨x⟩⟩:=x;obtain⟨⟨y⟩⟩:=y;have h:x=y:=h;rw[h]
 .rw[T1 h]
 .cases h
def Wf:∀{a b:List L},HX a b=true->a=b
 |[],[],_=>rfl
 |a::l,b::m,h=>by
  rw[HX,cF]at h;rw[adV h.1,Wf h.2]
 |[],_::_,h=>by cases h
 |_::_,[],h=>by cases h
def tF{o l}(h:x5 o l=true):o=some l:=by
 unfold x5 at h;split at h
 .rw[Wf h]
 .cases h
end
section
open Go.RowKit AI
attribute [local irreducible] bp.wp
section
variable{ρ:List L}{Q:Lf×List L->Prop}{k:bp}
def ayd{x y n c}(b:(x.ev ρ).br=n)(d:(y.ev ρ).br=c)(a:0<=n)(g:n<=9223372036854775807)(e:0<c)(f:k.wp (ρ++[.i (n/c)]) Q):(bp.op (.bi .quo .i64 x y) k).wp ρ Q:=dw (by
 rw[b,d];show(if c≠0 then some (L.i (IntKind.wrap .i64 (n.tdiv c)))else none)=_;have h:=Int.ediv_le_self c a;have i:=Int.ediv_nonneg a (Int.le_of_lt e);rw[bB om,acI a,wrap64 om om]) f
end
end
end
end Go.Proofs.YtiikkkhcolcebaaGreatDoor
