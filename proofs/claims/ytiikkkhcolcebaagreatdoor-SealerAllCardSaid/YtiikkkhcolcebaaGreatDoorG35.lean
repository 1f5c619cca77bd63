/- A part. -/
import Derived.Test.YtiikkkhcolcebaaGreatDoorG32
import Derived.Test.YtiikkkhcolcebaaGreatDoorG33
import Derived.Test.YtiikkkhcolcebaaGreatDoorG34
set_option linter.all false
set_option maxHeartbeats 4000000
set_option maxRecDepth 100000
namespace Go.Proofs.YtiikkkhcolcebaaGreatDoor
noncomputable section
section
open Go.RowKit AI
attribute [local irreducible] bl.wp
def b1(n:Nat):List PV:=[.sc (.int .u8 (n:Int))]
def rI(o:Option L):Int:=match o with|some (.i n)=>n|_=>0
def p9(r:Int):Int:=if rI (dV .and .u32 r 1)=1 then rI (dV .xor .u32 (rI (dV .shr .u32 r 1)) 2197175160)else rI (dV .shr .u32 r 1)
def iO(r:Int):Nat->Int
 |0=>r
 |n+1=>p9 (iO r n)
def kn(r:Int)(x:Nat):Int:=iO (rI (dV .xor .u32 r (IntKind.wrap .u32 (x:Int)))) 8
def gY(r:Int):Int:=rI (Sc .xor .u32 r)
def eV(l:List Nat):Int:=gY (l.foldl kn (gY 0))
theorem aqT(r):Ia [.i r]=some [.i (iO r 8)]:=by
 refine bF ?_;refine bz (λxs=>xs=[.i (iO r 8)]) ?_ ?_;rotate_left
 .rintro _ rfl;refine nW ?_;exact bk rfl
 refine wp_loop (I:=λa=>∃i:Nat,a=[.i (iO r i),.i i]/\i<=8) (mu:=λa=>match a with|[_,.i i]=>8-i.toNat|_=>0) ⟨0,rfl,om⟩ ?_;rintro a ⟨i,rfl,e1⟩;refine uR ?_;refine bO rfl (λhc=>?_) (λhc=>?_)
 .refine bz (λxs=>xs=[.i (iO r (i+1))]) ?_ ?_
  .refine dn (l:=.i (rI (dV .and .u32 (iO r i) 1))) rfl (uR ?_);refine bO rfl (λhx=>?_) (λhx=>?_)
   .refine dn (l:=.i (rI (dV .shr .u32 (iO r i) 1))) rfl (nW ?_);refine dn (l:=.i (rI (dV .xor .u32 (rI (dV .shr .u32 (iO r i) 1)) 2197175160))) rfl (nW ?_);refine bk ?_;show[L.i _]=[L.i (p9 (iO r i))]
    unfold p9;rw[bA hx]
   .refine dn (l:=.i (rI (dV .shr .u32 (iO r i) 1))) rfl (nW ?_);refine bk ?_;show[L.i _]=[L.i (p9 (iO r i))]
    unfold p9;rw[bH hx]
  .rintro _ rfl;refine nW ?_;refine b8 (i:=i) rfl om (nW ?_);refine bk ⟨⟨i+1,rfl,om⟩,?_⟩;show 8- ((i+1:Nat):Int).toNat<8-i;omega
 .obtain rfl:i=8:=om;exact bk rfl
theorem auL(c)(l:List Nat)(hl:l.length<=4294967296):L8 [.i c,.r (l.map b1)]=some [.i (gY (l.foldl kn (gY c)))]:=by
 refine bF ?_;refine jy (ls:=[.i (gY c)]) rfl (nW ?_);refine bz (λxs=>xs=[.i (l.foldl kn (gY c))]) ?_ ?_;rotate_left
 .rintro _ rfl;refine nW ?_;refine jy (ls:=[.i (gY (l.foldl kn (gY c)))]) rfl (nW ?_);exact bk rfl
 refine wp_loop (I:=λa=>∃i:Nat,a=[.i ((l.take i).foldl kn (gY c)),.i i]/\i<=l.length) (mu:=λa=>match a with|[_,.i i]=>l.length-i.toNat|_=>0) ⟨0,rfl,om⟩ ?_;rintro a ⟨i,rfl,e1⟩;refine uR ?_;refine bO rfl (λhc=>?_) (λhc=>?_)
 .rw[bD]at hc;have hi:i<l.length:=om;refine bS (f:=b1) (j:=i) rfl rfl hi rfl (uR ?_);refine iP (nW ?_);refine dn (l:=.i (rI (dV .xor .u32 ((l.take i).foldl kn (gY c)) (IntKind.wrap .u32 (l[i]:Int))))) rfl (nW ?_);refine bm (aqT _) rfl rfl (nW ?_);refine b8 (i:=i) rfl om (nW ?_);refine bk ⟨⟨i+1,?_,om⟩,?_⟩
  .rw[fi hi,yg];rfl
  .show l.length- ((i+1:Nat):Int).toNat<l.length-i;omega
 .rw[bD]at hc;obtain rfl:i=l.length:=om;refine bk ?_;show[L.i ((l.take l.length).foldl kn (gY c))]=_;rw[jY]
theorem O7(l)(a:l.length<=4294967296):CL [.r (l.map b1)]=some [.i (eV l)]:=by
 refine bF ?_;refine bm (auL 0 l a) rfl rfl (nW ?_);exact bk rfl
theorem ajI(c)(l:List Nat)(hl:l.length<=4294967296):Ie [.i c,.r (l.map b1)]=some [.i (gY (l.foldl kn (gY c)))]:=by
 refine bF ?_;refine jy (ls:=[.i (gY c)]) rfl (nW ?_);refine bz (λxs=>xs=[.i (l.foldl kn (gY c))]) ?_ ?_;rotate_left
 .rintro _ rfl;refine nW ?_;refine jy (ls:=[.i (gY (l.foldl kn (gY c)))]) rfl (nW ?_);exact bk rfl
 refine uR ?_;refine wp_loop (I:=λa=>∃i:Nat,a=[.i ((l.take i).foldl kn (gY c)),.i i]/\i<=l.length) (mu:=λa=>match a with|[_,.i i]=>l.length-i.toNat|_=>0) ⟨0,rfl,om⟩ ?_;rintro a ⟨i,rfl,e1⟩;refine uR ?_;refine bO rfl (λhc=>?_) (λhc=>?_)
 .rw [bD]at hc;have hi:i<l.length:=om;refine bz (λxs=>xs=[.i ((l.take (i+1)).foldl kn (gY c))]) ?_ ?_;rotate_left
  .rintro _ rfl;refine nW ?_;refine b8 (i:=i) rfl om (nW ?_);refine bk ⟨⟨i+1,rfl,om⟩,?_⟩;show l.length- ((i+1:Nat):Int).toNat<l.length-i;omega
  refine bS (f:=b1) (j:=i) rfl rfl hi rfl (uR ?_);refine iP (nW ?_);refine dn (l:=.i (rI (dV .xor .u32 ((l.take i).foldl kn (gY c)) (IntKind.wrap .u32 (l[i]:Int))))) rfl ?_;rw[fi hi,yg];generalize (l.take i).foldl kn (gY c)=r;show bl.wp _ _ (jQ (λxs=>xs=[.i (iO (rI (dV .xor .u32 r (IntKind.wrap .u32 (l[i]:Int)))) 8)]) _);generalize rI (dV .xor .u32 r (IntKind.wrap .u32 (l[i]:Int)))=r';refine nW ?_;refine wp_loop (I:=λa=>∃i:Nat,a=[.i (iO r' i),.i i]/\i<=8) (mu:=λa=>match a with|[_,.i i]=>8-i.toNat|_=>0) ⟨0,rfl,om⟩ ?_;rintro a ⟨j,rfl,e1⟩;refine uR ?_;refine bO rfl (λhc=>?_) (λhc=>?_)
  .refine bz (λxs=>xs=[.i (iO r' (j+1))]) ?_ ?_
   .refine dn (l:=.i (rI (dV .and .u32 (iO r' j) 1))) rfl (nW ?_);refine dn (l:=.i (rI (dV .shr .u32 (iO r' j) 1))) rfl (uR ?_);refine bO rfl (λhx=>?_) (λhx=>?_)
    .refine dn (l:=.i (rI (dV .xor .u32 (rI (dV .shr .u32 (iO r' j) 1)) 2197175160))) rfl (nW ?_);refine bk ?_;show[L.i _]=[L.i (p9 (iO r' j))]
     unfold p9;rw[bA hx]
    .refine bk ?_;show[L.i _]=[L.i (p9 (iO r' j))]
     unfold p9;rw[bH hx]
   .rintro _ rfl;refine nW ?_;refine b8 (i:=j) rfl om (nW ?_);refine bk ⟨⟨j+1,rfl,om⟩,?_⟩;show 8- ((j+1:Nat):Int).toNat<8-j;omega
  .obtain rfl:j=8:=om;exact bk rfl
 .rw[bD]at hc;obtain rfl:i=l.length:=om;refine bk ?_;show[L.i ((l.take l.length).foldl kn (gY c))]=_;rw[jY]
theorem JU(l)(a:l.length<=4294967296):xb [.r (l.map b1)]=some [.i (eV l)]:=by
 refine bF ?_;refine bm (ajI 0 l a) rfl rfl (nW ?_);exact bk rfl
theorem aek(l):0<=eV l/\eV l<=4294967295:=by
 have:=auH .u32 (((BitVec.ofInt 32 (4294967295:Int) ^^^BitVec.ofInt 32 (l.foldl kn (gY 0))).toNat:Nat):Int);exact this
def eF(c:Int)(k:Nat):Nat:=(c/2^k%256).toNat
theorem nj(c)(k):[PV.sc (.int .u8 (IntKind.wrap .u8 (c.fdiv (2^k))))]=b1 (eF c k):=by
 unfold b1 eF;have h:(0:Int)<=c/2^k%256:=Int.emod_nonneg _ dc;rw[GD _ (OC dc),Bd h];congr 3
def eH(l:List Nat):List Nat:=[eF (eV l) 0,eF (eV l) 8,eF (eV l) 16,eF (eV l) 24]
theorem xm(l)(b:l.length<=4294967296):sk [.r (l.map b1)]=some [.r ((eH l).map b1)]:=by
 refine bF ?_;refine bm (O7 l b) rfl rfl (nW ?_);refine iP (nW ?_);refine dn (l:=.i ((eV l).fdiv (2^8))) rfl (nW ?_);refine iP (nW ?_);refine dn (l:=.i ((eV l).fdiv (2^16))) rfl (nW ?_);refine iP (nW ?_);refine dn (l:=.i ((eV l).fdiv (2^24))) rfl (nW ?_);refine iP (uR ?_);refine bk ?_;have a:=nj (eV l) 0;rw[show(eV l).fdiv (2^0)=eV l by simp]at a;show[L.r [[PV.sc _],[PV.sc _],[PV.sc _],[PV.sc _]]]=[L.r [b1 _,b1 _,b1 _,b1 _]]
 rw[<-a,<-nj,<-nj,<-nj]
theorem TR(l)(b:l.length<=4294967296):DC [.r (l.map b1)]=some [.r ((eH l).map b1)]:=by
 refine bF ?_;refine bm (JU l b) rfl rfl (nW ?_);refine iP (nW ?_);refine dn (l:=.i ((eV l).fdiv (2^8))) rfl (nW ?_);refine iP (nW ?_);refine dn (l:=.i ((eV l).fdiv (2^16))) rfl (nW ?_);refine iP (nW ?_);refine dn (l:=.i ((eV l).fdiv (2^24))) rfl (nW ?_);refine iP (uR ?_);refine bk ?_;have a:=nj (eV l) 0;rw[show(eV l).fdiv (2^0)=eV l by simp]at a;show[L.r [[PV.sc _],[PV.sc _],[PV.sc _],[PV.sc _]]]=[L.r [b1 _,b1 _,b1 _,b1 _]]
 rw[<-a,<-nj,<-nj,<-nj]
theorem atz(l)(a:l.length<=4294967296):Hn [.r (l.map b1)]=some [.r ((eH l).map b1)]:=by
 rw[<-TR l a];rfl
def val(l:List Nat):BitVec 64:=l.foldl (λv x=>(v<<<8)|||BitVec.ofNat 64 x) 0
theorem Qv(n):IntKind.wrap .u64 n=((BitVec.ofInt 64 n).toNat:Int):=by
 simp[IntKind.wrap,IntKind.bits,IntKind.signed,GF];omega
theorem PX(n):IntKind.wrap .i64 n=(BitVec.ofInt 64 n).toInt:=by
 simp[IntKind.wrap,IntKind.bits,IntKind.signed,Int.bmod];split<;>split<;>omega
theorem EC(v):BitVec.ofInt 64 (v.toNat:Int)=v:=by
 simp
theorem ofInt_toInt(v):BitVec.ofInt 64 v.toInt=v:=BitVec.ofInt_toInt
theorem S5(v)(n)(h:BitVec.ofInt 64 n=v):BitVec.ofInt 64 (n*256)=v<<<8:=by
 subst h;apply BitVec.eq_of_toNat_eq;rw[BitVec.toNat_shiftLeft,GF,GF,Bh];omega
theorem ahz(v:BitVec 64):dV .shl .u64 v.toNat 8=some (.i ((v<<<8).toNat:Int)):=by
 show some (L.i (IntKind.wrap .u64 ((v.toNat:Int)*2^8)))=_;rw[show(2:Int) ^8=256 by decide,Qv,S5 v _ (EC v)]
theorem adw(v:BitVec 64):dV .shl .i64 v.toInt 8=some (.i ((v<<<8).toInt)):=by
 show some (L.i (IntKind.wrap .i64 (v.toInt*2^8)))=_;rw[show(2:Int) ^8=256 by decide,PX,S5 v _ (ofInt_toInt v)]
theorem Uf(x:Nat):BitVec.ofInt 64 (x:Int)=BitVec.ofNat 64 x:=by
 simp
theorem afH(v)(x:Nat):dV .or .u64 v.toNat (x:Int)=some (.i ((v|||BitVec.ofNat 64 x).toNat:Int)):=by
 show some (L.i (IntKind.wrap .u64 ((BitVec.ofInt 64 _|||BitVec.ofInt 64 _).toNat:Int)))=_;rw[EC,Uf,Qv,EC]
theorem aks(v)(x:Nat):dV .or .i64 v.toInt (x:Int)=some (.i ((v|||BitVec.ofNat 64 x).toInt)):=by
 show some (L.i (IntKind.wrap .i64 ((BitVec.ofInt 64 _|||BitVec.ofInt 64 _).toNat:Int)))=_;rw[ofInt_toInt,Uf,PX,EC]
theorem Vj{l:List Nat}{i}(a):val (l.take (i+1))=(val (l.take i)<<<8)|||BitVec.ofNat 64 l[i]:=by
 unfold val;rw[fi a,yg];rfl
def B8(l:List Nat):Prop:=∀x∈l,x<256
theorem KY(l)(hb:B8 l)(hl:l.length<=4294967296):AX [.r (l.map b1)]=some [.i ((val l).toNat:Int)]:=by
 refine bF ?_;refine bz (λxs=>xs=[.i ((val l).toNat:Int)]) ?_ ?_;rotate_left
 .rintro _ rfl;refine nW ?_;exact bk rfl
 refine wp_loop (I:=λa=>∃i:Nat,a=[.i ((val (l.take i)).toNat:Int),.i i]/\i<=l.length) (mu:=λa=>match a with|[_,.i i]=>l.length-i.toNat|_=>0) ⟨0,rfl,om⟩ ?_;rintro a ⟨i,rfl,e1⟩;refine uR ?_;refine bO rfl (λhc=>?_) (λhc=>?_)
 .rw[bD]at hc;have hi:i<l.length:=om;have hx:=hb _ (cQ hi);refine dn (ahz _) (nW ?_);refine bS (f:=b1) (j:=i) rfl rfl hi rfl (uR ?_);refine gE (n:=(l[i]:Int)) rfl om om (nW ?_);refine dn (afH _ _) (nW ?_);refine b8 (i:=i) rfl om (nW ?_);refine bk ⟨⟨i+1,?_,om⟩,?_⟩
  .show[L.i _,L.i _]=_;rw[Vj hi]
  .show l.length- ((i+1:Nat):Int).toNat<l.length-i;omega
 .rw[bD]at hc;obtain rfl:i=l.length:=om;refine bk ?_;show[L.i ((val (l.take l.length)).toNat:Int)]=_;rw[jY]
theorem nN(l:List Nat):ct 1 (l.map b1)=true:=by
 unfold ct;rw[cz];intro r a;obtain⟨n,_,rfl⟩:=fE.1 a;rfl
theorem RG(l:List Nat):mU (l.map b1)=some (l.map λn=>((n:Nat):Int)):=by
 have:=awc (l.map λn=>((n:Nat):Int));rw[<-this,gV,gp];rfl
end
section
open Go.RowKit Pl AI
attribute [local irreducible] bl.wp
theorem ng(n):kp [.i n]=some [.i (c7 n)]:=by
 refine bF ?_;refine bz (c8 (n<0\/4096<n)) ?_ ?_
 . (repeat' first| (refine bO rfl (λa=>?_) (λa=>?_))| (refine uT rfl ?_));all_goals (refine bk ?_;show c8 _ _;try dsimp only[At.ev,d1,d2,d3,d4,d5,d6,d7,d8,d9,e0,List.map,db,Kd.pv];first|exact dQ om|exact e7 om|exact e_ om|exact qv om)
 rintro _ ⟨t,rfl,b⟩;refine nW ?_;refine cJ (λa=>?_) (λa=>?_)
 .refine bk ?_;show[L.i 0]=[L.i (c7 n)]
  unfold c7;rw[bA (b.1 a)]
 .have c:¬(n<0\/4096<n):=λh=>by rw[b.2 h]at a;cases a
  refine dp (n:=20+n) (by rfl) om om (nW ?_);refine dp (n:=24+n) oO om om (nW ?_);refine dp (n:=n+31) oO om om (nW ?_);refine dn (l:=.i ((n+31) /8)) (by
   show(if(8:Int)≠0 then some (L.i (IntKind.wrap .i64 ((n+31).tdiv 8)))else none)=_;rw[bA dc,Int.tdiv_eq_ediv_of_nonneg om,wrap64 om om]) ?_
  refine nW ?_;refine iV (n:=(n+31) /8*8) (by rfl) om om (nW ?_);refine bk ?_;show[L.i _]=[L.i (c7 n)]
  unfold c7;rw[bH c]
theorem yN(n):F5 [.i n]=some [.i (c7 n)]:=by
 refine bF ?_;refine bz (c8 (n<0\/4096<n)) ?_ ?_
 . (repeat' first| (refine bO rfl (λa=>?_) (λa=>?_))| (refine uT rfl ?_));all_goals (refine bk ?_;show c8 _ _;try dsimp only[At.ev,d1,d2,d3,d4,d5,d6,d7,d8,d9,e0,List.map,db,Kd.pv];first|exact dQ om|exact e7 om|exact e_ om|exact qv om)
 rintro _ ⟨t,rfl,b⟩;refine nW ?_;refine cJ (λa=>?_) (λa=>?_)
 .refine bk ?_;show[L.i 0]=[L.i (c7 n)]
  unfold c7;rw[bA (b.1 a)]
 .have c:¬(n<0\/4096<n):=λh=>by rw[b.2 h]at a;cases a
  refine dp (n:=20+n) (by rfl) om om (nW ?_);refine dp (n:=24+n) oO om om (nW ?_);refine dp (n:=n+32) oO om om (nW ?_);refine di (n:=n+31) oO om om (nW ?_);refine dn (l:=.i ((n+31) /8)) (by
   show(if(8:Int)≠0 then some (L.i (IntKind.wrap .i64 ((n+31).tdiv 8)))else none)=_;rw[bA dc,Int.tdiv_eq_ediv_of_nonneg om,wrap64 om om]) ?_
  refine nW ?_;refine iV (n:=(n+31) /8*8) (by rfl) om om (nW ?_);refine bk ?_;show[L.i _]=[L.i (c7 n)]
  unfold c7;rw[bH c]
theorem Cm(x){b}(c:b=true↔eN x=true):zx [.i x.key,.i x.cookie,.i x.off,.i x.size]=some [.b b]:=by
 have a:eN x=true↔16<=x.off/\x.off<=1048576/\x.off%8=0/\0<=x.size/\x.size<=4096:=by
  simp only[eN,cu,eD,and_assoc]
 rw[a]at c;refine bF ?_;refine bz (c8 (16<=x.off/\x.off<=1048576/\x.off%8=0/\0<=x.size/\x.size<=4096)) ?_ ?_
 .refine uR ?_;refine bO rfl (λd=>?_) (λd=>?_)
  .refine uR ?_;refine bO rfl (λe=>?_) (λe=>?_)
   .refine dn (l:=.i (x.off%8)) (by
     show(if(8:Int)≠0 then some (L.i (x.off.tmod 8))else none)=_;rw[bA dc,ZV om]) ?_
    refine nW ?_
    (repeat' first| (refine bO rfl (λf=>?_) (λf=>?_))| (refine uT rfl ?_));all_goals (refine bk ?_;show c8 _ _;try dsimp only[At.ev,d1,d2,d3,d4,d5,d6,d7,d8,d9,e0,List.map,db,Kd.pv];first|exact dQ om|exact e7 om|exact e_ om|exact qv om)
   .exact bk (e7 om)
  .exact bk (e7 om)
 rintro _ ⟨t,rfl,g⟩;refine nW ?_;refine bk ?_;show[L.b t]=[L.b b];rw[jT.2 (g.trans c.symm)]
theorem auV(x){b}(a:b=true↔eN x=true):F7 [.i x.key,.i x.cookie,.i x.off,.i x.size]=some [.b b]:=by
 rw[<-Cm x a];rfl
theorem awJ(x){b}(d:b=true↔¬eN x=true):F8 [.i x.key,.i x.cookie,.i x.off,.i x.size]=some [.b b]:=by
 obtain⟨c,a⟩:=fH (eN x=true);refine bF ?_;refine bm (auV x a) rfl rfl (uR ?_);refine bk ?_;show[L.b (!c)]=[L.b b]
 have:(!c)=b:=by
  rw[jT,d,<-a];cases c<;>simp
 rw[this]
theorem K7(a g r){b}(c:b=true↔0<=a/\a<4/\1<=g/\g<=8/\0<=r/\r<4294967296):yW [.i a,.i g,.i r]=some [.b b]:=by
 refine bF ?_;refine bz (c8 (0<=a/\a<4/\1<=g/\g<=8/\0<=r/\r<4294967296)) ?_ ?_
 . (repeat' first| (refine bO rfl (λd=>?_) (λd=>?_))| (refine uT rfl ?_));all_goals (refine bk ?_;show c8 _ _;try dsimp only[At.ev,d1,d2,d3,d4,d5,d6,d7,d8,d9,e0,List.map,db,Kd.pv];first|exact dQ om|exact e7 om|exact e_ om|exact qv om)
 rintro _ ⟨t,rfl,e⟩;refine nW ?_;refine bk ?_;show[L.b t]=[L.b b];rw[jT.2 (e.trans c.symm)]
theorem Xc(a g r){b}(c:b=true↔0<=a/\a<4/\1<=g/\g<=8/\0<=r/\r<4294967296):D1 [.i a,.i g,.i r]=some [.b b]:=by
 refine bF ?_;refine bz (c8 (0<=a/\a<4/\1<=g/\g<=8/\0<=r/\r<4294967296)) ?_ ?_
 . (repeat' first| (refine bO rfl (λd=>?_) (λd=>?_))| (refine uT rfl ?_));all_goals (refine bk ?_;show c8 _ _;try dsimp only[At.ev,d1,d2,d3,d4,d5,d6,d7,d8,d9,e0,List.map,db,Kd.pv];first|exact dQ om|exact e7 om|exact e_ om|exact qv om)
 rintro _ ⟨t,rfl,e⟩;refine nW ?_;refine bk ?_;show[L.b t]=[L.b b];rw[jT.2 (e.trans c.symm)]
def oK(l:List It)(i:Nat):Prop:=∀(h:i<l.length)(_:0<i),(l[i-1]'om).key<l[i].key
theorem Kn{l}:fg l↔∀i,oK l i:=by
 constructor
 .intro h i a f;exact kE.1 h (i-1) i om a om
 .intro h;refine kE.2 λi j a c d=>?_
  induction j with
  |zero=>omega
  |succ j ih=>
   have b:=h (j+1) c om;simp only[Gt]at b;by_cases e:i=j
   .subst e;exact b
   .have:=ih om om;omega
def xr(l:List It)(i:Nat):Prop:=∀h:i<l.length,eN l[i]=true
theorem adf{l}:VL l↔∀i,i<l.length->xr l i/\oK l i:=by
 unfold VL;rw[Kn];constructor
 .rintro⟨b,c⟩ i _;exact⟨λa=>c _ (cQ a),b i⟩
 .intro h;refine⟨λi a=>(h i a).2 a,λx d=>?_⟩;obtain⟨i,a,rfl⟩:=jG d;exact(h i a).1 a
theorem Iq(l)(hl:l.length<=4294967296){b}(hb:b=true↔VL l):zb [.r (l.map bt)]=some [.b b]:=by
 rw[adf]at hb;refine bF ?_;refine bz (λxs=>xs=[]/\b=true) ?_ ?_;rotate_left
 .rintro _ ⟨rfl,h⟩;refine nW ?_;refine bk ?_;show[L.b true]=[.b b]
  rw[h]
 refine wp_loop (I:=λa=>∃i:Nat,a=[.i i]/\i<=l.length/\∀j,j<i->xr l j/\oK l j) (mu:=λa=>match a with|[.i i]=>l.length-i.toNat|_=>0) ⟨0,rfl,om,λj hj=>by omega⟩ ?_;rintro a ⟨i,rfl,e1,e2⟩;refine uR ?_;refine bO rfl (λhc=>?_) (λhc=>?_);rotate_left
 .rw[bD]at hc;exact bk ⟨rfl,hb.2 λj hj=>e2 j om⟩
 rw[bD]at hc;have hi:i<l.length:=om;refine bz (c8 (¬(xr l i/\oK l i))) ?_ ?_;rotate_left
 .rintro _ ⟨u,rfl,hu⟩;refine nW ?_;refine cJ (λhy=>?_) (λhy=>?_)
  .refine bk ?_;show[L.b false]=[.b b]
   rw[gF hb λh=>hu.1 hy (h i hi)]
  have hg:xr l i/\oK l i:=js.1 λh=>by
   rw[hu.2 h]at hy;cases hy
  refine b8 (i:=i) rfl om (nW ?_);refine bk ⟨⟨i+1,rfl,om,λj hj=>?_⟩,?_⟩
  .by_cases he:j=i
   .subst he;exact hg
   .exact e2 j om
  .show l.length- ((i+1:Nat):Int).toNat<l.length-i;omega
 refine bS (f:=bt) (j:=i) rfl rfl hi rfl (uR ?_);obtain⟨c,hc1⟩:=fH (eN l[i]=true);refine bm (Cm l[i] hc1) rfl rfl (uR ?_);refine cJ (λhy=>?_) (λhy=>?_)
 .exact bk (dQ λh=>by rw[hc1.2 (h.1 hi)]at hy;cases hy)
 have hy:(!c)=false:=hy;have dB:=hc1.1 (by simpa using hy);refine uR ?_;refine bO rfl (λhz=>?_) (λhz=>?_)
 .have h0:0<i:=om;refine bS (f:=bt) (j:=i) rfl rfl hi rfl (uR ?_);refine di (n:=((i-1:Nat):Int)) oO om om (nW ?_);refine bS (f:=bt) (j:=i-1) rfl rfl om rfl (uR ?_);exact bk (e_ (show l[i].key<=(l[i-1]'om).key↔_ from⟨λh k=>by have:=k.2 hi h0;omega,λh=>o2 λk=>h ⟨λ_=>dB,λ_ _=>by omega⟩⟩))
 .exact bk (e7 λh=>h ⟨λ_=>dB,λ_ k=>absurd k om⟩)
theorem atf(l)(hl:l.length<=4294967296){b}(hb:b=true↔fg l):F9 [.r (l.map bt)]=some [.b b]:=by
 rw[Kn]at hb;refine bF ?_;refine bz (λxs=>xs=[]/\b=true) ?_ ?_;rotate_left
 .rintro _ ⟨rfl,h⟩;refine nW ?_;refine bk ?_;show[L.b true]=[.b b]
  rw[h]
 refine uR ?_;refine wp_loop (I:=λa=>∃i:Nat,a=[.i i]/\i<=l.length/\∀j,j<i->oK l j) (mu:=λa=>match a with|[.i i]=>l.length-i.toNat|_=>0) ⟨0,rfl,om,λj hj=>by omega⟩ ?_;rintro a ⟨i,rfl,e1,e2⟩;refine uR ?_;refine bO rfl (λhc=>?_) (λhc=>?_);rotate_left
 .rw[bD]at hc;exact bk ⟨rfl,hb.2 λj=>by
   by_cases hj:j<i
   .exact e2 j hj
   .exact λh _=>by omega⟩
 rw[bD]at hc;have hi:i<l.length:=om;refine bS (f:=bt) (j:=i) rfl rfl hi rfl (uR ?_);refine bz (c8 (¬oK l i)) ?_ ?_;rotate_left
 .rintro _ ⟨u,rfl,hu⟩;refine nW ?_;refine cJ (λhy=>?_) (λhy=>?_)
  .refine bk ?_;show[L.b false]=[.b b]
   rw[gF hb λh=>hu.1 hy (h i)]
  have hg:oK l i:=js.1 λh=>by
   rw[hu.2 h]at hy;cases hy
  refine b8 (i:=i) rfl om (nW ?_);refine bk ⟨⟨i+1,rfl,om,λj hj=>?_⟩,?_⟩
  .by_cases he:j=i
   .subst he;exact hg
   .exact e2 j om
  .show l.length- ((i+1:Nat):Int).toNat<l.length-i;omega
 refine uR ?_;refine bO rfl (λhz=>?_) (λhz=>?_)
 .have h0:0<i:=om;refine di (n:=((i-1:Nat):Int)) oO om om (nW ?_);refine bS (f:=bt) (j:=i-1) rfl rfl om rfl (uR ?_);exact bk (e_ (show l[i].key<=(l[i-1]'om).key↔_ from⟨λh k=>by have:=k hi h0;omega,λh=>o2 λk=>h λ_ _=>by omega⟩))
 .exact bk (e7 λh=>h λ_ k=>absurd k om)
theorem auO(l:List It)(hl:l.length<=4294967296):∃r,M4 [.r (l.map bt)]=some [.i r]/\(0<=r↔¬∀x∈l,eN x=true):=by
 have run:bl.wp Ta [.r (l.map bt)] (mT λx=>∃r:Int,x=[.i r]/\(0<=r↔¬∀x∈l,eN x=true)):=by
  refine bz (λxs=>xs=[]/\∀x∈l,eN x=true) ?_ ?_;rotate_left
  .rintro _ ⟨rfl,h⟩;refine nW ?_;exact bk ⟨-1,rfl,λh=>by omega,λh'=>absurd h h'⟩
  refine uR ?_;refine wp_loop (I:=λa=>∃i:Nat,a=[.i i]/\i<=l.length/\∀j,j<i->xr l j) (mu:=λa=>match a with|[.i i]=>l.length-i.toNat|_=>0) ⟨0,rfl,om,λj hj=>by omega⟩ ?_;rintro a ⟨i,rfl,e1,e2⟩;refine uR ?_;refine bO rfl (λhc=>?_) (λhc=>?_);rotate_left
  .rw[bD]at hc;refine bk ⟨rfl,λx hx=>?_⟩;obtain⟨j,hj,rfl⟩:=jG hx;exact e2 j om hj
  rw[bD]at hc;have hi:i<l.length:=om;refine bS (f:=bt) (j:=i) rfl rfl hi rfl (uR ?_);obtain⟨c,hc1⟩:=fH (¬eN l[i]=true);refine bm (awJ l[i] hc1) rfl rfl (nW ?_);refine cJ (λhy=>?_) (λhy=>?_)
  .exact bk ⟨i,rfl,λ_ h=>hc1.1 hy (h _ (cQ hi)),λ_=>by omega⟩
  .have hg:xr l i:=λ_=>js.1 λh=>by
    rw[hc1.2 h]at hy;cases hy
   refine b8 (i:=i) rfl om (nW ?_);refine bk ⟨⟨i+1,rfl,om,λj hj=>?_⟩,?_⟩
   .by_cases he:j=i
    .subst he;exact hg
    .exact e2 j om
   .show l.length- ((i+1:Nat):Int).toNat<l.length-i;omega
 obtain⟨o,h1,r,rfl,h2⟩:=jR run;exact⟨r,h1,h2⟩
theorem Kp(l)(g:l.length<=4294967296){b}(i:b=true↔VL l):Ad [.r (l.map bt)]=some [.b b]:=by
 obtain⟨r,d,j⟩:=auO l g;have e:Ik [.r (l.map bt)]=some [.b (decide (0<=r))]:=by
  refine bF ?_;refine bm d rfl rfl (uR ?_);exact bk rfl
 obtain⟨c,f⟩:=fH (fg l);refine bF ?_;refine bz (c8 (VL l)) ?_ ?_
 .refine bm (atf l g f) rfl rfl (nW ?_);refine cJ (λa=>?_) (λa=>?_)
  .refine bm e rfl rfl (uR ?_);exact bk (qv (show¬0<=r↔_ by rw[j,js];exact⟨λh=>⟨f.1 a,h⟩,λh=>h.2⟩))
  .exact bk (e7 λh=>by rw[f.2 h.1]at a;cases a)
 rintro _ ⟨t,rfl,m⟩;refine nW ?_;refine bk ?_;show[L.b t]=[L.b b];rw[jT.2 (m.trans i.symm)]
theorem aeu(l)(hl:l.length<=4294967296){b}(hb:b=true↔fg l):JG [.r (l.map bt)]=some [.b b]:=by
 rw[Kn]at hb;refine bF ?_;refine bz (λxs=>xs=[]/\b=true) ?_ ?_;rotate_left
 .rintro _ ⟨rfl,h⟩;refine nW ?_;refine bk ?_;show[L.b true]=[.b b]
  rw[h]
 refine uR ?_;refine wp_loop (I:=λa=>∃i:Nat,a=[.i i]/\i<=l.length/\∀j,j<i->oK l j) (mu:=λa=>match a with|[.i i]=>l.length-i.toNat|_=>0) ⟨0,rfl,om,λj hj=>by omega⟩ ?_;rintro a ⟨i,rfl,e1,e2⟩;refine uR ?_;refine bO rfl (λhc=>?_) (λhc=>?_);rotate_left
 .rw[bD]at hc;exact bk ⟨rfl,hb.2 λj=>by
   by_cases hj:j<i
   .exact e2 j hj
   .exact λh _=>by omega⟩
 rw[bD]at hc;have hi:i<l.length:=om;refine bS (f:=bt) (j:=i) rfl rfl hi rfl (nW ?_);refine cK (f:=bt) (j:=i) rfl rfl hi rfl rfl (nW ?_);refine cK (f:=bt) (j:=i) rfl rfl hi rfl rfl (nW ?_);refine cK (f:=bt) (j:=i) rfl rfl hi rfl rfl (nW ?_);refine cK (f:=bt) (j:=i) rfl rfl hi rfl rfl (nW ?_);refine bz (c8 (¬oK l i)) ?_ ?_;rotate_left
 .rintro _ ⟨u,rfl,hu⟩;refine nW ?_;refine cJ (λhy=>?_) (λhy=>?_)
  .refine bk ?_;show[L.b false]=[.b b]
   rw[gF hb λh=>hu.1 hy (h i)]
  have hg:oK l i:=js.1 λh=>by
   rw[hu.2 h]at hy;cases hy
  refine b8 (i:=i) rfl om (nW ?_);refine bk ⟨⟨i+1,rfl,om,λj hj=>?_⟩,?_⟩
  .by_cases he:j=i
   .subst he;exact hg
   .exact e2 j om
  .show l.length- ((i+1:Nat):Int).toNat<l.length-i;omega
 refine uR ?_;refine bO rfl (λhz=>?_) (λhz=>?_)
 .have h0:0<i:=om;refine di (n:=((i-1:Nat):Int)) oO om om (nW ?_);refine bS (f:=bt) (j:=i-1) rfl rfl om rfl (nW ?_);refine cK (f:=bt) (j:=i-1) rfl rfl om rfl rfl (uR ?_);exact bk (e_ (show l[i].key<=(l[i-1]'om).key↔_ from⟨λh k=>by have:=k hi h0;omega,λh=>o2 λk=>h λ_ _=>by omega⟩))
 .exact bk (e7 λh=>h λ_ k=>absurd k om)
def ma(a g r n:Int)(l:List It):Prop:=(0<=a/\a<4/\1<=g/\g<=8/\0<=r/\r<4294967296)/\16<=n/\n<=524288/\VL l/\∀x∈l,x.off+c7 x.size<=n
def Bs(l:List It)(n:Int)(i:Nat):Prop:=∀h:i<l.length,l[i].off+c7 l[i].size<=n
theorem SH{l n}(h:∀j,j<l.length->Bs l n j):∀x∈l,x.off+c7 x.size<=n:=λx b=>by
 obtain⟨j,a,rfl⟩:=jG b;exact h j a a
theorem G9(n):0<=c7 n/\c7 n<=4120:=by unfold c7;split<;>omega
theorem yU{x}(h:eN x=true):16<=x.off/\x.off<=1048576/\0<=x.size/\x.size<=4096:=by
 simp only[eN,cu,eD]at h;omega
theorem XY(a g r n)(m4 m5 m6 m7 m8 m9)(l)(hl:l.length<=4294967296){b}(hb:b=true↔ma a g r n l):BP [.i a,.i g,.i r,.i n,m4,m5,m6,m7,m8,m9,.r (l.map bt)]=some [.b b]:=by
 obtain⟨bs,NW⟩:=fH (0<=a/\a<4/\1<=g/\g<=8/\0<=r/\r<4294967296);obtain⟨bv,NX⟩:=fH (VL l);refine bF ?_;refine bz (c8 (¬((0<=a/\a<4/\1<=g/\g<=8/\0<=r/\r<4294967296)/\16<=n/\n<=524288/\VL l))) ?_ ?_
 .refine bm (K7 a g r NW) rfl rfl (uR ?_);refine cJ (λhx=>?_) (λhx=>?_)
  .exact bk (dQ λh=>by rw[NW.2 h.1]at hx;cases hx)
  have hx:(!bs)=false:=hx;have aBG:=NW.1 (by simpa using hx);refine uR ?_;refine bO rfl (λh1=>?_) (λh1=>?_)
  .exact bk (dQ λh=>by omega)
  refine uR ?_;refine bO rfl (λh2=>?_) (λh2=>?_)
  .exact bk (dQ λh=>by omega)
  refine bm (Iq l hl NX) rfl rfl (uR ?_);refine bk ⟨!bv,rfl,?_⟩;constructor
  .intro h k;rw[NX.2 k.2.2.2]at h;cases h
  .intro h
   cases hq:bv with
   |false=>rfl
   |true=>exact absurd ⟨aBG,om,om,NX.1 hq⟩ h
 rintro _ ⟨t,rfl,ht⟩;refine nW ?_;refine cJ (λhx=>?_) (λhx=>?_)
 .refine bk ?_;show[L.b false]=[.b b]
  rw[gF hb λh=>ht.1 hx ⟨h.1,h.2.1,h.2.2.1,h.2.2.2.1⟩]
 have dB:=js.1 λh=>by rw[ht.2 h]at hx;cases hx
 refine bz (λxs=>xs=[]/\b=true) ?_ ?_;rotate_left
 .rintro _ ⟨rfl,h⟩;refine nW ?_;refine bk ?_;show[L.b true]=[.b b]
  rw[h]
 refine wp_loop (I:=λa=>∃i:Nat,a=[.i i]/\i<=l.length/\∀j,j<i->Bs l n j) (mu:=λa=>match a with|[.i i]=>l.length-i.toNat|_=>0) ⟨0,rfl,om,λj hj=>by omega⟩ ?_;rintro a ⟨i,rfl,e1,e2⟩;refine uR ?_;refine bO rfl (λhc=>?_) (λhc=>?_);rotate_left
 .rw[bD]at hc;exact bk ⟨rfl,hb.2 ⟨dB.1,dB.2.1,dB.2.2.1,dB.2.2.2,SH λj hj=>e2 j om⟩⟩
 rw[bD]at hc;have hi:i<l.length:=om;have h1:=yU (dB.2.2.2.2 _ (cQ hi));have h2:=G9 l[i].size;refine bS (f:=bt) (j:=i) rfl rfl hi rfl (uR ?_);refine nW ?_;refine bS (f:=bt) (j:=i) rfl rfl hi rfl (uR ?_);refine nW ?_;refine bm (ng l[i].size) rfl rfl (nW ?_);refine dp (n:=l[i].off+c7 l[i].size) (by rfl) om om (uR ?_);refine bO rfl (λhy=>?_) (λhy=>?_)
 .refine bk ?_;show[L.b false]=[.b b]
  rw[gF hb λh=>by have:=h.2.2.2.2 _ (cQ hi);omega]
 .refine b8 (i:=i) rfl om (nW ?_);refine bk ⟨⟨i+1,rfl,om,λj hj=>?_⟩,?_⟩
  .by_cases he:j=i
   .subst he;exactλ_=>om
   .exact e2 j om
  .show l.length- ((i+1:Nat):Int).toNat<l.length-i;omega
theorem awv(x)(a:eN x=true){ls n}(c:ls.length=11)(d:ls[3]?=some (.i n)){b}(e:b=true↔n<x.off+c7 x.size):KO ([.i x.key,.i x.cookie,.i x.off,.i x.size]++ls)=some [.b b]:=by
 match ls,c with
 |[g,h,i,j,l,m,o,p,q,r,f],_=>
  cases d;have s:=yU a;have t:=G9 x.size;refine bF ?_;refine bm (yN x.size) rfl rfl (nW ?_);refine dp (n:=x.off+c7 x.size) (by rfl) om om (uR ?_);refine bk ?_;show[L.b (decide (n<x.off+c7 x.size))]=[.b b]
  have:decide (n<x.off+c7 x.size)=b:=by rw[jT,eD,e]
  rw[this]
theorem atI(l:List It)(hl:l.length<=4294967296)(hv:∀x∈l,eN x=true)(m0 m1 m2 m4 m5 m6 m7 m8 m9 m10)(n):∃r,Hk [.r (l.map bt),m0,m1,m2,.i n,m4,m5,m6,m7,m8,m9,m10]=some [.i r]/\(0<=r↔¬∀x∈l,x.off+c7 x.size<=n):=by
 have run:bl.wp Yn [.r (l.map bt),m0,m1,m2,.i n,m4,m5,m6,m7,m8,m9,m10] (mT λx=>∃r:Int,x=[.i r]/\(0<=r↔¬∀x∈l,x.off+c7 x.size<=n)):=by
  refine bz (λxs=>xs=[]/\∀x∈l,x.off+c7 x.size<=n) ?_ ?_;rotate_left
  .rintro _ ⟨rfl,h⟩;refine nW ?_;exact bk ⟨-1,rfl,λh=>by omega,λh'=>absurd h h'⟩
  refine uR ?_;refine wp_loop (I:=λa=>∃i:Nat,a=[.i i]/\i<=l.length/\∀j,j<i->Bs l n j) (mu:=λa=>match a with|[.i i]=>l.length-i.toNat|_=>0) ⟨0,rfl,om,λj hj=>by omega⟩ ?_;rintro a ⟨i,rfl,e1,e2⟩;refine uR ?_;refine bO rfl (λhc=>?_) (λhc=>?_);rotate_left
  .rw[bD]at hc;exact bk ⟨rfl,SH λj hj=>e2 j om⟩
  rw[bD]at hc;have hi:i<l.length:=om;refine bS (f:=bt) (j:=i) rfl rfl hi rfl (uR ?_);obtain⟨c,hc1⟩:=fH (n<l[i].off+c7 l[i].size);refine bm (awv l[i] (hv _ (cQ hi)) (ls:=[m0,m1,m2,.i n,m4,m5,m6,m7,m8,m9,m10]) rfl rfl hc1) rfl rfl (nW ?_);refine cJ (λhy=>?_) (λhy=>?_)
  .exact bk ⟨i,rfl,λ_ h=>by have:=hc1.1 hy;have:=h _ (cQ hi);omega,λ_=>by omega⟩
  .have hg:Bs l n i:=λ_=>by
    have:¬n<l[i].off+c7 l[i].size:=λh=>by rw[hc1.2 h]at hy;cases hy
    omega
   refine b8 (i:=i) rfl om (nW ?_);refine bk ⟨⟨i+1,rfl,om,λj hj=>?_⟩,?_⟩
   .by_cases he:j=i
    .subst he;exact hg
    .exact e2 j om
   .show l.length- ((i+1:Nat):Int).toNat<l.length-i;omega
 obtain⟨o,h1,r,rfl,h2⟩:=jR run;exact⟨r,h1,h2⟩
theorem Q0(a g r n)(o p s u v w)(l)(y:l.length<=4294967296){b}(z:b=true↔ma a g r n l):zX [.i a,.i g,.i r,.i n,o,p,s,u,v,w,.r (l.map bt)]=some [.b b]:=by
 obtain⟨bs,e⟩:=fH (0<=a/\a<4/\1<=g/\g<=8/\0<=r/\r<4294967296);obtain⟨A,f⟩:=fH (VL l);refine bF ?_;refine bz (c8 (¬((0<=a/\a<4/\1<=g/\g<=8/\0<=r/\r<4294967296)/\16<=n/\n<=524288/\VL l))) ?_ ?_
 .refine bm (Xc a g r e) rfl rfl (uR ?_);refine cJ (λc=>?_) (λc=>?_)
  .exact bk (dQ λh=>by rw[e.2 h.1]at c;cases c)
  have c:(!bs)=false:=c;have i:=e.1 (by simpa using c);refine uR ?_;refine bO rfl (λC=>?_) (λC=>?_)
  .exact bk (dQ λh=>by omega)
  refine uR ?_;refine bO rfl (λD=>?_) (λD=>?_)
  .exact bk (dQ λh=>by omega)
  refine bm (Kp l y f) rfl rfl (uR ?_);refine bk ⟨!A,rfl,?_⟩;constructor
  .intro h k;rw[f.2 k.2.2.2]at h;cases h
  .intro h
   cases x:A with
   |false=>rfl
   |true=>exact absurd ⟨i,om,om,f.1 x⟩ h
 rintro _ ⟨t,rfl,B⟩;refine nW ?_;refine cJ (λc=>?_) (λc=>?_)
 .refine bk ?_;show[L.b false]=[.b b]
  rw[gF z λh=>B.1 c ⟨h.1,h.2.1,h.2.2.1,h.2.2.2.1⟩]
 have d:=js.1 λh=>by rw[B.2 h]at c;cases c
 obtain⟨q,j,x⟩:=atI l y d.2.2.2.2 (.i a) (.i g) (.i r) o p s u v w (.r (l.map bt)) n;have m:Il [.r (l.map bt),.i a,.i g,.i r,.i n,o,p,s,u,v,w,.r (l.map bt)]=some [.b (decide (0<=q))]:=by
  refine bF ?_;refine bm j rfl rfl (uR ?_);exact bk rfl
 refine bm m rfl rfl (uR ?_);refine bk ?_;show[L.b (!decide (0<=q))]=[.b b]
 have:(!decide (0<=q))=b:=by
  rw[jT,z,oV,x6,x,js];exact⟨λh=>⟨d.1,d.2.1,d.2.2.1,d.2.2.2,h⟩,λh=>h.2.2.2.2⟩
 rw[this]
end
section
open Go.RowKit Pl AI
open Classical
attribute [local irreducible] bl.wp
def sv(l:List Nat):fu:=strOfNums (l.map λn=>((n:Nat):Int))
theorem B8.sub{a b}(h:B8 b)(d:∀x∈a,x∈b):B8 a:=λx m=>h x (d x m)
theorem B8.take{a}(h:B8 a)(n):B8 (a.take n):=h.sub λ_ d=>mO d
theorem B8.drop{a}(h:B8 a)(n):B8 (a.drop n):=h.sub λ_ d=>nP d
theorem Wl(c)(k):eF c k<256:=by
 unfold eF;omega
theorem Kx(l):B8 (eH l):=λx a=>by
 simp only[eH,eG,GA,or_false]at a;rcases a with rfl|rfl|rfl|rfl<;>exact Wl _ _
theorem aer{a b}(f:B8 a)(g:B8 b):((sv a).toList==(sv b).toList)=true↔a=b:=by
 rw[beq_iff_eq,Lib.toList_data,Lib.toList_data];unfold sv;rw[strOfNums_data,strOfNums_data,gp,gp];constructor
 .intro h;have hlen:a.length=b.length:=by simpa using cO List.length h
  refine List.ext_getElem hlen λi c d=>?_
  have e:=cO (·[i]?) h;simp only[cX,cY c,cY d,b_,jq,Function.comp,ey]at e;have j:=f _ (cQ c);have l:=g _ (cQ d);have:=cO UInt8.toNat e;simpa[UInt8.toNat_ofNat,x8 j,x8 l]using this
 .intro h;rw[h]
section
variable{ρ:List L}{Q:Lf×List L->Prop}{k:bl}
theorem Bv{x l}(a:(x.ev ρ).bC=l.map b1)(b:k.wp (ρ++[.s (sv l)]) Q):(bl.op (.str x) k).wp ρ Q:=jy (by
 show(mU (x.ev ρ).bC).map _=_;rw[a,RG];rfl) b
theorem GU{x y a b}(c:(x.ev ρ).fU=sv a)(d:(y.ev ρ).fU=sv b)(e:B8 a)(f:B8 b){t}(g:t=true↔a≠b)(h:k.wp (ρ++[.b t]) Q):(bl.op (.bs .neq x y) k).wp ρ Q:=mq (by
 show some (L.b (!((x.ev ρ).fU.toList==(y.ev ρ).fU.toList)))=_;rw[c,d];have:(!((sv a).toList==(sv b).toList))=t:=by
  rw[jT,g,oV,<-Bool.not_eq_true];exact not_congr (aer e f)
 rw[this]) h
theorem lT{x lo f:At}{l:List Nat}{a c:Nat}(d:(x.ev ρ).bC=l.map b1)(e:(lo.ev ρ).br=a)(b:(f.ev ρ).br=c)(h:a<=c)(i:c<=l.length)(g:k.wp (ρ++[.r (((l.take c).drop a).map b1)]) Q):(bl.op (.part x lo f 1) k).wp ρ Q:=
 xy ⟨om,om,by rw[b,d,bD];omega,by rw[d];exact nN _⟩ (by rw[d,e,b,ey,ey,<-lj,<-nR]) g
end
theorem fY(l:List It):ct 4 (l.map bt)=true:=by
 unfold ct;rw[cz];intro r a;obtain⟨n,_,rfl⟩:=fE.1 a;rfl
end
section
open Go.RowKit
namespace AI
def bl.calls:bl->List (Nat×(List L->Option (List L)))
 |.bp _=>[]
 |.op a k=>(match a with| .call t F _ _ _=>[(t,F)]|_=>[])++calls k
 |.ite _ x y=>calls x++calls y
 |.join x y=>calls x++calls y
 |.loop _ y=>calls y
def rH(a:Nat->Option pJ):List (Nat×(List L->Option (List L)))->Prop
 |[]=>True
 |(t,F)::r=>(∀s,a t=some s->s.ok F)/\rH a r
theorem rH.left{d:Nat->Option pJ}:∀{a b:List (Nat×(List L->Option (List L)))},rH d (a++b)->rH d a
 |[],_,_=>trivial
 |(_,_)::_,_,h=>⟨h.1,h.2.left⟩
theorem rH.right{d:Nat->Option pJ}:∀{a b:List (Nat×(List L->Option (List L)))},rH d (a++b)->rH d b
 |[],_,h=>h
 |(_,_)::a,_,h=>rH.right (a:=a) h.2
def mx:Int:=9223372036854775807
def c0:List AC:=[.sl 262208 [.int .u8 0 255]]
def c1:List AC:=[.str 9,.sl 2097152 [.int .u8 0 255],.sl 0 []]
def c2:List AC:=[.int .i64 0 1048576,.sl 1048576 [.int .u8 0 255],.bool]
def c3:List AC:=[.int .u64 0 7,.int .u32 0 3,.bool,.sl 30 [.int .u8 0 255]]
def c4:List AC:=[.int .u64 0 7,.int .u32 0 3,.int .i64 16 1048576,.int .i64 0 30]
def c5:List AC:=[.str 9,.sl 2097152 [.int .u8 0 255],.sl 1 c2]
def c6:List AC:=[.int .u64 0 18446744073709551615,.int .u32 0 4294967295,.bool,.sl mx [.int .u8 0 255]]
def f(a b:Nat)(c:Int):Fa:=⟨a,b,c⟩
def g(i n:Nat)(c:List AC):List (Nat×Option (List AC)):=(List.range n).map λj=>(i+j,some c)
end AI
namespace AI
end AI
namespace AI
end AI
end
section
open Go.RowKit Pl AI
open Classical
attribute [local irreducible] bl.wp
def fe(b:List Nat)(a c:Nat):List Nat:=(b.take c).drop a
theorem B8.cut{b}(h:B8 b)(a c):B8 (fe b a c):=(h.take c).drop a
theorem arb(b)(a c):(fe b a c).length<=b.length:=by unfold fe;rw[mh,dz];omega
def dw(n:Nat):Nat:=(n+31) /8*8
theorem HK{n:Nat}(h:n<=4096):c7 (n:Int)=((dw n:Nat):Int):=by unfold c7 dw;omega
theorem uL{ρ Q k}{α:Type}{f}{l:List α}{x i:At}{ps}{j:Nat}{v}(a:(x.ev ρ).bC=l.map f)(b:(i.ev ρ).br=j)(c)(g:(f l[j]).length=ps.length)(d:db ρ ps=f v)(e:k.wp (ρ++[.r ((l.set j v).map f)]) Q):(bl.op (.set x i 0 ps) k).wp ρ Q:=
 yB (r:=f l[j]) (by rw[a,b,ey,cX,cY c];rfl) om (by
  rw[a,b,ey,d,Oy,lp,rl om,fW,<-List.map_set];exact e)
def fR(f:List Nat):List PV:=[.sl (f.map b1)]
def hR(t:Bool):List PV:=[.sc (.bool t)]
def wz(n:Int):Int:=if n<=0 then 0 else((n-1) /256+1)*64
def fill(us:List Bool)(i:Nat):List Bool:=us.take i++List.replicate (6-i) false
end
section
open Go.RowKit AI
def nt(a b:Nat):Nat->Nat
 |0=>0
 |k+1=>if(b>>>k)%2=1 then nt a b k^^^ (a<<<k)else nt a b k
def ky(p:Nat):Nat->Nat
 |0=>p
 |n+1=>if(ky p n>>> (14-n))%2=1 then ky p n^^^ (285<<< (6-n))else ky p n
def gm(a b:Nat):Nat:=ky (nt a b 8) 7%256
theorem Kb{a b:Nat}(d:a<256):∀k,k<=8->nt a b k<2^15
 |0,_=>by show 0<2^15;decide
 |k+1,h=>by
  have c:=Kb (b:=b) d k om;unfold nt;split
  .refine Bk c ?_;have:2^k<=2^7:=Bl dc om;have:a*2^k<=255*2^7:=Oz om this;omega
  .exact c
theorem Qx{p:Nat}(hp:p<2^15):∀n,n<=7->ky p n<2^15
 |0,_=>hp
 |n+1,h=>by
  have a:=Qx hp n om;unfold ky;split
  .refine Bk a ?_;have:2^ (6-n)<=2^6:=Bl dc om;omega
  .exact a
theorem JL(a b):gm a b<256:=Nat.mod_lt _ dc
theorem Dv{p n}(h:(List.range n).all p=true){i}(a:i<n):p i=true:=cz.1 h i (jr.2 a)
theorem aav{b}(h:b<256):gm 0 b=0:=sU (Dv (p:=λb=>Nat.beq (gm 0 b) 0) (n:=256) kr h)
theorem azO{b}(h:b<256):gm b 0=0:=sU (Dv (p:=λb=>Nat.beq (gm b 0) 0) (n:=256) kr h)
theorem Mh{x k:Nat}(h:k<=62)(a:x*2^k<=4611686018427387904):dV .shl .i64 (x:Int) (k:Int)=some (.i ((x<<<k:Nat):Int)):=by
 show(if 0<=(k:Int)then some (L.i (IntKind.wrap .i64 ((x:Int)*2^ (min (k:Int).toNat IntKind.i64.bits))))else none)=_;rw[bA om,ey,nQ (show k<=IntKind.i64.bits by show k<=64;omega),Bh];have e:(x:Int)*2^k=((x*2^k:Nat):Int):=by rfl
 rw[e,wrap64 om om]
theorem ofInt8{x:Nat}(h:x<256):(BitVec.ofInt 8 (x:Int)).toNat=x:=by rw[GF];omega
theorem ofInt64{x:Nat}(h:x<4611686018427387904):(BitVec.ofInt 64 (x:Int)).toNat=x:=by rw[GF];omega
theorem Ae{x:Nat}(h:x<256):IntKind.wrap .u8 (x:Int)=x:=Fp .u8 (by simp[IntKind.min,IntKind.signed]) (by simp[IntKind.max,IntKind.signed,IntKind.bits];omega)
theorem Ru{a b:Nat}(c:a<256)(d:b<256):dV .xor .u8 (a:Int) (b:Int)=some (.i ((a^^^b:Nat):Int)):=by
 show some (L.i (IntKind.wrap .u8 ((BitVec.ofInt 8 (a:Int) ^^^BitVec.ofInt 8 (b:Int)).toNat:Int)))=_;rw[BitVec.toNat_xor,ofInt8 c,ofInt8 d,Ae (Bk (n:=8) c d)]
theorem C'{a b:Nat}(c:a<2^15)(d:b<2^15):dV .xor .i64 (a:Int) (b:Int)=some (.i ((a^^^b:Nat):Int)):=by
 have:=Bk c d;show some (L.i (IntKind.wrap .i64 ((BitVec.ofInt 64 (a:Int) ^^^BitVec.ofInt 64 (b:Int)).toNat:Int)))=_;rw[BitVec.toNat_xor,ofInt64 om,ofInt64 om,wrap64 om om]
theorem Yz{a:Nat}(b:a<256):dV .and .u8 (a:Int) 1=some (.i ((a%2:Nat):Int)):=by
 show some (L.i (IntKind.wrap .u8 ((BitVec.ofInt 8 (a:Int)&&&BitVec.ofInt 8 ((1:Nat):Int)).toNat:Int)))=_;rw[OF,ofInt8 b,ofInt8 dc,Nat.and_one_is_mod,Ae om]
theorem ano{a:Nat}(b:a<2^15):dV .and .i64 (a:Int) 1=some (.i ((a%2:Nat):Int)):=by
 show some (L.i (IntKind.wrap .i64 ((BitVec.ofInt 64 (a:Int)&&&BitVec.ofInt 64 ((1:Nat):Int)).toNat:Int)))=_;rw[OF,ofInt64 om,ofInt64 dc,Nat.and_one_is_mod,wrap64 om om]
def lY(c:Nat)(d s:List Nat):List Nat:=List.zipWith (λx y=>x^^^gm c y) d s
theorem I3{c d s}(h:d.length=s.length):(lY c d s).length=s.length:=by unfold lY;rw[List.length_zipWith];omega
theorem K8{c d s i}(h)(a:i<d.length)(b:i<s.length):(lY c d s)[i]=d[i] ^^^gm c s[i]:=by simp only[lY,List.getElem_zipWith]
theorem aoy{c d s}(b:B8 d):B8 (lY c d s):=λx e=>by
 obtain⟨i,a,rfl⟩:=jG e;have h:i<d.length/\i<s.length:=by unfold lY at a;rw[List.length_zipWith]at a;omega
 rw[K8 a h.1 h.2];exact Bk (n:=8) (b _ (cQ h.1)) (JL _ _)
def ke(o d:List Nat)(i:Nat):List Nat:=o.take i++d.drop i
theorem agB{o d}(h:o.length=d.length)(i):(ke o d i).length=d.length:=by unfold ke;rw[cD,dz,mh];omega
theorem P3{o d}(h:o.length=d.length){i}(a)(b):(ke o d i)[i]=d[i]:=by
 have e:(ke o d i)[i]?=some d[i]:=by
  unfold ke;rw[kF (by rw[dz];omega),kC,dz,show i+(i-min i o.length)=i by omega,cY a]
 rw[cY b]at e;exact rm e
theorem QI{o d}(h:o.length=d.length){i}(a:i<d.length){v}(b:v=o[i]'om):(ke o d i).set i v=ke o d (i+1):=by
 unfold ke;rw[OG _ _ (by rw[dz];omega),fi om,dI,dz];rw[show i-min i o.length=0 by omega,sS a,OH,b];rfl
theorem aaJ{o d}(h:o.length=d.length):ke o d d.length=o:=by unfold ke;rw[eo om,List.drop_length,fW]
def iu(c:Nat):Nat:=cond (Nat.blt (xx.getD c 0) 255) (xx.getD c 0) 0
def AM(n:Nat):Nat:=(lF++lF).getD n 0
theorem M7(c):iu c<255:=by
 unfold iu
 cases h:Nat.blt (xx.getD c 0) 255 with
 |true=>exact ZW h
 |false=>exact(by decide:0<255)
theorem Yy{c}(h:c<256):wI[c]?=some (.i (iu c:Nat)):=by
 have a:xx.length=256:=kr;unfold wI iu;rw[cX,jZ,cY om];rfl
theorem acY{n}(h:n<510):yD[n]?=some (.i (AM n:Nat)):=by
 have a:(lF++lF).length=510:=kr;unfold yD AM;rw[cX,jZ,cY om];rfl
def C0(c:Nat):List Nat->List Nat->Bool
 |a::l,b::m=>Nat.beq a (gm c b)&&C0 c l m
 |_,[]=>true
 |[],_=>false
def BM(c:Nat):Bool:=C0 c ((lF++lF).drop (iu c)) lF
theorem P6{c:Nat}:∀{l m:List Nat},C0 c l m=true->∀{n:Nat},n<m.length->l.getD n 0=gm c (m.getD n 0)
 |a::l,b::m,h,n,d=>by
  rw[C0,cu]at h
  cases n with
  |zero=>exact sU h.1
  |succ n=>exact P6 (l:=l) (m:=m) h.2 (by simpa using d)
 |[],[],_,n,d=>absurd d (rn _)
 |_::_,[],_,n,d=>absurd d (rn _)
 |[],_::_,h,_,_=>by cases h
theorem aoC{y}(h:y<256)(a:y≠0):lF.getD (iu y) 0=y:=by
 have:=Dv (p:=λy=>Nat.beq y 0||Nat.beq (lF.getD (iu y) 0) y) (n:=256) kr h;rw[oX]at this;rcases this with h|h
 .exact absurd (sU h) a
 .exact sU h
theorem adr{c y}(h:BM c=true)(b:y<256)(d:y≠0):AM (iu c+iu y)=gm c y:=by
 have e:lF.length=255:=kr;have a:=P6 h (n:=iu y) (by have:=M7 y;omega);rw[aoC b d]at a;rw[<-a];unfold AM;rw[jZ,jZ,kC]
end
end
end Go.Proofs.YtiikkkhcolcebaaGreatDoor
