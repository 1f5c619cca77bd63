/- Towards the last file's theorem: part 27. -/
import Derived.Test.YtndegphojkiblaaGreatDoorG9
import Derived.Test.YtndegphojkiblaaGreatDoorG13
import Derived.Test.YtndegphojkiblaaGreatDoorG21
import Derived.Test.YtndegphojkiblaaGreatDoorG22
import Derived.Test.YtndegphojkiblaaGreatDoorG23
import Derived.Test.YtndegphojkiblaaGreatDoorG24
import Derived.Test.YtndegphojkiblaaGreatDoorG26
set_option linter.all false
set_option maxHeartbeats 4000000
set_option maxRecDepth 100000
namespace Go.Proofs.YtndegphojkiblaaGreatDoor
noncomputable section
theorem uR {f f':ad} {ρ ρ':List L} {Q:Lf×List L→Prop} (h:f'.wp ρ' Q) (e:f'.wp ρ' Q→f.wp ρ Q:=by (intro h;refine nW ?_;repeat refine uT rfl ?_);exact h):f.wp ρ Q:=e h
section

end
section
open Go.RowKit AI
attribute [local irreducible] ad.wp
def b1 (n:Nat):List PV:=[.sc (.int .u8 (n:Int))]
def rI (o:Option L):Int:=match o with|some (.i n)=>n|_=>0
def qP (r:Int):Int:=if rI (bF .and .u32 r 1)=1 then rI (bF .xor .u32 (rI (bF .shr .u32 r 1)) 2197175160)else rI (bF .shr .u32 r 1)
def hZ (r:Int):Nat→Int
 |0=>r
 |n+1=>qP (hZ r n)
def kf (r:Int) (x:Nat):Int:=hZ (rI (bF .xor .u32 r (IntKind.wrap .u32 (x:Int)))) 8
def gq (r:Int):Int:=rI (dA .xor .u32 r)
def fH (l:List Nat):Int:=gq (l.foldl kf (gq 0))
theorem aET (r:Int):BJ [.i r]=some [.i (hZ r 8)]:=by
 refine a_ ?_;unfold afV;refine aH (fun xs=>xs=[.i (hZ r 8)]) ?_ ?_;rotate_left
 · rintro _ rfl;refine nW ?_;exact ae rfl
 refine wp_loop (I:=fun a=>∃i:Nat,a=[.i (hZ r i),.i i]∧i≤8) (mu:=fun a=>match a with|[_,.i i]=>8-i.toNat|_=>0) ⟨0,rfl,om⟩ ?_;rintro a ⟨i,rfl,e1⟩;refine uR ?_;refine aP rfl (fun hc=> ?_) (fun hc=> ?_)
 · refine aH (fun xs=>xs=[.i (hZ r (i+1))]) ?_ ?_
   · refine b5 (l:= .i (rI (bF .and .u32 (hZ r i) 1))) rfl (uR ?_);refine aP rfl (fun hx=> ?_) (fun hx=> ?_)
     · refine b5 (l:= .i (rI (bF .shr .u32 (hZ r i) 1))) rfl (nW ?_);refine b5 (l:= .i (rI (bF .xor .u32 (rI (bF .shr .u32 (hZ r i) 1)) 2197175160))) rfl (nW ?_);refine ae ?_;show[L.i _]=[L.i (qP (hZ r i))]
       unfold qP;rw[au hx]
     · refine b5 (l:= .i (rI (bF .shr .u32 (hZ r i) 1))) rfl (nW ?_);refine ae ?_;show[L.i _]=[L.i (qP (hZ r i))]
       unfold qP;rw[aE hx]
   · rintro _ rfl;refine nW ?_;refine bP (i:=i) rfl om (nW ?_);refine ae ⟨⟨i+1,rfl,om⟩,?_⟩;show 8- ((i+1:Nat):Int).toNat<8-i;omega
 · obtain rfl:i=8:=om;exact ae rfl
theorem apg (c:Int) (l:List Nat) (hl:l.length≤4294967296):Cm [.i c,.r (l.map b1)]=some [.i (gq (l.foldl kf (gq c)))]:=by
 refine a_ ?_;unfold YF;refine lW (ls:=[.i (gq c)]) rfl (nW ?_);refine aH (fun xs=>xs=[.i (l.foldl kf (gq c))]) ?_ ?_;rotate_left
 · rintro _ rfl;refine nW ?_;refine lW (ls:=[.i (gq (l.foldl kf (gq c)))]) rfl (nW ?_);exact ae rfl
 refine wp_loop (I:=fun a=>∃i:Nat,a=[.i ((l.take i).foldl kf (gq c)),.i i]∧i≤l.length) (mu:=fun a=>match a with|[_,.i i]=>l.length-i.toNat|_=>0) ⟨0,rfl,om⟩ ?_;rintro a ⟨i,rfl,e1⟩;refine uR ?_;refine aP rfl (fun hc=> ?_) (fun hc=> ?_)
 · rw[ax]at hc;have hi:i<l.length:=om;refine bz (f:=b1) (j:=i) rfl rfl hi rfl (uR ?_);refine jz (nW ?_);refine b5 (l:= .i (rI (bF .xor .u32 ((l.take i).foldl kf (gq c)) (IntKind.wrap .u32 (l[i]:Int))))) rfl (nW ?_);refine ay (aET _) rfl rfl (nW ?_);refine bP (i:=i) rfl om (nW ?_);refine ae ⟨⟨i+1,?_,om⟩,?_⟩
   · show[L.i _,L.i _]=_;rw[iQ hi,SW];rfl
   · show l.length- ((i+1:Nat):Int).toNat<l.length-i;omega
 · rw[ax]at hc;obtain rfl:i=l.length:=om;refine ae ?_;show[L.i ((l.take l.length).foldl kf (gq c))]=_;rw[jg]
theorem avY (l:List Nat) (hl:l.length≤4294967296):yA [.r (l.map b1)]=some [.i (fH l)]:=by
 refine a_ ?_;unfold TO;refine ay (apg 0 l hl) rfl rfl (nW ?_);exact ae rfl
theorem aoB (c:Int) (l:List Nat) (hl:l.length≤4294967296):Mz [.i c,.r (l.map b1)]=some [.i (gq (l.foldl kf (gq c)))]:=by
 refine a_ ?_;unfold TS;refine lW (ls:=[.i (gq c)]) rfl (nW ?_);refine aH (fun xs=>xs=[.i (l.foldl kf (gq c))]) ?_ ?_;rotate_left
 · rintro _ rfl;refine nW ?_;refine lW (ls:=[.i (gq (l.foldl kf (gq c)))]) rfl (nW ?_);exact ae rfl
 refine uR ?_;refine wp_loop (I:=fun a=>∃i:Nat,a=[.i ((l.take i).foldl kf (gq c)),.i i]∧i≤l.length) (mu:=fun a=>match a with|[_,.i i]=>l.length-i.toNat|_=>0) ⟨0,rfl,om⟩ ?_;rintro a ⟨i,rfl,e1⟩;refine uR ?_;refine aP rfl (fun hc=> ?_) (fun hc=> ?_)
 · rw [ax]at hc;have hi:i<l.length:=om;refine aH (fun xs=>xs=[.i ((l.take (i+1)).foldl kf (gq c))]) ?_ ?_;rotate_left
   · rintro _ rfl;refine nW ?_;refine bP (i:=i) rfl om (nW ?_);refine ae ⟨⟨i+1,rfl,om⟩,?_⟩;show l.length- ((i+1:Nat):Int).toNat<l.length-i;omega
   refine bz (f:=b1) (j:=i) rfl rfl hi rfl (uR ?_);refine jz (nW ?_);refine b5 (l:= .i (rI (bF .xor .u32 ((l.take i).foldl kf (gq c)) (IntKind.wrap .u32 (l[i]:Int))))) rfl ?_;rw[iQ hi,SW];generalize (l.take i).foldl kf (gq c)=r;show ad.wp _ _ (jQ (fun xs=>xs=[.i (hZ (rI (bF .xor .u32 r (IntKind.wrap .u32 (l[i]:Int)))) 8)]) _);generalize rI (bF .xor .u32 r (IntKind.wrap .u32 (l[i]:Int)))=r';refine nW ?_;refine wp_loop (I:=fun a=>∃i:Nat,a=[.i (hZ r' i),.i i]∧i≤8) (mu:=fun a=>match a with|[_,.i i]=>8-i.toNat|_=>0) ⟨0,rfl,om⟩ ?_;rintro a ⟨j,rfl,e1⟩;refine uR ?_;refine aP rfl (fun hc=> ?_) (fun hc=> ?_)
   · refine aH (fun xs=>xs=[.i (hZ r' (j+1))]) ?_ ?_
     · refine b5 (l:= .i (rI (bF .and .u32 (hZ r' j) 1))) rfl (nW ?_);refine b5 (l:= .i (rI (bF .shr .u32 (hZ r' j) 1))) rfl (uR ?_);refine aP rfl (fun hx=> ?_) (fun hx=> ?_)
       · refine b5 (l:= .i (rI (bF .xor .u32 (rI (bF .shr .u32 (hZ r' j) 1)) 2197175160))) rfl (nW ?_);refine ae ?_;show[L.i _]=[L.i (qP (hZ r' j))]
         unfold qP;rw[au hx]
       · refine ae ?_;show[L.i _]=[L.i (qP (hZ r' j))]
         unfold qP;rw[aE hx]
     · rintro _ rfl;refine nW ?_;refine bP (i:=j) rfl om (nW ?_);refine ae ⟨⟨j+1,rfl,om⟩,?_⟩;show 8- ((j+1:Nat):Int).toNat<8-j;omega
   · obtain rfl:j=8:=om;exact ae rfl
 · rw[ax]at hc;obtain rfl:i=l.length:=om;refine ae ?_;show[L.i ((l.take l.length).foldl kf (gq c))]=_;rw[jg]
theorem Ww (l:List Nat) (hl:l.length≤4294967296):Eo [.r (l.map b1)]=some [.i (fH l)]:=by
 refine a_ ?_;unfold acj;refine ay (aoB 0 l hl) rfl rfl (nW ?_);exact ae rfl
theorem YN (l:List Nat):0≤fH l∧fH l≤4294967295:=by
 have:=GW .u32 (((BitVec.ofInt 32 (4294967295:Int) ^^^BitVec.ofInt 32 (l.foldl kf (gq 0))).toNat:Nat):Int);exact this
def sg (c:Int) (k:Nat):Nat:=(c/2^k%256).toNat
theorem qO (c:Int) (k:Nat):[PV.sc (.int .u8 (IntKind.wrap .u8 (c.fdiv (2^k))))]=b1 (sg c k):=by
 unfold b1 sg;have h:(0:Int)≤c/2^k%256:=aiQ _ dc;rw[SO _ (Int.pow_nonneg dc),Df h];congr 3
def dN (l:List Nat):List Nat:=[sg (fH l) 0,sg (fH l) 8,sg (fH l) 16,sg (fH l) 24]
theorem P6 (l:List Nat) (hl:l.length≤4294967296):ni [.r (l.map b1)]=some [.r ((dN l).map b1)]:=by
 refine a_ ?_;unfold TF;refine ay (avY l hl) rfl rfl (nW ?_);refine jz (nW ?_);refine b5 (l:= .i ((fH l).fdiv (2^8))) rfl (nW ?_);refine jz (nW ?_);refine b5 (l:= .i ((fH l).fdiv (2^16))) rfl (nW ?_);refine jz (nW ?_);refine b5 (l:= .i ((fH l).fdiv (2^24))) rfl (nW ?_);refine jz (uR ?_);refine ae ?_;have h0:=qO (fH l) 0;rw[show(fH l).fdiv (2^0)=fH l by simp]at h0;show[L.r [[PV.sc _],[PV.sc _],[PV.sc _],[PV.sc _]]]=[L.r [b1 _,b1 _,b1 _,b1 _]]
 rw[←h0,←qO,←qO,←qO]
theorem Tl (l:List Nat) (hl:l.length≤4294967296):Lk [.r (l.map b1)]=some [.r ((dN l).map b1)]:=by
 refine a_ ?_;unfold aeq;refine ay (Ww l hl) rfl rfl (nW ?_);refine jz (nW ?_);refine b5 (l:= .i ((fH l).fdiv (2^8))) rfl (nW ?_);refine jz (nW ?_);refine b5 (l:= .i ((fH l).fdiv (2^16))) rfl (nW ?_);refine jz (nW ?_);refine b5 (l:= .i ((fH l).fdiv (2^24))) rfl (nW ?_);refine jz (uR ?_);refine ae ?_;have h0:=qO (fH l) 0;rw[show(fH l).fdiv (2^0)=fH l by simp]at h0;show[L.r [[PV.sc _],[PV.sc _],[PV.sc _],[PV.sc _]]]=[L.r [b1 _,b1 _,b1 _,b1 _]]
 rw[←h0,←qO,←qO,←qO]
theorem ast (l:List Nat) (hl:l.length≤4294967296):aac [.r (l.map b1)]=some [.r ((dN l).map b1)]:=by
 rw[←Tl l hl];rfl
def val (l:List Nat):BitVec 64:=l.foldl (fun v x=> (v<<<8)|||BitVec.ofNat 64 x) 0
theorem Zg (n:Int):IntKind.wrap .u64 n=((BitVec.ofInt 64 n).toNat:Int):=by
 simp[IntKind.wrap,IntKind.bits,IntKind.signed,wL];omega
theorem KF (n:Int):IntKind.wrap .i64 n=(BitVec.ofInt 64 n).toInt:=by
 rw[BitVec.toInt_ofInt];simp[IntKind.wrap,IntKind.bits,IntKind.signed,Int.bmod];split<;>split<;>omega
theorem Ak (v:BitVec 64):BitVec.ofInt 64 (v.toNat:Int)=v:=by
 apply aiR;simp[wL]
theorem ofInt_toInt (v:BitVec 64):BitVec.ofInt 64 v.toInt=v:=BitVec.ofInt_toInt
theorem acI (v:BitVec 64) (n:Int) (h:BitVec.ofInt 64 n=v):BitVec.ofInt 64 (n*256)=v<<<8:=by
 subst h;apply aiR;rw[BitVec.toNat_shiftLeft,wL,wL,zJ];omega
theorem XZ (v:BitVec 64):bF .shl .u64 v.toNat 8=some (.i ((v<<<8).toNat:Int)):=by
 show some (L.i (IntKind.wrap .u64 ((v.toNat:Int)*2^8)))=_;rw[show(2:Int) ^8=256 by decide,Zg,acI v _ (Ak v)]
theorem ayS (v:BitVec 64):bF .shl .i64 v.toInt 8=some (.i ((v<<<8).toInt)):=by
 show some (L.i (IntKind.wrap .i64 (v.toInt*2^8)))=_;rw[show(2:Int) ^8=256 by decide,KF,acI v _ (ofInt_toInt v)]
theorem T_ (x:Nat):BitVec.ofInt 64 (x:Int)=BitVec.ofNat 64 x:=by
 apply aiR;simp[wL]
theorem agh (v:BitVec 64) (x:Nat):bF .or .u64 v.toNat (x:Int)=some (.i ((v|||BitVec.ofNat 64 x).toNat:Int)):=by
 show some (L.i (IntKind.wrap .u64 ((BitVec.ofInt 64 _|||BitVec.ofInt 64 _).toNat:Int)))=_;rw[Ak,T_,Zg,Ak]
theorem ayA (v:BitVec 64) (x:Nat):bF .or .i64 v.toInt (x:Int)=some (.i ((v|||BitVec.ofNat 64 x).toInt)):=by
 show some (L.i (IntKind.wrap .i64 ((BitVec.ofInt 64 _|||BitVec.ofInt 64 _).toNat:Int)))=_;rw[ofInt_toInt,T_,KF,Ak]
theorem Np {l:List Nat} {i:Nat} (hi:i<l.length):val (l.take (i+1))=(val (l.take i)<<<8)|||BitVec.ofNat 64 l[i]:=by
 unfold val;rw[iQ hi,SW];rfl
def B8 (l:List Nat):Prop:=∀x∈l,x<256
theorem me (l:List Nat) (hb:B8 l) (hl:l.length≤4294967296):F40 [.r (l.map b1)]=some [.i ((val l).toNat:Int)]:=by
 refine a_ ?_;unfold Z3;refine aH (fun xs=>xs=[.i ((val l).toNat:Int)]) ?_ ?_;rotate_left
 · rintro _ rfl;refine nW ?_;exact ae rfl
 refine wp_loop (I:=fun a=>∃i:Nat,a=[.i ((val (l.take i)).toNat:Int),.i i]∧i≤l.length) (mu:=fun a=>match a with|[_,.i i]=>l.length-i.toNat|_=>0) ⟨0,rfl,om⟩ ?_;rintro a ⟨i,rfl,e1⟩;refine uR ?_;refine aP rfl (fun hc=> ?_) (fun hc=> ?_)
 · rw[ax]at hc;have hi:i<l.length:=om;have hx:=hb _ (b9 hi);refine b5 (XZ _) (nW ?_);refine bz (f:=b1) (j:=i) rfl rfl hi rfl (uR ?_);refine qp (n:=(l[i]:Int)) rfl om om (nW ?_);refine b5 (agh _ _) (nW ?_);refine bP (i:=i) rfl om (nW ?_);refine ae ⟨⟨i+1,?_,om⟩,?_⟩
   · show[L.i _,L.i _]=_;rw[Np hi]
   · show l.length- ((i+1:Nat):Int).toNat<l.length-i;omega
 · rw[ax]at hc;obtain rfl:i=l.length:=om;refine ae ?_;show[L.i ((val (l.take l.length)).toNat:Int)]=_;rw[jg]
theorem z8 (l:List Nat) (hb:B8 l) (hl:l.length≤4294967296):yJ [.r (l.map b1)]=some [.i ((val l).toNat:Int)]:=by
 refine a_ ?_;unfold Wb;refine aH (fun xs=>xs=[.i ((val l).toNat:Int)]) ?_ ?_;rotate_left
 · rintro _ rfl;refine nW ?_;exact ae rfl
 refine uR ?_;refine wp_loop (I:=fun a=>∃i:Nat,a=[.i ((val (l.take i)).toNat:Int),.i i]∧i≤l.length) (mu:=fun a=>match a with|[_,.i i]=>l.length-i.toNat|_=>0) ⟨0,rfl,om⟩ ?_;rintro a ⟨i,rfl,e1⟩;refine uR ?_;refine aP rfl (fun hc=> ?_) (fun hc=> ?_)
 · rw[ax]at hc;have hi:i<l.length:=om;have hx:=hb _ (b9 hi);refine bz (f:=b1) (j:=i) rfl rfl hi rfl (uR ?_);refine b5 (XZ _) (nW ?_);refine qp (n:=(l[i]:Int)) rfl om om (nW ?_);refine b5 (agh _ _) (nW ?_);refine bP (i:=i) rfl om (nW ?_);refine ae ⟨⟨i+1,?_,om⟩,?_⟩
   · show[L.i _,L.i _]=_;rw[Np hi]
   · show l.length- ((i+1:Nat):Int).toNat<l.length-i;omega
 · rw[ax]at hc;obtain rfl:i=l.length:=om;refine ae ?_;show[L.i ((val (l.take l.length)).toNat:Int)]=_;rw[jg]
theorem Pv (l:List Nat) (hb:B8 l) (hl:l.length≤4294967296):DI [.r (l.map b1)]=some [.i ((val l).toNat:Int)]:=by
 rw[←z8 l hb hl];rfl
theorem xY (l:List Nat) (hb:B8 l) (hl:l.length≤4294967296):tg [.r (l.map b1)]=some [.i (val l).toInt]:=by
 refine a_ ?_;unfold XW;refine aH (fun xs=>xs=[.i (val l).toInt]) ?_ ?_;rotate_left
 · rintro _ rfl;refine nW ?_;exact ae rfl
 refine uR ?_;refine wp_loop (I:=fun a=>∃i:Nat,a=[.i (val (l.take i)).toInt,.i i]∧i≤l.length) (mu:=fun a=>match a with|[_,.i i]=>l.length-i.toNat|_=>0) ⟨0,rfl,om⟩ ?_;rintro a ⟨i,rfl,e1⟩;refine uR ?_;refine aP rfl (fun hc=> ?_) (fun hc=> ?_)
 · rw[ax]at hc;have hi:i<l.length:=om;have hx:=hb _ (b9 hi);refine bz (f:=b1) (j:=i) rfl rfl hi rfl (uR ?_);refine b5 (ayS _) (nW ?_);refine sI (n:=(l[i]:Int)) rfl om om (nW ?_);refine b5 (ayA _ _) (nW ?_);refine bP (i:=i) rfl om (nW ?_);refine ae ⟨⟨i+1,?_,om⟩,?_⟩
   · show[L.i _,L.i _]=_;rw[Np hi]
   · show l.length- ((i+1:Nat):Int).toNat<l.length-i;omega
 · rw[ax]at hc;obtain rfl:i=l.length:=om;refine ae ?_;show[L.i (val (l.take l.length)).toInt]=_;rw[jg]
theorem LB (a b:List Nat) (ha:B8 a) (hb:B8 b) (hl:a.length≤4294967296) {t:Bool} (ht:t=true ↔ a=b):A4 [.r (a.map b1),.r (b.map b1)]=some [.b t]:=by
 refine a_ ?_;unfold aeL;refine uR ?_;refine aP rfl (fun hc=> ?_) (fun hc=> ?_)
 · rw[ax,ax]at hc;refine ae ?_;show[L.b false]=[.b t]
   rw[fF ht fun h=>hc (by rw[h])]
 rw[ax,ax]at hc;have hlen:a.length=b.length:=om;refine aH (fun xs=>xs=[]∧t=true) ?_ ?_;rotate_left
 · rintro _ ⟨rfl,h⟩;refine nW ?_;refine ae ?_;show[L.b true]=[.b t]
   rw[h]
 refine uR ?_;refine wp_loop (I:=fun x=>∃i:Nat,x=[.i i]∧i≤a.length∧∀(j:Nat) (h:j<a.length),j<i→a[j]=b[j]'om) (mu:=fun x=>match x with|[.i i]=>a.length-i.toNat|_=>0) ⟨0,rfl,om,fun j _ hj=>by omega⟩ ?_;rintro x ⟨i,rfl,e1,e2⟩;refine uR ?_;refine aP rfl (fun hx=> ?_) (fun hx=> ?_)
 · rw [ax]at hx;have hi:i<a.length:=om;refine bz (f:=b1) (j:=i) rfl rfl hi rfl (uR ?_);refine bz (f:=b1) (j:=i) rfl rfl (show i<b.length by omega) rfl (uR ?_);refine aP rfl (fun hy=> ?_) (fun hy=> ?_)
   · refine ae ?_;show[L.b false]=[.b t]
     rw[fF ht fun h=>hy (by subst h;rfl)]
   · have heq:a[i]=b[i]'om:=om;refine bP (i:=i) rfl om (nW ?_);refine ae ⟨⟨i+1,rfl,om,fun j hj wh=> ?_⟩,?_⟩
     · by_cases he:j=i
       · subst he;exact heq
       · exact e2 j hj om
     · show a.length- ((i+1:Nat):Int).toNat<a.length-i;omega
 · rw[ax]at hx;exact ae ⟨rfl,ht.2 (SX hlen fun j h1 h2=>e2 j h1 om)⟩
theorem kZ (l:List Nat):bA 1 (l.map b1)=true:=by
 unfold bA;rw[bk];intro r hr;obtain⟨n,_,rfl⟩:=dy.1 hr;rfl
theorem awM (l:List Nat):lj (l.map b1)=some (l.map fun n=> ((n:Nat):Int)):=by
 have:=Xa (l.map fun n=> ((n:Nat):Int));rw[←this,fT,iP];rfl
theorem avC (l:List Nat):KK [.i (fH l),.i 4]=some [.r ((dN l).map b1)]:=by
 have hr:=YN l;refine a_ ?_;unfold WS;have key:∀i:Nat,i≤4→((dN l).take i).length=i:=fun i h=>by rw[dX];show min i 4=i;omega
 refine wp_loop (I:=fun a=>∃i:Nat,a=[.i i,.r (((dN l).take i).map b1)]∧i≤4) (mu:=fun a=>match a with|[.i i,_]=>4-i.toNat|_=>0) ⟨0,rfl,om⟩ ?_;rintro a ⟨i,rfl,e1⟩;refine uR ?_;refine aP rfl (fun hc=> ?_) (fun hc=> ?_)
 · have hi:i<4:=om;refine kY (n:=8*(i:Int)) rfl om om (nW ?_);refine b5 (l:= .i ((fH l).fdiv (2^ (8*i)))) (by
    show(if(0:Int)≤8*(i:Int)then some (L.i ((fH l).fdiv (2^min (8*(i:Int)).toNat 64)))else none)=_;rw[au om,show min (8*(i:Int)).toNat 64=8*i by omega]) ?_
   refine nW ?_;refine jz (uR ?_);have hrow:[PV.sc (.int .u8 (IntKind.wrap .u8 ((fH l).fdiv (2^ (8*i)))))]=b1 ((dN l)[i]'(by show i<4;omega)):=by
    rw[qO]
    match i,hi with
    |0,_=>rfl
    |1,_=>rfl
    |2,_=>rfl
    |3,_=>rfl
   have pE:((dN l).take i).map b1++ [b1 ((dN l)[i]'(by show i<4;omega))]=((dN l).take (i+1)).map b1:=by
    rw[iQ (show i< (dN l).length from hi),ej];rfl
   refine ee (r:=((dN l).take (i+1)).map b1) (kZ _) rfl (by show(((dN l).take i).map b1).length≤_;rw[ax,key i om];omega) oO om (by rw[←pE,←hrow];rfl) (nW ?_);refine bP (i:=i) rfl om (nW ?_);refine ae ⟨⟨i+1,rfl,om⟩,?_⟩;show 4- ((i+1:Nat):Int).toNat<4-i;omega
 · obtain rfl:i=4:=om;exact ae rfl
end
section
namespace Pl
structure It where
 key:Int
 cookie:Int
 off:Int
 size:Int
deriving DecidableEq,Inhabited
def b6 (n:Int):Int:=if n<0∨4096<n then 0 else(n+31) /8*8
def iu (x:It):Bool:=decide (16≤x.off)&&decide (x.off≤1048576)&&decide (x.off%8=0)&&decide (0≤x.size)&&decide (x.size≤4096)
def jR (l:List It):Prop:=l.Pairwise fun a b=>a.key<b.key
def VL (l:List It):Prop:=jR l∧∀x∈l,iu x=true
def ends (x:It):Int:=x.off+b6 x.size
theorem ayP {x:It} (h:iu x=true):24≤b6 x.size:=by
 simp only[iu,bt,cg]at h;unfold b6;rw[aE om];omega
def Clear (a b:It):Prop:=¬(a.off≤b.off∧b.off<ends a)∧¬(b.off≤a.off∧a.off<ends b)
theorem Clear.symm {a b:It} (h:Clear a b):Clear b a:=⟨h.2,h.1⟩
def ins (x:It):List It→List It
 |[]=> [x]
 |a::l=>if a.key<x.key then a::ins x l else if a.key=x.key then x::l else x::a::l
def vx (l:List It):List It:=l.foldl (fun out x=>ins x out) []
theorem O5 {x y:It}:∀{l:List It},y∈ins x l→y=x∨y∈l
 |[],h=>by simp[ins]at h;exact .inl h
 |a::l,h=>by
  unfold ins at h;split at h
  · rcases cU.1 h with rfl|h
    · exact .inr (by simp)
    · rcases O5 h with h|h
      · exact .inl h
      · exact .inr (by simp[h])
  · split at h
    · rcases cU.1 h with rfl|h
      · exact .inl rfl
      · exact .inr (by simp[h])
    · rcases cU.1 h with rfl|h
      · exact .inl rfl
      · exact .inr h
theorem adH (x:It):∀{l:List It},jR l→jR (ins x l)
 |[],_=>by simp[ins,jR]
 |a::l,h=>by
  have h':=IW.1 h;unfold ins;split
  · rename_i hlt;refine IW.2 ⟨fun y hy=> ?_,adH x h'.2⟩;rcases O5 hy with rfl|hy
    · exact hlt
    · exact h'.1 y hy
  · split
    · rename_i _ heq;exact IW.2 ⟨fun y hy=>by rw[←heq];exact h'.1 y hy,h'.2⟩
    · rename_i h1 h2;refine IW.2 ⟨fun y hy=> ?_,h⟩;rcases cU.1 hy with rfl|hy
      · omega
      · have:=h'.1 y hy;omega
theorem Vs:∀(l out:List It),jR out→jR (l.foldl (fun out x=>ins x out) out)
 |[],_,h=>h
 |x::l,out,h=>Vs l (ins x out) (adH x h)
theorem aws (l:List It):jR (vx l):=Vs l [] (by simp[jR])
theorem Wg:∀(l out:List It) (y:It),y∈l.foldl (fun out x=>ins x out) out→y∈l∨y∈out
 |[],_,_,h=> .inr h
 |x::l,out,y,h=>by
  rcases Wg l (ins x out) y h with h|h
  · exact .inl (by simp[h])
  · rcases O5 h with rfl|h
    · exact .inl (by simp)
    · exact .inr h
theorem Yu {l:List It} {y:It} (h:y∈vx l):y∈l:=by
 rcases Wg l [] y h with h|h
 · exact h
 · cases h
def aln (l:List It):Prop:=l.Pairwise fun a b=>a.key≠b.key
theorem jR.apart {l:List It} (h:jR l):aln l:=h.imp fun h e=>om
end Pl
end
section
open Go.RowKit
def aU (x:Pl.It):List PV:=[.sc (.int .u64 x.key),.sc (.int .u32 x.cookie),.sc (.int .i64 x.off),.sc (.int .i64 x.size)]
abbrev By:=List (List PV)
def gJ:List PV:=[.sc (.int .u8 0)]
structure Wr where
 off:Int
 data:By
 cut:Bool
structure Fl where
 name:cn
 base:By
 aR:List Wr
structure Dk where
 cap:Int
 left:Int
 files:List Fl
def ep (w:Wr):List PV:=[.sc (.int .i64 w.off),.sl w.data,.sc (.bool w.cut)]
def aY (f:Fl):List PV:=[.sc (.string f.name),.sl f.base,.sl (f.aR.map ep)]
def gj (b:By) (w:Wr):By:=if w.cut=true then b.take w.off.toNat else(b++List.replicate (w.off.toNat-b.length) gJ).take w.off.toNat++w.data++b.drop (w.off.toNat+w.data.length)
def tz (n:Int) (w:Wr):Int:=if w.cut=true then min n w.off else max n (w.off+w.data.length)
def okW (w:Wr):Prop:=0≤w.off∧w.off≤1048576∧¬(w.cut=true∧0<w.data.length)
instance (w:Wr):Decidable (okW w):=inferInstanceAs (Decidable (_∧_∧_))
def Fc:By→List Wr→Prop
 |_,[]=>True
 |b,w::ws=>okW w∧(gj b w).length≤1048576∧Fc (gj b w) ws
def okF (b:By) (ws:List Wr):Prop:=b.length≤1048576∧Fc b ws
def c_ (b:By) (ws:List Wr):By:=ws.foldl gj b
theorem JV {b:By} {w:Wr} (h:0≤w.off):((gj b w).length:Int)=tz b.length w:=by
 unfold gj tz;split
 · simp only[dX];omega
 · simp only[dL,dX,pZ,fw];omega
def xA (w:Wr):Prop:=bA 1 w.data=true∧w.data.length≤4294967296
def wN (f:Fl):Prop:=bA 1 f.base=true∧f.base.length≤4294967296∧f.aR.length≤4294967296∧∀w∈f.aR,xA w
theorem Be {n:Nat} {a b:List (List PV)} (h1:bA n a=true) (h2:bA n b=true):bA n (a++b)=true:=by
 unfold bA at*;simp[List.all_append,h1,h2]
theorem QF {n m:Nat} {a:List (List PV)} (h:bA n a=true):bA n (a.take m)=true:=by
 unfold bA at*;rw[bk]at*;exact fun x hx=>h x (hU hx)
theorem ayd {n m:Nat} {a:List (List PV)} (h:bA n a=true):bA n (a.drop m)=true:=by
 unfold bA at*;rw[bk]at*;exact fun x hx=>h x (oR hx)
theorem DE {n m:Nat} {r:List PV} (h:r.length=n):bA n (List.replicate m r)=true:=by
 unfold bA;rw[bk];exact fun x hx=>by rw[aiS hx];simpa using h
theorem aoh {b:By} {w:Wr} (hb:bA 1 b=true) (hw:xA w):bA 1 (gj b w)=true:=by
 unfold gj;split
 · exact QF hb
 · exact Be (Be (QF (Be hb (DE rfl))) hw.1) (ayd hb)
theorem uI {ws:List Wr}:∀{b:By},bA 1 b=true→(∀w∈ws,xA w)→bA 1 (c_ b ws)=true:=by
 induction ws with
 |nil=>exact fun h _=>h
 |cons w ws ih=>exact fun h hw=>ih (aoh h (hw w ek)) fun x hx=>hw x (fb _ hx)
theorem vo {b:By} {ws:List Wr} {k:Nat} (h:k<ws.length):c_ b (ws.take (k+1))=gj (c_ b (ws.take k)) ws[k]:=by
 unfold c_;rw[iQ h,SW];rfl
def u7 (b:By) (ws:List Wr) (k:Nat):Prop:=∀(j:Nat) (h:j<ws.length),j<k→okW ws[j]∧(c_ b (ws.take (j+1))).length≤1048576
theorem qv {ws:List Wr}:∀{b:By},Fc b ws ↔ u7 b ws ws.length:=by
 induction ws with
 |nil=>exact fun {b}=> ⟨fun _ j h=>absurd h (qb _),fun _=>trivial⟩
 |cons w ws ih=>
  intro b;unfold Fc;rw[ih];constructor
  · rintro⟨h1,h2,h3⟩ j hj hk
    cases j with
    |zero=>exact⟨h1,by simpa[c_]using h2⟩
    |succ j=>
     have:=h3 j (by simpa using hj) (by simpa using hj);simpa[c_]using this
  · intro h;refine⟨(h 0 (by simp) (by simp)).1,by simpa[c_]using(h 0 (by simp) (by simp)).2,fun j hj hk=> ?_⟩;have:=h (j+1) (by simpa using hj) (by simpa using hj);simpa[c_]using this
theorem ago {b:By} {ws:List Wr}:u7 b ws 0:=fun _ _ h=>absurd h (qb _)
theorem XV {b:By} {ws:List Wr} {k:Nat} (h:k<ws.length) (hk:u7 b ws k) (h1:okW ws[k]) (h2:(c_ b (ws.take (k+1))).length≤1048576):u7 b ws (k+1):=fun j hj hlt=>by
 by_cases e:j=k
 · subst e;exact⟨h1,h2⟩
 · exact hk j hj om
theorem qC {b:By} {ws:List Wr} {k:Nat} (hb:b.length≤1048576) (h:u7 b ws k) (hk:k≤ws.length):(c_ b (ws.take k)).length≤1048576:=by
 cases k with
 |zero=>simpa[c_]using hb
 |succ k=>exact(h k om om).2
def kV (c:Nat):Prop:=(97≤c∧c≤122)∨(48≤c∧c≤57)∨c=46∨c=45
def gH (s:cn):Prop:=(∀(i:Nat) (b:UInt8),s[i]? =some b→kV b.toNat)∧1≤s.size∧s.size≤40
def tm (a b:cn):Bool:=Op.bytesLess a.toList b.toList||a.toList==b.toList
def nh (d:Dk):Prop:=(0≤d.cap∧-1≤d.left∧d.files.length≤256)∧∀(i:Nat) (h:i<d.files.length),(gH d.files[i].name∧okF d.files[i].base d.files[i].aR)∧∀h0:0<i,tm d.files[i].name (d.files[i-1]'om).name=false
def rY (d:Dk):Prop:=d.files.length≤4294967296∧∀f∈d.files,wN f∧f.name.size≤4611686018427387904
def iv (d:Dk) (s:cn) (i:Nat):Prop:=∃h:i<d.files.length,(d.files[i].name.toList==s.toList)=true∧∀(j:Nat) (h1:j<i),((d.files[j]'om).name.toList==s.toList)=false
def nt (d:Dk) (s:cn):Prop:=∀(j:Nat) (h:j<d.files.length),(d.files[j].name.toList==s.toList)=false
def Wh (d:Dk) (s:cn) (c:By):Prop:=nh d∧gH s∧d.left≠0∧∃i,∃h:iv d s i,c=c_ (d.files[i]'h.1).base (d.files[i]'h.1).aR
theorem du (P:Prop):∃b:Bool,(b=true ↔ P):=by
 by_cases h:P
 · exact⟨true,⟨fun _=>h,fun _=>rfl⟩⟩
 · exact⟨false,⟨fun h=> (by cases h),fun h'=>absurd h' h⟩⟩
end
section
open Go.RowKit Pl AI
attribute [local irreducible] ad.wp
theorem E4 (n:Int):ib [.i n]=some [.i (b6 n)]:=by
 refine a_ ?_;unfold Z7;refine aH (cV (n<0∨4096<n)) ?_ ?_
 · (repeat' first| (refine aP rfl (fun hx=> ?_) (fun hx=> ?_))| (refine uT rfl ?_));all_goals (refine ae ?_;show cV _ _;try dsimp only[At.ev,d1,d2,d3,d4,d5,d6,d7,d8,d9,e0,List.map,bp,Kd.pv];first|exact cz om|exact fl om|exact fG om|exact sj om)
 rintro _ ⟨t,rfl,ht⟩;refine nW ?_;refine bg (fun hx=> ?_) (fun hx=> ?_)
 · refine ae ?_;show[L.i 0]=[L.i (b6 n)]
   unfold b6;rw[au (ht.1 hx)]
 · have hn:¬(n<0∨4096<n):=fun h=>by rw[ht.2 h]at hx;cases hx
   refine dt (n:=20+n) (by rfl) om om (nW ?_);refine dt (n:=24+n) oO om om (nW ?_);refine dt (n:=n+31) oO om om (nW ?_);refine b5 (l:= .i ((n+31) /8)) (by
    show(if(8:Int)≠0 then some (L.i (IntKind.wrap .i64 ((n+31).tdiv 8)))else none)=_;rw[au dc,Di om,wrap64 om om]) ?_
   refine nW ?_;refine kY (n:=(n+31) /8*8) (by rfl) om om (nW ?_);refine ae ?_;show[L.i _]=[L.i (b6 n)]
   unfold b6;rw[aE hn]
theorem Rh (n:Int):F5 [.i n]=some [.i (b6 n)]:=by
 refine a_ ?_;unfold Px;refine aH (cV (n<0∨4096<n)) ?_ ?_
 · (repeat' first| (refine aP rfl (fun hx=> ?_) (fun hx=> ?_))| (refine uT rfl ?_));all_goals (refine ae ?_;show cV _ _;try dsimp only[At.ev,d1,d2,d3,d4,d5,d6,d7,d8,d9,e0,List.map,bp,Kd.pv];first|exact cz om|exact fl om|exact fG om|exact sj om)
 rintro _ ⟨t,rfl,ht⟩;refine nW ?_;refine bg (fun hx=> ?_) (fun hx=> ?_)
 · refine ae ?_;show[L.i 0]=[L.i (b6 n)]
   unfold b6;rw[au (ht.1 hx)]
 · have hn:¬(n<0∨4096<n):=fun h=>by rw[ht.2 h]at hx;cases hx
   refine dt (n:=20+n) (by rfl) om om (nW ?_);refine dt (n:=24+n) oO om om (nW ?_);refine dt (n:=n+32) oO om om (nW ?_);refine gY (n:=n+31) oO om om (nW ?_);refine b5 (l:= .i ((n+31) /8)) (by
    show(if(8:Int)≠0 then some (L.i (IntKind.wrap .i64 ((n+31).tdiv 8)))else none)=_;rw[au dc,Di om,wrap64 om om]) ?_
   refine nW ?_;refine kY (n:=(n+31) /8*8) (by rfl) om om (nW ?_);refine ae ?_;show[L.i _]=[L.i (b6 n)]
   unfold b6;rw[aE hn]
theorem ady (x:It) {b:Bool} (hb:b=true ↔ iu x=true):u9 [.i x.key,.i x.cookie,.i x.off,.i x.size]=some [.b b]:=by
 have aX:iu x=true ↔ 16≤x.off∧x.off≤1048576∧x.off%8=0∧0≤x.size∧x.size≤4096:=by
   simp only[iu,bt,cg,and_assoc]
 rw[aX]at hb;refine a_ ?_;unfold Kl;refine aH (cV (16≤x.off∧x.off≤1048576∧x.off%8=0∧0≤x.size∧x.size≤4096)) ?_ ?_
 · refine uR ?_;refine aP rfl (fun h1=> ?_) (fun h1=> ?_)
   · refine uR ?_;refine aP rfl (fun h2=> ?_) (fun h2=> ?_)
     · refine b5 (l:= .i (x.off%8)) (by
        show(if(8:Int)≠0 then some (L.i (x.off.tmod 8))else none)=_;rw[au dc,IT om]) ?_
       refine nW ?_
       (repeat' first| (refine aP rfl (fun hx=> ?_) (fun hx=> ?_))| (refine uT rfl ?_));all_goals (refine ae ?_;show cV _ _;try dsimp only[At.ev,d1,d2,d3,d4,d5,d6,d7,d8,d9,e0,List.map,bp,Kd.pv];first|exact cz om|exact fl om|exact fG om|exact sj om)
     · exact ae (fl om)
   · exact ae (fl om)
 rintro _ ⟨t,rfl,ht⟩;refine nW ?_;refine ae ?_;show[L.b t]=[L.b b];rw[iN.2 (ht.trans hb.symm)]
theorem anv (x:It) {b:Bool} (hb:b=true ↔ iu x=true):F7 [.i x.key,.i x.cookie,.i x.off,.i x.size]=some [.b b]:=by
 rw[←ady x hb];rfl
theorem avu (x:It) {b:Bool} (hb:b=true ↔¬iu x=true):F8 [.i x.key,.i x.cookie,.i x.off,.i x.size]=some [.b b]:=by
 obtain⟨c,hc⟩:=du (iu x=true);refine a_ ?_;unfold Ox;refine ay (anv x hc) rfl rfl (uR ?_);refine ae ?_;show[L.b (!c)]=[L.b b]
 have:(!c)=b:=by
  rw[iN,hb,←hc];cases c<;>simp
 rw[this]
theorem Zf (a g r:Int) {b:Bool} (hb:b=true ↔ 0≤a∧a<4∧1≤g∧g≤8∧0≤r∧r<4294967296):tu [.i a,.i g,.i r]=some [.b b]:=by
 refine a_ ?_;unfold OO;refine aH (cV (0≤a∧a<4∧1≤g∧g≤8∧0≤r∧r<4294967296)) ?_ ?_
 · (repeat' first| (refine aP rfl (fun hx=> ?_) (fun hx=> ?_))| (refine uT rfl ?_));all_goals (refine ae ?_;show cV _ _;try dsimp only[At.ev,d1,d2,d3,d4,d5,d6,d7,d8,d9,e0,List.map,bp,Kd.pv];first|exact cz om|exact fl om|exact fG om|exact sj om)
 rintro _ ⟨t,rfl,ht⟩;refine nW ?_;refine ae ?_;show[L.b t]=[L.b b];rw[iN.2 (ht.trans hb.symm)]
theorem awh (a g r:Int) {b:Bool} (hb:b=true ↔ 0≤a∧a<4∧1≤g∧g≤8∧0≤r∧r<4294967296):JK [.i a,.i g,.i r]=some [.b b]:=by
 refine a_ ?_;unfold afQ;refine aH (cV (0≤a∧a<4∧1≤g∧g≤8∧0≤r∧r<4294967296)) ?_ ?_
 · (repeat' first| (refine aP rfl (fun hx=> ?_) (fun hx=> ?_))| (refine uT rfl ?_));all_goals (refine ae ?_;show cV _ _;try dsimp only[At.ev,d1,d2,d3,d4,d5,d6,d7,d8,d9,e0,List.map,bp,Kd.pv];first|exact cz om|exact fl om|exact fG om|exact sj om)
 rintro _ ⟨t,rfl,ht⟩;refine nW ?_;refine ae ?_;show[L.b t]=[L.b b];rw[iN.2 (ht.trans hb.symm)]
def od (l:List It) (i:Nat):Prop:=∀(h:i<l.length) (_:0<i),(l[i-1]'om).key<l[i].key
theorem PU {l:List It}:jR l ↔∀i,od l i:=by
 constructor
 · intro h i hi h0;exact SI.1 h (i-1) i om hi om
 · intro h;refine SI.2 fun i j hi hj CJ=> ?_
   induction j with
   |zero=>omega
   |succ j ih=>
    have h1:=h (j+1) hj om;simp only[Nat.add_sub_cancel]at h1;by_cases he:i=j
    · subst he;exact h1
    · have:=ih om om;omega
def yx (l:List It) (i:Nat):Prop:=∀h:i<l.length,iu l[i]=true
theorem azb {l:List It}:VL l ↔∀i,i<l.length→yx l i∧od l i:=by
 unfold VL;rw[PU];constructor
 · rintro⟨h1,h2⟩ i _;exact⟨fun hi=>h2 _ (b9 hi),h1 i⟩
 · intro h;refine⟨fun i hi=> (h i hi).2 hi,fun x hx=> ?_⟩;obtain⟨i,hi,rfl⟩:=lQ hx;exact(h i hi).1 hi
theorem Ot (l:List It) (hl:l.length≤4294967296) {b:Bool} (hb:b=true ↔ VL l):rl [.r (l.map aU)]=some [.b b]:=by
 rw[azb]at hb;refine a_ ?_;unfold Tk;refine aH (fun xs=>xs=[]∧b=true) ?_ ?_;rotate_left
 · rintro _ ⟨rfl,h⟩;refine nW ?_;refine ae ?_;show[L.b true]=[.b b]
   rw[h]
 refine wp_loop (I:=fun a=>∃i:Nat,a=[.i i]∧i≤l.length∧∀j,j<i→yx l j∧od l j) (mu:=fun a=>match a with|[.i i]=>l.length-i.toNat|_=>0) ⟨0,rfl,om,fun j hj=>by omega⟩ ?_;rintro a ⟨i,rfl,e1,e2⟩;refine uR ?_;refine aP rfl (fun hc=> ?_) (fun hc=> ?_);rotate_left
 · rw[ax]at hc;exact ae ⟨rfl,hb.2 fun j hj=>e2 j om⟩
 rw[ax]at hc;have hi:i<l.length:=om;refine aH (cV (¬(yx l i∧od l i))) ?_ ?_;rotate_left
 · rintro _ ⟨u,rfl,hu⟩;refine nW ?_;refine bg (fun hy=> ?_) (fun hy=> ?_)
   · refine ae ?_;show[L.b false]=[.b b]
     rw[fF hb fun h=>hu.1 hy (h i hi)]
   have hg:yx l i∧od l i:=gP.1 fun h=>by
     have hy:u=false:=hy;rw[hu.2 h]at hy;cases hy
   refine bP (i:=i) rfl om (nW ?_);refine ae ⟨⟨i+1,rfl,om,fun j hj=> ?_⟩,?_⟩
   · by_cases he:j=i
     · subst he;exact hg
     · exact e2 j om
   · show l.length- ((i+1:Nat):Int).toNat<l.length-i;omega
 refine bz (f:=aU) (j:=i) rfl rfl hi rfl (uR ?_);obtain⟨c,hc1⟩:=du (iu l[i]=true);refine ay (ady l[i] hc1) rfl rfl (uR ?_);refine bg (fun hy=> ?_) (fun hy=> ?_)
 · have hy:(!c)=true:=hy;exact ae (cz fun h=>by rw[hc1.2 (h.1 hi)]at hy;cases hy)
 have hy:(!c)=false:=hy;have aX:=hc1.1 (by simpa using hy);refine uR ?_;refine aP rfl (fun hz=> ?_) (fun hz=> ?_)
 · have h0:0<i:=om;refine bz (f:=aU) (j:=i) rfl rfl hi rfl (uR ?_);refine gY (n:=((i-1:Nat):Int)) oO om om (nW ?_);refine bz (f:=aU) (j:=i-1) rfl rfl om rfl (uR ?_);exact ae (fG (show l[i].key≤(l[i-1]'om).key ↔ _ from⟨fun h k=>by have:=k.2 hi h0;omega,fun h=>Dj fun k=>h ⟨fun _=>aX,fun _ _=>by omega⟩⟩))
 · exact ae (fl fun h=>h ⟨fun _=>aX,fun _ k=>absurd k om⟩)
theorem atr (l:List It) (hl:l.length≤4294967296) {b:Bool} (hb:b=true ↔ jR l):F9 [.r (l.map aU)]=some [.b b]:=by
 rw[PU]at hb;refine a_ ?_;unfold Kw;refine aH (fun xs=>xs=[]∧b=true) ?_ ?_;rotate_left
 · rintro _ ⟨rfl,h⟩;refine nW ?_;refine ae ?_;show[L.b true]=[.b b]
   rw[h]
 refine uR ?_;refine wp_loop (I:=fun a=>∃i:Nat,a=[.i i]∧i≤l.length∧∀j,j<i→od l j) (mu:=fun a=>match a with|[.i i]=>l.length-i.toNat|_=>0) ⟨0,rfl,om,fun j hj=>by omega⟩ ?_;rintro a ⟨i,rfl,e1,e2⟩;refine uR ?_;refine aP rfl (fun hc=> ?_) (fun hc=> ?_);rotate_left
 · rw[ax]at hc;exact ae ⟨rfl,hb.2 fun j=>by
     by_cases hj:j<i
     · exact e2 j hj
     · exact fun h _=>by omega⟩
 rw[ax]at hc;have hi:i<l.length:=om;refine bz (f:=aU) (j:=i) rfl rfl hi rfl (uR ?_);refine aH (cV (¬od l i)) ?_ ?_;rotate_left
 · rintro _ ⟨u,rfl,hu⟩;refine nW ?_;refine bg (fun hy=> ?_) (fun hy=> ?_)
   · refine ae ?_;show[L.b false]=[.b b]
     rw[fF hb fun h=>hu.1 hy (h i)]
   have hg:od l i:=gP.1 fun h=>by
     have hy:u=false:=hy;rw[hu.2 h]at hy;cases hy
   refine bP (i:=i) rfl om (nW ?_);refine ae ⟨⟨i+1,rfl,om,fun j hj=> ?_⟩,?_⟩
   · by_cases he:j=i
     · subst he;exact hg
     · exact e2 j om
   · show l.length- ((i+1:Nat):Int).toNat<l.length-i;omega
 refine uR ?_;refine aP rfl (fun hz=> ?_) (fun hz=> ?_)
 · have h0:0<i:=om;refine gY (n:=((i-1:Nat):Int)) oO om om (nW ?_);refine bz (f:=aU) (j:=i-1) rfl rfl om rfl (uR ?_);exact ae (fG (show l[i].key≤(l[i-1]'om).key ↔ _ from⟨fun h k=>by have:=k hi h0;omega,fun h=>Dj fun k=>h fun _ _=>by omega⟩))
 · exact ae (fl fun h=>h fun _ k=>absurd k om)
theorem Wq (l:List It) (hl:l.length≤4294967296):∃r:Int,wZ [.r (l.map aU)]=some [.i r]∧(0≤r ↔¬∀x∈l,iu x=true):=by
 have run:ad.wp Fi [.r (l.map aU)] (b8 fun x=>∃r:Int,x=[.i r]∧(0≤r ↔¬∀x∈l,iu x=true)):=by
  unfold Fi;refine aH (fun xs=>xs=[]∧∀x∈l,iu x=true) ?_ ?_;rotate_left
  · rintro _ ⟨rfl,h⟩;refine nW ?_;exact ae ⟨-1,rfl,fun h=>by omega,fun h'=>absurd h h'⟩
  refine uR ?_;refine wp_loop (I:=fun a=>∃i:Nat,a=[.i i]∧i≤l.length∧∀j,j<i→yx l j) (mu:=fun a=>match a with|[.i i]=>l.length-i.toNat|_=>0) ⟨0,rfl,om,fun j hj=>by omega⟩ ?_;rintro a ⟨i,rfl,e1,e2⟩;refine uR ?_;refine aP rfl (fun hc=> ?_) (fun hc=> ?_);rotate_left
  · rw[ax]at hc;refine ae ⟨rfl,fun x hx=> ?_⟩;obtain⟨j,hj,rfl⟩:=lQ hx;exact e2 j om hj
  rw[ax]at hc;have hi:i<l.length:=om;refine bz (f:=aU) (j:=i) rfl rfl hi rfl (uR ?_);obtain⟨c,hc1⟩:=du (¬iu l[i]=true);refine ay (avu l[i] hc1) rfl rfl (nW ?_);refine bg (fun hy=> ?_) (fun hy=> ?_)
  · exact ae ⟨i,rfl,fun _ h=>hc1.1 hy (h _ (b9 hi)),fun _=>by omega⟩
  · have hg:yx l i:=fun _=>gP.1 fun h=>by
      have hy:c=false:=hy;rw[hc1.2 h]at hy;cases hy
    refine bP (i:=i) rfl om (nW ?_);refine ae ⟨⟨i+1,rfl,om,fun j hj=> ?_⟩,?_⟩
    · by_cases he:j=i
      · subst he;exact hg
      · exact e2 j om
    · show l.length- ((i+1:Nat):Int).toNat<l.length-i;omega
 obtain⟨o,h1,r,rfl,h2⟩:=iS run;exact⟨r,h1,h2⟩
theorem alv (l:List It) (hl:l.length≤4294967296) {b:Bool} (hb:b=true ↔ VL l):BW [.r (l.map aU)]=some [.b b]:=by
 obtain⟨r,Sj,hr⟩:=Wq l hl;have h87:BO [.r (l.map aU)]=some [.b (decide (0≤r))]:=by
   refine a_ ?_;unfold Kp;refine ay Sj rfl rfl (uR ?_);exact ae rfl
 obtain⟨c,hc⟩:=du (jR l);refine a_ ?_;unfold OR;refine aH (cV (VL l)) ?_ ?_
 · refine ay (atr l hl hc) rfl rfl (nW ?_);refine bg (fun hy=> ?_) (fun hy=> ?_)
   · refine ay h87 rfl rfl (uR ?_);exact ae (sj (show¬0≤r ↔ _ by rw[hr,gP];exact⟨fun h=> ⟨hc.1 hy,h⟩,fun h=>h.2⟩))
   · have hy:c=false:=hy;exact ae (fl fun h=>by rw[hc.2 h.1]at hy;cases hy)
 rintro _ ⟨t,rfl,ht⟩;refine nW ?_;refine ae ?_;show[L.b t]=[L.b b];rw[iN.2 (ht.trans hb.symm)]
theorem dV {ρ:List L} {Q:Lf×List L→Prop} {k:ad} {α:Type} {f:α→List PV} {l:List α} {x i:At} {j c:Nat} {kd:Kd} {q:PV} {y:L} (hx:(x.ev ρ).ah=l.map f) (hi:(i.ev ρ).af=j) (hj:j<l.length) (hq:(f l[j])[c]? =some q) (hd:kd.of q=some y) (hk:k.wp (ρ++ [y]) Q):(ad.op (.rc x i c kd) k).wp ρ Q:=
 mm (by rw[hx,hi,gd,bO,bX hj];rfl) hq hd hk
theorem aBG (l:List It) (hl:l.length≤4294967296) {b:Bool} (hb:b=true ↔ jR l):ym [.r (l.map aU)]=some [.b b]:=by
 rw[PU]at hb;refine a_ ?_;unfold NB;refine aH (fun xs=>xs=[]∧b=true) ?_ ?_;rotate_left
 · rintro _ ⟨rfl,h⟩;refine nW ?_;refine ae ?_;show[L.b true]=[.b b]
   rw[h]
 refine uR ?_;refine wp_loop (I:=fun a=>∃i:Nat,a=[.i i]∧i≤l.length∧∀j,j<i→od l j) (mu:=fun a=>match a with|[.i i]=>l.length-i.toNat|_=>0) ⟨0,rfl,om,fun j hj=>by omega⟩ ?_;rintro a ⟨i,rfl,e1,e2⟩;refine uR ?_;refine aP rfl (fun hc=> ?_) (fun hc=> ?_);rotate_left
 · rw[ax]at hc;exact ae ⟨rfl,hb.2 fun j=>by
     by_cases hj:j<i
     · exact e2 j hj
     · exact fun h _=>by omega⟩
 rw[ax]at hc;have hi:i<l.length:=om;refine bz (f:=aU) (j:=i) rfl rfl hi rfl (nW ?_);refine dV (f:=aU) (j:=i) rfl rfl hi rfl rfl (nW ?_);refine dV (f:=aU) (j:=i) rfl rfl hi rfl rfl (nW ?_);refine dV (f:=aU) (j:=i) rfl rfl hi rfl rfl (nW ?_);refine dV (f:=aU) (j:=i) rfl rfl hi rfl rfl (nW ?_);refine aH (cV (¬od l i)) ?_ ?_;rotate_left
 · rintro _ ⟨u,rfl,hu⟩;refine nW ?_;refine bg (fun hy=> ?_) (fun hy=> ?_)
   · refine ae ?_;show[L.b false]=[.b b]
     rw[fF hb fun h=>hu.1 hy (h i)]
   have hg:od l i:=gP.1 fun h=>by
     have hy:u=false:=hy;rw[hu.2 h]at hy;cases hy
   refine bP (i:=i) rfl om (nW ?_);refine ae ⟨⟨i+1,rfl,om,fun j hj=> ?_⟩,?_⟩
   · by_cases he:j=i
     · subst he;exact hg
     · exact e2 j om
   · show l.length- ((i+1:Nat):Int).toNat<l.length-i;omega
 refine uR ?_;refine aP rfl (fun hz=> ?_) (fun hz=> ?_)
 · have h0:0<i:=om;refine gY (n:=((i-1:Nat):Int)) oO om om (nW ?_);refine bz (f:=aU) (j:=i-1) rfl rfl om rfl (nW ?_);refine dV (f:=aU) (j:=i-1) rfl rfl om rfl rfl (uR ?_);exact ae (fG (show l[i].key≤(l[i-1]'om).key ↔ _ from⟨fun h k=>by have:=k hi h0;omega,fun h=>Dj fun k=>h fun _ _=>by omega⟩))
 · exact ae (fl fun h=>h fun _ k=>absurd k om)
theorem apk (l:List It) (hl:l.length≤4294967296) {b:Bool} (hb:b=true ↔ VL l):PW [.r (l.map aU)]=some [.b b]:=by
 obtain⟨r,Sj,hr⟩:=Wq l hl;have aIy:I6 [.r (l.map aU)]=some [.b (decide (0≤r))]:=by
   refine a_ ?_;unfold Tm;refine ay Sj rfl rfl (uR ?_);exact ae rfl
 obtain⟨c,hc⟩:=du (jR l);refine a_ ?_;unfold TL;refine aH (cV (VL l)) ?_ ?_
 · refine ay (aBG l hl hc) rfl rfl (nW ?_);refine bg (fun hy=> ?_) (fun hy=> ?_)
   · refine ay aIy rfl rfl (uR ?_);exact ae (sj (show¬0≤r ↔ _ by rw[hr,gP];exact⟨fun h=> ⟨hc.1 hy,h⟩,fun h=>h.2⟩))
   · have hy:c=false:=hy;exact ae (fl fun h=>by rw[hc.2 h.1]at hy;cases hy)
 rintro _ ⟨t,rfl,ht⟩;refine nW ?_;refine ae ?_;show[L.b t]=[L.b b];rw[iN.2 (ht.trans hb.symm)]
def jo (a g r n:Int) (l:List It):Prop:=(0≤a∧a<4∧1≤g∧g≤8∧0≤r∧r<4294967296)∧16≤n∧n≤524288∧VL l∧∀x∈l,x.off+b6 x.size≤n
def zX (l:List It) (n:Int) (i:Nat):Prop:=∀h:i<l.length,l[i].off+b6 l[i].size≤n
theorem Mu {l:List It} {n:Int} (h:∀j,j<l.length→zX l n j):∀x∈l,x.off+b6 x.size≤n:=fun x hx=>by
 obtain⟨j,hj,rfl⟩:=lQ hx;exact h j hj hj
theorem Cj (n:Int):0≤b6 n∧b6 n≤4120:=by unfold b6;split<;>omega
theorem DL {x:It} (h:iu x=true):16≤x.off∧x.off≤1048576∧0≤x.size∧x.size≤4096:=by
 simp only[iu,bt,cg]at h;omega
theorem abZ (a g r n:Int) (m4 m5 m6 m7 m8 m9:L) (l:List It) (hl:l.length≤4294967296) {b:Bool} (hb:b=true ↔ jo a g r n l):vv [.i a,.i g,.i r,.i n,m4,m5,m6,m7,m8,m9,.r (l.map aU)]=some [.b b]:=by
 obtain⟨bs,iK⟩:=du (0≤a∧a<4∧1≤g∧g≤8∧0≤r∧r<4294967296);obtain⟨bv,oN⟩:=du (VL l);refine a_ ?_;unfold QW;refine aH (cV (¬((0≤a∧a<4∧1≤g∧g≤8∧0≤r∧r<4294967296)∧16≤n∧n≤524288∧VL l))) ?_ ?_
 · refine ay (Zf a g r iK) rfl rfl (uR ?_);refine bg (fun hx=> ?_) (fun hx=> ?_)
   · have hx:(!bs)=true:=hx;exact ae (cz fun h=>by rw[iK.2 h.1]at hx;cases hx)
   have hx:(!bs)=false:=hx;have C1:=iK.1 (by simpa using hx);refine uR ?_;refine aP rfl (fun h1=> ?_) (fun h1=> ?_)
   · exact ae (cz fun h=>by have:=h.2.1;omega)
   refine uR ?_;refine aP rfl (fun h2=> ?_) (fun h2=> ?_)
   · exact ae (cz fun h=>by have:=h.2.2.1;omega)
   refine ay (Ot l hl oN) rfl rfl (uR ?_);refine ae ⟨!bv,rfl,?_⟩;constructor
   · intro h k;rw[oN.2 k.2.2.2]at h;cases h
   · intro h
     cases hq:bv with
     |false=>rfl
     |true=>exact absurd ⟨C1,om,om,oN.1 hq⟩ h
 rintro _ ⟨t,rfl,ht⟩;refine nW ?_;refine bg (fun hx=> ?_) (fun hx=> ?_)
 · refine ae ?_;show[L.b false]=[.b b]
   rw[fF hb fun h=>ht.1 hx ⟨h.1,h.2.1,h.2.2.1,h.2.2.2.1⟩]
 have hx:t=false:=hx;have aX:=gP.1 fun h=>by rw[ht.2 h]at hx;cases hx
 refine aH (fun xs=>xs=[]∧b=true) ?_ ?_;rotate_left
 · rintro _ ⟨rfl,h⟩;refine nW ?_;refine ae ?_;show[L.b true]=[.b b]
   rw[h]
 refine wp_loop (I:=fun a=>∃i:Nat,a=[.i i]∧i≤l.length∧∀j,j<i→zX l n j) (mu:=fun a=>match a with|[.i i]=>l.length-i.toNat|_=>0) ⟨0,rfl,om,fun j hj=>by omega⟩ ?_;rintro a ⟨i,rfl,e1,e2⟩;refine uR ?_;refine aP rfl (fun hc=> ?_) (fun hc=> ?_);rotate_left
 · rw[ax]at hc;exact ae ⟨rfl,hb.2 ⟨aX.1,aX.2.1,aX.2.2.1,aX.2.2.2,Mu fun j hj=>e2 j om⟩⟩
 rw[ax]at hc;have hi:i<l.length:=om;have h1:=DL (aX.2.2.2.2 _ (b9 hi));have h2:=Cj l[i].size;refine bz (f:=aU) (j:=i) rfl rfl hi rfl (uR ?_);refine nW ?_;refine bz (f:=aU) (j:=i) rfl rfl hi rfl (uR ?_);refine nW ?_;refine ay (E4 l[i].size) rfl rfl (nW ?_);refine dt (n:=l[i].off+b6 l[i].size) (by rfl) om om (uR ?_);refine aP rfl (fun hy=> ?_) (fun hy=> ?_)
 · refine ae ?_;show[L.b false]=[.b b]
   rw[fF hb fun h=>by have:=h.2.2.2.2 _ (b9 hi);omega]
 · refine bP (i:=i) rfl om (nW ?_);refine ae ⟨⟨i+1,rfl,om,fun j hj=> ?_⟩,?_⟩
   · by_cases he:j=i
     · subst he;exact fun _=>om
     · exact e2 j om
   · show l.length- ((i+1:Nat):Int).toNat<l.length-i;omega
theorem apu (a g r n:Int) (m4 m5 m6 m7 m8 m9:L) (l:List It) (hl:l.length≤4294967296) {b:Bool} (hb:b=true ↔ jo a g r n l):Nu [.i a,.i g,.i r,.i n,m4,m5,m6,m7,m8,m9,.r (l.map aU)]=some [.b b]:=by
 obtain⟨bs,iK⟩:=du (0≤a∧a<4∧1≤g∧g≤8∧0≤r∧r<4294967296);obtain⟨bv,oN⟩:=du (VL l);refine a_ ?_;unfold ZA;refine aH (cV (¬((0≤a∧a<4∧1≤g∧g≤8∧0≤r∧r<4294967296)∧16≤n∧n≤524288∧VL l))) ?_ ?_
 · refine ay (Zf a g r iK) rfl rfl (uR ?_);refine bg (fun hx=> ?_) (fun hx=> ?_)
   · have hx:(!bs)=true:=hx;exact ae (cz fun h=>by rw[iK.2 h.1]at hx;cases hx)
   have hx:(!bs)=false:=hx;have C1:=iK.1 (by simpa using hx);refine uR ?_;refine aP rfl (fun h1=> ?_) (fun h1=> ?_)
   · exact ae (cz fun h=>by have:=h.2.1;omega)
   refine uR ?_;refine aP rfl (fun h2=> ?_) (fun h2=> ?_)
   · exact ae (cz fun h=>by have:=h.2.2.1;omega)
   refine ay (Ot l hl oN) rfl rfl (uR ?_);refine ae ⟨!bv,rfl,?_⟩;constructor
   · intro h k;rw[oN.2 k.2.2.2]at h;cases h
   · intro h
     cases hq:bv with
     |false=>rfl
     |true=>exact absurd ⟨C1,om,om,oN.1 hq⟩ h
 rintro _ ⟨t,rfl,ht⟩;refine nW ?_;refine bg (fun hx=> ?_) (fun hx=> ?_)
 · refine ae ?_;show[L.b false]=[.b b]
   rw[fF hb fun h=>ht.1 hx ⟨h.1,h.2.1,h.2.2.1,h.2.2.2.1⟩]
 have hx:t=false:=hx;have aX:=gP.1 fun h=>by rw[ht.2 h]at hx;cases hx
 refine aH (fun xs=>xs=[]∧b=true) ?_ ?_;rotate_left
 · rintro _ ⟨rfl,h⟩;refine nW ?_;refine ae ?_;show[L.b true]=[.b b]
   rw[h]
 refine wp_loop (I:=fun a=>∃i:Nat,a=[.i i]∧i≤l.length∧∀j,j<i→zX l n j) (mu:=fun a=>match a with|[.i i]=>l.length-i.toNat|_=>0) ⟨0,rfl,om,fun j hj=>by omega⟩ ?_;rintro a ⟨i,rfl,e1,e2⟩;refine uR ?_;refine aP rfl (fun hc=> ?_) (fun hc=> ?_);rotate_left
 · rw[ax]at hc;exact ae ⟨rfl,hb.2 ⟨aX.1,aX.2.1,aX.2.2.1,aX.2.2.2,Mu fun j hj=>e2 j om⟩⟩
 rw[ax]at hc;have hi:i<l.length:=om;have h1:=DL (aX.2.2.2.2 _ (b9 hi));have h2:=Cj l[i].size;refine bz (f:=aU) (j:=i) rfl rfl hi rfl (nW ?_);refine dV (f:=aU) (j:=i) rfl rfl hi rfl rfl (nW ?_);refine bz (f:=aU) (j:=i) rfl rfl hi rfl (nW ?_);refine dV (f:=aU) (j:=i) rfl rfl hi rfl rfl (nW ?_);refine ay (E4 l[i].size) rfl rfl (nW ?_);refine dt (n:=l[i].off+b6 l[i].size) (by rfl) om om (uR ?_);refine aP rfl (fun hy=> ?_) (fun hy=> ?_)
 · refine ae ?_;show[L.b false]=[.b b]
   rw[fF hb fun h=>by have:=h.2.2.2.2 _ (b9 hi);omega]
 · refine bP (i:=i) rfl om (nW ?_);refine ae ⟨⟨i+1,rfl,om,fun j hj=> ?_⟩,?_⟩
   · by_cases he:j=i
     · subst he;exact fun _=>om
     · exact e2 j om
   · show l.length- ((i+1:Nat):Int).toNat<l.length-i;omega
theorem aju (x:It) (hx:iu x=true) {ls:List L} {n:Int} (hl:ls.length=11) (hn:ls[3]? =some (.i n)) {b:Bool} (hb:b=true ↔ n<x.off+b6 x.size):Of ([.i x.key,.i x.cookie,.i x.off,.i x.size]++ls)=some [.b b]:=by
 match ls,hl with
 |[m0,m1,m2,m3,m4,m5,m6,m7,m8,m9,m10],_=>
  cases hn;have h1:=DL hx;have h2:=Cj x.size;refine a_ ?_;unfold Vg;refine ay (Rh x.size) rfl rfl (nW ?_);refine dt (n:=x.off+b6 x.size) (by rfl) om om (uR ?_);refine ae ?_;show[L.b (decide (n<x.off+b6 x.size))]=[.b b]
  have:decide (n<x.off+b6 x.size)=b:=by rw[iN,cg,hb]
  rw[this]
theorem aqJ (l:List It) (hl:l.length≤4294967296) (hv:∀x∈l,iu x=true) (m0 m1 m2 m4 m5 m6 m7 m8 m9 m10:L) (n:Int):∃r:Int,LF [.r (l.map aU),m0,m1,m2,.i n,m4,m5,m6,m7,m8,m9,m10]=some [.i r]∧(0≤r ↔¬∀x∈l,x.off+b6 x.size≤n):=by
 have run:ad.wp Mj [.r (l.map aU),m0,m1,m2,.i n,m4,m5,m6,m7,m8,m9,m10] (b8 fun x=>∃r:Int,x=[.i r]∧(0≤r ↔¬∀x∈l,x.off+b6 x.size≤n)):=by
  unfold Mj;refine aH (fun xs=>xs=[]∧∀x∈l,x.off+b6 x.size≤n) ?_ ?_;rotate_left
  · rintro _ ⟨rfl,h⟩;refine nW ?_;exact ae ⟨-1,rfl,fun h=>by omega,fun h'=>absurd h h'⟩
  refine uR ?_;refine wp_loop (I:=fun a=>∃i:Nat,a=[.i i]∧i≤l.length∧∀j,j<i→zX l n j) (mu:=fun a=>match a with|[.i i]=>l.length-i.toNat|_=>0) ⟨0,rfl,om,fun j hj=>by omega⟩ ?_;rintro a ⟨i,rfl,e1,e2⟩;refine uR ?_;refine aP rfl (fun hc=> ?_) (fun hc=> ?_);rotate_left
  · rw[ax]at hc;exact ae ⟨rfl,Mu fun j hj=>e2 j om⟩
  rw[ax]at hc;have hi:i<l.length:=om;refine bz (f:=aU) (j:=i) rfl rfl hi rfl (uR ?_);obtain⟨c,hc1⟩:=du (n<l[i].off+b6 l[i].size);refine ay (aju l[i] (hv _ (b9 hi)) (ls:=[m0,m1,m2,.i n,m4,m5,m6,m7,m8,m9,m10]) rfl rfl hc1) rfl rfl (nW ?_);refine bg (fun hy=> ?_) (fun hy=> ?_)
  · exact ae ⟨i,rfl,fun _ h=>by have:=hc1.1 hy;have:=h _ (b9 hi);omega,fun _=>by omega⟩
  · have hg:zX l n i:=fun _=>by
      have hy:c=false:=hy;have:¬n<l[i].off+b6 l[i].size:=fun h=>by rw[hc1.2 h]at hy;cases hy
      omega
    refine bP (i:=i) rfl om (nW ?_);refine ae ⟨⟨i+1,rfl,om,fun j hj=> ?_⟩,?_⟩
    · by_cases he:j=i
      · subst he;exact hg
      · exact e2 j om
    · show l.length- ((i+1:Nat):Int).toNat<l.length-i;omega
 obtain⟨o,h1,r,rfl,h2⟩:=iS run;exact⟨r,h1,h2⟩
theorem aeu (a g r n:Int) (m4 m5 m6 m7 m8 m9:L) (l:List It) (hl:l.length≤4294967296) {b:Bool} (hb:b=true ↔ jo a g r n l):Ey [.i a,.i g,.i r,.i n,m4,m5,m6,m7,m8,m9,.r (l.map aU)]=some [.b b]:=by
 obtain⟨bs,iK⟩:=du (0≤a∧a<4∧1≤g∧g≤8∧0≤r∧r<4294967296);obtain⟨bv,oN⟩:=du (VL l);refine a_ ?_;unfold agv;refine aH (cV (¬((0≤a∧a<4∧1≤g∧g≤8∧0≤r∧r<4294967296)∧16≤n∧n≤524288∧VL l))) ?_ ?_
 · refine ay (awh a g r iK) rfl rfl (uR ?_);refine bg (fun hx=> ?_) (fun hx=> ?_)
   · have hx:(!bs)=true:=hx;exact ae (cz fun h=>by rw[iK.2 h.1]at hx;cases hx)
   have hx:(!bs)=false:=hx;have C1:=iK.1 (by simpa using hx);refine uR ?_;refine aP rfl (fun h1=> ?_) (fun h1=> ?_)
   · exact ae (cz fun h=>by have:=h.2.1;omega)
   refine uR ?_;refine aP rfl (fun h2=> ?_) (fun h2=> ?_)
   · exact ae (cz fun h=>by have:=h.2.2.1;omega)
   refine ay (alv l hl oN) rfl rfl (uR ?_);refine ae ⟨!bv,rfl,?_⟩;constructor
   · intro h k;rw[oN.2 k.2.2.2]at h;cases h
   · intro h
     cases hq:bv with
     |false=>rfl
     |true=>exact absurd ⟨C1,om,om,oN.1 hq⟩ h
 rintro _ ⟨t,rfl,ht⟩;refine nW ?_;refine bg (fun hx=> ?_) (fun hx=> ?_)
 · refine ae ?_;show[L.b false]=[.b b]
   rw[fF hb fun h=>ht.1 hx ⟨h.1,h.2.1,h.2.2.1,h.2.2.2.1⟩]
 have hx:t=false:=hx;have aX:=gP.1 fun h=>by rw[ht.2 h]at hx;cases hx
 obtain⟨q,aIz,hq⟩:=aqJ l hl aX.2.2.2.2 (.i a) (.i g) (.i r) m4 m5 m6 m7 m8 m9 (.r (l.map aU)) n;have aIA:Qe [.r (l.map aU),.i a,.i g,.i r,.i n,m4,m5,m6,m7,m8,m9,.r (l.map aU)]=some [.b (decide (0≤q))]:=by
   refine a_ ?_;unfold Vc;refine ay aIz rfl rfl (uR ?_);exact ae rfl
 refine ay aIA rfl rfl (uR ?_);refine ae ?_;show[L.b (!decide (0≤q))]=[.b b]
 have:(!decide (0≤q))=b:=by
   rw[iN,hb,lO,rS,hq,gP];exact⟨fun h=> ⟨aX.1,aX.2.1,aX.2.2.1,aX.2.2.2,h⟩,fun h=>h.2.2.2.2⟩
 rw[this]
end
section
open Go.RowKit Pl AI
open Classical
attribute [local irreducible] ad.wp
def nz (l:List Nat):cn:=strOfNums (l.map fun n=> ((n:Nat):Int))
theorem B8.sub {a b:List Nat} (h:B8 b) (hs:∀x∈a,x∈b):B8 a:=fun x hx=>h x (hs x hx)
theorem B8.take {a:List Nat} (h:B8 a) (n:Nat):B8 (a.take n):=h.sub fun _ hx=>hU hx
theorem B8.drop {a:List Nat} (h:B8 a) (n:Nat):B8 (a.drop n):=h.sub fun _ hx=>oR hx
theorem atj (c:Int) (k:Nat):sg c k<256:=by
 unfold sg;have h0:0≤c/2^k%256:=aiQ _ dc;have h1:c/2^k%256<256:=Int.emod_lt_of_pos _ dc;omega
theorem xZ (l:List Nat):B8 (dN l):=fun x hx=>by
 simp only[dN,cU,lS,or_false]at hx;rcases hx with rfl|rfl|rfl|rfl<;>exact atj _ _
theorem aBJ {a b:List Nat} (ha:B8 a) (hb:B8 b):((nz a).toList==(nz b).toList)=true ↔ a=b:=by
 rw[beq_iff_eq,Lib.toList_data,Lib.toList_data];unfold nz;rw[strOfNums_data,strOfNums_data,iP,iP];constructor
 · intro h;have hlen:a.length=b.length:=by simpa using cI List.length h
   refine SX hlen fun i h1 h2=> ?_
   have hi:=cI (·[i]?) h;simp only[bO,bX h1,bX h2,aJ,im,Function.comp,gd]at hi;have e1:=ha _ (b9 h1);have e2:=hb _ (b9 h2);have:=cI UInt8.toNat hi;simpa[UInt8.toNat_ofNat,IM e1,IM e2]using this
 · intro h;rw[h]
section
variable {ρ:List L} {Q:Lf×List L→Prop} {k:ad}
theorem pw {x:At} {l:List Nat} (hx:(x.ev ρ).ah=l.map b1) (hk:k.wp (ρ++ [.s (nz l)]) Q):(ad.op (.str x) k).wp ρ Q:=lW (by
 show(lj (x.ev ρ).ah).map _=_;rw[hx,awM];rfl) hk
theorem BK {x y:At} {a b:List Nat} (hx:(x.ev ρ).cv=nz a) (hy:(y.ev ρ).cv=nz b) (ha:B8 a) (hb:B8 b) {t:Bool} (ht:t=true ↔ a≠b) (hk:k.wp (ρ++ [.b t]) Q):(ad.op (.bs .neq x y) k).wp ρ Q:=pd (by
 show some (L.b (!((x.ev ρ).cv.toList==(y.ev ρ).cv.toList)))=_;rw[hx,hy];have:(!((nz a).toList==(nz b).toList))=t:=by
  rw[iN,ht,lO,←Bool.not_eq_true];exact not_congr (aBJ ha hb)
 rw[this]) hk
theorem cM {x lo hi:At} {l:List Nat} {a c:Nat} (hx:(x.ev ρ).ah=l.map b1) (dr:(lo.ev ρ).af=a) (eC:(hi.ev ρ).af=c) (h1:a≤c) (h2:c≤l.length) (hk:k.wp (ρ++ [.r (((l.take c).drop a).map b1)]) Q):(ad.op (.part x lo hi 1) k).wp ρ Q:=
 AH ⟨by rw[dr];omega,by rw[dr,eC];omega,by rw[eC,hx,ax];omega,by rw[hx];exact kZ _⟩ (by rw[hx,dr,eC,gd,gd,←p8,←p7]) hk
theorem qq {x:At} {v:BitVec 64} (h:(x.ev ρ).af=(v.toNat:Int)) (hk:k.wp (ρ++ [.i v.toInt]) Q):(ad.op (.conv .i64 x) k).wp ρ Q:=ra (by rw[h,KF,Ak]) hk
end
def yP (b:List Nat):It:=⟨((val (b.take 8)).toNat:Int),IntKind.wrap .u32 ((val ((b.take 12).drop 8)).toNat:Int),(val ((b.take 16).drop 12)).toInt,(val ((b.take 20).drop 16)).toInt⟩
noncomputable def dec:Nat→List Nat→List It→List L
 |0,_,_=> []
 |f+1,b,acc=>if b=[]then(if VL acc then[.i 0,.r (acc.map aU)]else[.i 3,.r []])else if b.length<24 then[.i 4,.r []]else if dN (b.take 20)≠(b.take 24).drop 20 then[.i 5,.r []]else dec f (b.drop 24) (acc++ [yP b])
theorem sO (l:List It):bA 4 (l.map aU)=true:=by
 unfold bA;rw[bk];intro r hr;obtain⟨n,_,rfl⟩:=dy.1 hr;rfl
theorem atz (b:List Nat) (hb:B8 b) (hl:b.length≤4294967296):N4 [.r (b.map b1)]=some (dec (b.length+1) b []):=by
 obtain⟨o,ho⟩:∃o,dec (b.length+1) b []=o:=⟨_,rfl⟩
 rw[ho];refine a_ ?_;unfold WG;refine aH (fun xs=>∃acc:List It,xs=[.r (acc.map aU)]∧acc.length≤b.length∧o=if VL acc then[.i 0,.r (acc.map aU)]else[.i 3,.r []]) ?_ ?_;rotate_left
 · rintro _ ⟨acc,rfl,h1,h2⟩;refine nW ?_;obtain⟨c,hc⟩:=du (VL acc);refine ay (apk acc om hc) rfl rfl (uR ?_);refine bg (fun hx=> ?_) (fun hx=> ?_)
   · have hx:(!c)=true:=hx;refine ae ?_;show[L.i 3,L.r []]=o;rw[h2,aE fun h=>by rw[hc.2 h]at hx;cases hx]
   · have hx:(!c)=false:=hx;refine ae ?_;show[L.i 0,L.r (acc.map aU)]=o;rw[h2,au (hc.1 (by simpa using hx))]
 refine wp_loop (I:=fun a=>∃(cur:List Nat) (acc:List It) (f:Nat),a=[.r (cur.map b1),.r (acc.map aU)]∧B8 cur∧cur.length<f∧acc.length+cur.length≤b.length∧dec f cur acc=o) (mu:=fun a=>match a with|[.r r,_]=>r.length|_=>0) ⟨b,[],b.length+1,rfl,hb,om,by simp,ho⟩ ?_;rintro a ⟨cur,acc,f,rfl,e1,e2,e3,e4⟩
 cases f with
 |zero=>omega
 |succ f=>
 rw[dec]at e4;refine uR ?_;refine aP rfl (fun hc=> ?_) (fun hc=> ?_);rotate_left
 · rw[ax]at hc;have hnil:cur=[]:=iq om;rw[au hnil]at e4;exact ae ⟨acc,rfl,om,e4.symm⟩
 rw[ax]at hc;rw[aE fun h=>by rw[h]at hc;simp at hc]at e4;refine uR ?_;refine aP rfl (fun hx=> ?_) (fun hx=> ?_)
 · rw[ax]at hx;rw[au om]at e4;refine ae ?_;show[L.i 4,L.r []]=o;exact e4
 rw[ax]at hx;rw[aE om]at e4;refine uR ?_;refine cM (a:=0) (c:=20) rfl rfl rfl om om (nW ?_);refine ay (ast _ (by rw[fw,dX];omega)) rfl rfl (uR ?_);refine cM (a:=20) (c:=24) rfl rfl rfl om om (nW ?_);rw[rW];obtain⟨t,ht⟩:=du (dN (cur.take 20)=(cur.take 24).drop 20);refine ay (LB _ _ (xZ _) ((e1.take _).drop _) (by show 4≤_;omega) ht) rfl rfl (uR ?_);refine bg (fun hy=> ?_) (fun hy=> ?_)
 · have hy:(!t)=true:=hy;rw[au fun h=>by rw[ht.2 h]at hy;cases hy]at e4;refine ae ?_;show[L.i 5,L.r []]=o;exact e4
 have hy:(!t)=false:=hy;rw[aE (gP.2 (ht.1 (by simpa using hy)))]at e4;have hlen:∀a c,((cur.take c).drop a).length≤4294967296:=fun a c=>by rw[fw,dX];omega
 refine uR ?_;refine cM (a:=0) (c:=8) rfl rfl rfl om om (nW ?_);refine ay (z8 _ ((e1.take _).drop _) (hlen _ _)) rfl rfl (uR ?_);refine cM (a:=8) (c:=12) rfl rfl rfl om om (nW ?_);refine ay (z8 _ ((e1.take _).drop _) (hlen _ _)) rfl rfl (nW ?_);refine jz (uR ?_);refine cM (a:=12) (c:=16) rfl rfl rfl om om (nW ?_);refine ay (z8 _ ((e1.take _).drop _) (hlen _ _)) rfl rfl (nW ?_);refine qq rfl (uR ?_);refine cM (a:=16) (c:=20) rfl rfl rfl om om (nW ?_);refine ay (z8 _ ((e1.take _).drop _) (hlen _ _)) rfl rfl (nW ?_);refine qq rfl (uR ?_);rw[rW];refine ee (r:=(acc++ [yP cur]).map aU) (sO acc) rfl (by show(acc.map aU).length≤_;rw[ax];omega) (by show(1:Nat)≤_;omega) om (by rw[ej];rfl) (uR ?_);refine cM (a:=24) (c:=cur.length) rfl rfl (by show((cur.map b1).length:Int)=_;rw[ax]) om om ?_;rw[jg];refine nW ?_;refine ae ⟨⟨cur.drop 24,acc++ [yP cur],f,rfl,e1.drop _,by rw[fw];omega,by rw[dL,fw];simp only[um];omega,e4⟩,?_⟩;show((cur.drop 24).map b1).length< (cur.map b1).length;rw[ax,ax,fw];omega
theorem apT (b:List Nat) (hb:B8 b) (hl:b.length≤4294967296):Pd [.r (b.map b1)]=some (dec (b.length+1) b []):=by
 obtain⟨o,ho⟩:∃o,dec (b.length+1) b []=o:=⟨_,rfl⟩
 rw[ho];refine a_ ?_;unfold abI;refine aH (fun xs=>∃acc:List It,xs=[.r (acc.map aU)]∧acc.length≤b.length∧o=if VL acc then[.i 0,.r (acc.map aU)]else[.i 3,.r []]) ?_ ?_;rotate_left
 · rintro _ ⟨acc,rfl,h1,h2⟩;refine nW ?_;obtain⟨c,hc⟩:=du (VL acc);refine ay (Ot acc om hc) rfl rfl (uR ?_);refine bg (fun hx=> ?_) (fun hx=> ?_)
   · have hx:(!c)=true:=hx;refine ae ?_;show[L.i 3,L.r []]=o;rw[h2,aE fun h=>by rw[hc.2 h]at hx;cases hx]
   · have hx:(!c)=false:=hx;refine ae ?_;show[L.i 0,L.r (acc.map aU)]=o;rw[h2,au (hc.1 (by simpa using hx))]
 refine wp_loop (I:=fun a=>∃(at':Nat) (acc:List It) (f:Nat),a=[.i at',.r (acc.map aU)]∧at'≤b.length∧b.length-at'<f∧acc.length≤at'∧dec f (b.drop at') acc=o) (mu:=fun a=>match a with|[.i n,_]=>b.length-n.toNat|_=>0) ⟨0,[],b.length+1,rfl,om,om,by simp,ho⟩ ?_;rintro a ⟨p,acc,f,rfl,e0,e2,e3,e4⟩
 cases f with
 |zero=>omega
 |succ f=>
 rw[dec]at e4;have pN:(b.drop p).length=b.length-p:=fw;refine uR ?_;refine aP rfl (fun hc=> ?_) (fun hc=> ?_);rotate_left
 · rw[ax]at hc;have hnil:b.drop p=[]:=iq om;rw[au hnil]at e4;exact ae ⟨acc,rfl,om,e4.symm⟩
 rw[ax]at hc;rw[aE fun h=>by rw[h]at pN;simp at pN;omega]at e4;refine uR ?_;refine gY (n:=((b.length-p:Nat):Int)) (by show((b.map b1).length:Int) -p=_;rw[ax];omega) om om (uR ?_);refine aP rfl (fun hx=> ?_) (fun hx=> ?_)
 · rw[au om]at e4;refine ae ?_;show[L.i 4,L.r []]=o;exact e4
 rw[aE om]at e4;refine dt (n:=((p+24:Nat):Int)) (by rfl) om om (uR ?_);refine cM (a:=p) (c:=p+24) rfl rfl rfl om om ?_;have hs:(b.take (p+24)).drop p=(b.drop p).take 24:=by rw[List.drop_take];congr 1;omega
 rw[hs];have e1:B8 (b.drop p):=hb.drop _;have zl:(b.drop p).drop 24=b.drop (p+24):=by rw[List.drop_drop]
 rw[zl]at e4;generalize tM:b.drop p=cur at pN e4 e1;have lK:(cur.take 24).length=24:=by rw[dX];omega
 have eZ:∀c,c≤24→(cur.take 24).take c=cur.take c:=fun c h=>by rw[List.take_take,De h]
 refine uR ?_;refine cM (a:=0) (c:=20) rfl rfl rfl om om ?_;rw[eZ 20 om];refine nW ?_;refine ay (P6 _ (by rw[fw,dX];omega)) rfl rfl (nW ?_);refine pw rfl (uR ?_);refine cM (a:=20) (c:=24) rfl rfl (by show(((cur.take 24).map b1).length:Int)=_;rw[ax,lK]) om om ?_;rw[eZ 24 om];refine nW ?_;refine pw rfl (nW ?_);rw[rW];obtain⟨t,ht⟩:=du (dN (cur.take 20)≠(cur.take 24).drop 20);refine BK rfl rfl (xZ _) ((e1.take _).drop _) ht (nW ?_);refine bg (fun hy=> ?_) (fun hy=> ?_)
 · rw[au (ht.1 hy)]at e4;refine ae ?_;show[L.i 5,L.r []]=o;exact e4
 have hy:t=false:=hy;rw[aE fun h=>by rw[ht.2 h]at hy;cases hy]at e4;have hlen:∀a c,((cur.take c).drop a).length≤4294967296:=fun a c=>by rw[fw,dX];omega
 refine uR ?_;refine cM (a:=0) (c:=8) rfl rfl rfl om om ?_;rw[eZ 8 om];refine nW ?_;refine ay (me _ ((e1.take _).drop _) (hlen _ _)) rfl rfl (uR ?_);refine cM (a:=8) (c:=12) rfl rfl rfl om om ?_;rw[eZ 12 om];refine nW ?_;refine ay (me _ ((e1.take _).drop _) (hlen _ _)) rfl rfl (nW ?_);refine jz (uR ?_);refine cM (a:=12) (c:=16) rfl rfl rfl om om ?_;rw[eZ 16 om];refine nW ?_;refine ay (me _ ((e1.take _).drop _) (hlen _ _)) rfl rfl (nW ?_);refine qq rfl (uR ?_);refine cM (a:=16) (c:=20) rfl rfl rfl om om ?_;rw[eZ 20 om];refine nW ?_;refine ay (me _ ((e1.take _).drop _) (hlen _ _)) rfl rfl (nW ?_);refine qq rfl (uR ?_);rw[rW];refine ee (r:=(acc++ [yP cur]).map aU) (sO acc) rfl (by show(acc.map aU).length≤_;rw[ax];omega) (by show(1:Nat)≤_;omega) om (by rw[ej];rfl) (nW ?_);refine dt (n:=((p+24:Nat):Int)) (by rfl) om om (nW ?_);refine ae ⟨⟨p+24,acc++ [yP cur],f,rfl,om,om,by rw[dL];simp only[um];omega,e4⟩,?_⟩;show b.length- ((p+24:Nat):Int).toNat<b.length-p;omega
end
end
end Go.Proofs.YtndegphojkiblaaGreatDoor
