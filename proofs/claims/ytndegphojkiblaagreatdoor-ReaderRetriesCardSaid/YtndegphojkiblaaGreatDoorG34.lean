/- A part of the proof. -/
import Derived.Test.YtndegphojkiblaaGreatDoorG33
set_option linter.all false
set_option maxHeartbeats 4000000
set_option maxRecDepth 100000
namespace Go.Proofs.YtndegphojkiblaaGreatDoor
noncomputable section
section
open Go.RowKit Pl AI
attribute [local irreducible] ae.wp
theorem aoD (l:List It):(l.map ao).all (·.all PV.bare)=true:=Zu (f:=ao) (fun _=>rfl) l
structure Mb (l:List It) (g:Int):Prop where
 s:SL l
 h0:0≤g
 h1:g≤1000000
theorem Mb.wm {l g} (h:Mb l g):WM (fF l g):=aqU h.s g
theorem Mb.mv {l g} (h:Mb l g):MV (fF l g):=atL h.s.v h.h0 (by have:=h.h1;omega)
theorem Dp {l g} (h:Mb l g) (k):uo (fY (fF l g)++ [.i k])=some (kZ (bG l k)):=by
 have:=atQ h.wm h.mv k
 rwa [yb h.s.v]at this
theorem IV {l g} (h:Mb l g):qc (fY (fF l g))=some [.r (l.map ao)]:=by
 have:=D7 h.wm h.mv
 rwa [yb h.s.v]at this
theorem Av (o):0≤eD o∧eD o≤4120:=by
 cases o with
 |none=>exact⟨dc,dc⟩
 |some y=>exact Is y.size
theorem S4 (a b:L) (l):([2,3,4,5,6,7,8,9].all fun i=> ((([a,b]++rS l)[i]?).getD (.b false)).az.all (·.all PV.bare))=true:=by
 have h:=fun s=>aoD (cH l s)
 show((((cH l 0).map ao).all (·.all PV.bare))&& (((cH l 1).map ao).all (·.all PV.bare)&& (((cH l 2).map ao).all (·.all PV.bare)&& (((cH l 3).map ao).all (·.all PV.bare)&& (((cH l 4).map ao).all (·.all PV.bare)&& (((cH l 5).map ao).all (·.all PV.bare)&& (((cH l 6).map ao).all (·.all PV.bare)&& (((cH l 7).map ao).all (·.all PV.bare)&&true))))))))=true;rw[h,h,h,h,h,h,h,h];rfl
theorem atT {l g} (h:Mb l g) (x) (hx:dm x=true) (hk:0≤x.key∧x.key<8):
   Kj (fY (fF l g)++ [.i x.key,.i x.cookie,.i x.off,.i x.size])=some (fY (fF (ins x l) (g+eD (bG l x.key)))):=by
 have hl:=h.s.len;have hb:=Av (bG l x.key);have hg0:=h.h0;have hg1:=h.h1;have HS:=awt l om x;have hs':=h.s.ins hx hk.1 hk.2;have hl':=hs'.len;rw[Dt h.s,ajW h.s.v.1]at HS;have ja:=Vx (l:=ins x l) om hs'.v.2 (g:=g+eD (bG l x.key)) om om;rw[Dt hs']at ja;refine aH ?_;refine aB (fun xs=>xs=[.b false]) ?_ ?_
 · refine ag (FH h.wm (je h.mv)) rfl rfl (uR ?_);refine bj rfl ?_;refine ag (DP x (je hx)) rfl rfl (uR ?_);exact ad rfl
 rintro _ rfl;refine nW ?_;refine bj rfl ?_;refine aB (fun xs=>xs=[.i (eD (bG l x.key))]) ?_ ?_
 · have ee:=Dp h x.key
   cases hf:bG l x.key with
   |none=>
    rw[hf]at ee;simp only[kZ]at ee;refine ag ee rfl rfl (nW ?_);refine bj rfl ?_;exact ad rfl
   |some y=>
    rw[hf]at ee;simp only[kZ]at ee;refine ag ee rfl rfl (nW ?_);refine dX rfl ?_;refine ag (nG y.size) rfl rfl (nW ?_);exact ad rfl
 rintro _ rfl;refine nW ?_;refine cm (n:=g+eD (bG l x.key)) rfl om om (uR ?_);refine ba rfl om ?_;refine ag (IV h) rfl rfl (nW ?_);refine yy (f:=ao) (m:=ins x l) (fun _=>rfl) HS rfl rfl (nW ?_);refine cm (n:=g+eD (bG l x.key)) rfl om om (nW ?_);refine ag ja rfl (S4 _ _ _) (nW ?_);exact ad rfl
theorem awj {k} {l} (h:bG l k=none) (ha:dK l):eb k l=l:=by
 unfold eb;rw[List.filter_eq_self];intro x hx;rw[decide_eq_true_iff];intro e;rw[←e,oA ha.apart hx]at h;cases h
theorem PU {l g} (h:Mb l g) (k:Int):F112 (fY (fF l g)++ [.i k])=some (fY (fF (eb k l) (g+eD (bG l k)))):=by
 have hl:=h.s.len;have hb:=Av (bG l k);have hg0:=h.h0;have hg1:=h.h1;have ee:=Dp h k;have hs':=h.s.drop k;have hl':=hs'.len;have hdr:=avl l om k;rw[Dt h.s]at hdr;have ja:=Vx (l:=eb k l) om hs'.v.2 (g:=g+eD (bG l k)) om om;rw[Dt hs']at ja;refine aH ?_
 cases hf:bG l k with
 |none=>
  rw[hf]at ee;simp only[kZ]at ee;refine ag ee rfl rfl (nW ?_);refine aB (fun xs=>xs=[.b true]) ?_ ?_
  · refine uR ?_;refine dX rfl ?_;exact ad rfl
  rintro _ rfl;refine nW ?_;refine dX rfl (ad ?_);rw[awj hf h.s.v.1,show g+eD none=g by show g+0=g;omega];rfl
 |some y=>
  rw[hf]at ee ja hb;simp only[kZ]at ee;have hb:0≤bU y.size∧bU y.size≤4120:=hb;refine ag ee rfl rfl (nW ?_);refine aB (fun xs=>xs=[.b false]) ?_ ?_
  · refine uR ?_;refine bj rfl ?_;refine ag (nG y.size) rfl rfl (nW ?_);refine cm (n:=g+bU y.size) rfl om om (uR ?_);exact ad (dF om)
  rintro _ rfl;refine nW ?_;refine bj rfl ?_;refine ag (IV h) rfl rfl (nW ?_);refine yy (f:=ao) (m:=eb k l) (fun _=>rfl) hdr rfl rfl (nW ?_);refine ag (nG y.size) rfl rfl (nW ?_);refine cm (n:=g+bU y.size) rfl om om (nW ?_);refine ag ja rfl (S4 _ _ _) (nW ?_);exact ad rfl
theorem auA {l g} (h:Mb l g) {n:Int} (h0:0≤n) (h1:n≤1000000):JY (fY (fF l g)++ [.i n])=some [.i (g+n)]:=by
 have hg0:=h.h0;have hg1:=h.h1;refine aH ?_;refine aB (fun xs=>xs=[.i (g+n)]) ?_ (by rintro _ rfl;refine nW ?_;exact ad rfl);refine aB (fun xs=>xs=[.b true]) ?_ ?_
 · refine ag (FH h.wm (je h.mv)) rfl rfl (uR ?_);refine dX rfl (uR ?_);refine cS rfl om ?_;refine ck (n:=1099511627776-g) rfl om om (uR ?_);exact ad (dT (by show n≤1099511627776-g;omega))
 rintro _ rfl;refine nW ?_;refine dX rfl ?_;refine cm (n:=g+n) rfl om om (nW ?_);exact ad rfl
structure Ge where
 n:Nat
 mode:Int
 l:List It
 cF:Int
def Ge.size (e:Ge):Int:=16+ca e.l+e.cF
def Ge.gn (e:Ge):Gn:=⟨(e.n+1:Nat),0,e.mode,e.size,fF e.l e.cF⟩
structure fr (e:Ge):Prop where
 n8:e.n<8
 m1:1≤e.mode
 m3:e.mode≤3
 s:SL e.l
 cl:e.l.Pairwise Clear
 en:∀x∈e.l,ends x≤e.size
 g0:0≤e.cF
 g8:e.cF%8=0
 sz:e.size≤17000
theorem S5 (n):bU n%8=0:=by unfold bU;split<;>omega
theorem M9:∀l,ca l%8=0
 |[]=>rfl
 |x::l=>by
  have h1:=M9 l;have h2:=S5 x.size;rw[pB];omega
theorem fr.mb {e} (h:fr e):Mb e.l e.cF:=⟨h.s,h.g0,by
 have h1:=h.sz;have h2:=qF e.l;unfold Ge.size at h1;omega⟩
theorem fr.gv {e} (h:fr e):GV e.gn:=by
 have h1:=h.sz;have h2:=qF e.l;have h3:=h.g0;have h4:=h.n8;have h5:=M9 e.l;have h6:=h.g8;refine⟨⟨?_,?_,(by show(0:Int)≤0;omega),(by show(0:Int)<4294967296;omega),h.m1,h.m3⟩,⟨?_,?_,?_⟩,h.mb.mv,?_,rfl⟩
 · show(1:Int)≤((e.n+1:Nat):Int);omega
 · show((e.n+1:Nat):Int)≤8;omega
 · show 16≤e.size;unfold Ge.size;omega
 · show e.size≤_;omega
 · show e.size%8=0;unfold Ge.size;omega
 · show(items (fF e.l e.cF)).Pairwise Clear∧∀x∈items (fF e.l e.cF),ends x≤e.size;rw[yb h.s.v];exact⟨h.cl,h.en⟩
theorem Gc {e} (h:fr e):rU (gN e.gn)=some [.b true]:=asJ (g:=e.gn) h.mb.wm (je h.gv)
theorem YH {e} (h:fr e) (a b:Int) (hm:e.mode=a):EW (gN e.gn++ [.i a,.i b])=some (.i 0::gN (Ge.gn {e with mode:=b})):=by
 refine aH ?_;refine ag (Gc h) rfl rfl (uR ?_);refine bj rfl (uR ?_);refine ba rfl (fun h=>h hm) ?_;exact ad rfl
theorem afg {e} (h:fr e) (hm:e.mode=2):L8 (gN e.gn)=some (.i 0::gN (Ge.gn {e with mode:=3})):=by
 refine aH ?_;refine ag (YH h 2 3 hm) rfl rfl (nW ?_);exact ad rfl
theorem afF {e} (h:fr e) (hm:e.mode=1):Ma (gN e.gn)=some (.i 0::gN (Ge.gn {e with mode:=2})):=by
 refine aH ?_;refine ag (YH h 1 2 hm) rfl rfl (nW ?_);exact ad rfl
theorem Qp {n:Nat} (hn:n<8):GB [.i (n+1:Nat)]=some [.i 0,.i (n+1:Nat),.i 1,.i 16]:=by
 refine aH ?_;refine aB (fun xs=>xs=[.b false]) ?_ ?_
 · refine uR ?_;refine ba rfl om (uR ?_);exact ad (dF om)
 rintro _ rfl;refine nW ?_;refine bj rfl ?_;exact ad rfl
def Ge.del (e:Ge) (k:Int):Ge:={e with l:=eb k e.l,cF:=e.cF+eD (bG e.l k)}
theorem Ge.M2 {e:Ge} (h:dK e.l) (k):(e.del k).size=e.size:=by
 have:=Tk (k:=k) h;show 16+ca (eb k e.l)+(e.cF+eD (bG e.l k))=16+ca e.l+e.cF;omega
theorem SM (o):eD o%8=0:=by
 cases o with
 |none=>rfl
 |some y=>exact S5 y.size
theorem fr.del {e} (h:fr e) (k):fr (e.del k):=by
 have hs:=Ge.M2 h.s.v.1 k;have h0:=Av (bG e.l k);have h1:=SM (bG e.l k);have hg0:=h.g0;have hg8:=h.g8;refine⟨h.n8,h.m1,h.m3,h.s.drop k,h.cl.sublist (Ia),fun x hx=> ?_,?_,?_,?_⟩
 · rw[hs];exact h.en x (qM.1 hx).1
 · show 0≤e.cF+_;omega
 · show(e.cF+_)%8=0;omega
 · rw[hs];exact h.sz
theorem alW {e} (h:fr e) (hm:e.mode≠1) (k:Int):F113 (gN e.gn++ [.r [[.sc (.int .u64 k)]]])=some (.i 0::gN (e.del k).gn):=by
 have hd:=PU h.mb k;refine aH ?_;refine ag (Gc h) rfl rfl (uR ?_);refine bj rfl (uR ?_);refine ba rfl hm ?_;refine aB (fun xs=>xs=fY (fF (eb k e.l) (e.cF+eD (bG e.l k)))) ?_ ?_
 · refine wp_loop (I:=fun a=>a= .i 0::fY (fF e.l e.cF)∨a= .i 1::fY (fF (eb k e.l) (e.cF+eD (bG e.l k)))) (mu:=fun a=>match a with| .i i::_=>1-i.toNat|_=>0) (.inl rfl) ?_;rintro a (rfl|rfl)
   · refine uR ?_;refine cS rfl oO ?_;refine iC (r:=[.sc (.int .u64 k)]) oO rfl rfl (uR ?_);refine ag hd rfl rfl (nW ?_);refine bg (i:=0) rfl om (nW ?_);exact ad ⟨.inr rfl,by show 1- (1:Int).toNat<1- (0:Int).toNat;decide⟩
   · refine uR ?_;refine ba rfl oO ?_;exact ad rfl
 rintro _ rfl;refine nW ?_;refine ad ?_;show(_:List L)=L.i 0::gN (e.del k).gn;unfold gN Ge.gn;dsimp only;rw[Ge.M2 h.s.v.1 k];rfl
structure Nl where
 key:Int
 cookie:Int
 del:Bool
 data:List Nat
def Nl.row (x:Nl):List PV:=[.sc (.int .u64 x.key),.sc (.int .u32 x.cookie),.sc (.bool x.del),.sl (x.data.map b1)]
structure jO (x:Nl):Prop where
 k0:0≤x.key
 k8:x.key<8
 c0:0≤x.cookie
 c4:x.cookie≤4294967295
 d:x.del=true→x.data=[]
 b:B8 x.data
 len:x.data.length≤30
def Ge.item (e:Ge) (x:Nl):It:=⟨x.key,x.cookie,e.size,x.data.length⟩
def Ge.add (e:Ge) (x:Nl):Ge:=if x.del=true then{e with l:=eb x.key e.l,cF:=e.cF+eD (bG e.l x.key)+24}else{e with l:=ins (e.item x) e.l,cF:=e.cF+eD (bG e.l x.key)}
theorem Yr {x:Nl} (h:jO x) (hd:x.del=true):bU (x.data.length:Int)=24:=by rw[h.d hd];rfl
theorem Ge.JB {e:Ge} (h:dK e.l) {x} (hx:jO x):(e.add x).size=e.size+bU x.data.length:=by
 unfold Ge.add;by_cases hd:x.del=true
 · rw[ay hd,Yr hx hd];have:=Tk (k:=x.key) h;show 16+ca (eb x.key e.l)+(e.cF+eD (bG e.l x.key)+24)=16+ca e.l+e.cF+24;omega
 · rw[aC hd];have:=aAH (x:=e.item x) h;have e1:(e.item x).key=x.key:=rfl;have e2:(e.item x).size=(x.data.length:Int):=rfl;rw[e1,e2]at this;show 16+ca (ins (e.item x) e.l)+(e.cF+eD (bG e.l x.key))=16+ca e.l+e.cF+_;omega
theorem G2 {n:Nat} (h:n≤30):24≤bU (n:Int)∧bU (n:Int)≤56:=by unfold bU;split<;>omega
theorem fr.bd {e} (h:fr e):16≤e.size∧e.size%8=0∧0≤ca e.l∧e.cF≤17000:=by
 have h1:=h.sz;have h2:=qF e.l;have h3:=h.g0;have h5:=M9 e.l;have h6:=h.g8;unfold Ge.size at*;omega
theorem ZU {e} (h:fr e) {x} (hx:jO x):dm (e.item x)=true:=by
 have h1:=h.bd;have h2:=h.sz;have h3:=hx.len;simp only[dm,bt,dj];show(((16≤e.size∧e.size≤1048576)∧e.size%8=0)∧0≤(x.data.length:Int))∧(x.data.length:Int)≤4096;omega
theorem fr.add {e} (h:fr e) {x} (hx:jO x) (hs:e.size+bU x.data.length≤17000):fr (e.add x):=by
 have hz:=Ge.JB h.s.v.1 hx;have h0:=Av (bG e.l x.key);have h1:=SM (bG e.l x.key);have h2:=G2 hx.len;have hg0:=h.g0;have hg8:=h.g8;have js:=h.bd;by_cases hd:x.del=true
 · have ea:e.add x={e with l:=eb x.key e.l,cF:=e.cF+eD (bG e.l x.key)+24}:=ay hd;rw[ea]at hz⊢;refine⟨h.n8,h.m1,h.m3,h.s.drop _,h.cl.sublist (Ia),fun y hy=> ?_,?_,?_,?_⟩
   · have:=h.en y (qM.1 hy).1;omega
   · show 0≤e.cF+_+24;omega
   · show(e.cF+_+24)%8=0;omega
   · omega
 · have ea :e.add x={e with l:=ins (e.item x) e.l,cF:=e.cF+eD (bG e.l x.key)}:=aC hd;rw[ea]at hz⊢;have gF:∀y∈e.l,Clear (e.item x) y:=fun y hy=>by
     have h3:=h.en y hy;have h4:=Eb (h.s.v.2 y hy);unfold Clear;unfold ends at h3⊢;show¬(e.size≤y.off∧_)∧¬(y.off≤e.size∧e.size<y.off+bU y.size);omega
   refine⟨h.n8,h.m1,h.m3,h.s.ins (ZU h hx) hx.k0 hx.k8,?_,fun y hy=> ?_,?_,?_,?_⟩
   · have aDM:∀a∈ins (e.item x) e.l,∀b∈ins (e.item x) e.l,a.key≠b.key→Clear a b:=fun a ha b hb hab=>by
       rcases(tE h.s.v.1).1 ha with rfl| ⟨ha,_⟩
       · rcases(tE h.s.v.1).1 hb with rfl| ⟨hb,_⟩
         · exact absurd rfl hab
         · exact gF b hb
       · rcases(tE h.s.v.1).1 hb with rfl| ⟨hb,_⟩
         · exact(gF a ha).symm
         · obtain⟨i,hi,rfl⟩:=iq ha;obtain⟨j,hj,rfl⟩:=iq hb;rcases HZ i j with hij|hij|hij
           · exact jL.1 h.cl i j hi hj hij
           · subst hij;exact absurd rfl hab
           · exact(jL.1 h.cl j i hj hi hij).symm
     refine jL.2 fun i j hi hj hij=>aDM _ (b8 hi) _ (b8 hj) ?_
     have:=jL.1 (Ar (e.item x) h.s.v.1) i j hi hj hij;intro he;have he:(ins (e.item x) e.l)[i].key=(ins (e.item x) e.l)[j].key:=he;omega
   · rcases uv hy with rfl|hy
     · show e.size+bU (x.data.length:Int)≤_;omega
     · have:=h.en y hy;omega
   · show 0≤e.cF+_;omega
   · show(e.cF+_)%8=0;omega
   · omega
theorem aoX {e} (h:fr e) (hm:e.mode=1) {x} (hx:jO x):Jo (gN e.gn++ [.r [x.row]])=some (.i 0::gN (e.add x).gn):=by
 have hz:=Ge.JB h.s.v.1 hx;have js:=h.bd;have hsz:=h.sz;have h2:=G2 hx.len;have jn:=PU h.mb x.key;have hob:=Av (bG e.l x.key);have hit:dm (e.item x)=true:=ZU h hx;have HS:=atT h.mb (e.item x) hit ⟨hx.k0,hx.k8⟩;have rq:=ZB (key:=x.key) (cookie:=x.cookie) (del:=x.del) (data:=x.data) (by have:=hx.len;omega) hx.d;refine aH ?_;refine ag (Gc h) rfl rfl (uR ?_);refine bj rfl ?_;refine aB (fun xs=>xs=[.i (e.size+bU x.data.length)]) ?_ ?_
 · refine wp_loop (I:=fun a=>a=[.i e.size,.i 0]∨a=[.i (e.size+bU x.data.length),.i 1]) (mu:=fun a=>match a with|[_,.i i]=>1-i.toNat|_=>0) (.inl rfl) ?_;rintro a (rfl|rfl)
   · refine uR ?_;refine cS rfl oO ?_;refine iC (r:=x.row) oO rfl rfl (uR ?_);refine ag rq rfl rfl (uR ?_);refine bj rfl ?_;refine iC (r:=x.row) oO rfl rfl (uR ?_);rw[aA];refine ag (nG (x.data.length:Int)) rfl rfl (nW ?_);refine cm (n:=e.size+bU x.data.length) rfl om om (nW ?_);refine bg (i:=0) rfl om (nW ?_);exact ad ⟨.inr rfl,by show 1- (1:Int).toNat<1- (0:Int).toNat;decide⟩
   · refine uR ?_;refine ba rfl oO ?_;exact ad rfl
 rintro _ rfl;refine uR ?_;refine ba rfl (fun h=>h hm) (uR ?_);refine ba rfl om ?_;refine aB (fun xs=>xs= .i (e.add x).size::fY (e.add x).gn.map) ?_ ?_
 · refine wp_loop (I:=fun a=>a= .i 0:: .i e.size::fY (fF e.l e.cF)∨a= .i 1:: .i (e.add x).size::fY (e.add x).gn.map) (mu:=fun a=>match a with| .i i::_=>1-i.toNat|_=>0) (.inl rfl) ?_;rintro a (rfl|rfl)
   · refine uR ?_;refine cS rfl oO ?_;refine iC (r:=x.row) oO rfl rfl (uR ?_);rw[aA];refine ag (nG (x.data.length:Int)) rfl rfl (nW ?_);refine aB (fun xs=>xs=fY (e.add x).gn.map) ?_ ?_
     · by_cases hd:x.del=true
       · have ea:(e.add x).gn.map=fF (eb x.key e.l) (e.cF+eD (bG e.l x.key)+24):=by unfold Ge.add;rw[ay hd];rfl
         have hw:=auA (l:=eb x.key e.l) (g:=e.cF+eD (bG e.l x.key)) ⟨h.s.drop _,by have:=h.g0;omega,om⟩ (n:=24) dc dc;rw[ea];refine dX hd ?_;refine ag jn rfl rfl (nW ?_);rw[Yr hx hd];refine ag hw rfl rfl (nW ?_);exact ad rfl
       · have ea:(e.add x).gn.map=fF (ins (e.item x) e.l) (e.cF+eD (bG e.l x.key)):=by unfold Ge.add;rw[aC hd];rfl
         rw[ea];refine bj (by show x.del=false;simpa using hd) (uR ?_);rw[aA];refine ag HS rfl rfl (nW ?_);exact ad rfl
     rintro _ rfl;refine nW ?_;refine cm (n:=(e.add x).size) hz.symm om om (nW ?_);refine bg (i:=0) rfl om (nW ?_);exact ad ⟨.inr rfl,by show 1- (1:Int).toNat<1- (0:Int).toNat;decide⟩
   · refine uR ?_;refine ba rfl oO ?_;exact ad rfl
 rintro _ rfl;refine nW ?_;refine ad ?_;unfold Ge.add;by_cases hd:x.del=true
 · rw[ay hd];rfl
 · rw[aC hd];rfl
structure dp (gs:List Ge):Prop where
 n1:1≤gs.length
 n8:gs.length≤8
 ok:∀(i:Nat) (h:i<gs.length),fr gs[i]∧gs[i].n=i∧(gs[i].mode=1 ↔ i=gs.length-1)
def gR (e:Ge):List PV:=ky e.gn
abbrev sA (gs:List Ge):List L:=[.i 1,.i 9000,.b false,.r (gs.map gR)]
theorem BA (l:List Ge):bu 14 (l.map gR)=true:=by
 unfold bu;rw[bC];intro x hx;obtain⟨y,_,rfl⟩:=fe.1 hx;rfl
theorem Ge.num (e:Ge):e.gn.num=((e.n+1:Nat):Int):=rfl
theorem sa {gs} (h:dp gs):r_ (sA gs)=some [.b true]∧F107 (sA gs)=some [.b true]:=by
 have hn:=h.n8;have kh:=h.n1;have dQ:gs.length-1<gs.length:=om;constructor<;>
 · refine aH ?_;refine uR ?_;rw[aA];refine aB (fun xs=>xs=[.b false]) ?_ ?_
   · refine uR ?_;refine ba rfl oO (uR ?_);refine ba rfl oO ?_;refine ag (nG 4096) rfl rfl (nW ?_);refine cm (n:=4136) rfl om om (uR ?_);refine ba rfl oO (uR ?_);refine ba rfl oO (uR ?_);refine ba rfl om (uR ?_);exact ad (dF om)
   rintro _ rfl;refine nW ?_;refine bj rfl ?_;refine aB (fun xs=>xs=[]) ?_ ?_;rotate_left
   · rintro _ rfl;have hg:=(h.ok _ dQ).1;have q2:=hg.sz;have q3:=hg.s.len;have q4:=hg.bd;refine nW ?_;refine ck (n:=((gs.length-1:Nat):Int)) (by show(gs.length:Int) -1=_;omega) om om (nW ?_);refine aP (f:=gR) (l:=gs) (j:=gs.length-1) rfl rfl dQ rfl (nW ?_)
     repeat refine dx (f:=gR) (l:=gs) (j:=gs.length-1) rfl rfl dQ rfl rfl (nW ?_)
     refine uR ?_;refine ag (nG 0) rfl rfl (nW ?_);refine ag (axR hg.mb.wm hg.mb.mv) rfl rfl ?_;rw[show items gs[gs.length-1].gn.map=gs[gs.length-1].l from yb hg.s.v _];refine nW ?_;refine iS (n:=24*(gs[gs.length-1].l).length) rfl om om (nW ?_);refine cm (n:=gs[gs.length-1].size+24*(gs[gs.length-1].l).length) rfl om om (nW ?_);refine iS (n:=18000) rfl om om (uR ?_);exact ad (dT om)
   refine wp_loop (I:=fun a=>∃i:Nat,a=[.i i]∧i≤gs.length) (mu:=fun a=>match a with|[.i i]=>gs.length-i.toNat|_=>0) ⟨0,rfl,om⟩ ?_;rintro a ⟨i,rfl,e1⟩;refine uR ?_;refine aI rfl (fun hc=> ?_) (fun hc=>ad rfl);have hi:i<gs.length:=om;have hg:=h.ok i hi;have hsz:=hg.1.sz;refine aP (f:=gR) (l:=gs) (j:=i) rfl rfl hi rfl (nW ?_)
   repeat refine dx (f:=gR) (l:=gs) (j:=i) rfl rfl hi rfl rfl (nW ?_)
   refine uR ?_;refine aB (fun xs=>xs=[.b false]) ?_ ?_
   · refine ag (Gc hg.1) rfl rfl (uR ?_);refine bj rfl (uR ?_);refine ck (n:=((gs.length-1:Nat):Int)) (by show(gs.length:Int) -1=_;omega) om om (uR ?_);have hm:(decide (gs[i].mode=1) !=decide ((i:Int)=((gs.length-1:Nat):Int)))=false:=by
       rw[bne_eq_false_iff_eq,decide_eq_decide,Int.ofNat_inj];exact hg.2.2
     refine bj hm (uR ?_);refine aI rfl (fun h4=> ?_) fun h4=> ?_
     · have eR:i-1<gs.length:=om;have hg1:=(h.ok _ eR).2.1;refine ck (n:=((i-1:Nat):Int)) (by show(i:Int) -1=_;omega) om om (nW ?_);refine aP (f:=gR) (l:=gs) (j:=i-1) rfl rfl eR rfl (nW ?_)
       repeat refine dx (f:=gR) (l:=gs) (j:=i-1) rfl rfl eR rfl rfl (nW ?_)
       refine uR ?_;refine ba rfl (by show¬((gs[i].n+1:Nat):Int)≤((gs[i-1].n+1:Nat):Int);rw[hg.2.1,hg1];omega) ?_;refine iS (n:=18000) rfl om om (uR ?_);exact ad (dF (by show¬gs[i].size>18000;omega))
     · refine iS (n:=18000) rfl om om (uR ?_);exact ad (dF (by show¬gs[i].size>18000;omega))
   · rintro _ rfl;refine nW ?_;refine bj rfl ?_;refine bg (i:=i) rfl om (nW ?_);refine ad ⟨⟨i+1,rfl,om⟩,?_⟩;show gs.length- ((i+1:Nat):Int).toNat<gs.length-i;omega
def bP (gs:List Ge):Ge:=gs.getD (gs.length-1) ⟨0,0,[],0⟩
theorem tZ {gs} (h:dp gs):∃hl:gs.length-1<gs.length,gs[gs.length-1]=bP gs:=by
 have:=h.n1;have hl:gs.length-1<gs.length:=om;refine⟨hl,?_⟩;unfold bP;rw[mo,bW hl];rfl
theorem kY {gs} (h:dp gs):fr (bP gs)∧(bP gs).n=gs.length-1∧(bP gs).mode=1:=by
 obtain⟨hl,e⟩:=tZ h;have:=h.ok _ hl;rw[e]at this;exact⟨this.1,this.2.1,this.2.2.2 rfl⟩
theorem Vf {gs} (h:dp gs):Gh (sA gs)=some (.i 0::gN (bP gs).gn):=by
 have hn:=h.n8;have kh:=h.n1;obtain⟨hl,e⟩:=tZ h;refine aH ?_;refine ag (sa h).1 rfl rfl (uR ?_);refine bj rfl (uR ?_);rw[aA];refine ck (n:=((gs.length-1:Nat):Int)) (by show(gs.length:Int) -1=_;omega) om om (nW ?_);refine aP (f:=gR) (l:=gs) (j:=gs.length-1) rfl rfl hl rfl ?_;rw[e];refine uR ?_;exact ad rfl
def oR (e:Ge):List PV:=[.sc (.int .i64 (e.n+1:Nat))]
def kD (k:Int) (e:Ge):Bool:=(bG e.l k).isSome
theorem apx (l:List Ge):bu 1 (l.map oR)=true:=by
 unfold bu;rw[bC];intro x hx;obtain⟨y,_,rfl⟩:=fe.1 hx;rfl
theorem agc {gs} (h:dp gs) (k:Int):Nf (sA gs++ [.i k])=some [.r (((gs.take (gs.length-1)).filter (kD k)).map oR)]:=by
 have hn:=h.n8;have kh:=h.n1;refine aH ?_;refine aB (fun xs=>xs=[.r (((gs.take (gs.length-1)).filter (kD k)).map oR)]) ?_ (by rintro _ rfl;refine nW ?_;exact ad rfl);refine wp_loop (I:=fun a=>∃i:Nat,a=[.i i,.r (((gs.take i).filter (kD k)).map oR)]∧i≤gs.length-1) (mu:=fun a=>match a with|[.i i,_]=>gs.length-i.toNat|_=>0) ⟨0,rfl,om⟩ ?_;rintro a ⟨i,rfl,e1⟩;have O2:=PK (kD k) (gs.take i);rw[cL]at O2;refine aB (bT (i+1<gs.length)) ?_ ?_
 · refine nW ?_;refine bg (i:=i) rfl om (uR ?_);rw[aA];refine aI rfl (fun hc=> ?_) (fun hc=>ad (dN om));refine ag (sa h).1 rfl rfl (nW ?_);exact ad (cz om)
 rintro _ ⟨t,rfl,ht⟩;refine nW ?_;refine iR rfl ht (fun hc=> ?_) (fun hc=> ?_);rotate_left
 · refine ad ?_;obtain rfl:i=gs.length-1:=om;rfl
 have hi:i<gs.length:=om;have hg:=(h.ok i hi).1;have ee:=Dp hg.mb k;have jJ:(gs.take (i+1)).filter (kD k)=(gs.take i).filter (kD k)++ [gs[i]].filter (kD k):=by rw[gX hi,abY]
 refine aB (fun xs=>xs=[.r (((gs.take (i+1)).filter (kD k)).map oR)]) ?_ ?_
 · refine aP (f:=gR) (l:=gs) (j:=i) rfl rfl hi rfl (uR ?_)
   cases hf:bG gs[i].l k with
   |none=>
    rw[hf]at ee;simp only[kZ]at ee;refine ag ee rfl rfl (nW ?_);refine bj rfl (ad ?_);rw[jJ,aca (by unfold kD;rw[hf];decide),acb,eW];rfl
   |some y=>
    rw[hf]at ee;simp only[kZ]at ee;refine ag ee rfl rfl (nW ?_);refine dX rfl ?_;refine aP (f:=gR) (l:=gs) (j:=i) rfl rfl hi rfl (uR ?_);refine dC (r:=((gs.take (i+1)).filter (kD k)).map oR) (apx _) rfl (by show(((gs.take i).filter (kD k)).map oR).length≤_;rw[aA];omega) (by show(1:Nat)≤_;omega) dc (by rw[jJ,abZ (by unfold kD;rw[hf];rfl),acb,dk];rfl) (nW ?_);exact ad rfl
 · rintro _ rfl;refine nW ?_;refine bg (i:=i) rfl om (nW ?_);refine ad ⟨⟨i+1,rfl,om⟩,?_⟩;show gs.length- ((i+1:Nat):Int).toNat<gs.length-i;omega
theorem Iy {gs} (h:dp gs) {e:Ge} (hi:e.n<gs.length) (h':dp (gs.set e.n e)):zS (sA gs++gN e.gn)=some (.i 0::sA (gs.set e.n e)):=by
 have hn:=h.n8;have kh:=h.n1;refine aH ?_;refine ag (sa h).1 rfl rfl (uR ?_);refine bj rfl (uR ?_);refine xQ (r:=gs.map gR) rfl (BA _) (by show(0:Nat)≤_;omega) (by show(gs.map gR).length≤_;rw[aA];omega) dc rfl (nW ?_);refine aB (fun xs=>xs=[.b true,.r ((gs.set e.n e).map gR)]) ?_ ?_;rotate_left
 · rintro _ rfl;refine uR ?_;refine bj rfl ?_;refine ag (sa h').2 rfl rfl (uR ?_);refine bj rfl ?_;exact ad rfl
 refine wp_loop (I:=fun a=>∃(i:Nat) (c:List Ge),a=[.b (decide (e.n<i)),.i i,.r (c.map gR)]∧i≤gs.length∧c=if e.n<i then gs.set e.n e else gs) (mu:=fun a=>match a with|[_,.i i,_]=>gs.length-i.toNat|_=>0) ⟨0,gs,rfl,om,(aC om).symm⟩ ?_;rintro a ⟨i,c,rfl,e1,hc⟩;have gF:c.length=gs.length:=by
   rw[hc];split
   · rw[ox]
   · rfl
 refine uR ?_;rw[aA,gF];refine aI rfl (fun hx=> ?_) (fun hx=> ?_);rotate_left
 · refine ad ?_;obtain rfl:i=gs.length:=om;rw[ay hi]at hc;rw[hc,decide_eq_true hi];rfl
 have HT:i<c.length:=om;have hig:i<gs.length:=om;have aFF:c[i].n=i:=by
   have CL:=(h.ok i hig).2.1;by_cases he:e.n<i
   · rw[ay he]at hc;have:c[i]=gs[i]:=by simp only[hc,Ib (show e.n≠i by omega)]
     rw[this];exact CL
   · rw[aC he]at hc;have:c[i]=gs[i]:=by simp only[hc]
     rw[this];exact CL
 refine aB (fun xs=>∃c':List Ge,xs=[.b (decide (e.n<i+1)),.r (c'.map gR)]∧c'=if e.n<i+1 then gs.set e.n e else gs) ?_ ?_
 · refine aP (f:=gR) (l:=c) (j:=i) rfl rfl HT rfl (nW ?_);refine dx (f:=gR) (l:=c) (j:=i) rfl rfl HT rfl rfl (uR ?_);refine aI rfl (fun hq=> ?_) (fun hq=> ?_)
   · have hq:((c[i].n+1:Nat):Int)=((e.n+1:Nat):Int):=hq;obtain rfl:e.n=i:=om;rw[aC om]at hc;subst hc;refine aP (f:=gR) (l:=c) (j:=e.n) rfl rfl HT rfl (nW ?_);refine sQ (f:=gR) (l:=c) (j:=e.n) (v:=e) rfl rfl HT rfl rfl (nW ?_);refine ad ⟨c.set e.n e,?_,by rw[ay om]⟩;rw[decide_eq_true (show e.n<e.n+1 by omega)];rfl
   · have hq:¬((c[i].n+1:Nat):Int)=((e.n+1:Nat):Int):=hq;have hne:i≠e.n:=om;refine ad ⟨c,?_,?_⟩
     · rw[decide_eq_decide.2 (show e.n<i+1 ↔ e.n<i by omega)];rfl
     · rw[hc];by_cases h3:e.n<i
       · rw[ay h3,ay om]
       · rw[aC h3,aC om]
 · rintro _ ⟨c',rfl,hc'⟩;refine nW ?_;refine bg (i:=i) rfl om (nW ?_);refine ad ⟨⟨i+1,c',rfl,om,hc'⟩,?_⟩;show gs.length- ((i+1:Nat):Int).toNat<gs.length-i;omega
theorem Ta {gs} (h:dp gs) {b} (hb:b=true ↔ gs.length<8):Ij (sA gs)=some [.b b]:=by
 have hn:=h.n8;have kh:=h.n1;obtain⟨hl,e⟩:=tZ h;have jK:=(kY h).2.1;refine aH ?_;refine aB (bT (gs.length<8)) ?_ (rB hb);refine ag (sa h).1 rfl rfl (nW ?_);refine dX rfl (uR ?_);rw[aA];refine ck (n:=((gs.length-1:Nat):Int)) (by show(gs.length:Int) -1=_;omega) om om (nW ?_);refine aP (f:=gR) (l:=gs) (j:=gs.length-1) rfl rfl hl rfl ?_;rw[e];refine uR ?_;refine ad (dW ?_);show(((bP gs).n+1:Nat):Int)<8 ↔ _;omega
def dB (e:Ge):Ge:={e with mode:=2}
def lL (n:Nat):Ge:=⟨n,1,[],0⟩
def dv (gs:List Ge):List Ge:=gs.take (gs.length-1)++ [dB (bP gs),lL gs.length]
theorem awm {gs} (h:dp gs) (h8:gs.length<8):Gj (sA gs)=some (.i 0::sA (dv gs)):=by
 have kh:=h.n1;obtain⟨hl,e⟩:=tZ h;have cg:=kY h;refine aH ?_;refine ag (sa h).1 rfl rfl (uR ?_);refine bj rfl ?_;refine ag (Ta h (b:=true) (je h8)) rfl rfl (uR ?_);refine bj rfl (uR ?_);rw[aA];refine ck (n:=((gs.length-1:Nat):Int)) (by show(gs.length:Int) -1=_;omega) om om (nW ?_);refine aP (f:=gR) (l:=gs) (j:=gs.length-1) rfl rfl hl rfl ?_;rw[e];refine uR ?_;refine ag (afF cg.1 cg.2.2) rfl rfl (nW ?_);refine cm (n:=((gs.length+1:Nat):Int)) (by show(((bP gs).n+1:Nat):Int)+1=_;omega) om om (nW ?_);refine ag (Qp h8) rfl rfl (uR ?_);refine ck (n:=((gs.length-1:Nat):Int)) (by show(gs.length:Int) -1=_;omega) om om (uR ?_);rw[aA];refine yH (r:=(gs.take (gs.length-1)).map gR) ⟨by show(0:Int)≤0;omega,by show(0:Int)≤((gs.length-1:Nat):Int);omega,by show((gs.length-1:Nat):Int).toNat≤(gs.map gR).length;rw[aA];omega,BA gs⟩ (by rw[nk];rfl) (nW ?_);refine xQ (r:=(gs.take (gs.length-1)).map gR) rfl (BA _) (by show(0:Nat)≤_;omega) (by show((gs.take (gs.length-1)).map gR).length≤_;rw[aA,cL];omega) dc rfl (uR ?_);refine xQ (r:=(dv gs).map gR) (BA _) rfl (by show((gs.take (gs.length-1)).map gR).length≤_;rw[aA,cL];omega) (by show(2:Nat)≤_;omega) dc (by unfold dv;rw[dk];rfl) (nW ?_);exact ad rfl
theorem auB {gs} (h:dp gs) (h8:¬gs.length<8):Gj (sA gs)=some [.i 9,.i 0,.i 0,.b false,.r []]:=by
 refine aH ?_;refine ag (sa h).1 rfl rfl (uR ?_);refine bj rfl ?_;refine ag (Ta h (b:=false) (Ke h8)) rfl rfl (uR ?_);refine dX rfl ?_;exact ad rfl
theorem V5 {n} (h:n<8):fr (lL n):=⟨h,(by show(1:Int)≤1;omega),(by show(1:Int)≤3;omega),SL.nil,List.Pairwise.nil,fun x hx=> (by cases hx),(by show(0:Int)≤0;omega),(by show(0:Int)%8=0;omega),(by show(16:Int)+ca []+0≤17000;rw[show ca []=0 from rfl];omega)⟩
theorem Tu:dp [lL 0]:=⟨dc,dc,fun i h=>by
 obtain rfl:i=0:=by have:i<1:=h;omega
 exact⟨V5 dc,rfl,⟨fun _=>rfl,fun _=>rfl⟩⟩⟩
theorem ahf:KJ [.i 1,.i 9000]=some (.i 0::[.i 1,.i 9000,.r ([lL 0].map gR)]):=by
 refine aH ?_;refine ag (Qp (n:=0) dc) rfl rfl (uR ?_);refine ag (sa Tu).1 rfl rfl (uR ?_);refine bj rfl ?_;exact ad rfl
theorem axw {gs} (h:dp gs) (h8:gs.length<8):dp (dv gs):=by
 have kh:=h.n1;have cg:=kY h;have hlen:(dv gs).length=gs.length+1:=by unfold dv;simp;omega
 refine⟨om,om,fun i hi=> ?_⟩;have hi':i<gs.length+1:=om;have hat:∀{y},(dv gs)[i]? =some y→(dv gs)[i]=y:=fun h=>by
   rw[bW hi]at h;exact rJ h
 by_cases h1:i<gs.length-1
 · have he:(dv gs)[i]=gs[i]:=hat (by
     unfold dv;rw[rF (by rw[cL];omega),List.getElem?_take_of_lt h1,bW])
   have:=h.ok i om;rw[he];refine⟨this.1,this.2.1,?_⟩;rw[this.2.2];omega
 · by_cases h2:i=gs.length-1
   · have he:(dv gs)[i]=dB (bP gs):=hat (by
      unfold dv;rw[mh (by rw[cL];omega),cL,show i-min (gs.length-1) gs.length=0 by omega];rfl)
     rw[he];have:=cg.1;refine⟨⟨this.n8,(by show(1:Int)≤2;omega),(by show(2:Int)≤3;omega),this.s,this.cl,this.en,this.g0,this.g8,this.sz⟩,by show(bP gs).n=i;omega,⟨fun h=>by have h:(2:Int)=1:=h;omega,fun h=>by omega⟩⟩
   · have he:(dv gs)[i]=lL gs.length:=hat (by
      unfold dv;rw[mh (by rw[cL];omega),cL,show i-min (gs.length-1) gs.length=1 by omega];rfl)
     rw[he];exact⟨V5 h8,by show gs.length=i;omega,⟨fun _=>by omega,fun _=>rfl⟩⟩
end
section
open Go.RowKit Pl AI
open Classical
attribute [local irreducible] ae.wp
theorem eU {b p q r:List Nat} {a c} (e:b=p++(q++r)) (ha:p.length=a) (hc:a+q.length=c):aS b a c=q:=by
 subst e ha hc;unfold aS;rw[List.drop_take,List.drop_left,show p.length+q.length-p.length=q.length by omega,List.take_left]
theorem adQ {a g r} (h:0≤a∧a<4∧1≤g∧g≤8∧0≤r∧r<4294967296) {x} (hx:B8 x) (hl:x.length≤2097152):Jm [.r ((iz a g r++x).map b1)]=some [.i 0,.i a,.i g,.i r]:=by
 obtain⟨b,hb⟩:∃b,iz a g r++x=b:=⟨_,rfl⟩
 have e:b=[78,86,79,76]++(num a 2++(num g 2++(num r 4++(cf (iy a g r)++x)))):=by rw[←hb];simp[iz,dw,iy]
 have l1:=cr a 2;have l2:=cr g 2;have l3:=cr r 4;have c1:aS b 0 4=[78,86,79,76]:=eU (p:=[]) e rfl rfl;have c2:aS b 4 6=num a 2:=eU e rfl om;have c3:aS b 6 8=num g 2:=eU (p:=[78,86,79,76]++num a 2) (by rw[e,←cd]) (by rw[bE,l1];rfl) om;have c4:aS b 8 12=num r 4:=eU (p:=[78,86,79,76]++num a 2++num g 2) (by rw[e,←cd,←cd]) (by rw[bE,bE,l1,l2];rfl) om;have c5:aS b 0 12=iy a g r:=eU (p:=[]) (r:=cf (iy a g r)++x) (by rw[e];simp[iy]) rfl (by rw[zE]);have c6:aS b 12 16=cf (iy a g r):=eU (p:=iy a g r) (r:=x) (by rw[e];simp[iy]) (zE _ _ _) rfl;have hB:B8 b:=by rw[←hb];exact fp (uw _ _ _) hx
 have hbl:b.length=16+x.length:=by rw[←hb,bE,qp]
 have gF:=fun p q=>qq b p q
 rw[hb];refine aH ?_;refine uR ?_;rw[aA];refine ba rfl om ?_;refine uR ?_;refine eC (a:=0) (c:=4) rfl rfl rfl om om ?_;show ae.wp _ (_++ [L.r ((aS b 0 4).map b1)]) _;rw[c1];refine nW ?_;refine wv (l:=[78,86,79,76]) rfl (nW ?_);refine Ik (a:=[78,86,79,76]) (b:=[78,86,79,76]) (t:=false) rfl (by rfl) (by unfold B8;decide) (by unfold B8;decide) (by simp) (nW ?_);refine bj rfl ?_;refine uR ?_;refine eC (a:=0) (c:=12) rfl rfl rfl om om ?_;show ae.wp _ (_++ [L.r ((aS b 0 12).map b1)]) _;rw[c5];refine nW ?_;refine ag (yv (iy a g r) (by rw[zE];omega)) rfl rfl (nW ?_);refine wv rfl (uR ?_);refine eC (a:=12) (c:=16) rfl rfl rfl om om ?_;show ae.wp _ (_++ [L.r ((aS b 12 16).map b1)]) _;rw[c6];refine nW ?_;refine wv rfl (nW ?_);refine Ik (a:=cf (iy a g r)) (b:=cf (iy a g r)) (t:=false) rfl rfl (xV _) (xV _) (by simp) (nW ?_);refine bj rfl ?_;refine uR ?_;refine eC (a:=4) (c:=6) rfl rfl rfl om om ?_;show ae.wp _ (_++ [L.r ((aS b 4 6).map b1)]) _;rw[c2];refine nW ?_;refine ag (LP _ (gK a 2) om) rfl rfl (nW ?_);refine po (n:=a) (px a 2 om om (by show a<65536;omega)) om om (uR ?_);refine eC (a:=6) (c:=8) rfl rfl rfl om om ?_;show ae.wp _ (_++ [L.r ((aS b 6 8).map b1)]) _;rw[c3];refine nW ?_;refine ag (LP _ (gK g 2) om) rfl rfl (nW ?_);refine po (n:=g) (px g 2 om om (by show g<65536;omega)) om om (uR ?_);refine eC (a:=8) (c:=12) rfl rfl rfl om om ?_;show ae.wp _ (_++ [L.r ((aS b 8 12).map b1)]) _;rw[c4];refine nW ?_;refine ag (LP _ (gK r 4) om) rfl rfl (nW ?_);refine po (n:=r) (px r 4 om om (by show r<4294967296;omega)) om om (nW ?_);refine ag (LW a g r (b:=true) ⟨fun _=>h,fun _=>rfl⟩) rfl rfl (uR ?_);refine bj rfl ?_;exact ad rfl
theorem afH {key cookie} {data:List Nat} (hd:B8 data) (h:data.length≤4096) (hk:0≤key) (bZ:key<18446744073709551616) (hc:0≤cookie) (hc':cookie<4294967296):
  xg (fW key cookie false data)=[.i (bM data.length),.i 0,.i key,.i cookie,.b false,.r (data.map b1)]:=by
 obtain⟨b,hb⟩:∃b,fW key cookie false data=b:=⟨_,rfl⟩
 obtain⟨z,hz⟩:∃z,List.replicate (bM data.length- (data.length+24)) 0=z:=⟨_,rfl⟩
 have e:b=[78,165,0,0]++(num cookie 4++(num key 8++(num data.length 4++(data++(cf (kU key cookie false data)++z))))):=by rw[←hb,←hz];simp[fW,dw,kU]
 have e2:b=kU key cookie false data++(cf (kU key cookie false data)++z):=by rw[←hb,←hz];simp[fW,dw]
 have hbl:b.length=bM data.length:=by rw[←hb];exact Gy _ _ _ _
 have hsz:=rV data.length;have l1:=cr cookie 4;have l2:=cr key 8;have l3:=cr data.length 4;have CN:=Mz key cookie false data;have c1:aS b 4 8=num cookie 4:=eU e rfl om;have c2:aS b 8 16=num key 8:=eU (p:=[78,165,0,0]++num cookie 4) (by rw[e,←cd]) (by rw[bE,l1];rfl) om;have c3:aS b 16 20=num data.length 4:=eU (p:=[78,165,0,0]++num cookie 4++num key 8) (by rw[e,←cd,←cd]) (by rw[bE,bE,l1,l2];rfl) om;have c4:aS b 20 (data.length+20)=data:=eU (p:=[78,165,0,0]++num cookie 4++num key 8++num data.length 4) (by rw[e,←cd,←cd,←cd]) (by rw[bE,bE,bE,l1,l2,l3];rfl) om;have c5:aS b 0 (data.length+20)=kU key cookie false data:=eU (p:=[]) e2 rfl om;have c6:aS b (data.length+20) (data.length+24)=cf (kU key cookie false data):=eU e2 CN (by rw[nA]);have hn:kV b=data.length:=by
  have:=px (data.length:Int) 4 om om (by show(data.length:Int)<4294967296;omega);unfold kV;rw[c3];omega
 have g0:b.getD 0 0=78:=by rw[e];rfl
 have g1:b.getD 1 0=165:=by rw[e];rfl
 have g2:b.getD 2 0=0:=by rw[e];rfl
 have g3:b.getD 3 0=0:=by rw[e];rfl
 have HN:Be b:=fun i h1 h2=>by
  rw[hn]at h1 h2;rw[e2,←cd,mo,mh (by rw[bE,nA];omega),←hz,Pw];split<;>rfl
 have iI:¬tx b:=by
  unfold tx;rw[g0,g1,g2,g3,hn];omega
 rw[hb];unfold xg;rw[aC om,aC iI,aC (by rw[hn];omega),hn,aC (by rw[c5,c6];exact fun h=>h rfl),aC (fun h=>h HN),c1,c2,c4,g2,px key 8 hk om (by show key<18446744073709551616;omega),px cookie 4 hc om (by show cookie<4294967296;omega)];rw[vr .u32 (by simp[IntKind.min,IntKind.signed];omega) (by simp[IntKind.max,IntKind.signed,IntKind.bits];omega)];rfl
def eV (x:It):List Nat:=num x.key 8++num x.cookie 4++num x.off 4++num x.size 4
def ek (l:List It):List Nat:=l.flatMap fun x=>dw (eV x)
theorem Au (x):(eV x).length=20:=by simp[eV,cr]
theorem auC (x):B8 (eV x):=fp (fp (fp (gK _ _) (gK _ _)) (gK _ _)) (gK _ _)
theorem EO (x) (l):ek (x::l)=dw (eV x)++ek l:=by simp[ek]
theorem xi:∀l,(ek l).length=24*l.length
 |[]=>rfl
 |x::l=>by
  rw[EO,bE,p5,Au,xi l,ir];omega
theorem QM:∀l,B8 (ek l)
 |[]=>fun x hx=>by cases hx
 |x::l=>by rw[EO];exact fp (qx (auC x)) (QM l)
def u6 (x:It):Prop:=0≤x.key∧x.key<18446744073709551616∧0≤x.cookie∧x.cookie<4294967296
theorem agC {x} (h:u6 x) (hv:dm x=true) (r):xt (dw (eV x)++r)=x:=by
 have hb:=Af hv;obtain⟨h1,h2,h3,h4⟩:=h;obtain⟨b,hbe⟩:∃b,dw (eV x)++r=b:=⟨_,rfl⟩
 have e:b=num x.key 8++(num x.cookie 4++(num x.off 4++(num x.size 4++(cf (eV x)++r)))):=by rw[←hbe];simp[dw,eV]
 have c1:b.take 8=num x.key 8:=by
  have:=eU (p:=[]) e rfl (show 0+(num x.key 8).length=8 by rw[cr]);simpa[aS]using this
 have c2:(b.take 12).drop 8=num x.cookie 4:=eU e (cr _ _) (by rw[cr]);have c3:(b.take 16).drop 12=num x.off 4:=eU (p:=num x.key 8++num x.cookie 4) (by rw[e,←cd]) (by rw[bE,cr,cr]) (by rw[cr]);have c4:(b.take 20).drop 16=num x.size 4:=eU (p:=num x.key 8++num x.cookie 4++num x.off 4) (by rw[e,←cd,←cd]) (by rw[bE,bE,cr,cr,cr]) (by rw[cr]);rw[hbe];unfold xt;rw[c1,c2,c3,c4,px x.key 8 h1 om (by show x.key<18446744073709551616;omega),px x.cookie 4 h3 om (by show x.cookie<4294967296;omega),tw x.off 4 om om (by show x.off<4294967296;omega) om,tw x.size 4 om om (by show x.size<4294967296;omega) om];rw[vr .u32 (by simp[IntKind.min,IntKind.signed];omega) (by simp[IntKind.max,IntKind.signed,IntKind.bits];omega)]
theorem Xa:∀{l acc f},(ek l).length<f→(∀x∈l,u6 x∧dm x=true)→dec f (ek l) acc=if VL (acc++l)then[.i 0,.r ((acc++l).map ao)]else[.i 3,.r []]
 | [],acc,f,h,_=>by
  cases f with
  |zero=>cases h
  |succ f=>
   rw[dec,ay (show ek []=[]from rfl),eW]
 | x::l,acc,f,h,hx=>by
  cases f with
  |zero=>cases h
  |succ f=>
   have eE:=hx x iL;have cW:=xi l;have ey:(dw (eV x)).length=24:=by rw[p5,Au]
   rw[EO,bE,ey]at h;have hit:=agC eE.1 eE.2 (ek l);have hdr:(dw (eV x)++ek l).drop 24=ek l:=by rw[←ey,List.drop_left]
   have e:dw (eV x)++ek l=eV x++(cf (eV x)++ek l):=by simp[dw]
   have k1:(dw (eV x)++ek l).take 20=eV x:=by rw[e,←Au x,List.take_left]
   have k2:((dw (eV x)++ek l).take 24).drop 20=cf (eV x):=eU e (Au x) (by rw[nA]);rw[EO,dec,aC (by intro e;have:=bJ List.length e;rw[bE,ey]at this;simp at this),aC (by rw[bE,ey];omega),aC (by rw[k1,k2];exact fun h=>h rfl),hdr,hit,Xa om fun y hy=>hx y (iM _ hy),cd];rfl
def iO (c:Nat→Int) (i:Nat):List Nat:=(List.range i).flatMap fun k=>num (c k) 4
theorem Am (c) (i):iO c (i+1)=iO c i++num (c i) 4:=by unfold iO;rw[H6,abW];simp
theorem wU (c):∀i,(iO c i).length=4*i
 |0=>rfl
 |i+1=>by rw[Am,bE,wU c i,cr];omega
theorem T0 (c):∀i,B8 (iO c i)
 |0=>fun x hx=>by cases hx
 |i+1=>by rw[Am];exact fp (T0 c i) (gK _ _)
def nH (a g r n:Int) (c:Nat→Int) (l:List It):List Nat:=[78,73,68,88]++num a 2++num g 2++num r 4++num n 8++iO c 6++num l.length 4++ek l
def iX (a g r n:Int) (c:Nat→Int) (l:List It):List Nat:=dw (nH a g r n c l)
theorem zR (a g r n) (c) (l):(nH a g r n c l).length=48+24*l.length:=by simp[nH,cr,wU,xi];omega
theorem G1 (a g r n) (c) (l):B8 (nH a g r n c l):=fp (fp (fp (fp (fp (fp (fp (by unfold B8;decide) (gK _ _)) (gK _ _)) (gK _ _)) (gK _ _)) (T0 _ _)) (gK _ _)) (QM l)
theorem Zx (c):∀{i k},k<i→∃r,iO c i=iO c k++(num (c k) 4++r)
 |0,k,h=>om
 |i+1,k,h=>by
  by_cases e:k=i
  · subst e;exact⟨[],by rw[Am,eW]⟩
  · obtain⟨r,hr⟩:=Zx c (i:=i) (k:=k) om;exact⟨r++num (c i) 4,by rw[Am,hr];simp⟩
theorem auR {a g r n:Int} {c:Nat→Int} {l:List It} (hH:jl a g r n l) (hc:∀k,0≤c k∧c k<4294967296) (hE:∀x∈l,u6 x) (hl:l.length≤1000):
  AO (iX a g r n c l)=[.i 0,.i a,.i g,.i r,.i n,.i (c 0),.i (c 1),.i (c 2),.i (c 3),.i (c 4),.i (c 5),.r (l.map ao)]:=by
 obtain⟨b,hb⟩:∃b,iX a g r n c l=b:=⟨_,rfl⟩
 obtain⟨h,hh⟩:∃h,nH a g r n c l=h:=⟨_,rfl⟩
 have CN:h.length=48+24*l.length:=by rw[←hh];exact zR _ _ _ _ _ _
 have e2:b=h++(cf h++ []):=by rw[←hb,←hh];simp[iX,dw]
 have e:b=[78,73,68,88]++(num a 2++(num g 2++(num r 4++(num n 8++(iO c 6++(num l.length 4++(ek l++cf h))))))):=by rw[←hb,←hh];simp[iX,dw,nH]
 have hbl:b.length=52+24*l.length:=by rw[e2,bE,CN,eW,nA];omega
 have hiv:=hH.2.2.2.1;have hH1:=hH.1;have hH2:=hH.2.1;have hH3:=hH.2.2.1;have sl:=wU c 6;have c0:aS b 0 4=[78,73,68,88]:=eU (p:=[]) e rfl rfl;have c1:aS b 4 6=num a 2:=eU e rfl (by rw[cr]);have c2:aS b 6 8=num g 2:=eU (p:=[78,73,68,88]++num a 2) (by rw[e,←cd]) (by simp[cr]) (by rw[cr]);have c3:aS b 8 12=num r 4:=eU (p:=[78,73,68,88]++num a 2++num g 2) (by rw[e,←cd,←cd]) (by simp[cr]) (by rw[cr]);have c4:aS b 12 20=num n 8:=eU (p:=[78,73,68,88]++num a 2++num g 2++num r 4) (by rw[e,←cd,←cd,←cd]) (by simp[cr]) (by rw[cr]);have c5:aS b 44 48=num l.length 4:=eU (p:=[78,73,68,88]++num a 2++num g 2++num r 4++num n 8++iO c 6) (by rw[e,←cd,←cd,←cd,←cd,←cd]) (by simp[cr,sl]) (by rw[cr]);have c6:aS b 48 (b.length-4)=ek l:=eU (p:=[78,73,68,88]++num a 2++num g 2++num r 4++num n 8++iO c 6++num l.length 4) (r:=cf h) (by rw[e];simp) (by simp[cr,sl]) (by rw[xi,hbl];omega);have c7:aS b 0 (b.length-4)=h:=eU (p:=[]) e2 rfl om;have c8:aS b (b.length-4) b.length=cf h:=eU e2 om (by rw[nA];omega);have cs:∀k,k<6→e8 b k=c k:=fun k hk=>by
  obtain⟨q,hq⟩:=Zx c hk;have:=eU (p:=[78,73,68,88]++num a 2++num g 2++num r 4++num n 8++iO c k) (q:=num (c k) 4) (r:=q++(num l.length 4++(ek l++cf h))) (b:=b) (a:=20+4*k) (c:=24+4*k) (by rw[e,hq];simp) (by simp[cr,wU];omega) (by rw[cr];omega);have h1:=hc k;unfold e8;rw[this,px (c k) 4 h1.1 om h1.2];exact vr .u32 (by simp[IntKind.min,IntKind.signed];omega) (by simp[IntKind.max,IntKind.signed,IntKind.bits];omega)
 have aDR:(val (aS b 44 48)).toInt=l.length:=by rw[c5];exact tw _ 4 om om (by show(l.length:Int)<4294967296;omega) om
 have hw:z7 b=b.length:=by
  unfold z7;rw[aDR,wrap64 (n:=24*(l.length:Int)) om om,wrap64 om om];omega
 have hdec:=Xa (l:=l) (acc:=[]) (f:=(ek l).length+1) (ov _) fun x hx=> ⟨hE x hx,hiv.2 x hx⟩
 rw[mm,ay hiv]at hdec;rw[hb];unfold AO;rw[aC om,aC (fun h=>h c0),aC om,aC om,c7,c8,aC (fun h=>h rfl),c6,hdec,c1,c2,c3,c4,cs 0 om,cs 1 om,cs 2 om,cs 3 om,cs 4 om,cs 5 om];rw[tw a 2 om om (by show a<65536;omega) om,tw g 2 om om (by show g<65536;omega) om,tw r 4 om om (by show r<4294967296;omega) om,tw n 8 om om (by show n<18446744073709551616;omega) om];simp only[ne_eq,not_true_eq_false,if_false];rw[ay (WZ.2 hH)]
end
section
open Go.RowKit Pl AI
attribute [local irreducible] ae.wp
theorem ads (l) (x):ek (l++ [x])=ek l++dw (eV x):=by simp[ek]
theorem ayE {l:List It} (hv:VL l) (hE:∀x∈l,u6 x) (hl:l.length≤1000):Ms [.r (l.map ao)]=some [.i 0,.r ((ek l).map b1)]:=by
 refine aH ?_;refine ag (JD l om (je hv)) rfl rfl (uR ?_);refine bj rfl ?_;refine aB (fun xs=>xs=[.r ((ek l).map b1)]) ?_ (by rintro _ rfl;refine nW ?_;exact ad rfl);refine wp_loop (I:=fun a=>∃i:Nat,a=[.i i,.r ((ek (l.take i)).map b1)]∧i≤l.length) (mu:=fun a=>match a with|[.i i,_]=>l.length-i.toNat|_=>0) ⟨0,rfl,om⟩ ?_;rintro a ⟨i,rfl,e1⟩;refine uR ?_;rw[aA];refine aI rfl (fun hc=> ?_) (fun hc=> ?_);rotate_left
 · refine ad ?_;show[L.r ((ek (l.take i)).map b1)]=_;rw[fD om]
 have hi:i<l.length:=om;have hx:=hE _ (b8 hi);have hb:=Af (hv.2 _ (b8 hi));have cW:=xi (l.take i);rw[cL]at cW;have jJ:=gX hi;obtain⟨x,gb⟩:∃x,l[i]=x:=⟨_,rfl⟩
 rw[gb]at hx hb jJ;obtain⟨h1,h2,h3,h4⟩:=hx;have l1:=cr x.key 8;have l2:=cr x.cookie 4;have l3:=cr x.off 4;have l4:=cr x.size 4;refine aP (f:=ao) (j:=i) rfl rfl hi rfl ?_;rw[gb];refine uR ?_;refine ag (jz x.key 8 om om) rfl rfl (nW ?_);refine aP (f:=ao) (j:=i) rfl rfl hi rfl ?_;rw[gb];refine uR ?_;refine fU (n:=x.cookie) rfl om om (nW ?_);refine ag (jz x.cookie 4 om om) rfl rfl (nW ?_);refine eX (a:=num x.key 8) (c:=num x.cookie 4) rfl rfl om om (nW ?_);refine aP (f:=ao) (j:=i) rfl rfl hi rfl ?_;rw[gb];refine uR ?_;refine fU (n:=x.off) rfl om om (nW ?_);refine ag (jz x.off 4 om om) rfl rfl (nW ?_);refine eX (a:=num x.key 8++num x.cookie 4) (c:=num x.off 4) rfl rfl (by rw[bE];omega) om (nW ?_);refine aP (f:=ao) (j:=i) rfl rfl hi rfl ?_;rw[gb];refine uR ?_;refine fU (n:=x.size) rfl om om (nW ?_);refine ag (jz x.size 4 om om) rfl rfl (nW ?_);refine eX (a:=num x.key 8++num x.cookie 4++num x.off 4) (c:=num x.size 4) rfl rfl (by rw[bE,bE];omega) om ?_;show ae.wp _ (_++ [L.r ((eV x).map b1)]) _;have jn:=Au x;refine nW ?_;refine eX (a:=ek (l.take i)) (c:=eV x) rfl rfl om om (nW ?_);refine pd (m:=cf (eV x)) (yv (eV x) om) rfl rfl (nW ?_);refine eX (a:=ek (l.take i)++eV x) (c:=cf (eV x)) rfl rfl (by rw[bE];omega) (by rw[nA];omega) (nW ?_);refine bg (i:=i) rfl om (nW ?_);refine ad ⟨⟨i+1,?_,om⟩,?_⟩
 · rw[jJ,ads];show[L.i _,L.r ((ek (l.take i)++eV x++cf (eV x)).map b1)]=[L.i _,L.r ((ek (l.take i)++(eV x++cf (eV x))).map b1)]
   rw[cd]
 · show l.length- ((i+1:Nat):Int).toNat<l.length-i;omega
abbrev cA (c:Nat→Int):List L:=[.i (c 0),.i (c 1),.i (c 2),.i (c 3),.i (c 4),.i (c 5)]
theorem ant {c:Nat→Int} {i:Nat} (hi:i<6) {a b d e:L} {ρ'} {Q} {k} {xs} {x:At} (hx:(x.ev (a::b::d::e::(cA c++ρ'))).ah=i) (hk:k.wp (a::b::d::e::(cA c++ρ')++ [.i (c i)]) Q) (hs:xs=w 4 6:=by rfl):(ae.op (.fH xs x) k).wp (a::b::d::e::(cA c++ρ')) Q:=by
 subst hs;have:∃y:At,(w 4 6)[i]? =some y∧y.ev (a::b::d::e::(cA c++ρ'))= .i (c i):=by
  match i,hi with
  |0,_=>exact⟨_,rfl,rfl⟩
  |1,_=>exact⟨_,rfl,rfl⟩
  |2,_=>exact⟨_,rfl,rfl⟩
  |3,_=>exact⟨_,rfl,rfl⟩
  |4,_=>exact⟨_,rfl,rfl⟩
  |5,_=>exact⟨_,rfl,rfl⟩
 obtain⟨y,h1,h2⟩:=this;exact X7 (x:=y) (by rw[hx,fA];exact h1) (by rw[h2];exact hk)
theorem aog {a g r n:Int} {c:Nat→Int} {l:List It} (hH:jl a g r n l) (hc:∀k,0≤c k∧c k<4294967296) (hE:∀x∈l,u6 x) (hl:l.length≤1000):
   My ([.i a,.i g,.i r,.i n]++cA c++ [.r (l.map ao)])=some [.i 0,.r ((iX a g r n c l).map b1)]:=by
 have hH1:=hH.1;have hH2:=hH.2.1;have hH3:=hH.2.2.1;have l1:=cr a 2;have l2:=cr g 2;have l3:=cr r 4;have l4:=cr n 8;have l5:=cr l.length 4;have l6:=xi l;refine aH ?_;refine ag (Zd a g r n (.i (c 0)) (.i (c 1)) (.i (c 2)) (.i (c 3)) (.i (c 4)) (.i (c 5)) l om (je hH)) rfl rfl (uR ?_);refine bj rfl ?_;refine uR ?_;refine iC (r:=b1 78) oO rfl rfl (nW ?_);refine fU (n:=a) rfl om om (nW ?_);refine ag (jz a 2 om om) rfl rfl (nW ?_);refine eX (a:=[78,73,68,88]) (c:=num a 2) rfl rfl (by show(4:Nat)≤_;omega) om (nW ?_);refine fU (n:=g) rfl om om (nW ?_);refine ag (jz g 2 om om) rfl rfl (nW ?_);refine eX (a:=[78,73,68,88]++num a 2) (c:=num g 2) rfl rfl (by simp only[bE];show 4+_≤_;omega) om (nW ?_);refine fU (n:=r) rfl om om (nW ?_);refine ag (jz r 4 om om) rfl rfl (nW ?_);refine eX (a:=[78,73,68,88]++num a 2++num g 2) (c:=num r 4) rfl rfl (by simp only[bE];show 4+_+_≤_;omega) om (nW ?_);refine fU (n:=n) rfl om om (nW ?_);refine ag (jz n 8 om om) rfl rfl (nW ?_);refine eX (a:=[78,73,68,88]++num a 2++num g 2++num r 4) (c:=num n 8) rfl rfl (by simp only[bE];show 4+_+_+_≤_;omega) om ?_;obtain⟨p,hp⟩:∃p,[78,73,68,88]++num a 2++num g 2++num r 4++num n 8=p:=⟨_,rfl⟩
 have hpl:p.length=20:=by rw[←hp];simp[cr]
 have hh:nH a g r n c l=p++iO c 6++num l.length 4++ek l:=by rw[←hp];rfl
 have CN:=zR a g r n c l;rw[hp];refine nW ?_;refine aB (fun xs=>xs=[.r ((p++iO c 6).map b1)]) ?_ ?_
 · refine wp_loop (I:=fun y=>∃i:Nat,y=[.i i,.r ((p++iO c i).map b1)]∧i≤6) (mu:=fun y=>match y with|[.i i,_]=>6-i.toNat|_=>0) ⟨0,by show[L.i 0,L.r (p.map b1)]=_;simp[iO],om⟩ ?_;rintro y ⟨i,rfl,e1⟩;have ey:=wU c i;refine uR ?_;refine aI rfl (fun hx=> ?_) (fun hx=> ?_);rotate_left
   · obtain rfl:i=6:=om;exact ad rfl
   have hi:i<6:=om;have hci:=hc i;refine sd ⟨by show(0:Int)≤i;omega,by show(i:Int)< (6:Nat);omega⟩ (nW ?_);refine ant (c:=c) hi (by rfl) (nW ?_);refine fU (n:=c i) rfl om om (nW ?_);refine ag (jz (c i) 4 om om) rfl rfl (nW ?_);refine eX (a:=p++iO c i) (c:=num (c i) 4) rfl rfl (by rw[bE];omega) (by rw[cr];omega) (nW ?_);refine bg (i:=i) rfl om (nW ?_);refine ad ⟨⟨i+1,?_,om⟩,?_⟩
   · rw[Am,←cd];rfl
   · show 6- ((i+1:Nat):Int).toNat<6-i;omega
 rintro _ rfl;have ey:=wU c 6;refine nW ?_;refine ag (ayE hH.2.2.2.1 hE hl) rfl rfl (uR ?_);rw[aA];refine fU (n:=(l.length:Int)) rfl om om (nW ?_);refine ag (jz l.length 4 om om) rfl rfl (nW ?_);refine eX (a:=p++iO c 6) (c:=num l.length 4) rfl rfl (by rw[bE];omega) om (nW ?_);refine eX (a:=p++iO c 6++num l.length 4) (c:=ek l) rfl rfl (by simp only[bE];omega) om ?_;rw[←hh];refine nW ?_;refine pd (m:=cf (nH a g r n c l)) (yv (nH a g r n c l) om) rfl rfl (nW ?_);refine eX (a:=nH a g r n c l) (c:=cf (nH a g r n c l)) rfl rfl om (by rw[nA];omega) (nW ?_);exact ad rfl
end
end
end Go.Proofs.YtndegphojkiblaaGreatDoor
