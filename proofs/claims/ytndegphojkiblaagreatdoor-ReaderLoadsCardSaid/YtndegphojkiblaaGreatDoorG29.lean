/- Towards the last file's theorem: part 29. -/
import Derived.Test.YtndegphojkiblaaGreatDoorG13
import Derived.Test.YtndegphojkiblaaGreatDoorG28
set_option linter.all false
set_option maxHeartbeats 4000000
set_option maxRecDepth 100000
namespace Go.Proofs.YtndegphojkiblaaGreatDoor
noncomputable section
section
open Go.RowKit
namespace AI
def ad.calls:ad→List (Nat×(List L→Option (List L)))
 | .ar _=> []
 | .op nd k=> (match nd with| .call t F _ _ _=> [(t,F)]|_=> [])++calls k
 | .ite _ x y=>calls x++calls y
 | .join x y=>calls x++calls y
 | .loop _ y=>calls y
def oc (tb:Nat→Option aO):List (Nat×(List L→Option (List L)))→Prop
 |[]=>True
 | (t,F)::r=> (∀s,tb t=some s→s.ok F)∧oc tb r
theorem oc.left {tb:Nat→Option aO}:∀{a b:List (Nat×(List L→Option (List L)))},oc tb (a++b)→oc tb a
 |[],_,_=>trivial
 | (_,_)::_,_,h=> ⟨h.1,h.2.left⟩
theorem oc.right {tb:Nat→Option aO}:∀{a b:List (Nat×(List L→Option (List L)))},oc tb (a++b)→oc tb b
 |[],_,h=>h
 | (_,_)::a,_,h=>oc.right (a:=a) h.2
theorem ur {tb:Nat→Option aO}:∀{f:ad},oc tb (ad.calls f)→pD tb f
 | .ar _,_=>trivial
 | .op nd k,h=>by
  refine⟨?_,ur h.right⟩
  cases nd with
  |call t F a n u=>exact h.left.1
  |_=>trivial
 | .ite _ _ _,h=> ⟨ur h.left,ur h.right⟩
 | .join _ _,h=> ⟨ur h.left,ur h.right⟩
 | .loop _ y,h=>ur (f:=y) h
theorem gi {tb:Nat→Option aO} {f:ad} {cs:List (Nat×(List L→Option (List L)))} (e:ad.calls f=cs) (h:oc tb cs):pD tb f:=ur (by rw[e];exact h)
theorem aC {tb:Nat→Option aO} {t:Nat} {S:aO} {F:List L→Option (List L)} (e:tb t=some S) (h:S.ok F):∀s,tb t=some s→s.ok F:=fun s hs=>by
 rw[e]at hs;cases hs;exact h
theorem tbn {tb:Nat→Option aO} {t:Nat} {F:List L→Option (List L)} (e:tb t=none):∀s,tb t=some s→s.ok F:=fun s hs=>by
 rw[e]at hs;cases hs
def fW (l:List (Nat×aO)):Nat→Option aO:=fun t=>lk l t
def mx:Int:=9223372036854775807
def c0:List AC:=[.sl 262208 [.int .u8 0 255]]
def c1:List AC:=[.str 9,.sl 2097152 [.int .u8 0 255],.sl 0 []]
def c2:List AC:=[.int .i64 0 1048576,.sl 1048576 [.int .u8 0 255],.bool]
def c3:List AC:=[.int .u64 0 7,.int .u32 0 3,.bool,.sl 30 [.int .u8 0 255]]
def c4:List AC:=[.int .u64 0 7,.int .u32 0 3,.int .i64 16 1048576,.int .i64 0 30]
def c5:List AC:=[.str 9,.sl 2097152 [.int .u8 0 255],.sl 1 c2]
def c6:List AC:=[.int .u64 0 18446744073709551615,.int .u32 0 4294967295,.bool,.sl mx [.int .u8 0 255]]
def c7:List AC:=[.int .i64 1 1,.int .i64 0 0,.int .i64 1 1,.int .i64 16 16,.sl 0 [],.sl 0 [],.sl 0 [],.sl 0 [],.sl 0 [],.sl 0 [],.sl 0 [],.sl 0 [],.int .i64 0 0,.int .i64 0 0]
def c8:List AC:=[.int .i64 0 8,.int .i64 0 0,.int .i64 0 3,.int .i64 (-18446744073709551615) mx,.sl 8 c4,.sl 8 c4,.sl 8 c4,.sl 8 c4,.sl 8 c4,.sl 8 c4,.sl 8 c4,.sl 8 c4,.int .i64 (-18446744073709551615) mx,.int .i64 0 2199023255552]
def f (a b:Nat) (c:Int):Fa:=⟨a,b,c⟩
def g (i n:Nat) (c:List AC):List (Nat×Option (List AC)):=(List.range n).map fun j=> (i+j,some c)
theorem bV {s:aO} {x:ad} (l:List (Nat×aO)) (cs:List (Nat×(List L→Option (List L)))) (an:bw) (h:fD (fW l) x an s []=true) (hc:ad.calls x=cs) (hl:oc (fW l) cs):s.ok (Fo x):=gu h (gi hc hl)
end AI
section
variable {α:Type}
def GP (n:Int) (k:Int→α):α:=match n with
 | .ofNat 0=>k (.ofNat 0)
 | .ofNat (m+1)=>k (.ofNat (m+1))
 | .negSucc m=>k (.negSucc m)
def BX:List PV→(List PV→α)→α
 | .sc (.int kd n)::r,k=>GP n fun n=>BX r fun r=>k (.sc (.int kd n)::r)
 |p::r,k=>BX r fun r=>k (p::r)
 |[],k=>k []
def Gj:List (List PV)→(List (List PV)→α)→α
 |a::r,k=>BX a fun a=>Gj r fun r=>k (a::r)
 |[],k=>k []
def Kk (x:L) (k:L→α):α:=match x with
 | .i n=>GP n fun n=>k (.i n)
 | .b true=>k (.b true)
 | .b false=>k (.b false)
 | .r rows=>Gj rows fun rows=>k (.r rows)
 |x=>k x
def xP:List L→(List L→α)→α
 |a::r,k=>Kk a fun a=>xP r fun r=>k (a::r)
 |[],k=>k []
def wX:List L→List L→(List L→α)→α
 |a::r,m,k=>wX r m fun r=>k (a::r)
 |[],m,k=>k m
theorem abG (n:Int) (k:Int→α):GP n k=k n:=by
 unfold GP;split<;>rfl
theorem Lb:∀(r:List PV) (k:List PV→α),BX r k=k r
 |[],_=>rfl
 |p::r,k=>by
  unfold BX;split
  · rename_i h;cases h;rw[abG,Lb]
  · rename_i h;cases h;rw[Lb]
  · rename_i h;cases h
theorem TJ:∀(r:List (List PV)) (k:List (List PV)→α),Gj r k=k r
 |[],_=>rfl
 |a::r,k=>by rw[Gj,Lb,TJ]
theorem axx (x:L) (k:L→α):Kk x k=k x:=by
 unfold Kk;split
 · rw[abG]
 · rfl
 · rfl
 · rw[TJ]
 · rfl
theorem Gf:∀(r:List L) (k:List L→α),xP r k=k r
 |[],_=>rfl
 |a::r,k=>by rw[xP,axx,Gf]
theorem EU:∀(a m:List L) (k:List L→α),wX a m k=k (a++m)
 |[],_,_=>rfl
 |x::a,m,k=>by rw[wX,EU];rfl
end
abbrev GT:=Nat→Option (List L→Option (List L))
def Nd.run (tb:GT) (ρ:List L) (nd:Nd):Option (List L):=match nd with
 | .call t _ args n us=>match tb t with
  |some g=>match g (args.map (At.ev ρ))with
   |some l=>if l.length=n∧(us.all fun i=> ((l[i]?).getD (.b false)).ah.all (·.all PV.bare))=true then some l else none
   |none=>none
  |none=>none
 |nd=>nd.ev ρ
def ad.run (tb:GT) (fuel:Nat):ad→List L→Out
 | .ar x,ρ=>some (x,ρ)
 | .op nd k,ρ=>match nd.run tb ρ with
  |some ls=>xP ls fun ls=>wX ρ ls fun ρ=>k.run tb fuel ρ
  |none=>none
 | .ite c a b,ρ=>match(c.ev ρ).br with
  |true=>a.run tb fuel ρ
  |false=>b.run tb fuel ρ
 | .join body rest,ρ=>match body.run tb fuel ρ with
  |some (.jump 0 args,ρ')=>xP (args.map (At.ev ρ')) fun a=>wX ρ a fun ρ=>rest.run tb fuel ρ
  |some (.jump (k+1) args,ρ')=>some (.jump k args,ρ')
  |r=>r
 | .loop init body,ρ=>fm (fun a=>xP a fun a=>wX ρ a fun ρ=>iT (body.run tb fuel ρ)) fuel (init.map (At.ev ρ))
def n_ (tb:GT):ad→Prop
 | .ar _=>True
 | .op nd k=> (match nd with| .call t F _ _ _=>∀g,tb t=some g→∀ls o,g ls=some o→F ls=some o|_=>True)∧n_ tb k
 | .ite _ x y=>n_ tb x∧n_ tb y
 | .join x y=>n_ tb x∧n_ tb y
 | .loop _ y=>n_ tb y
theorem Nd.nf {tb:GT} {ρ:List L} {nd:Nd} {ls:List L} (hc:match nd with| .call t F _ _ _=>∀g,tb t=some g→∀ls o,g ls=some o→F ls=some o|_=>True) (h:nd.run tb ρ=some ls):nd.ev ρ=some ls:=by
 cases nd with
 |call t F args n us=>
  simp only[Nd.run]at h;split at h
  · rename_i g hg;split at h
    · rename_i l hl;simp only[Nd.ev,hc g hg _ _ hl];exact h
    · cases h
  · cases h
 |_=>exact h
theorem TH {A R:Type} {f g:A→Option (A ⊕ R)} (h:∀a x,f a=some x→g a=some x):∀{n:Nat} {a:A} {r:R},fm f n a=some r→fm g n a=some r
 |0,_,_,hh=>by cases hh
 |n+1,a,r,hh=>by
  simp only[fm]at hh⊢;split at hh
  · rename_i a' ha;rw[h _ _ ha];exact TH h hh
  · rename_i r' ha;rw[h _ _ ha];exact hh
  · cases hh
theorem ad.nf {tb:GT} {fuel:Nat}:∀{f:ad} {ρ:List L} {r:Lf×List L},n_ tb f→f.run tb fuel ρ=some r→f.aa ρ=some r
 | .ar x,ρ,r,_,h=>h
 | .op nd k,ρ,r,hc,h=>by
  simp only[ad.run]at h;split at h
  · rename_i ls dh;rw[Gf,EU]at h;rw[ad.aa,Nd.nf hc.1 dh];exact ad.nf hc.2 h
  · cases h
 | .ite c a b,ρ,r,hc,h=>by
  simp only[ad.run]at h;split at h
  · rename_i ht;rw[ad.aa,ht];exact ad.nf hc.1 h
  · rename_i ht;rw[ad.aa,ht];exact ad.nf hc.2 h
 | .join a b,ρ,r,hc,h=>by
  simp only[ad.run]at h;split at h
  · rename_i args ρ' hb;rw[Gf,EU]at h;rw[ad.aa,ad.nf hc.1 hb];exact ad.nf hc.2 h
  · rename_i k args ρ' hb;rw[ad.aa,ad.nf hc.1 hb];exact h
  · rename_i h1 h2;have:=ad.nf hc.1 h;obtain⟨lf,ρ'⟩:=r;rw[ad.aa,this]
    cases lf with
    |st=>rfl
    |jump k args=>cases k with
     |zero=>exact absurd h (h1 _ _)
     |succ k=>exact absurd h (h2 _ _ _)
 | .loop init body,ρ,r,hc,h=>by
  simp only[ad.run]at h;rw[ad.aa];refine F_ (n:=fuel) (TH (fun a x hx=> ?_) h);rw[Gf,EU]at hx
  cases hb:body.run tb fuel (ρ++a)with
  |none=>rw[hb]at hx;cases hx
  |some y=>rw[hb]at hx;rw[show body.aa (ρ++a)=some y from ad.nf (f:=body) (fuel:=fuel) hc hb];exact hx
def oz (tb:GT):List (Nat×(List L→Option (List L)))→Prop
 |[]=>True
 | (t,F)::r=> (∀g,tb t=some g→∀ls o,g ls=some o→F ls=some o)∧oz tb r
theorem oz.left {tb:GT}:∀{a b:List (Nat×(List L→Option (List L)))},oz tb (a++b)→oz tb a
 |[],_,_=>trivial
 | (_,_)::_,_,h=> ⟨h.1,h.2.left⟩
theorem oz.right {tb:GT}:∀{a b:List (Nat×(List L→Option (List L)))},oz tb (a++b)→oz tb b
 |[],_,h=>h
 | (_,_)::a,_,h=>oz.right (a:=a) h.2
theorem vC {tb:GT}:∀{f:ad},oz tb (AI.ad.calls f)→n_ tb f
 | .ar _,_=>trivial
 | .op nd k,h=>by
  refine⟨?_,vC h.right⟩
  cases nd with
  |call t F a n u=>exact h.left.1
  |_=>trivial
 | .ite _ _ _,h=> ⟨vC h.left,vC h.right⟩
 | .join _ _,h=> ⟨vC h.left,vC h.right⟩
 | .loop _ y,h=>vC (f:=y) h
theorem Y9 {tb:GT} {f:ad} {cs:List (Nat×(List L→Option (List L)))} (e:AI.ad.calls f=cs) (h:oz tb cs):n_ tb f:=vC (by rw[e];exact h)
theorem aG {tb:GT} {t:Nat} {g F:List L→Option (List L)} (e:tb t=some g) (h:∀ls o,g ls=some o→F ls=some o):∀g,tb t=some g→∀ls o,g ls=some o→F ls=some o:=fun g' hg=>by
 rw[e]at hg;cases hg;exact h
theorem arX {tb:GT} {fuel:Nat} {f:ad} (hc:n_ tb f):∀ls o,gn (f.run tb fuel ls)=some o→gn (f.aa ls)=some o:=fun ls o h=>by
 cases hr:f.run tb fuel ls with
 |none=>rw[hr]at h;cases h
 |some r=>rw[hr]at h;rw[ad.nf hc hr];exact h
def BV (l:List (Nat×(List L→Option (List L)))):GT:=fun t=>AI.lk l t
theorem pC {tb:GT} {t:Nat} {F:List L→Option (List L)} (e:tb t=none):∀g,tb t=some g→∀ls o,g ls=some o→F ls=some o:=fun g hg=>by
 rw[e]at hg;cases hg
def rG (f:ad) (l:List (Nat×(List L→Option (List L)))):List L→Option (List L):=fun ls=>gn (f.run (BV l) 40 ls)
abbrev Gk (g F:List L→Option (List L)):Prop:=∀ls o,g ls=some o→F ls=some o
theorem rK {f:ad} {l:List (Nat×(List L→Option (List L)))} (cs:List (Nat×(List L→Option (List L)))) (h:oz (BV l) cs) (e:AI.ad.calls f=cs:=by kernel_rfl):Gk (rG f l) (Fo f):=arX (Y9 e h)
def L8:PV→PV→Bool
 | .sc (.int k n),.sc (.int k' n')=>decide (k=k')&&decide (n=n')
 |_,_=>false
def G6:List PV→List PV→Bool
 |a::l,b::m=>L8 a b&&G6 l m
 |[],[]=>true
 |_,_=>false
def Ho:List (List PV)→List (List PV)→Bool
 |a::l,b::m=>G6 a b&&Ho l m
 |[],[]=>true
 |_,_=>false
def Ol:L→L→Bool
 | .i a,.i b=>decide (a=b)
 | .s a,.s b=>decide (a.data.toList=b.data.toList)
 | .r a,.r b=>Ho a b
 |_,_=>false
def Hc:List L→List L→Bool
 |a::l,b::m=>Ol a b&&Hc l m
 |[],[]=>true
 |_,_=>false
def mz (o:Option (List L)) (l:List L):Bool:=match o with|some m=>Hc m l|none=>false
theorem amu {a b:PV} (h:L8 a b=true):a=b:=by
 unfold L8 at h;split at h
 · rw[bt,cg,cg]at h;rw[h.1,h.2]
 · cases h
theorem afy:∀{a b:List PV},G6 a b=true→a=b
 |[],[],_=>rfl
 |a::l,b::m,h=>by
  rw[G6,bt]at h;rw[amu h.1,afy h.2]
 |[],_::_,h=>by cases h
 |_::_,[],h=>by cases h
theorem aek:∀{a b:List (List PV)},Ho a b=true→a=b
 |[],[],_=>rfl
 |a::l,b::m,h=>by
  rw[Ho,bt]at h;rw[afy h.1,aek h.2]
 |[],_::_,h=>by cases h
 |_::_,[],h=>by cases h
theorem azY {a b:L} (h:Ol a b=true):a=b:=by
 unfold Ol at h;split at h
 · rw[cg]at h;rw[h]
 · rename_i x y;rw[cg]at h;obtain⟨⟨x⟩⟩:=x;obtain⟨⟨y⟩⟩:=y;have h:x=y:=h;rw[h]
 · rw[aek h]
 · cases h
theorem abj:∀{a b:List L},Hc a b=true→a=b
 |[],[],_=>rfl
 |a::l,b::m,h=>by
  rw[Hc,bt]at h;rw[azY h.1,abj h.2]
 |[],_::_,h=>by cases h
 |_::_,[],h=>by cases h
theorem nC {o:Option (List L)} {l:List L} (h:mz o l=true):o=some l:=by
 unfold mz at h;split at h
 · rw[abj h]
 · cases h
theorem aoG {α:Type} {q:List α} {f:α→Option (List L)} {g:α→List L} (h:q.all (fun x=>mz (f x) (g x))=true) {x:α} (hx:x∈q):f x=some (g x):=nC (bk.1 h x hx)
end
section
open Go.RowKit AI
attribute [local irreducible] ad.wp
section
variable {ρ:List L} {Q:Lf×List L→Prop} {k:ad}
theorem FN {x y:At} {n c:Int} (hx:(x.ev ρ).af=n) (hy:(y.ev ρ).af=c) (h0:0≤n) (h1:n≤9223372036854775807) (hc:0<c) (hk:k.wp (ρ++ [.i (n/c)]) Q):(ad.op (.bi .quo .i64 x y) k).wp ρ Q:=b5 (by
 rw[hx,hy];show(if c≠0 then some (L.i (IntKind.wrap .i64 (n.tdiv c)))else none)=_;have h2:=aiL c h0;have h3:=SN h0 (Int.le_of_lt hc);rw[au om,Di h0,wrap64 om om]) hk
theorem Fk {x y:At} {n c:Int} (hx:(x.ev ρ).af=n) (hy:(y.ev ρ).af=c) (h0:0≤n) (hc:0<c) (hk:k.wp (ρ++ [.i (n%c)]) Q):(ad.op (.bi .rem .i64 x y) k).wp ρ Q:=b5 (by
 rw[hx,hy];show(if c≠0 then some (L.i (n.tmod c))else none)=_;rw[au om,IT h0]) hk
end
theorem asm (off e:Int) (h:off≤e):∃K,Full off e K:=by
 have key:∀m:Nat,(∃K,Full off e K)∨∀j,j<m→bQ off e j<e:=by
   intro m
   induction m with
   |zero=>exact .inr fun j hj=>absurd hj om
   |succ m ih=>
    rcases ih with h1|h1
    · exact .inl h1
    · have hb:=(sv off e h m).2;by_cases he:bQ off e m=e
      · exact .inl ⟨m,he,h1⟩
      · refine .inr fun j hj=> ?_
        by_cases hm:j=m
        · subst hm;omega
        · exact h1 j om
 rcases key ((e-off).toNat+1)with h1|h1
 · exact h1
 · have h2:=h1 (e-off).toNat om;have:=HK off e h _ h2;omega
open Classical in
theorem azu {off n:Int} (h:¬mE off n) {K:Nat} (hK:Full off (off+n) K):yc [.i off,.i n]=some [.r (gI off (off+n) K),.i 0]:=by
 unfold yc;have hx:∃K,Full off (off+n) K:=⟨K,hK⟩
 show(if mE off n then some [L.r [],L.i 1]else if h:∃K,Full off (off+n) K then some [L.r (gI off (off+n) h.choose),L.i 0]else none)=_;rw[aE h,dif_pos hx,Full.uniq hx.choose_spec hK]
theorem atu {s:Int} (h0:0≤s) (h1:s≤9000000000000000000):KI [.i s]=some [.i (eV s),.i (dP s),.i 0]:=by
 refine a_ ?_;unfold aaJ;refine uR ?_;refine cJ rfl om ?_;refine FN (n:=s) (c:=64) rfl rfl h0 om dc (nW ?_);refine Fk (n:=s/64) (c:=4) rfl rfl om dc (nW ?_);refine FN (n:=s/64) (c:=4) rfl rfl om om dc (nW ?_);refine kY (n:=s/64/4*64) rfl om om (nW ?_);refine Fk (n:=s) (c:=64) rfl rfl h0 dc (nW ?_);refine dt (n:=dP s) rfl (by unfold dP;omega) (by unfold dP;omega) (nW ?_);exact ae rfl
theorem auh (off e:Int) (k:Nat):gI off e (k+1)=gI off e k++ [xy e (bQ off e k)]:=by
 unfold gI;rw[SP,ej];rfl
theorem P' (off e:Int) (k:Nat):(gI off e k).length=k:=by simp[gI]
theorem akx (off e:Int) (k:Nat):bA 3 (gI off e k)=true:=by
 unfold bA gI;rw[bk];intro x hx;obtain⟨j,_,rfl⟩:=dy.1 hx;rfl
theorem auE {off n:Int} (h:¬mE off n) {K:Nat} (hK:Full off (off+n) K):QJ [.i off,.i n]=some [.i 0,.r (gI off (off+n) K)]:=by
 unfold mE at h;have hle:off≤off+n:=om;have hKn:=hK.le hle;obtain⟨e,he⟩:∃e,off+n=e:=⟨_,rfl⟩
 rw[he]at hK hKn hle⊢;refine a_ ?_;unfold V';refine aH (fun xs=>xs=[.b false]) ?_ ?_
 · refine uR ?_;refine cJ rfl om (uR ?_);refine cJ rfl om (uR ?_);refine cJ rfl om (uR ?_);refine ae ?_;exact dF om
 rintro _ rfl;refine nW ?_;refine cW rfl ?_;refine aH (fun xs=>xs=[.r (gI off e K)]) ?_ ?_;rotate_left
 · rintro _ rfl;refine nW ?_;exact ae rfl
 refine wp_loop (I:=fun x=>∃k:Nat,x=[.i (bQ off e k-off),.r (gI off e k)]∧k≤K) (mu:=fun x=>match x with|[.i d,_]=> (n-d).toNat|_=>0) ⟨0,by show[L.i 0,L.r []]=[L.i (off-off),L.r []];rw[Int.sub_self],om⟩ ?_;rintro x ⟨k,rfl,e1⟩;have hb:=sv off e hle k;refine uR ?_;refine aP rfl (fun hc=> ?_) (fun hc=> ?_);rotate_left
 · have hk:k=K:=by
     by_cases hk:k<K
     · have:=hK.2 k hk;omega
     · omega
   subst hk;exact ae rfl
 have hk:k<K:=by
   by_cases hk:k=K
   · subst hk;have:=hK.1;omega
   · omega
 have hs:=hK.2 k hk;have hp:=FZ e (bQ off e k) hs;have dI:bQ off e (k+1)=bQ off e k+dC e (bQ off e k):=rfl;obtain⟨s,ry⟩:∃s,bQ off e k=s:=⟨_,rfl⟩
 have hsu:=auh off e k;rw[ry]at hb hs hp hc dI hsu⊢;refine dt (n:=s) (by show off+(s-off)=s;omega) om om (nW ?_);refine ay (atu (show 0≤s by omega) om) rfl rfl (nW ?_);refine dt (n:=s) (by show off+(s-off)=s;omega) om om (nW ?_);refine Fk (n:=s) (c:=64) rfl rfl om dc (nW ?_);refine gY (n:=64-s%64) rfl om om (nW ?_);refine gY (n:=e-s) (by show n- (s-off)=e-s;omega) om om (nW ?_);refine GH (n:=dC e s) rfl (uR ?_);refine ee (r:=gI off e (k+1)) (akx off e k) rfl (by try dsimp only[At.ev,d1,d2,d3,d4,d5,d6,d7,d8,d9,e0,List.map,bp,Kd.pv];rw[P'];omega) oO dc hsu.symm (nW ?_);refine dt (n:=bQ off e (k+1) -off) (by show s-off+dC e s=_;omega) om om (nW ?_);refine ae ⟨⟨k+1,rfl,om⟩,?_⟩;show(n- (bQ off e (k+1) -off)).toNat< (n- (s-off)).toNat;omega
def Ov:=rG acL []
theorem amd:Gk Ov HR:=rK [] trivial
theorem aya:(List.range 22).all (fun k=>mz (Ov [.i (k:Nat)]) [.r (kE k)])=true:=kr
theorem avB {k:Nat} (h:k<22):HR [.i (k:Nat)]=some [.r (kE k)]:=amd _ _ (aoG (f:=fun k:Nat=>Ov [.i k]) (g:=fun k=> [.r (kE k)]) aya (ko.2 h))
end
end
end Go.Proofs.YtndegphojkiblaaGreatDoor
