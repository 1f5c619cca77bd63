/- A part of the proof. -/
import Derived.Test.YtndegphojkiblaaGreatDoorG12
import Derived.Test.YtndegphojkiblaaGreatDoorG14
import Derived.WalkKit
import Derived.Test.YtndegphojkiblaaGreatDoorProg
set_option linter.all false
set_option maxHeartbeats 4000000
set_option maxRecDepth 100000
namespace Go.Proofs.YtndegphojkiblaaGreatDoor
noncomputable section
section
open Go.RowKit
section
variable {ρ:List L} {Q:Lf×List L→Prop} {k:ae}
theorem cv {op} {kd} {x y} {l} (h:cU op kd (x.ev ρ).ah (y.ev ρ).ah=some l) (hk:k.wp (ρ++ [l]) Q):(ae.op (.bi op kd x y) k).wp ρ Q:=by rw[uH];exact⟨l,h,hk⟩
theorem mM {op} {x y} {l} (h:Aq op (x.ev ρ).eQ (y.ev ρ).eQ=some l) (hk:k.wp (ρ++ [l]) Q):(ae.op (.bs op x y) k).wp ρ Q:=by rw[vz];exact⟨l,h,hk⟩
theorem aoz {op} {x y} {l} (h:mF op (x.ev ρ).bx (y.ev ρ).bx=some l) (hk:k.wp (ρ++ [l]) Q):(ae.op (.bb op x y) k).wp ρ Q:=by rw[vv];exact⟨l,h,hk⟩
theorem asv {x} (hk:k.wp (ρ++ [.b (!(x.ev ρ).bx)]) Q):(ae.op (.not x) k).wp ρ Q:=by exact hk
theorem jM {kd} {x} (hk:k.wp (ρ++ [.i (kd.wrap (x.ev ρ).ah)]) Q):(ae.op (.conv kd x) k).wp ρ Q:=by exact hk
theorem Uj {x} (hk:k.wp (ρ++ [.i (x.ev ρ).az.length]) Q):(ae.op (.len x) k).wp ρ Q:=by exact hk
theorem iC {x i} {n} {r} (h0:0≤(i.ev ρ).ah) (h1:(x.ev ρ).az[(i.ev ρ).ah.toNat]? =some r) (h2:r.length=n) (hk:k.wp (ρ++ [.c r]) Q):(ae.op (.row x i n) k).wp ρ Q:=by rw[uX];exact⟨h0,r,h1,h2,hk⟩
theorem kF {x i} {j} {kd} {r} {q} {l} (h1:(x.ev ρ).az[(i.ev ρ).ah.toNat]? =some r) (h2:r[j]? =some q) (h3:kd.of q=some l) (hk:k.wp (ρ++ [l]) Q):(ae.op (.rc x i j kd) k).wp ρ Q:=by rw[uG];exact⟨r,h1,q,h2,l,h3,hk⟩
theorem aii {x} {j} {kd} {q} {l} (h1:(x.ev ρ).jk[j]? =some q) (h2:kd.of q=some l) (hk:k.wp (ρ++ [l]) Q):(ae.op (.cl x j kd) k).wp ρ Q:=by rw[uh];exact⟨q,h1,l,h2,hk⟩
theorem sd {i:At} {c:Nat} (h:0≤(i.ev ρ).ah∧(i.ev ρ).ah<c) (hk:k.wp (ρ++ []) Q):(ae.op (.dD i c) k).wp ρ Q:=by rw[tF];exact⟨h,hk⟩
theorem X7 {xs} {i} {x} (h:xs[(i.ev ρ).ah.toNat]? =some x) (hk:k.wp (ρ++ [x.ev ρ]) Q):(ae.op (.fH xs i) k).wp ρ Q:=by rw[u_];exact⟨x,h,hk⟩
theorem nh {x lo hi} {n} (h:0≤(lo.ev ρ).ah∧(lo.ev ρ).ah≤(hi.ev ρ).ah∧(hi.ev ρ).ah.toNat≤(x.ev ρ).az.length∧sr n (x.ev ρ).az=true) (hk:k.wp (ρ++ [.i (((hi.ev ρ).ah.toNat- (lo.ev ρ).ah.toNat:Nat):Int)]) Q):(ae.op (.cut x lo hi n) k).wp ρ Q:=by rw[vo];exact⟨h,hk⟩
theorem ahK {x lo ln} (hk:k.wp (ρ++ [.r (((x.ev ρ).az.drop (lo.ev ρ).ah.toNat).take (ln.ev ρ).ah.toNat)]) Q):(ae.op (.vw x lo ln) k).wp ρ Q:=by exact hk
theorem aeI {x ln} (hk:k.wp (ρ++ [.r ((x.ev ρ).az.take (ln.ev ρ).ah.toNat)]) Q):(ae.op (.tk x ln) k).wp ρ Q:=by exact hk
theorem Xi {x y} {n b} (h:(x.ev ρ).az.length+(y.ev ρ).az.length≤9223372036854775807∧((x.ev ρ).az.length+(y.ev ρ).az.length)*b≤140737488355328∧bu n (x.ev ρ).az=true∧bu n (y.ev ρ).az=true) (hk:k.wp (ρ++ [.r ((x.ev ρ).az++(y.ev ρ).az)]) Q):(ae.op (.app x y n b) k).wp ρ Q:=by rw[u7];exact⟨h,hk⟩
theorem I1 {x i} {j} {ps} {r} (h1:(x.ev ρ).az[(i.ev ρ).ah.toNat]? =some r) (h2:j+ps.length≤r.length) (hk:k.wp (ρ++ [.r ((x.ev ρ).az.set (i.ev ρ).ah.toNat (r.take j++cb ρ ps++r.drop (j+ps.length)))]) Q):(ae.op (.set x i j ps) k).wp ρ Q:=by rw[uS];exact⟨r,h1,h2,hk⟩
theorem auS {rows} (hk:k.wp (ρ++ [.r (rows.map (cb ρ))]) Q):(ae.op (.lit rows) k).wp ρ Q:=by exact hk
theorem ag {t} {F} {args} {n} {us} {l} (h:F (args.map (At.ev ρ))=some l) (hl:l.length=n) (hu:(us.all fun i=> ((l[i]?).getD (.b false)).az.all (·.all PV.bare))=true) (hk:k.wp (ρ++l) Q):(ae.op (.call t F args n us) k).wp ρ Q:=by rw[tB];exact⟨l,h,⟨hl,hu⟩,hk⟩
theorem bc {c} {a b} (ht:(c.ev ρ).bx=true→a.wp ρ Q) (hf:(c.ev ρ).bx=false→b.wp ρ Q):(ae.ite c a b).wp ρ Q:=by rw[ark];exact⟨ht,hf⟩
theorem dX {c} {a b} (hc:(c.ev ρ).bx=true) (ha:a.wp ρ Q):(ae.ite c a b).wp ρ Q:=by rw[qv,ay hc];exact ha
theorem bj {c} {a b} (hc:(c.ev ρ).bx=false) (hb:b.wp ρ Q):(ae.ite c a b).wp ρ Q:=by rw[qv,aC (by rw[hc];decide)];exact hb
theorem D4 {a b} (h:a.wp ρ (si b ρ Q)):(ae.join a b).wp ρ Q:=by rw[sO];exact h
theorem ad {x} (h:Q (x,ρ)):(ae.ak x).wp ρ Q:=by rw[u5];exact h
def Nd.Jb (ρ:List L):Nd→Option L
 | .len x=>some (.i (x.ev ρ).az.length)
 | .bi op kd x y=>cU op kd (x.ev ρ).ah (y.ev ρ).ah
 | .cl x j kd=>match(x.ev ρ).jk[j]? with
  |some q=>kd.of q
  |none=>none
 | .not x=>some (.b (!(x.ev ρ).bx))
 | .conv kd x=>some (.i (kd.wrap (x.ev ρ).ah))
 | .lit rows=>some (.r (rows.map (cb ρ)))
 | .vw x lo ln=>some (.r (((x.ev ρ).az.drop (lo.ev ρ).ah.toNat).take (ln.ev ρ).ah.toNat))
 | .tk x ln=>some (.r ((x.ev ρ).az.take (ln.ev ρ).ah.toNat))
 | .bb op x y=>mF op (x.ev ρ).bx (y.ev ρ).bx
 |_=>none
theorem sN {nd} {l} (h:nd.Jb ρ=some l) (hk:k.wp (ρ++ [l]) Q):(ae.op nd k).wp ρ Q:=by
 cases nd with
 |len x=>cases h;exact Uj hk
 |bi op kd x y=>exact cv h hk
 |cl x j kd=>
  unfold Nd.Jb at h
  cases hq:(x.ev ρ).jk[j]? with
  |none=>simp[hq]at h
  |some q=>exact aii hq (by simpa[hq]using h) hk
 |not x=>cases h;exact asv hk
 |conv kd x=>cases h;exact jM hk
 |lit rows=>cases h;exact auS hk
 |vw x lo ln=>cases h;exact ahK hk
 |tk x ln=>cases h;exact aeI hk
 |bb op x y=>exact aoz h hk
 |_=>cases h
end
theorem oO {P:Prop} (h:P:=by(try dsimp only[At.ev,d1,d2,d3,d4,d5,d6,d7,d8,d9,e0,List.map,cb,Kd.pv]); (first|done|omega| (simp only[bE,cL,pQ,nj,CW,aA]<;>omega))):P:=h
theorem nW {f:ae} {ρ ρ'} {Q} (h:f.wp ρ' Q) (e:ρ=ρ':=by(try dsimp only[At.ev,d1,d2,d3,d4,d5,d6,d7,d8,d9,e0,List.map,cb,Kd.pv])<;>rfl):f.wp ρ Q:=e▸h
section
variable {ρ:List L} {Q:Lf×List L→Prop} {k:ae}
theorem jW {nd} {ls} (h:nd.ev ρ=some ls) (hk:k.wp (ρ++ls) Q):(ae.op nd k).wp ρ Q:=by rw[gp];exact⟨ls,h,hk⟩
theorem Lm {x y} {n} (h:min (x.ev ρ).ah (y.ev ρ).ah=n) (hk:k.wp (ρ++ [.i n]) Q):(ae.op (.mn x y) k).wp ρ Q:=jW (by simp only[Nd.ev];congr 3;split<;>omega) hk
theorem Kt {x y} {n} (h:max (x.ev ρ).ah (y.ev ρ).ah=n) (hk:k.wp (ρ++ [.i n]) Q):(ae.op (.mx x y) k).wp ρ Q:=jW (by simp only[Nd.ev];congr 3;split<;>omega) hk
theorem FL {x} (hk:k.wp (ρ++ [.i (x.ev ρ).eQ.size]) Q):(ae.op (.qk x) k).wp ρ Q:=jW rfl hk
theorem yH {x lo hi} {n} {r} (h:0≤(lo.ev ρ).ah∧(lo.ev ρ).ah≤(hi.ev ρ).ah∧(hi.ev ρ).ah.toNat≤(x.ev ρ).az.length∧bu n (x.ev ρ).az=true) (hr:((x.ev ρ).az.take (hi.ev ρ).ah.toNat).drop (lo.ev ρ).ah.toNat=r) (hk:k.wp (ρ++ [.r r]) Q):(ae.op (.part x lo hi n) k).wp ρ Q:=jW (by simp only[Nd.ev];rw[ay h,hr]) hk
theorem x_ {m} {ps} {b} {r} (h:0≤(m.ev ρ).ah∧(m.ev ρ).ah≤9223372036854775807∧b*(m.ev ρ).ah.toNat≤281474976710656) (hr:List.replicate (m.ev ρ).ah.toNat (cb ρ ps)=r) (hk:k.wp (ρ++ [.r r]) Q):(ae.op (.ix m ps b) k).wp ρ Q:=jW (by simp only[Nd.ev];rw[ay h,hr]) hk
theorem T7 {x lo ln y} {n} {ls} (h:bu n (y.ev ρ).az=true∧(lo.ev ρ).ah.toNat+(ln.ev ρ).ah.toNat≤(x.ev ρ).az.length)
 (hr:[L.r ((x.ev ρ).az.take (lo.ev ρ).ah.toNat++(y.ev ρ).az.take (min (y.ev ρ).az.length (ln.ev ρ).ah.toNat)++(x.ev ρ).az.drop ((lo.ev ρ).ah.toNat+min (y.ev ρ).az.length (ln.ev ρ).ah.toNat)),.i ((min (y.ev ρ).az.length (ln.ev ρ).ah.toNat:Nat):Int)]=ls) (hk:k.wp (ρ++ls) Q):(ae.op (.uJ x lo ln y n) k).wp ρ Q:=jW (by simp only[Nd.ev];rw[ay h,hr]) hk
theorem axK {x i} {b} (h0:0≤(i.ev ρ).ah) (h1:(x.ev ρ).eQ[(i.ev ρ).ah.toNat]? =some b) (hk:k.wp (ρ++ [.i b.toNat]) Q):(ae.op (.AU x i) k).wp ρ Q:=jW (by simp only[Nd.ev];rw[ay h0,h1]) hk
theorem uf {kd} {x} {n} (h:kd.wrap (x.ev ρ).ah=n) (hk:k.wp (ρ++ [.i n]) Q):(ae.op (.conv kd x) k).wp ρ Q:=jM (by rw[h];exact hk)
theorem cm {x y} {n} (h:(x.ev ρ).ah+(y.ev ρ).ah=n) (h0: -9223372036854775808≤n) (h1:n≤9223372036854775807) (hk:k.wp (ρ++ [.i n]) Q):(ae.op (.bi .add .i64 x y) k).wp ρ Q:=cv (by show some (L.i _)=_;rw[h,AI.wrap64 h0 h1]) hk
theorem ck {x y} {n} (h:(x.ev ρ).ah- (y.ev ρ).ah=n) (h0: -9223372036854775808≤n) (h1:n≤9223372036854775807) (hk:k.wp (ρ++ [.i n]) Q):(ae.op (.bi .sub .i64 x y) k).wp ρ Q:=cv (by show some (L.i _)=_;rw[h,AI.wrap64 h0 h1]) hk
theorem iS {x y} {n} (h:(x.ev ρ).ah*(y.ev ρ).ah=n) (h0: -9223372036854775808≤n) (h1:n≤9223372036854775807) (hk:k.wp (ρ++ [.i n]) Q):(ae.op (.bi .mul .i64 x y) k).wp ρ Q:=cv (by show some (L.i _)=_;rw[h,AI.wrap64 h0 h1]) hk
theorem aP {α:Type} {f} {l:List α} {x i:At} {n j:Nat} (hx:(x.ev ρ).az=l.map f) (hi:(i.ev ρ).ah=j) (hj) (hn:(f l[j]).length=n) (hk:k.wp (ρ++ [.c (f l[j])]) Q):(ae.op (.row x i n) k).wp ρ Q:=
 iC (by omega) (by rw[hx,hi,fA,bV,bW hj];rfl) hn hk
theorem dC {x y} {n b} {r} (hx:bu n (x.ev ρ).az=true) (hy:bu n (y.ev ρ).az=true) (h1:(x.ev ρ).az.length≤17179869184) (h2:(y.ev ρ).az.length≤17179869184) (hb:b≤64) (hr:(x.ev ρ).az++(y.ev ρ).az=r) (hk:k.wp (ρ++ [.r r]) Q):(ae.op (.app x y n b) k).wp ρ Q:=
 Xi ⟨by omega,by
  have:((x.ev ρ).az.length+(y.ev ρ).az.length)*b≤34359738368*64:=Pz om hb;omega,hx,hy⟩ (by rw[hr];exact hk)
def Nd.NA (ρ:List L):Nd→Option L
 | .bi op kd x y=>if lO op=true then cU op kd (x.ev ρ).ah (y.ev ρ).ah else none
 | .conv _ _=>none
 |nd=>nd.Jb ρ
theorem sT {nd} {l} (h:nd.NA ρ=some l) (hk:k.wp (ρ++ [l]) Q):(ae.op nd k).wp ρ Q:=by
 refine sN ?_ hk
 cases nd with
 |bi op kd x y=>
  simp only[Nd.NA]at h;split at h
  · exact h
  · cases h
 |conv=>cases h
 |_=>exact h
theorem uT {nd} {l} {ρ'} (h:nd.NA ρ=some l) (hk:k.wp ρ' Q) (e:ρ++ [l]=ρ':=by(try dsimp only[At.ev,d1,d2,d3,d4,d5,d6,d7,d8,d9,e0,List.map,cb,Kd.pv])<;>rfl):(ae.op nd k).wp ρ Q:=sT h (e▸hk)
theorem uR {f f':ae} {ρ ρ'} {Q} (h:f'.wp ρ' Q) (e:f'.wp ρ' Q→f.wp ρ Q:=by(intro h;refine nW ?_;repeat refine uT rfl ?_);exact h):f.wp ρ Q:=e h
theorem bg {x:At} {i:Nat} (h:(x.ev ρ).ah=i) (hi:i≤4611686018427387904) (hk:k.wp (ρ++ [.i ((i+1:Nat):Int)]) Q):(ae.op (.bi .add .i64 x (.i 1)) k).wp ρ Q:=cm (by rw[h];rfl) om om hk
theorem MK {n} (h0:0≤n) (h1:n≤18446744073709551615):IntKind.wrap .u64 n=n:=AI.vr .u64 (by simp[IntKind.min,IntKind.signed];omega) (by simp[IntKind.max,IntKind.signed,IntKind.bits];omega)
theorem fU {x} {n} (h:(x.ev ρ).ah=n) (h0:0≤n) (h1:n≤18446744073709551615) (hk:k.wp (ρ++ [.i n]) Q):(ae.op (.conv .u64 x) k).wp ρ Q:=uf (by rw[h,MK h0 h1]) hk
theorem po {x} {n} (h:(x.ev ρ).ah=n) (h0: -9223372036854775808≤n) (h1:n≤9223372036854775807) (hk:k.wp (ρ++ [.i n]) Q):(ae.op (.conv .i64 x) k).wp ρ Q:=uf (by rw[h,AI.wrap64 h0 h1]) hk
theorem aI {c} {a b} {P} {inst} (hc:c.ev ρ= .b (@decide P inst)) (ht:P→a.wp ρ Q) (hf:¬P→b.wp ρ Q):(ae.ite c a b).wp ρ Q:=
 bc (fun h=>ht (by rw[hc]at h;exact dG h)) (fun h=>hf (by rw[hc]at h;exact eh h))
theorem cS {c} {a b} {P} {inst} (hc:c.ev ρ= .b (@decide P inst)) (h:P) (ha:a.wp ρ Q):(ae.ite c a b).wp ρ Q:=aI hc (fun _=>ha) fun k=>absurd h k
theorem ba {c} {a b} {P} {inst} (hc:c.ev ρ= .b (@decide P inst)) (h:¬P) (hb:b.wp ρ Q):(ae.ite c a b).wp ρ Q:=aI hc (fun k=>absurd k h) fun _=>hb
theorem dF {P} {inst} (h:¬P):[L.b (@decide P inst)]=[.b false]:=by rw[decide_eq_false h]
theorem dT {P} {inst} (h:P):[L.b (@decide P inst)]=[.b true]:=by rw[decide_eq_true h]
def jQ (K:List L→Prop) (Q:Lf×List L→Prop) (r:Lf×List L):Prop:=match r with
 | (.jump 0 args,ρ')=>K (args.map (At.ev ρ'))
 | (.jump (k+1) args,ρ')=>Q (.jump k args,ρ')
 |r=>Q r
theorem aB {a b} (K) (ha:a.wp ρ (jQ K Q)) (h:∀xs,K xs→b.wp (ρ++xs) Q):(ae.join a b).wp ρ Q:=by
 refine D4 (ae.wp.mono ha fun r hr=> ?_);obtain⟨lf,ρ'⟩:=r
 cases lf with
 |st=>exact hr
 |jump k args=>cases k with
  |zero=>exact h _ hr
  |succ k=>exact hr
def bT (P:Prop) (xs:List L):Prop:=∃t:Bool,xs=[.b t]∧(t=true ↔ P)
theorem cz {P} (h:P):bT P [.b true]:=⟨true,rfl,fun _=>h,fun _=>rfl⟩
theorem dN {P} (h:¬P):bT P [.b false]:=⟨false,rfl,fun h=> (by cases h),fun h'=>absurd h' h⟩
theorem dW {P R} [Decidable R] (h:R ↔ P):bT P [.b (decide R)]:=⟨_,rfl,by rw[dj];exact h⟩
theorem oU {P R} [Decidable R] (h:¬R ↔ P):bT P [.b (!decide R)]:=⟨_,rfl,by rw[pN,zg];exact h⟩
end
end
section
section
open Go.RowKit
theorem dx {ρ} {Q} {k} {α:Type} {f} {l:List α} {x i:At} {j c:Nat} {kd} {q} {y} (hx:(x.ev ρ).az=l.map f) (hi:(i.ev ρ).ah=j) (hj) (hq:(f l[j])[c]? =some q) (hd:kd.of q=some y) (hk:k.wp (ρ++ [y]) Q):(ae.op (.rc x i c kd) k).wp ρ Q:=
 kF (by rw[hx,hi,fA,bV,bW hj];rfl) hq hd hk
theorem Ll {kd} {x k:Nat} (h:k≤kd.bits):cU .shr kd (x:Int) (k:Int)=some (.i ((x>>>k:Nat):Int)):=by
 show(if 0≤(k:Int)then some (L.i ((x:Int).fdiv (2^ (min (k:Int).toNat kd.bits))))else none)=_;rw[ay om,fA,wo h,PA _ (Int.pow_nonneg dc),Nat.shiftRight_eq_div_pow,show(2:Int) ^k=((2^k:Nat):Int)by rfl,←Int.natCast_ediv]
end
def bN (a m b p:Nat):Nat:=if a≤p∧p<a+(b-m)then p+m-a else if a+(b-m)≤p∧p<b then p+m-b else p
def kL (a b n p:Nat):Nat:=if a≤p∧p<a+n then p+b-a else if b≤p∧p<b+n then p+a-b else p
theorem Tc {a m p}:bN a m m p=p:=by unfold bN; (repeat' split)<;>omega
theorem YS {m b p} (h:m≤b):bN m m b p=p:=by unfold bN; (repeat' split)<;>omega
theorem ahi {m i j p} (hi:i≤m) (hj:j<i):kL (m-i) m j (bN (m- (i-j)) m (m+j) p)=bN (m-i) m (m+j) p:=by unfold kL bN; (repeat' split)<;>omega
theorem agr {m i j p} (hi:i≤m) (hj:i<j):kL (m-i) (m+j-i) i (bN (m-i) m (m+(j-i)) p)=bN (m-i) m (m+j) p:=by unfold kL bN; (repeat' split)<;>omega
theorem azh {m i p} (hi:i≤m):kL (m-i) m i p=bN (m-i) m (m+i) p:=by unfold kL bN; (repeat' split)<;>omega
def cZ (g:Nat→Int) (a b:Nat):Prop:=∀p q,a≤p→p<q→q<b→g p≤g q
theorem cZ.le {g} {a b p q} (h:cZ g a b) (h1:a≤p) (h2:p≤q) (h3:q<b):g p≤g q:=by
 by_cases e:p=q
 · subst e;exact Int.le_refl _
 · exact h p q h1 om h3
theorem anh {g} {a b i} (hs:cZ g (a+1) b) (h1:a+1≤i) (h2:i≤b) (k1:i=a+1∨g (i-1)≤g a) (k2:i=b∨g a≤g i):cZ (fun p=>g (bN a (a+1) i p)) a b:=by
 intro p q hp gG hq;have lo:∀x,a+1≤x→x<i→g x≤g a:=fun x h3 h4=>by
   rcases k1 with k1|k1
   · omega
   · exact tp (hs.le h3 om om) k1
 have hi:∀x,i≤x→x<b→g a≤g x:=fun x h3 h4=>by
   rcases k2 with k2|k2
   · omega
   · exact tp k2 (hs.le om h3 h4)
 have e1:∀x,a≤x→x<i-1→bN a (a+1) i x=x+1:=fun x h3 h4=>by unfold bN; (repeat' split)<;>omega
 have e2:bN a (a+1) i (i-1)=a:=by unfold bN; (repeat' split)<;>omega
 have e3:∀x,i≤x→bN a (a+1) i x=x:=fun x h3=>by unfold bN; (repeat' split)<;>omega
 show g (bN a (a+1) i p)≤g (bN a (a+1) i q);by_cases c1:p<i-1
 · rw[e1 p hp c1];by_cases c2:q<i-1
   · rw[e1 q om c2];exact hs _ _ om om om
   · by_cases c3:q=i-1
     · rw[c3,e2];exact lo _ om om
     · rw[e3 q om];exact tp (lo _ om om) (hi _ om hq)
 · by_cases c2:p=i-1
   · rw[c2,e2,e3 q om];exact hi _ om hq
   · rw[e3 p om,e3 q om];exact hs _ _ om gG hq
theorem ate {g} {a m i} (hs:cZ g a m) (h1:a≤i) (h2:i≤m) (k1:i=a∨g (i-1)≤g m) (k2:i=m∨g m≤g i):cZ (fun p=>g (bN i m (m+1) p)) a (m+1):=by
 intro p q hp gG hq;have lo:∀x,a≤x→x<i→g x≤g m:=fun x h3 h4=>by
   rcases k1 with k1|k1
   · omega
   · exact tp (hs.le h3 om om) k1
 have hi:∀x,i≤x→x<m→g m≤g x:=fun x h3 h4=>by
   rcases k2 with k2|k2
   · omega
   · exact tp k2 (hs.le om h3 h4)
 have e1:∀x,x<i→bN i m (m+1) x=x:=fun x h3=>by unfold bN; (repeat' split)<;>omega
 have e2:bN i m (m+1) i=m:=by unfold bN; (repeat' split)<;>omega
 have e3:∀x,i<x→x≤m→bN i m (m+1) x=x-1:=fun x h3 h4=>by unfold bN; (repeat' split)<;>omega
 show g (bN i m (m+1) p)≤g (bN i m (m+1) q);by_cases c1:p<i
 · rw[e1 p c1];by_cases c2:q<i
   · rw[e1 q c2];exact hs _ _ hp gG om
   · by_cases c3:q=i
     · rw[c3,e2];exact lo _ hp c1
     · rw[e3 q om om];exact hs _ _ hp om om
 · by_cases c2:p=i
   · rw[c2,e2,e3 q om om];exact hi _ om om
   · rw[e3 p om om,e3 q om om];exact hs _ _ om om om
theorem aue {g} {a m b s e} (h1:cZ g a m) (h2:cZ g m b) (ha:a≤s) (hs:s≤m) (hm:m≤e) (he:e≤b)
   (k1:s=a∨e=b∨g (s-1)≤g e) (k2:s=m∨e=m∨g (e-1)≤g s):
   cZ (fun p=>g (bN s m e p)) a s∧cZ (fun p=>g (bN s m e p)) s (s+(e-m))∧cZ (fun p=>g (bN s m e p)) (s+(e-m)) e∧cZ (fun p=>g (bN s m e p)) e b∧
     ∀p q,a≤p→p<s+(e-m)→s+(e-m)≤q→q<b→g (bN s m e p)≤g (bN s m e q):=by
 have r1:∀x,x<s→bN s m e x=x:=fun x h3=>by unfold bN; (repeat' split)<;>omega
 have r2:∀x,s≤x→x<s+(e-m)→bN s m e x=x+m-s:=fun x h3 h4=>by unfold bN; (repeat' split)<;>omega
 have r3:∀x,s+(e-m)≤x→x<e→bN s m e x=x+m-e:=fun x h3 h4=>by unfold bN; (repeat' split)<;>omega
 have r4:∀x,e≤x→bN s m e x=x:=fun x h3=>by unfold bN; (repeat' split)<;>omega
 have c1:∀x y,a≤x→x<s→e≤y→y<b→g x≤g y:=fun x y h3 h4 h5 h6=>by
   rcases k1 with k|k|k
   · omega
   · omega
   · exact tp (h1.le h3 om om) (tp k (h2.le om h5 h6))
 have c2:∀x y,m≤x→x<e→s≤y→y<m→g x≤g y:=fun x y h3 h4 h5 h6=>by
   rcases k2 with k|k|k
   · omega
   · omega
   · exact tp (h2.le h3 om om) (tp k (h1.le ha h5 h6))
 refine⟨fun p q hp gG hq=> ?_,fun p q hp gG hq=> ?_,fun p q hp gG hq=> ?_,fun p q hp gG hq=> ?_,fun p q hp gG hq HB=> ?_⟩
 · show g (bN s m e p)≤g (bN s m e q);rw[r1 p om,r1 q hq];exact h1 _ _ hp gG om
 · show g (bN s m e p)≤g (bN s m e q);rw[r2 p hp om,r2 q om hq];exact h2 _ _ om om om
 · show g (bN s m e p)≤g (bN s m e q);rw[r3 p hp om,r3 q om hq];exact h1 _ _ om om om
 · show g (bN s m e p)≤g (bN s m e q);rw[r4 p hp,r4 q om];exact h2 _ _ om gG hq
 · by_cases d1:p<s
   · rw[r1 p d1];by_cases d2:q<e
     · rw[r3 q hq d2];exact h1.le hp om om
     · rw[r4 q om];exact c1 _ _ hp d1 om HB
   · rw[r2 p om gG];by_cases d2:q<e
     · rw[r3 q hq d2];exact c2 _ _ om om om om
     · rw[r4 q om];exact h2.le om om HB
structure de {α:Type} (a b:Nat) (l d:List α):Prop where
 perm:d.Perm l
 out:∀p,p<a∨b≤p→d[p]? =l[p]?
 Aa:∀p,a≤p→p<b→∃q,a≤q∧q<b∧d[p]? =l[q]?
theorem de.refl {α} {a b} (l:List α):de a b l l:=⟨H4 _,fun _ _=>rfl,fun p h1 h2=> ⟨p,h1,h2,rfl⟩⟩
theorem de.trans {α} {a b} {l d e:List α} (h:de a b l d) (k:de a b d e):de a b l e:=
 ⟨k.perm.trans h.perm,fun p hp=> (k.out p hp).trans (h.out p hp),fun p h1 h2=>by
  obtain⟨q,q1,q2,q3⟩:=k.Aa p h1 h2;obtain⟨r,r1,r2,r3⟩:=h.Aa q q1 q2;exact⟨r,r1,r2,q3.trans r3⟩⟩
theorem de.mono {α} {a b a' b'} {l d:List α} (h:de a b l d) (h1:a'≤a) (h2:b≤b'):de a' b' l d:=
 ⟨h.perm,fun p hp=>h.out p om,fun p h3 h4=>by
  by_cases hc:a≤p∧p<b
  · obtain⟨q,q1,q2,q3⟩:=h.Aa p hc.1 hc.2;exact⟨q,om,om,q3⟩
  · exact⟨p,h3,h4,h.out p om⟩⟩
theorem de.swap {α} {a b i j} {l:List α} (hi) (hj) (h1:a≤i) (h2:i<b) (h3:a≤j) (h4:j<b):de a b l ((l.set i l[j]).set j l[i]):=by
 refine⟨List.set_set_perm hi hj,fun p hp=> ?_,fun p hp1 hp2=> ?_⟩
 · rw[zm om,zm om]
 · by_cases e1:p=j
   · subst e1;refine⟨i,h1,h2,?_⟩;rw[H5 (by simpa using hj),bW hi]
   · rw[zm om];by_cases e2:p=i
     · subst e2;exact⟨j,h3,h4,by rw[H5 hi,bW hj]⟩
     · exact⟨p,hp1,hp2,zm om⟩
def oM {α:Type} (f:α→Int) (l:List α) (p:Nat):Int:=match l[p]? with
 |some x=>f x
 |none=>0
theorem aiL {α} {f} {l:List α} {p} (h):oM f l p=f l[p]:=by unfold oM;rw[bW h]
theorem lX {α} {f} {l d:List α} {p q} (h:d[p]? =l[q]?):oM f d p=oM f l q:=by unfold oM;rw[h]
theorem cZ.congr {g h} {a b} (hg:cZ g a b) (e:∀p,a≤p→p<b→h p=g p):cZ h a b:=fun p q h1 h2 h3=>by
 rw[e p h1 om,e q om h3];exact hg p q h1 h2 h3
theorem cZ.join {g} {a m b} (h1:cZ g a m) (h2:cZ g m b) (h:∀p q,a≤p→p<m→m≤q→q<b→g p≤g q):cZ g a b:=fun p q hp gG hq=>by
 by_cases c1:q<m
 · exact h1 p q hp gG c1
 · by_cases c2:p<m
   · exact h p q hp c2 om hq
   · exact h2 p q om gG hq
theorem ayZ {α} {f} {a m b} {l d e:List α} (h:∀p q,a≤p→p<m→m≤q→q<b→oM f l p≤oM f l q) (h1:de a m l d) (h2:de m b d e):∀p q,a≤p→p<m→m≤q→q<b→oM f e p≤oM f e q:=fun p q hp hpm hq HB=>by
 obtain⟨p',k1,k2,k3⟩:=h1.Aa p hp hpm;obtain⟨q',j1,j2,j3⟩:=h2.Aa q hq HB;rw[lX (h2.out p om),lX k3,lX j3,lX (h1.out q' om)];exact h p' q' k1 k2 j1 j2
namespace Pl
structure It where
 key:Int
 cookie:Int
 off:Int
 size:Int
deriving DecidableEq,Inhabited
def bU (n:Int):Int:=if n<0∨4096<n then 0 else(n+31) /8*8
def dm (x:It):Bool:=decide (16≤x.off)&&decide (x.off≤1048576)&&decide (x.off%8=0)&&decide (0≤x.size)&&decide (x.size≤4096)
def dK (l:List It):Prop:=l.Pairwise fun a b=>a.key<b.key
def VL (l:List It):Prop:=dK l∧∀x∈l,dm x=true
def ends (x:It):Int:=x.off+bU x.size
theorem Eb {x} (h:dm x=true):24≤bU x.size:=by
 simp only[dm,bt,dj]at h;unfold bU;omega
def Clear (a b:It):Prop:=¬(a.off≤b.off∧b.off<ends a)∧¬(b.off≤a.off∧a.off<ends b)
theorem Clear.symm {a b} (h:Clear a b):Clear b a:=⟨h.2,h.1⟩
def lY:Int→List It→Option Int
 |e,[]=>some e
 |e,x::l=>if x.off<e then none else lY (ends x) l
theorem akz (l:List It) (aO:∀x∈l,dm x=true) (hs:l.Pairwise fun a b=>a.off≤b.off) (size:Int):∀e:Int,(∀x∈l,e≤x.off)→e≤size→
  ((∃r,lY e l=some r∧r≤size) ↔ (l.Pairwise Clear∧∀x∈l,ends x≤size)):=by
 induction l with
 |nil=>intro e _ h;simp[lY,h]
 | cons a l ih=>
  intro e he eM;have ha:=Eb (aO a (by simp));have hs':=gf.1 hs;have hne:¬a.off<e:=by have:=he a (by simp);omega
  simp only[lY,aC hne];by_cases OF:ends a≤size
  · by_cases hall:∀x∈l,ends a≤x.off
    · rw [ih (fun x hx=>aO x (by simp[hx])) hs'.2 (ends a) hall OF];rw[gf];constructor
      · rintro⟨h1,h2⟩;refine⟨⟨fun b hb=> ⟨fun h=> ?_,fun h=> ?_⟩,h1⟩,fun x hx=> ?_⟩
        · have:=hall b hb;omega
        · have:=hall b hb;unfold ends at*;omega
        · rcases dL.1 hx with rfl|hx
          · exact OF
          · exact h2 x hx
      · rintro⟨⟨_,h1⟩,h2⟩;exact⟨h1,fun x hx=>h2 x (by simp[hx])⟩
    · constructor
      · rintro⟨r,h1,_⟩;exfalso;apply hall;intro x hx
        match l,hx,h1 with
        | b ::l',hx,h1=>
          simp only[lY]at h1;split at h1
          · cases h1
          · rcases dL.1 hx with rfl|hx'
            · omega
            · have:=(gf.1 hs'.2).1 x hx';omega
      · rintro⟨h1,_⟩;exfalso;apply hall;intro x hx;have h2:=(gf.1 h1).1 x hx;have h3:=hs'.1 x hx;have:=h2.1;omega
  · constructor
    · rintro⟨r,h1,h2⟩;have key:∀(l:List It) (e r:Int),(∀x∈l,dm x=true)→lY e l=some r→e≤r:=by
        intro l
        induction l with
        |nil=>intro e r _ h;simp[lY]at h;omega
        | cons b l ihl=>
          intro e r aO h;simp only[lY]at h;split at h
          · cases h
          · have:=ihl _ _ (fun x hx=>aO x (by simp[hx])) h;have hb:=Eb (aO b (by simp));unfold ends at this;omega
      have:=key l _ _ (fun x hx=>aO x (by simp[hx])) h1;omega
    · rintro⟨_,h2⟩;exact absurd (h2 a (by simp)) OF
theorem afq {l l'} (aO:∀x∈l,dm x=true) (hp:l'.Perm l) (hs:l'.Pairwise fun a b=>a.off≤b.off) (size) (vZ:16≤size):
   (∃r,lY 16 l'=some r∧r≤size) ↔ (l.Pairwise Clear∧∀x∈l,ends x≤size):=by
 have aax:∀x∈l',dm x=true:=fun x hx=>aO x (hp.mem_iff.1 hx)
 rw[akz l' aax hs size 16 (fun x hx=>by have:=aax x hx;simp only[dm,bt,dj]at this;omega) vZ];rw[hp.pairwise_iff (fun h=>Clear.symm h)];constructor
 · rintro⟨h1,h2⟩;exact⟨h1,fun x hx=>h2 x (hp.mem_iff.2 hx)⟩
 · rintro⟨h1,h2⟩;exact⟨h1,fun x hx=>h2 x (hp.mem_iff.1 hx)⟩
def ins (x:It):List It→List It
 |[]=> [x]
 |a::l=>if a.key<x.key then a::ins x l else if a.key=x.key then x::l else x::a::l
def fX (l:List It):List It:=l.foldl (fun out x=>ins x out) []
theorem uv {x y:It}:∀{l:List It},y∈ins x l→y=x∨y∈l
 |[],h=>by simp[ins]at h;exact .inl h
 |a::l,h=>by
  unfold ins at h;split at h
  · rcases dL.1 h with rfl|h
    · exact .inr (by simp)
    · rcases uv h with h|h
      · exact .inl h
      · exact .inr (by simp[h])
  · split at h
    · rcases dL.1 h with rfl|h
      · exact .inl rfl
      · exact .inr (by simp[h])
    · rcases dL.1 h with rfl|h
      · exact .inl rfl
      · exact .inr h
theorem Ar (x):∀{l},dK l→dK (ins x l)
 |[],_=>by simp[ins,dK]
 |a::l,h=>by
  have h':=gf.1 h;unfold ins;split
  · rename_i hlt;refine gf.2 ⟨fun y hy=> ?_,Ar x h'.2⟩;rcases uv hy with rfl|hy
    · exact hlt
    · exact h'.1 y hy
  · split
    · rename_i _ heq;exact gf.2 ⟨fun y hy=>by rw[←heq];exact h'.1 y hy,h'.2⟩
    · refine gf.2 ⟨fun y hy=> ?_,h⟩;rcases dL.1 hy with rfl|hy
      · omega
      · have:=h'.1 y hy;omega
theorem TC:∀(l out:List It),dK out→dK (l.foldl (fun out x=>ins x out) out)
 |[],_,h=>h
 |x::l,out,h=>TC l (ins x out) (Ar x h)
theorem Eo (l):dK (fX l):=TC l [] (by simp[dK])
def kI (l:List It):Prop:=l.Pairwise fun a b=>a.key≠b.key
theorem dK.apart {l} (h:dK l):kI l:=h.imp fun h e=>om
theorem Zr {x}:∀{l},(∀y∈l,y.key≠x.key)→(ins x l).Perm (x::l)
 |[],_=>by simp[ins]
 |a::l,h=>by
  have ha:¬a.key=x.key:=h a (by simp);unfold ins;split
  · exact((Zr fun y hy=>h y (by simp[hy])).cons a).trans (List.Perm.swap x a l)
  · exact H4 _
theorem TL:∀(l out),kI l→(∀x∈l,∀y∈out,y.key≠x.key)→(l.foldl (fun out x=>ins x out) out).Perm (l++out)
 |[],_,_,_=>H4 _
 |x::l,out,hl,hd=>by
  have hl':=gf.1 hl;refine(TL l (ins x out) hl'.2 fun z hz y hy=> ?_).trans ?_
  · rcases uv hy with rfl|hy
    · exact hl'.1 z hz
    · exact hd z (by simp[hz]) y hy
  · exact((Zr (hd x (by simp))).append_left l).trans List.perm_middle
theorem Yt {l} (h:kI l):(fX l).Perm l:=by
 have:=TL l [] h (fun _ _ _ hy=>by cases hy)
 rwa [eW]at this
theorem XH:∀{l l'},dK l→dK l'→l.Perm l'→l=l'
 |[],l',_,_,hp=>by simpa using hp.symm.eq_nil
 |a::l,[],_,_,hp=>by simpa using hp.eq_nil
 | a ::l,b::l',h,h',hp=>by
  have h1:=gf.1 h;have h2:=gf.1 h';have hab:a=b:=by
   have ha:a∈b::l':=hp.mem_iff.1 (by simp);have hb:b∈a::l:=hp.mem_iff.2 (by simp);rcases dL.1 ha with e|ha
   · exact e
   · rcases dL.1 hb with e|hb
     · exact e.symm
     · have:=h1.1 b hb;have:=h2.1 a ha;omega
  subst hab;rw[XH h1.2 h2.2 ((List.perm_cons a).1 hp)]
theorem K5 {l l'} (ha:dK l') (hp:l'.Perm l) (hl:kI l):fX l=l':=
 XH (Eo l) ha ((Yt hl).trans hp.symm)
theorem D8 {l} (h:dK l):fX l=l:=K5 h (H4 _) h.apart
def bG (l:List It) (k:Int):Option It:=l.reverse.find? fun x=>decide (x.key=k)
theorem oA {l} (h:kI l) {x} (hx:x∈l):bG l x.key=some x:=by
 unfold bG;have hx':x∈l.reverse:=by simpa using hx
 have hap:kI l.reverse:=List.pairwise_reverse.2 (h.imp fun h=>Ne.symm h);generalize l.reverse=r at*
 induction r with
 |nil=>cases hx'
 |cons a r ih=>
  rw[PB];rcases dL.1 hx' with rfl|hx
  · simp
  · have:=(gf.1 hap).1 x hx;rw[show decide (a.key=x.key)=false by simpa using this];exact ih hx (gf.1 hap).2
theorem xl {l} {k} (h:∀x∈l,x.key≠k):bG l k=none:=by
 unfold bG;rw[PC];intro x hx;simpa using h x (by simpa using hx)
theorem zH {l} {k} {x} (h:bG l k=some x):x∈l∧x.key=k:=by
 have h1:=abL h;have h2:=abK h;exact⟨by simpa using h1,by simpa using h2⟩
end Pl
end
section
open Go.RowKit
def ao (x:Pl.It):List PV:=[.sc (.int .u64 x.key),.sc (.int .u32 x.cookie),.sc (.int .i64 x.off),.sc (.int .i64 x.size)]
abbrev By:=List (List PV)
def gZ:List PV:=[.sc (.int .u8 0)]
structure Wr where
 off:Int
 data:By
 cut:Bool
structure Fl where
 name:fo
 base:By
 aY:List Wr
structure Dk where
 cap:Int
 left:Int
 files:List Fl
def fE (w:Wr):List PV:=[.sc (.int .i64 w.off),.sl w.data,.sc (.bool w.cut)]
def aQ (f:Fl):List PV:=[.sc (.string f.name),.sl f.base,.sl (f.aY.map fE)]
def fP (b:By) (w:Wr):By:=if w.cut=true then b.take w.off.toNat else(b++List.replicate (w.off.toNat-b.length) gZ).take w.off.toNat++w.data++b.drop (w.off.toNat+w.data.length)
def su (n:Int) (w:Wr):Int:=if w.cut=true then min n w.off else max n (w.off+w.data.length)
def okW (w:Wr):Prop:=0≤w.off∧w.off≤1048576∧¬(w.cut=true∧0<w.data.length)
instance (w:Wr):Decidable (okW w):=inferInstanceAs (Decidable (_∧_∧_))
def C_:By→List Wr→Prop
 |_,[]=>True
 |b,w::ws=>okW w∧(fP b w).length≤1048576∧C_ (fP b w) ws
def okF (b:By) (ws:List Wr):Prop:=b.length≤1048576∧C_ b ws
def cD (b:By) (ws:List Wr):By:=ws.foldl fP b
theorem MH {b} {w} (h:0≤w.off):((fP b w).length:Int)=su b.length w:=by
 unfold fP su;split
 · simp only[cL];omega
 · simp only[bE,cL,pQ,jt];omega
def wN (w:Wr):Prop:=bu 1 w.data=true∧w.data.length≤4294967296
def vB (f:Fl):Prop:=bu 1 f.base=true∧f.base.length≤4294967296∧f.aY.length≤4294967296∧∀w∈f.aY,wN w
theorem Bl {n} {a b} (h1:bu n a=true) (h2:bu n b=true):bu n (a++b)=true:=by
 unfold bu at*;simp[List.all_append,h1,h2]
theorem Es {n m} {a} (h:bu n a=true):bu n (a.take m)=true:=by
 unfold bu at*;rw[bC]at*;exact fun x hx=>h x (mf hx)
theorem UB {n m} {a} (h:bu n a=true):bu n (a.drop m)=true:=by
 unfold bu at*;rw[bC]at*;exact fun x hx=>h x (wh hx)
theorem Fj {n m} {r} (h:r.length=n):bu n (List.replicate m r)=true:=by
 unfold bu;rw[bC];exact fun x hx=>by rw[List.eq_of_mem_replicate hx];simpa using h
theorem aiq {b:By} {w} (hb:bu 1 b=true) (hw:wN w):bu 1 (fP b w)=true:=by
 unfold fP;split
 · exact Es hb
 · exact Bl (Bl (Es (Bl hb (Fj rfl))) hw.1) (UB hb)
theorem tS {ws}:∀{b:By},bu 1 b=true→(∀w∈ws,wN w)→bu 1 (cD b ws)=true:=by
 induction ws with
 |nil=>exact fun h _=>h
 |cons w ws ih=>exact fun h hw=>ih (aiq h (hw w iL)) fun x hx=>hw x (iM _ hx)
theorem uZ {b} {ws:List Wr} {k} (h):cD b (ws.take (k+1))=fP (cD b (ws.take k)) ws[k]:=by
 unfold cD;rw[gX h,zn];rfl
def vx (b:By) (ws:List Wr) (k:Nat):Prop:=∀(j:Nat) (h:j<ws.length),j<k→okW ws[j]∧(cD b (ws.take (j+1))).length≤1048576
theorem r5 {ws:List Wr}:∀{b:By},C_ b ws ↔ vx b ws ws.length:=by
 induction ws with
 |nil=>exact fun {b}=> ⟨fun _ j h=>absurd h (zo _),fun _=>trivial⟩
 |cons w ws ih=>
  intro b;unfold C_;rw[ih];constructor
  · rintro⟨h1,h2,h3⟩ j hj hk
    cases j with
    |zero=>exact⟨h1,by simpa[cD]using h2⟩
    |succ j=>
     have:=h3 j (by simpa using hj) (by simpa using hj);simpa[cD]using this
  · intro h;refine⟨(h 0 (by simp) (by simp)).1,by simpa[cD]using(h 0 (by simp) (by simp)).2,fun j hj hk=> ?_⟩;have:=h (j+1) (by simpa using hj) (by simpa using hj);simpa[cD]using this
theorem QA {b} {ws}:vx b ws 0:=fun _ _ h=>absurd h (zo _)
theorem TW {b} {ws} {k} (h) (hk:vx b ws k) (h1:okW ws[k]) (h2:(cD b (ws.take (k+1))).length≤1048576):vx b ws (k+1):=fun j hj hlt=>by
 by_cases e:j=k
 · subst e;exact⟨h1,h2⟩
 · exact hk j hj om
theorem ss {b} {ws} {k} (hb:b.length≤1048576) (h:vx b ws k) (hk:k≤ws.length):(cD b (ws.take k)).length≤1048576:=by
 cases k with
 |zero=>simpa[cD]using hb
 |succ k=>exact(h k om om).2
def kG (c:Nat):Prop:=(97≤c∧c≤122)∨(48≤c∧c≤57)∨c=46∨c=45
def gk (s:fo):Prop:=(∀(i:Nat) (b:UInt8),s[i]? =some b→kG b.toNat)∧1≤s.size∧s.size≤40
def pg (a b:fo):Bool:=Op.bytesLess a.toList b.toList||a.toList==b.toList
def lU (d:Dk):Prop:=(0≤d.cap∧-1≤d.left∧d.files.length≤256)∧∀(i:Nat) (h:i<d.files.length),(gk d.files[i].name∧okF d.files[i].base d.files[i].aY)∧∀h0:0<i,pg d.files[i].name (d.files[i-1]'om).name=false
def mE (d:Dk):Prop:=d.files.length≤4294967296∧∀f∈d.files,vB f∧f.name.size≤4611686018427387904
def ji (d:Dk) (s:fo) (i:Nat):Prop:=∃h:i<d.files.length,(d.files[i].name.toList==s.toList)=true∧∀(j:Nat) (h1:j<i),((d.files[j]'om).name.toList==s.toList)=false
def mw (d:Dk) (s:fo):Prop:=∀(j:Nat) (h:j<d.files.length),(d.files[j].name.toList==s.toList)=false
def Wh (d:Dk) (s:fo) (c:By):Prop:=lU d∧gk s∧d.left≠0∧∃i,∃h:ji d s i,c=cD (d.files[i]'h.1).base (d.files[i]'h.1).aY
def jy (c:By) (off n:Int):Prop:=off<0∨n<0∨(c.length:Int)<off∨(c.length:Int) -off<n
theorem dU (P):∃b,(b=true ↔ P):=by
 by_cases h:P
 · exact⟨true,⟨fun _=>h,fun _=>rfl⟩⟩
 · exact⟨false,⟨fun h=> (by cases h),fun h'=>absurd h' h⟩⟩
noncomputable def TT:aU:=[2,3,4,5,9,22,23,25,27,29,30,31,33,34,36,40,42,45,49,50,51,53,54,55,58,60,62,64,67,71,73,75,76,80,81,83,84,89,90,92,94,100,107,109,111,125,127,128,129,131,135,143,144,146,149,150,154,156,162,165,166,185,196,233,263,295,298,299,301,311,315,318,321,323,328,339,356,379,388,408,436,437].map fun i=> (i,eK Tryz.prog i)
theorem fO:aU.ok Tryz.prog TT:=aU.K7 kr
noncomputable def TTx:aU:=(999999,eK Tryz.prog 999999)::TT
theorem avT:aU.ok Tryz.prog TTx:=aU.K7 kr
noncomputable def TTy:aU:=(999998,eK Tryz.prog 999998)::TT
theorem auV:aU.ok Tryz.prog TTy:=aU.K7 kr
theorem BH:Tryz.prog.follows .mixedOrders=true:=kr
theorem cK.ok.nil:cK.ok Tryz.prog []:=fun s hs=>by cases hs
theorem cK.ok.cons {s:au} {C:cK} (h:s.ok Tryz.prog) (hC:cK.ok Tryz.prog C):cK.ok Tryz.prog (s::C):=fun x hx=>by
 rcases dL.1 hx with rfl|hx
 · exact h
 · exact hC x hx
def w (a n:Nat):List At:=(List.range n).map fun i=> .v (a+i)
def pi (n:Nat):SC:= .p (.int .i64) (.v n)
def ps (n:Nat):SC:= .p .sl (.v n)
def ci (n:Nat):aF:= .c (pi n)
def cs (n:Nat):aF:= .c (ps n)
def cX (a n:Nat):List SC:=(List.range n).map fun i=>pi (a+i)
def eo (a n:Nat):List SC:=(List.range n).map fun i=>ps (a+i)
theorem qt {s:au} (x:ae) {T:aU} {C:cK} {fn:Func} (hT:aU.ok Tryz.prog T) (hC:cK.ok Tryz.prog C) (hf:Tryz.prog.funcs[s.f]? =some fn) (hname:(fn.name== "runtime.NumGoroutine")=false) (h:Ej T C fn s.cY s.params s.H=some ⟨x,s.res,s.out,s.iF⟩) (hF:s.F=Fo x):s.ok Tryz.prog:=
 awC hT hC BH hf hname h (F:=s.F) (fun ls=>by rw[hF];rfl) s.tag
def alB:=C0
def VV:=Mg
def TR:=DA
theorem oS {s:au} {C:cK} {x:ae} (hC:cK.ok Tryz.prog C) (hF:s.F=Fo x:=by rfl) (h1:(Tryz.prog.funcs[s.f]?).isSome=true:=by kernel_rfl) (hname:(((Tryz.prog.funcs[s.f]?).getD default).name== "runtime.NumGoroutine")=false:=by kernel_rfl) (h:Ej TT C ((Tryz.prog.funcs[s.f]?).getD default) s.cY s.params s.H=some ⟨x,s.res,s.out,s.iF⟩:=by kernel_rfl):s.ok Tryz.prog:=by
  obtain⟨fn,hf⟩:=ze.1 h1;rw[hf]at hname h;exact qt x fO hC hf hname h hF
abbrev Ok (s:au):Prop:=s.ok Tryz.prog
abbrev ae.j (l:List At):ae:= .ak (.jump 0 l)
abbrev ae.bI (o:BinOp) (a b:At) (k:ae):ae:= .op (.bi o .i64 a b) k
abbrev ae.ln (a:At) (k:ae):ae:= .op (.len a) k
abbrev ae.no (a:At) (k:ae):ae:= .op (.not a) k
abbrev ae.cA (t:Nat) (F:List L→Option (List L)) (l:List At) (n:Nat) (k:ae):ae:= .op (.call t F l n []) k
abbrev ae.cl (a:At) (j:Nat) (d:Kd) (k:ae):ae:= .op (.cl a j d) k
abbrev ae.rw (a b:At) (n:Nat) (k:ae):ae:= .op (.row a b n) k
abbrev U0:At:= .v 0
abbrev U1:At:= .v 1
abbrev U2:At:= .v 2
abbrev U3:At:= .v 3
abbrev U4:At:= .v 4
abbrev U5:At:= .v 5
abbrev U6:At:= .v 6
abbrev U7:At:= .v 7
abbrev U8:At:= .v 8
abbrev U9:At:= .v 9
abbrev ax:At:= .v 10
abbrev aw:At:= .v 11
abbrev aD:At:= .v 12
abbrev aE:At:= .v 13
abbrev aG:At:= .v 14
abbrev aJ:At:= .v 15
abbrev aN:At:= .v 16
abbrev aM:At:= .v 17
abbrev aL:At:= .v 18
abbrev aX:At:= .v 19
abbrev a8:At:= .v 20
abbrev bk:At:= .v 21
abbrev be:At:= .v 22
abbrev bp:At:= .v 23
abbrev bm:At:= .v 24
abbrev bA:At:= .v 25
abbrev bq:At:= .v 26
abbrev bw:At:= .v 27
abbrev b9:At:= .v 28
abbrev cC:At:= .v 29
abbrev cP:At:= .v 30
abbrev dq:At:= .v 31
abbrev cq:At:= .v 32
abbrev eP:At:= .v 33
abbrev eT:At:= .v 34
abbrev fT:At:= .v 35
abbrev gI:At:= .v 36
abbrev iZ:At:= .v 37
abbrev j_:At:= .v 38
abbrev kE:At:= .v 39
abbrev gq:At:= .v 40
abbrev my:At:= .v 41
abbrev sq:At:= .v 42
abbrev pU:At:= .v 43
abbrev tW:At:= .v 44
abbrev ku:At:= .v 45
abbrev sy:At:= .v 46
abbrev wY:At:= .v 47
abbrev mD:At:= .v 48
abbrev pf:At:= .v 49
abbrev xT:At:= .v 50
abbrev tR:At:= .v 51
abbrev pY:At:= .v 52
abbrev AW:At:= .v 53
abbrev AR:At:= .v 54
abbrev C5:At:= .v 55
abbrev zx:At:= .v 56
abbrev VR:At:= .v 57
abbrev D2:At:= .v 58
abbrev EH:At:= .v 59
abbrev Ah:At:= .v 60
abbrev Ld:At:= .v 61
abbrev Gd:At:= .v 62
abbrev R2:At:= .v 63
abbrev J_:At:= .v 64
abbrev DO:At:= .v 65
abbrev Dl:At:= .v 66
abbrev tz:At:= .v 67
abbrev VJ:At:= .v 68
abbrev R7:At:= .v 69
abbrev Sc:At:= .v 70
abbrev PX:At:= .v 71
abbrev V0:At:= .v 72
abbrev V3:At:= .v 73
abbrev U74:At:= .v 74
abbrev U75:At:= .v 75
abbrev U76:At:= .v 76
abbrev U77:At:= .v 77
abbrev U78:At:= .v 78
abbrev U79:At:= .v 79
end
end
end Go.Proofs.YtndegphojkiblaaGreatDoor
