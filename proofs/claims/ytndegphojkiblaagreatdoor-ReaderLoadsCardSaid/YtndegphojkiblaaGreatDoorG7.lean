/- Towards the last file's theorem: part 7. -/
import Derived.Test.YtndegphojkiblaaGreatDoorG6
set_option linter.all false
set_option maxHeartbeats 4000000
set_option maxRecDepth 100000
namespace Go.Proofs.YtndegphojkiblaaGreatDoor
noncomputable section
section
open Go.RowKit
def bF (op:BinOp) (k:bS) (a b:Int):Option L:=match op with
 | .add=>some (.i (k.wrap (a+b)))
 | .sub=>some (.i (k.wrap (a-b)))
 | .mul=>some (.i (k.wrap (a*b)))
 | .quo=>if b≠0 then some (.i (k.wrap (a.tdiv b)))else none
 | .rem=>if b≠0 then some (.i (a.tmod b))else none
 | .and=>some (.i (k.wrap (BitVec.ofInt k.bits a&&&BitVec.ofInt k.bits b).toNat))
 | .or=>some (.i (k.wrap (BitVec.ofInt k.bits a|||BitVec.ofInt k.bits b).toNat))
 | .xor=>some (.i (k.wrap (BitVec.ofInt k.bits a^^^BitVec.ofInt k.bits b).toNat))
 | .andNot=>some (.i (k.wrap (BitVec.ofInt k.bits a&&& ~~~ BitVec.ofInt k.bits b).toNat))
 | .shl=>if 0≤b then some (.i (k.wrap (a*2^ (min b.toNat k.bits))))else none
 | .shr=>if 0≤b then some (.i (a.fdiv (2^ (min b.toNat k.bits))))else none
 | .eql=>some (.b (decide (a=b)))
 | .neq=>some (.b (decide (a≠b)))
 | .lss=>some (.b (decide (a<b)))
 | .leq=>some (.b (decide (a≤b)))
 | .gtr=>some (.b (decide (b<a)))
 | .geq=>some (.b (decide (b≤a)))
def sa (op:BinOp) (a b:cn):Option L:=match op with
 | .add=>if((a.size+b.size:Nat):Int)≤9223372036854775807 then some (.s (a++b))else none
 | .eql=>some (.b (a.toList==b.toList))
 | .neq=>some (.b (!(a.toList==b.toList)))
 | .lss=>some (.b (Op.bytesLess a.toList b.toList))
 | .leq=>some (.b (Op.bytesLess a.toList b.toList||a.toList==b.toList))
 | .gtr=>some (.b (!(Op.bytesLess a.toList b.toList||a.toList==b.toList)))
 | .geq=>some (.b (!(Op.bytesLess a.toList b.toList)))
 |_=>none
def cr (op:BinOp) (a b:Bool):Option L:=match op with
 | .eql=>some (.b (a==b))
 | .neq=>some (.b (!(a==b)))
 | .and=>some (.b (a&&b))
 |_=>none
def mq:BinOp→Bool
 | .eql| .neq| .lss| .leq| .gtr| .geq=>true
 |_=>false
def PX:BinOp→Bool
 | .shl| .shr=>true
 |_=>false
def dA (op:UnOp) (k:bS) (n:Int):Option L:=match op with
 | .neg=>some (.i (k.wrap (0-n)))
 | .xor=>some (.i (k.wrap (BitVec.ofInt k.bits (if k.signed then-1 else k.max) ^^^BitVec.ofInt k.bits n).toNat))
 |_=>none
inductive Nd where
 |bi (op:BinOp) (k:bS) (x y:At)
 |bs (op:BinOp) (x y:At)
 |bb (op:BinOp) (x y:At)
 |not (x:At)
 |un (op:UnOp) (k:bS) (x:At)
 |conv (k:bS) (x:At)
 |len (x:At)
 |mw (x:At)
 |row (x i:At) (size:Nat)
 |fE (x lo len i:At) (size:Nat)
 |rc (x i:At) (j:Nat) (k:Kd)
 |cl (x:At) (j:Nat) (k:Kd)
 |fo (i:At) (bM:Nat)
 |iG (xs:List At) (i:At)
 |jk (x i:At) (k:Nat) (y:At)
 |part (x lo hi:At) (size:Nat)
 |cut (x lo hi:At) (size:Nat)
 |GJ (x l0 len lo hi:At) (size:Nat)
 |vw (x lo len:At)
 |tk (x len:At)
 |app (x y:At) (n b:Nat)
 |set (x i:At) (j:Nat) (ps:List (Kd×At))
 |lit (rows:List (List (Kd×At)))
 |rep (n:At) (ps:List (Kd×At)) (b:Nat)
 |Hk (x y:At) (size:Nat)
 |vg (x lo len y:At) (size:Nat)
 |GB (x len y:At) (size:Nat)
 |str (x:At)
 |tE (x i:At)
 |MC (x lo hi:At)
 |mn (x y:At)
 |mx (x y:At)
 |call (tag:Nat) (F:List L→Option (List L)) (args:List At) (n:Nat) (bs:List Nat)
deriving Inhabited
def qy (size:Nat) (rows:List (List PV)):Bool:=match rows with
 |[]=>true
 |r::_=>r.length==size
def bp (ρ:List L) (ps:List (Kd×At)):List PV:=ps.map fun x=>x.1.pv (x.2.ev ρ)
def Nd.ev (ρ:List L):Nd→Option (List L)
 | .bi op k x y=> (bF op k (x.ev ρ).af (y.ev ρ).af).map ([·])
 | .bs op x y=> (sa op (x.ev ρ).cv (y.ev ρ).cv).map ([·])
 | .bb op x y=> (cr op (x.ev ρ).br (y.ev ρ).br).map ([·])
 | .not x=>some [.b (!(x.ev ρ).br)]
 | .un op k x=> (dA op k (x.ev ρ).af).map ([·])
 | .conv k x=>some [.i (k.wrap (x.ev ρ).af)]
 | .len x=>some [.i (x.ev ρ).ah.length]
 | .mw x=>some [.i (x.ev ρ).cv.size]
 | .row x i size=>if 0≤(i.ev ρ).af then match(x.ev ρ).ah[(i.ev ρ).af.toNat]? with
  |some r=>if r.length=size then some [.c r]else none
  |none=>none
  else none
 | .fE x lo ln i size=>if 0≤(i.ev ρ).af then match(x.ev ρ).ah[(lo.ev ρ).af.toNat+(i.ev ρ).af.toNat]? with
  |some r=>if r.length=size∧(i.ev ρ).af.toNat< (ln.ev ρ).af.toNat then some [.i (((lo.ev ρ).af.toNat+(i.ev ρ).af.toNat:Nat):Int)]else none
  |none=>none
  else none
 | .rc x i j k=>match(x.ev ρ).ah[(i.ev ρ).af.toNat]? with
  |some r=>match r[j]? with
   |some q=> (k.of q).map ([·])
   |none=>none
  |none=>none
 | .cl x j k=>match(x.ev ρ).jl[j]? with
  |some q=> (k.of q).map ([·])
  |none=>none
 | .fo i bM=>if 0≤(i.ev ρ).af∧(i.ev ρ).af<bM then some []else none
 | .iG xs i=>match xs[(i.ev ρ).af.toNat]? with
  |some x=>some [x.ev ρ]
  |none=>none
 | .jk x i k y=>some [if(i.ev ρ).af.toNat=k then y.ev ρ else x.ev ρ]
 | .part x lo hi size=>if 0≤(lo.ev ρ).af∧(lo.ev ρ).af≤(hi.ev ρ).af∧(hi.ev ρ).af.toNat≤(x.ev ρ).ah.length∧bA size (x.ev ρ).ah=true then some [.r (((x.ev ρ).ah.take (hi.ev ρ).af.toNat).drop (lo.ev ρ).af.toNat)]else none
 | .cut x lo hi size=>if 0≤(lo.ev ρ).af∧(lo.ev ρ).af≤(hi.ev ρ).af∧(hi.ev ρ).af.toNat≤(x.ev ρ).ah.length∧qy size (x.ev ρ).ah=true then some [.i (((hi.ev ρ).af.toNat- (lo.ev ρ).af.toNat:Nat):Int)]else none
 | .GJ x l0 ln lo hi size=>if 0≤(lo.ev ρ).af∧(lo.ev ρ).af≤(hi.ev ρ).af∧(hi.ev ρ).af.toNat≤(ln.ev ρ).af.toNat∧qy size (x.ev ρ).ah=true then some [.i (((l0.ev ρ).af.toNat+(lo.ev ρ).af.toNat:Nat):Int),.i (((hi.ev ρ).af.toNat- (lo.ev ρ).af.toNat:Nat):Int)]else none
 | .vw x lo ln=>some [.r (((x.ev ρ).ah.drop (lo.ev ρ).af.toNat).take (ln.ev ρ).af.toNat)]
 | .tk x ln=>some [.r ((x.ev ρ).ah.take (ln.ev ρ).af.toNat)]
 | .app x y n b=>if(x.ev ρ).ah.length+(y.ev ρ).ah.length≤9223372036854775807∧((x.ev ρ).ah.length+(y.ev ρ).ah.length)*b≤140737488355328∧bA n (x.ev ρ).ah=true∧bA n (y.ev ρ).ah=true then some [.r ((x.ev ρ).ah++(y.ev ρ).ah)]else none
 | .set x i j ps=>match(x.ev ρ).ah[(i.ev ρ).af.toNat]? with
  |some r=>if j+ps.length≤r.length then some [.r ((x.ev ρ).ah.set (i.ev ρ).af.toNat (r.take j++bp ρ ps++r.drop (j+ps.length)))]else none
  |none=>none
 | .lit rows=>some [.r (rows.map (bp ρ))]
 | .rep n ps b=>if 0≤(n.ev ρ).af∧(n.ev ρ).af≤9223372036854775807∧b*(n.ev ρ).af.toNat≤281474976710656 then some [.r (List.replicate (n.ev ρ).af.toNat (bp ρ ps))]else none
 | .Hk x y size=>if bA size (y.ev ρ).ah=true then some [.r ((y.ev ρ).ah.take (min (y.ev ρ).ah.length (x.ev ρ).ah.length)++(x.ev ρ).ah.drop (min (y.ev ρ).ah.length (x.ev ρ).ah.length)),.i ((min (y.ev ρ).ah.length (x.ev ρ).ah.length:Nat):Int)]else none
 | .vg x lo ln y size=>if bA size (y.ev ρ).ah=true∧(lo.ev ρ).af.toNat+(ln.ev ρ).af.toNat≤(x.ev ρ).ah.length then some [.r ((x.ev ρ).ah.take (lo.ev ρ).af.toNat++(y.ev ρ).ah.take (min (y.ev ρ).ah.length (ln.ev ρ).af.toNat)++(x.ev ρ).ah.drop ((lo.ev ρ).af.toNat+min (y.ev ρ).ah.length (ln.ev ρ).af.toNat)),.i ((min (y.ev ρ).ah.length (ln.ev ρ).af.toNat:Nat):Int)]else none
 | .GB x ln y size=>if bA size (y.ev ρ).ah=true∧(ln.ev ρ).af.toNat+(y.ev ρ).ah.length≤(x.ev ρ).ah.length then some [.r ((x.ev ρ).ah.take (ln.ev ρ).af.toNat++(y.ev ρ).ah++(x.ev ρ).ah.drop ((ln.ev ρ).af.toNat+(y.ev ρ).ah.length)),.i (((ln.ev ρ).af.toNat+(y.ev ρ).ah.length:Nat):Int)]else none
 | .str x=> (lj (x.ev ρ).ah).map fun l=> [.s (strOfNums l)]
 | .tE x i=>if 0≤(i.ev ρ).af then match(x.ev ρ).cv[(i.ev ρ).af.toNat]? with
  |some b=>some [.i b.toNat]
  |none=>none
  else none
 | .MC x lo hi=>if 0≤(lo.ev ρ).af∧(lo.ev ρ).af≤(hi.ev ρ).af∧(hi.ev ρ).af≤(x.ev ρ).cv.size then some [.s ((x.ev ρ).cv.extract (lo.ev ρ).af.toNat (hi.ev ρ).af.toNat)]else none
 | .mn x y=>some [.i (if(y.ev ρ).af< (x.ev ρ).af then(y.ev ρ).af else(x.ev ρ).af)]
 | .mx x y=>some [.i (if(y.ev ρ).af> (x.ev ρ).af then(y.ev ρ).af else(x.ev ρ).af)]
 | .call _ F args n us=>match F (args.map (At.ev ρ))with
  |some l=>if l.length=n∧(us.all fun i=> ((l[i]?).getD (.b false)).ah.all (·.all PV.bare))=true then some l else none
  |none=>none
def Nd.n:Nd→Nat
 | .fo _ _=>0
 | .GJ .. =>2
 | .Hk .. =>2
 | .vg .. =>2
 | .GB .. =>2
 | .call _ _ _ n _=>n
 |_=>1
theorem Nd.Dm {ρ:List L} {nd:Nd} {ls:List L} (h:nd.ev ρ=some ls):ls.length=nd.n:=by
 cases nd<;>simp only[Nd.ev,Nd.n]at h⊢<;>first
  | (cases h;rfl)
  | (simp only[aW]at h;obtain⟨_,_,rfl⟩:=h;rfl)
  | (split at h<;>first| (cases h;first|rfl|assumption|exact(And.left ‹_∧_›))|cases h| (split at h<;>first| (cases h;first|rfl|assumption|exact(And.left ‹_∧_›))|cases h| (split at h<;>first| (cases h;first|rfl|assumption|exact(And.left ‹_∧_›))|cases h)| (simp only[aW]at h;obtain⟨_,_,rfl⟩:=h;rfl)| (cases h;first|rfl|assumption|exact(And.left ‹_∧_›)))| (simp only[aW]at h;obtain⟨_,_,rfl⟩:=h;rfl))
def At.in (m:Nat):At→Bool
 | .v n=>decide (n<m)
 |_=>true
def Cg (m:Nat) (ps:List (Kd×At)):Bool:=ps.all fun x=>x.2.in m
def Nd.in (m:Nat):Nd→Bool
 | .bi _ _ x y| .bs _ x y| .bb _ x y| .row x y _| .rc x y _ _| .tk x y| .app x y _ _| .Hk x y _| .tE x y| .mn x y| .mx x y=>x.in m&&y.in m
 | .not x| .un _ _ x| .conv _ x| .len x| .mw x| .cl x _ _| .fo x _| .str x=>x.in m
 | .fE x a b c _| .vg x a b c _=>x.in m&&a.in m&&b.in m&&c.in m
 | .iG xs i=>xs.all (At.in m)&&i.in m
 | .jk x i _ y| .GB x i y _| .part x i y _| .cut x i y _| .vw x i y| .MC x i y=>x.in m&&i.in m&&y.in m
 | .GJ x a b c d _=>x.in m&&a.in m&&b.in m&&c.in m&&d.in m
 | .set x i _ ps=>x.in m&&i.in m&&Cg m ps
 | .lit rows=>rows.all (Cg m)
 | .rep n ps _=>n.in m&&Cg m ps
 | .call _ _ args _ _=>args.all (At.in m)
theorem At.er {m:Nat} {ρ xs:List L} {x:At} (h:x.in m=true) (hm:m≤ρ.length):x.ev (ρ++xs)=x.ev ρ:=by
 cases x with
 |v n=>
  simp only[At.in,cg]at h;simp only[At.ev];rw[nS om]
 |_=>rfl
theorem J_ {m:Nat} {ρ xs:List L} {ps:List (Kd×At)} (h:Cg m ps=true) (hm:m≤ρ.length):bp (ρ++xs) ps=bp ρ ps:=by
 unfold bp;apply gO;intro y hy;simp only[Cg,bk]at h;rw[At.er (h y hy) hm]
theorem Nd.er {m:Nat} {ρ xs:List L} {nd:Nd} (h:nd.in m=true) (hm:m≤ρ.length):nd.ev (ρ++xs)=nd.ev ρ:=by
 cases nd
 case iG ys i=>
  simp only[Nd.in,bt,bk]at h;simp only[Nd.ev,At.er h.2 hm]
  cases hx:ys[(i.ev ρ).af.toNat]? with
  |none=>rfl
  |some x=>simp only[At.er (h.1 x (cH hx)) hm]
 case lit rows=>
  simp only[Nd.in,bk]at h;simp only[Nd.ev];congr 3;apply gO;intro y hy;exact J_ (h y hy) hm
 case call F args n bs=>
  simp only[Nd.in,bk]at h;simp only[Nd.ev];rw[gO (g:=At.ev ρ) (fun y hy=>At.er (h y hy) hm)]
 case set x i j ps=>
  simp only[Nd.in,bt]at h;simp only[Nd.ev,At.er h.1.1 hm,At.er h.1.2 hm,J_ h.2 hm]
 case rep n ps b=>
  simp only[Nd.in,bt]at h;simp only[Nd.ev,At.er h.1 hm,J_ h.2 hm]
 all_goals
  simp only[Nd.in,bt]at h
  first
   | (simp only[Nd.ev,At.er h hm];done)
   | (simp only[Nd.ev,At.er h.1 hm,At.er h.2 hm];done)
   | (simp only[Nd.ev,At.er h.1.1 hm,At.er h.1.2 hm,At.er h.2 hm];done)
   | (simp only[Nd.ev,At.er h.1.1.1 hm,At.er h.1.1.2 hm,At.er h.1.2 hm,At.er h.2 hm];done)
   | (simp only[Nd.ev,At.er h.1.1.1.1 hm,At.er h.1.1.1.2 hm,At.er h.1.1.2 hm,At.er h.1.2 hm,At.er h.2 hm];done)
def Sat (ρ:List L):Nat→List Nd→Prop
 |_,[]=>True
 |m,nd::nds=> (∃ls,nd.ev ρ=some ls∧∀i,i<nd.n→ρ[m+i]? =ls[i]?)∧Sat ρ (m+nd.n) nds
def fX:List Nd→Nat
 |[]=>0
 |nd::nds=>nd.n+fX nds
def qQ (ρ:List L):List Nd→Option (List L)
 |[]=>some ρ
 |nd::nds=>match nd.ev ρ with
  |some ls=>qQ (ρ++ls) nds
  |none=>none
def uV:Nat→List Nd→Bool
 |_,[]=>true
 |m,nd::nds=>nd.in m&&uV (m+nd.n) nds
theorem FY:∀{nds:List Nd} {ρ ρ':List L},qQ ρ nds=some ρ'→∃xs,ρ'=ρ++xs∧xs.length=fX nds
 |[],ρ,ρ',h=>by cases h;exact⟨[],by simp,rfl⟩
 |nd::nds,ρ,ρ',h=>by
  simp only[qQ]at h;split at h
  · rename_i ls dh;obtain⟨xs,h1,h2⟩:=FY h;exact⟨ls++xs,by rw[h1,e_],by simp[h2,Nd.Dm dh,fX]⟩
  · cases h
theorem Jc:∀{nds:List Nd} {ρ ρ' ys:List L},uV ρ.length nds=true→qQ ρ nds=some ρ'→Sat (ρ'++ys) ρ.length nds
 |[],_,_,_,_,_=>trivial
 | nd ::nds,ρ,ρ',ys,hi,h=>by
  simp only[uV,bt]at hi;simp only[qQ]at h;split at h
  · rename_i ls dh;have hn:=Nd.Dm dh;obtain⟨xs,h1,h2⟩:=FY h;refine⟨⟨ls,?_,fun i hi'=> ?_⟩,?_⟩
    · rw[h1,e_,e_,Nd.er hi.1 (cT _)];exact dh
    · rw[h1,e_,e_,lR om,Nat.add_sub_cancel_left,nS om]
    · have:=Jc (ys:=ys) (nds:=nds) (ρ:=ρ++ls) (by rw[dL,hn];exact hi.2) h;rw[dL,hn]at this;exact this
  · cases h
theorem Sat.one {ρ:List L} {m:Nat} {nd:Nd} {nds:List Nd} (h:Sat ρ m (nd::nds)):∃ls,nd.ev ρ=some ls∧∀i,i<nd.n→At.ev ρ (.v (m+i))=(ls[i]?).getD (.b false):=by
 obtain⟨⟨ls,h1,h2⟩,_⟩:=h;exact⟨ls,h1,fun i hi=>by simp only[At.ev,h2 i hi]⟩
theorem Sat.app:∀{ρ:List L} {m:Nat} {a b:List Nd},Sat ρ m (a++b)→Sat ρ m a∧Sat ρ (m+fX a) b
 |_,_,[],b,h=> ⟨trivial,by simpa[fX]using h⟩
 |ρ,m,nd::a,b,h=>by
  obtain⟨h1,h2⟩:=h;obtain⟨h3,h4⟩:=Sat.app (a:=a) h2;exact⟨⟨h1,h3⟩,by simpa[fX,rQ]using h4⟩
structure Ty where
 size:Nat
 agg:Bool
 some:Bool
 info:Bool
 oX:Option (List Kd)
 fields:List (Option Nat)
 places:Option (List (Nat×Nat))
 elem:Option aw
 arr:Option (Nat×aw)
 app:Option (Nat×Nat)
 cV:Bool
 int:Option bS
 ux:Bool
 sl:Option aw
 ptr:Option aw
 HS:Bool
 eq4:Bool
deriving DecidableEq,Repr,Inhabited
def yi:aD→Option Kd
 | .int k n=>if n=0 then some (.int k)else none
 | .bool t=>if t then none else some .bool
 | .string x=>if x.size=0 then some .str else none
 | .slice none 0 0=>some .sl
 | .pointer none=>some .ptr
 | .map none=>some .mp
 | .nilFunc=>some .fn
 | .nilIface=>some .Gz
 |_=>none
def O2 (P:aQ) (t:aw):Option (List Kd):=match P.info? t with
 |some i=>match i.zero with
  |some z=>z.cells.toList.mapM yi
  |none=>none
 |none=>none
def Kd.zero:Kd→SC
 | .int k=> .p (.int k) (.i 0)
 | .bool=> .p .bool (.b false)
 | .str=> .p .str (.s ByteArray.empty)
 | .sl=> .nil
 |k=> .p k .r0
theorem apy {v:aD} {k:Kd} (h:yi v=some k) (ρ:List L):k.zero.aa ρ=jS v∧v.oneCell'=true:=by
 unfold yi at h;split at h
 · split at h
   · rename_i hn;subst hn;cases h;exact⟨rfl,rfl⟩
   · cases h
 · split at h
   · cases h
   · rename_i hn;simp at hn;subst hn;cases h;exact⟨rfl,rfl⟩
 · rename_i x;split at h
   · rename_i hn;have:x=ByteArray.empty:=by
      simp_all
     subst this;cases h;exact⟨rfl,rfl⟩
   · cases h
 all_goals first| (cases h;exact⟨rfl,rfl⟩)|cases h
theorem AJ {P:aQ} {t:aw} {ks:List Kd} (h:O2 P t=some ks) (ρ:List L):qg P t=some ((ks.map Kd.zero).map (SC.aa ρ)):=by
 unfold O2 at h;unfold qg;split at h
 · rename_i i hi;split at h
   · rename_i z hz;simp only[hi,hz];have key:∀{l:List aD} {ks:List Kd},l.mapM yi=some ks→(∀u∈l,u.oneCell'=true)∧(ks.map Kd.zero).map (SC.aa ρ)=l.map jS:=by
      intro l
      induction l with
      |nil=>simp_all
      | cons u l ih=>
       intro ks h;simp only[je]at h
       cases hu:yi u with
       |none=>simp[hu]at h
       | some k=>
        cases hl:l.mapM yi with
        |none=>simp[hu,hl]at h
        |some ks'=>
         simp[hu,hl]at h;subst h;obtain⟨h1,h2⟩:=ih hl;obtain⟨h3,h4⟩:=apy hu ρ;exact⟨by simpa[h4]using h1,by simp only[bC,h2,h3]⟩
     obtain⟨h1,h2⟩:=key h;rw[au (by simp only[bk];exact h1),h2]
   · cases h
 · cases h
def awu (P:aQ) (t:aw):Nat:=match P.underlying t with
 |some (.struct fs)=>fs.size
 |_=>0
def NJ (P:aQ) (t:aw):Bool:=match P.underlying t with|some .string=>true|_=>false
def B0 (P:aQ) (t:aw):Option aw:=match P.underlying t with|some (.slice e)=>some e|_=>none
def auO (P:aQ) (t:aw):Option aw:=match P.underlying t with|some (.pointer e)=>some e|_=>none
def Yd (P:aQ) (t:aw):Bool:=match P.underlying t with
 |some (.map kt _)=>match P.underlying kt with
  |some (.int .u64)=>true
  |_=>false
 |_=>false
def eH (P:aQ) (t:aw):Ty := {
 size:=db P t
 agg:=oi P t
 some:=Bh P t
 info:=mU P t
 oX:=O2 P t
 fields:=(List.range (awu P t)).map (A_ P t)
 places:=HE P t
 elem:=eL P t
 arr:=la P t
 app:=jH P t
 cV:=rb P t
 int:=GQ P t
 ux:=NJ P t
 sl:=B0 P t
 ptr:=auO P t
 HS:=Yd P t
 eq4:=xQ P t
 }
abbrev aV:=List (aw×Ty)
def aV.ok (P:aQ) (T:aV):Prop:=∀t r,List.lookup t T=some r→r=eH P t
theorem aV.Kh {P:aQ} {T:aV} (h:(T.all fun x=>decide (x.2=eH P x.1))=true):aV.ok P T:=by
 intro t r hl
 induction T with
 |nil=>cases hl
 |cons x T ih=>
  obtain⟨k,b⟩:=x;simp only[SM,bt,cg]at h;rw[eR]at hl;split at hl
  · rename_i heq;simp at heq;subst heq;cases hl;exact h.1
  · exact ih h.2 hl
theorem Ty.amp {P:aQ} {t:aw} {f k:Nat} (h:(eH P t).fields[f]? =Option.some (Option.some k)):A_ P t f=Option.some k:=by
 simp only[eH,bO,aW]at h;obtain⟨n,h1,h2⟩:=h;have:=(cN.1 h1).2;simp at this;rw[this];exact h2
end
section
open Go.RowKit
open Classical
structure bm where
 nds:List Nd
 v:SV
 e:fO
 rd:List Nat
def dQ:fO:=⟨[],[]⟩
def bm.pure (v:SV):bm:=⟨[],v,dQ,[]⟩
def bm.aa (ρ:List L) (r:bm):bc:=⟨r.v.aa ρ,r.e.aa ρ,r.rd⟩
abbrev SV.c1 (c:SC):SV:= .v (.c c)
def GC (r:Ty) (cs:List SC):Option SV:=
 if r.agg then(if r.size≤cs.length∧r.info=true then some (.v (.agg (cs.take r.size)))else none)
 else match r.some,cs with
  |true,c::_=>some (.c1 c)
  |_,_=>none
theorem Wc {P:aQ} {t:aw} {cs:List SC} {v:SV} (ρ:List L) (h:GC (eH P t) cs=some v):kq P t (cs.map (SC.aa ρ))=some (v.aa ρ):=by
 unfold GC at h;unfold kq;have e1:(eH P t).agg=oi P t:=rfl;have e2:(eH P t).size=db P t:=rfl;have e3:(eH P t).info=mU P t:=rfl;have e4:(eH P t).some=Bh P t:=rfl;rw[e1,e2,e3,e4]at h;split at h
 · rename_i ha;rw[au ha];split at h
   · rename_i hc;cases h;simp_all[au,SV.aa,aB.aa]
   · cases h
 · rename_i ha;rw[aE ha];split at h
   · rename_i c l hs;cases h;simp only[bC,hs];rfl
   · cases h
def iX (m:Nat):List Kd→List SC
 |[]=> []
 |k::ks=> .p k (.v m)::iX (m+1) ks
def MQ (x i:At):Nat→List Kd→List Nd
 |_,[]=> []
 |j,k::ks=> .rc x i j k::MQ x i (j+1) ks
def JD (x:At):Nat→List Kd→List Nd
 |_,[]=> []
 |j,k::ks=> .cl x j k::JD x (j+1) ks
theorem Wl:∀(ks:List Kd) (m:Nat),(iX m ks).length=ks.length
 |[],_=>rfl
 |_::ks,m=>by simp[iX,Wl ks]
theorem aeI {ρ:List L} {x i:At}:∀{ks:List Kd} {m j:Nat} {r:List PV},(x.ev ρ).ah[(i.ev ρ).af.toNat]? =some r→Sat ρ m (MQ x i j ks)→
  (iX m ks).map (SC.aa ρ)=((r.drop j).map C.p).take ks.length∧ks.length≤(r.drop j).length
 |[],_,_,_,_,_=>by simp[iX]
 | k ::ks,m,j,r,hr,h=>by
  obtain⟨⟨ls,h1,h2⟩,h3⟩:=h;simp only[Nd.ev,hr]at h1;split at h1
  · rename_i q hq;simp only[aW]at h1;obtain⟨l,h4,rfl⟩:=h1;obtain⟨h5,h6⟩:=aeI hr h3;have hd:r.drop j=q::r.drop (j+1):=by
     obtain⟨hlt,he⟩:=cN.1 hq;rw[←he];exact zF hlt
    have h7:=h2 0 (by simp[Nd.n]);simp only[gb,mL]at h7;refine⟨?_,by simp_all⟩;simp only[iX,bC,hd,km,aiG];have CA:(iX (m+1) ks).map (SC.aa ρ)=((r.drop (j+1)).map C.p).take ks.length:=h5;rw[CA];simp only[SC.aa,At.ev,h7,eN,Kd.EH h4]
  · cases h1
theorem aao {ρ:List L} {x:At}:∀{ks:List Kd} {m j:Nat},Sat ρ m (JD x j ks)→
  (iX m ks).map (SC.aa ρ)=(((x.ev ρ).jl.drop j).map C.p).take ks.length∧ks.length≤((x.ev ρ).jl.drop j).length
 |[],_,_,_=>by simp[iX]
 | k ::ks,m,j,h=>by
  obtain⟨⟨ls,h1,h2⟩,h3⟩:=h;simp only[Nd.ev]at h1;split at h1
  · rename_i q hq;simp only[aW]at h1;obtain⟨l,h4,rfl⟩:=h1;obtain⟨h5,h6⟩:=aao h3;have hd:(x.ev ρ).jl.drop j=q::(x.ev ρ).jl.drop (j+1):=by
     obtain⟨hlt,he⟩:=cN.1 hq;rw[←he];exact zF hlt
    have h7:=h2 0 (by simp[Nd.n]);simp only[gb,mL]at h7;refine⟨?_,by simp_all⟩;simp only[iX,bC,hd,km,aiG];have CA:(iX (m+1) ks).map (SC.aa ρ)=(((x.ev ρ).jl.drop (j+1)).map C.p).take ks.length:=h5;rw[CA];simp only[SC.aa,At.ev,h7,eN,Kd.EH h4]
  · cases h1
def sE (r:Ty) (ks:List Kd) (m:Nat):Option SV:=
 if r.agg then(if ks.length=r.size∧r.info=true then some (.v (.agg (iX m ks)))else none)
 else match r.some,ks with
  |true,[k]=>some (.c1 (.p k (.v m)))
  |_,_=>none
theorem agP {P:aQ} {t:aw} {ks:List Kd} {m:Nat} {v:SV} {ρ:List L} {cs:List PV} (h:sE (eH P t) ks m=some v) (h1:(iX m ks).map (SC.aa ρ)=(cs.map C.p).take ks.length) (h2:ks.length≤cs.length):
   kq P t (cs.map C.p)=some (v.aa ρ):=by
 unfold sE at h;unfold kq;have e1:(eH P t).agg=oi P t:=rfl;have e2:(eH P t).size=db P t:=rfl;have e3:(eH P t).info=mU P t:=rfl;have e4:(eH P t).some=Bh P t:=rfl;rw[e1,e2,e3,e4]at h;split at h
 · rename_i ha;rw[au ha];split at h
   · rename_i hc;cases h;rw[au ⟨by simp_all,hc.2⟩,←hc.1,←h1];rfl
   · cases h
 · rename_i ha;rw[aE ha];split at h
   · rename_i k hs;cases h
     cases cs with
     |nil=>simp at h2
     |cons q qs=>
      simp[iX]at h1;simp only[bC,hs];rw[←h1];rfl
   · cases h
def Dr (cs:List SC) (off m:Nat):Nat→Nat→Option (Kd×List At)
 |_,0=>none
 | k,c+1=>match cs[off+k*m]? with
  |some (.p kd a)=>if c=0 then some (kd,[a])else match Dr cs off m (k+1) c with
   |some (kd',as)=>if kd=kd' then some (kd,a::as)else none
   |none=>none
  |_=>none
theorem acZ {cs:List SC} {off m:Nat}:∀{c k:Nat} {kd:Kd} {as:List At},Dr cs off m k c=some (kd,as)→∀(i:Nat) (a:At),as[i]? =some a→cs[off+(k+i)*m]? =some (.p kd a)
 |0,_,_,_,h=>by cases h
 |c+1,k,kd,as,h=>by
  intro i a hi;simp only[Dr]at h;split at h
  · rename_i kd0 a0 hc;split at h
    · cases h
      cases i with
      |zero=>simp at hi;subst hi;exact hc
      |succ i=>simp at hi
    · split at h
      · rename_i kd' as' hr;split at h
        · rename_i hk;subst hk;cases h
          cases i with
          |zero=>simp at hi;subst hi;exact hc
          |succ i=>
           have:=acZ hr i a (by simpa using hi);rw[show k+(i+1)=k+1+i by omega];exact this
        · cases h
      · cases h
  · cases h
def zT (cs:List SC) (off bM m:Nat) (i:At):Nat→Nat→Option (List Kd×List Nd)
 |_,0=>some ([],[])
 |j,c+1=>match Dr cs (off+j) m 0 bM,zT cs off bM m i (j+1) c with
  |some (kd,as),some (ks,nds)=>some (kd::ks,.iG as i::nds)
  |_,_=>none
theorem Q8 {ρ:List L} {cs:List SC} {off bM m:Nat} {i:At}:∀{c j b:Nat} {ks:List Kd} {nds:List Nd},zT cs off bM m i j c=some (ks,nds)→Sat ρ b nds→
  ks.length=c∧∀jj,jj<c→∃k a,ks[jj]? =some k∧cs[off+j+jj+(i.ev ρ).af.toNat*m]? =some (.p k a)∧a.ev ρ=At.ev ρ (.v (b+jj))
 |0,_,_,_,_,h,_=>by cases h;simp_all
 | c + 1,j,b,ks,nds,h,hs=>by
  simp only[zT]at h;split at h
  · rename_i kd as ks' CL h1 h2;cases h;obtain⟨⟨ls,h3,h4⟩,h5⟩:=hs;obtain⟨h6,h7⟩:=Q8 h2 h5;refine⟨by simp[h6],fun jj hj=> ?_⟩
    cases jj with
    |zero=>
     simp only[Nd.ev]at h3;split at h3
     · rename_i a ha;cases h3;have:=acZ h1 _ a ha;simp only[Dd]at this;refine⟨kd,a,rfl,by simpa using this,?_⟩;have h8:=h4 0 (by simp[Nd.n]);simp only[gb]at h8⊢;simp only[At.ev,h8];rfl
     · cases h3
    |succ jj=>
     obtain⟨k,a,k1,k2,k3⟩:=h7 jj om;refine⟨k,a,by simpa using k1,?_,?_⟩
     · rw[show off+j+(jj+1)=off+(j+1)+jj by omega];exact k2
     · rw[k3];simp only[Nd.n];rw[show b+1+jj=b+(jj+1)by omega]
  · cases h
theorem WH:∀{ks:List Kd} {m jj:Nat} {k:Kd},ks[jj]? =some k→(iX m ks)[jj]? =some (.p k (.v (m+jj)))
 |[],_,_,_,h=>by simp at h
 | k0::ks,m,jj,k,h=>by
  cases jj with
  |zero=>simp at h;subst h;rfl
  |succ jj=>
   have:=WH (m:=m+1) (ks:=ks) (by simpa using h);simp only[iX,zB];rw[this];congr 3;omega
def O_ (T:aV) (S:ag) (t:aw) (x:aM):Option bm:=
 match S.arg x,List.lookup t T with
 |some (.v (.c (.ptr n off))),some r=>match List.lookup n S.heap with
  |some (.box cs)=> (GC r (cs.drop off)).map bm.pure
  |_=>none
 | some (.v (.c (.gg n off bM m i))),some r=>match List.lookup n S.heap with
  |some (.box cs)=>match zT cs off bM m i 0 (if r.agg then r.size else 1)with
   |some (ks,nds)=> (sE r ks S.nv).map fun v=> ⟨nds,v,dQ,[]⟩
   |none=>none
  |_=>none
 |some (.v (.c (.cB n i j))),some r=>match List.lookup n S.heap,r.oX with
  |some (.row _ x),some (k::ks)=> (sE r (k::ks) S.nv).map fun v=> ⟨MQ x i j (k::ks),v,dQ,[]⟩
  |_,_=>none
 |some (.v (.c (.ref x j))),some r=>match r.oX with
  |some ks=> (sE r ks S.nv).map fun v=> ⟨JD x j ks,v,dQ,[]⟩
  |none=>none
 |_,_=>none
theorem dD (ρ:List L) (S:ag) (n:Nat):(S.aa ρ).heap.lookup n=(List.lookup n S.heap).map (SB.aa ρ):=cb.Hv ρ S.heap n
theorem agn {P:aQ} {t:aw} {cs:List SC} {off m b:Nat} {i:At} {ρ:List L} {ks:List Kd} {v:SV} (hp:sE (eH P t) ks b=some v) (hc:ks.length=if(eH P t).agg then(eH P t).size else 1)
   (hg:∀jj,jj<ks.length→∃k a,ks[jj]? =some k∧cs[off+jj+(i.ev ρ).af.toNat*m]? =some (.p k a)∧a.ev ρ=At.ev ρ (.v (b+jj))):kq P t ((cs.map (SC.aa ρ)).drop (off+(i.ev ρ).af.toNat*m))=some (v.aa ρ):=by
 have hcell:∀jj,jj<ks.length→((cs.map (SC.aa ρ)).drop (off+(i.ev ρ).af.toNat*m))[jj]? =((iX b ks).map (SC.aa ρ))[jj]?:=by
   intro jj hj;obtain⟨k,a,h1,h2,h3⟩:=hg jj hj;rw[kP,bO,bO,WH h1,show off+(i.ev ρ).af.toNat*m+jj=off+jj+(i.ev ρ).af.toNat*m by omega,h2];simp only[aJ,SC.aa,h3]
 have hlen:ks.length≤((cs.map (SC.aa ρ)).drop (off+(i.ev ρ).af.toNat*m)).length:=by
   rcases aiy ks.length with h0|h0
   · omega
   · obtain⟨k,a,h1,h2,h3⟩:=hg (ks.length-1) om;have:=(cN.1 h2).1;simp;omega
 unfold sE at hp;unfold kq;have e1:(eH P t).agg=oi P t:=rfl;have e2:(eH P t).size=db P t:=rfl;have e3:(eH P t).info=mU P t:=rfl;have e4:(eH P t).some=Bh P t:=rfl;rw[e1,e2,e3,e4]at hp;rw[e1,e2]at hc;split at hp
 · rename_i ha;rw[au ha];rw[au ha]at hc;split at hp
   · rename_i h2;cases hp;rw[au ⟨om,h2.2⟩,←hc];simp only[SV.aa,aB.aa];congr 3;apply uj;intro jj;rw[jD];split
     · rename_i hj;exact hcell jj hj
     · rename_i hj;symm;rw[zC];simp[Wl];omega
   · cases hp
 · rename_i ha;rw[aE ha];split at hp
   · rename_i k hs;cases hp;have h0:=hcell 0 (by simp)
     cases hd:(cs.map (SC.aa ρ)).drop (off+(i.ev ρ).af.toNat*m)with
     |nil=>simp_all
     | cons c l=>
       rw[hd]at h0;simp[iX]at h0;simp only[hs];rw[h0];rfl
   · cases hp
section
variable {P:aQ} {T:aV} {S:ag} {ρ:List L}
theorem avk (hT:aV.ok P T) {t:aw} {x:aM} {r:bm} (h:O_ T S t x=some r) (hs:Sat ρ S.nv r.nds):(qF P (S.aa ρ) t x).map bc.pure=some (r.aa ρ):=by
 unfold O_ at h;split at h
 · rename_i n off row hx hr;have:=hT _ _ hr;subst this;split at h
   · rename_i cs hl;simp only[aW]at h;obtain⟨v,h1,rfl⟩:=h;simp only[qF,ag.bL ρ hx,dD,hl,aJ,SB.aa,SV.aa,aB.aa,SC.aa];rw[←p7,Wc ρ h1];rfl
   · cases h
 · rename_i n off bM m i row hx hr;have:=hT _ _ hr;subst this;split at h
   · rename_i cs hl;split at h
     · rename_i ks nds hc;simp only[aW]at h;obtain⟨v,h1,rfl⟩:=h;simp only[qF,ag.bL ρ hx,dD,hl,aJ,SB.aa,SV.aa,aB.aa,SC.aa];obtain⟨h2,h3⟩:=Q8 hc hs;rw[agn h1 h2 (fun jj hj=>by
         simp_all)]
       rfl
     · cases h
   · cases h
 · rename_i n i j row hx hr;have:=hT _ _ hr;subst this;split at h
   · rename_i e xr k ks hl hk;simp only[aW]at h;obtain⟨v,h1,rfl⟩:=h;simp only[qF,ag.bL ρ hx,dD,hl,aJ,SB.aa,SV.aa,aB.aa,SC.aa];have hrow:∃rr,(xr.ev ρ).ah[(i.ev ρ).af.toNat]? =some rr:=by
       obtain⟨⟨ls,h2,_⟩,_⟩:=hs;simp only[Nd.ev]at h2;split at h2
       · simp_all
       · cases h2
     obtain⟨rr,nM⟩:=hrow;obtain⟨h2,h3⟩:=aeI nM hs;rw[nM];simp only[p7]at h2⊢;rw[←p7,agP h1 (by rw[←p7]at h2;exact h2) h3];rfl
   · cases h
 · rename_i xr j row hx hr;have:=hT _ _ hr;subst this;split at h
   · rename_i ks hk;simp only[aW]at h;obtain⟨v,h1,rfl⟩:=h;simp only[qF,ag.bL ρ hx,SV.aa,aB.aa,SC.aa];obtain⟨h2,h3⟩:=aao hs;rw[agP h1 h2 h3];rfl
   · cases h
 · cases h
end
def NU (T:aV) (S:ag) (t:aw) (x:aM) (f:Nat):Option bm:=
 match S.arg x,List.lookup t T with
 | some (.v (.c c)),some r=>match r.fields[f]? with
  |some (some k)=>match c with
   | .ptr n off=>some (.pure (.c1 (.ptr n (off+k))))
   | .gg n off bM m i=>some (.pure (.c1 (.gg n (off+k) bM m i)))
   | .cB n i j=>some (.pure (.c1 (.cB n i (j+k))))
   | .ref x j=>some (.pure (.c1 (.ref x (j+k))))
   |_=>none
  |_=>none
 |_,_=>none
def Nw (T:aV) (S:ag) (t:aw) (x i:aM):Option bm:=
 match S.arg i,S.arg x,List.lookup t T with
 | some (.v (.c (.p (.int _) ai))),some (.v (.c c)),some r=>match c with
  | .ptr n off=>match r.arr with
   | some (bM,e)=>match List.lookup e T with
    |some re=>match ai with
     | .i k=>if 0≤k∧k<bM then some (.pure (.c1 (.ptr n (off+k.toNat*re.size))))else none
     |ai=>some ⟨[.fo ai bM],.c1 (.gg n off bM re.size ai),dQ,[]⟩
    |none=>none
   |none=>none
  | .cB n i0 j=>match r.arr,ai with
   |some (bM,e),.i k=>match List.lookup e T with
    |some re=>if 0≤k∧k<bM then some (.pure (.c1 (.cB n i0 (j+k.toNat*re.size))))else none
    |none=>none
   |_,_=>none
  | .ref x j=>match r.arr,ai with
   |some (bM,e),.i k=>match List.lookup e T with
    |some re=>if 0≤k∧k<bM then some (.pure (.c1 (.ref x (j+k.toNat*re.size))))else none
    |none=>none
   |_,_=>none
  | .own n=>match r.elem with
   |some e=>match List.lookup n S.heap,List.lookup e T with
    |some (.row _ x),some re=>some ⟨[.row x ai re.size],.c1 (.cB n ai 0),dQ,[]⟩
    |_,_=>none
   |none=>none
  | .sub n lo ln=>match r.elem with
   |some e=>match List.lookup n S.heap,List.lookup e T with
    |some (.row _ x),some re=>some ⟨[.fE x lo ln ai re.size],.c1 (.cB n (.v S.nv) 0),dQ,[]⟩
    |_,_=>none
   |none=>none
  | .p .sl x=>match r.elem with
   |some e=>match List.lookup e T with
    |some re=>some ⟨[.row x ai re.size],.c1 (.ref (.v S.nv) 0),dQ,[]⟩
    |none=>none
   |none=>none
  |_=>none
 |_,_,_=>none
section
variable {P:aQ} {T:aV} {S:ag} {ρ:List L}
theorem akF (hT:aV.ok P T) {t:aw} {x:aM} {f:Nat} {r:bm} (h:NU T S t x f=some r):(qS P (S.aa ρ) t x f).map bc.pure=some (r.aa ρ):=by
 unfold NU at h;split at h
 · rename_i c row hx hr;have:=hT _ _ hr;subst this;split at h
   · rename_i k hk;have hf:=Ty.amp hk;have bG:=ag.bL ρ hx;split at h
     · cases h;simp only[qS,bG,hf,SV.aa,aB.aa,SC.aa];rfl
     · cases h;simp only[qS,bG,hf,SV.aa,aB.aa,SC.aa];simp only[aJ,bc.pure,bm.aa,bm.pure,SV.aa,aB.aa,SC.aa,Nat.add_right_comm];rfl
     · cases h;simp only[qS,bG,hf,SV.aa,aB.aa,SC.aa];rfl
     · cases h;simp only[qS,bG,hf,SV.aa,aB.aa,SC.aa];simp only[aJ,bc.pure,bm.aa,bm.pure,SV.aa,aB.aa,SC.aa,List.drop_drop];rfl
     · cases h
   · cases h
 · cases h
theorem Sat.dM {m:Nat} {nd:Nd} {nds:List Nd} (h:Sat ρ m (nd::nds)) (hn:nd.n=1):∃l,nd.ev ρ=some [l]∧At.ev ρ (.v m)=l:=by
 obtain⟨⟨ls,h1,h2⟩,_⟩:=h;have hl:=Nd.Dm h1;rw[hn]at hl
 match ls,hl with
 |[l],_=>
  refine⟨l,h1,?_⟩;have:=h2 0 om;simp only[gb]at this;simp only[At.ev,this];rfl
theorem ajd (hT:aV.ok P T) {t:aw} {x i:aM} {r:bm} (h:Nw T S t x i=some r) (hs:Sat ρ S.nv r.nds):(nF P (S.aa ρ) t x i).map bc.pure=some (r.aa ρ):=by
 unfold Nw at h;split at h
 · rename_i k ai c row hi hx hr;have:=hT _ _ hr;subst this;have hi':(S.aa ρ).arg i=some (.v (.c (.p (.sc (.int k (ai.ev ρ).af))))):=ag.bL ρ hi;have bG:=ag.bL ρ hx;have sz:∀{e:aw} {re:Ty},List.lookup e T=some re→re.size=db P e:=fun he=>by rw[hT _ _ he];rfl
   split at h
   · rename_i n off;split at h
     · rename_i bM e lJ;have zd:la P t=some (bM,e):=lJ;split at h
       · rename_i re he;split at h
         · rename_i c;split at h
           · rename_i hc;cases h;simp only[nF,hi',bG,SV.aa,aB.aa,SC.aa,zd,At.ev,L.af];rw[jr (by simpa using hc)];simp only[aJ,bc.pure,bm.aa,bm.pure,SV.aa,aB.aa,SC.aa,sz he];rfl
           · cases h
         · cases h;obtain⟨⟨ls,h1,_⟩,_⟩:=hs;simp only[Nd.ev]at h1;split at h1
           · rename_i hc;simp only[nF,hi',bG,SV.aa,aB.aa,SC.aa,zd];rw[jr hc];simp only[aJ,bc.pure,bm.aa,SV.aa,aB.aa,SC.aa,sz he];rfl
           · cases h1
       · cases h
     · cases h
   · rename_i n i0 j;split at h
     · rename_i bM e c lJ;have zd:la P t=some (bM,e):=lJ;split at h
       · rename_i re he;split at h
         · rename_i hc;cases h;simp only[nF,hi',bG,SV.aa,aB.aa,SC.aa,zd,At.ev,L.af];rw[jr (by simpa using hc)];simp only[aJ,bc.pure,bm.aa,bm.pure,SV.aa,aB.aa,SC.aa,sz he];rfl
         · cases h
       · cases h
     · cases h
   · rename_i xr j;split at h
     · rename_i bM e c lJ;have zd:la P t=some (bM,e):=lJ;split at h
       · rename_i re he;split at h
         · rename_i hc;cases h;simp only[nF,hi',bG,SV.aa,aB.aa,SC.aa,zd,At.ev,L.af];rw[jr (by simpa using hc)];simp only[aJ,bc.pure,bm.aa,bm.pure,SV.aa,aB.aa,SC.aa,sz he,List.drop_drop];rfl
         · cases h
       · cases h
     · cases h
   · rename_i n;split at h
     · rename_i e dx;have hO:eL P t=some e:=dx;split at h
       · rename_i e' xr re hl he;cases h;obtain⟨l,h1,_⟩:=hs.dM rfl;simp only[Nd.ev]at h1;split at h1
         · rename_i h0;split at h1
           · rename_i rr nM;split at h1
             · rename_i hlen;simp only[nF,hi',bG,SV.aa,aB.aa,SC.aa,hO,ak.elem,dD,hl,aJ,SB.aa,nM];rw[jr h0,←sz he,au hlen];rfl
             · cases h1
           · cases h1
         · cases h1
       · cases h
     · cases h
   · rename_i n lo ln;split at h
     · rename_i e dx;have hO:eL P t=some e:=dx;split at h
       · rename_i e' xr re hl he;cases h;obtain⟨l,h1,h2⟩:=hs.dM rfl;simp only[Nd.ev]at h1;split at h1
         · rename_i h0;split at h1
           · rename_i rr nM;split at h1
             · rename_i hlen;cases h1;simp only[nF,hi',bG,SV.aa,aB.aa,SC.aa,hO,ak.elem,dD,hl,aJ,SB.aa,nM];rw[jr h0,←sz he,au hlen];simp only[aJ,bc.pure,bm.aa,SV.aa,aB.aa,SC.aa,h2,L.af,gd];rfl
             · cases h1
           · cases h1
         · cases h1
       · cases h
     · cases h
   · rename_i xr;split at h
     · rename_i e dx;have hO:eL P t=some e:=dx;split at h
       · rename_i re he;cases h;obtain⟨l,h1,h2⟩:=hs.dM rfl;simp only[Nd.ev]at h1;split at h1
         · rename_i h0;split at h1
           · rename_i rr nM;split at h1
             · rename_i hlen;cases h1;simp only[nF,hi',bG,SV.aa,aB.aa,SC.aa,Kd.pv,hO,ak.elem,nM];rw[jr h0,←sz he,au hlen];simp only[aJ,bc.pure,bm.aa,SV.aa,aB.aa,SC.aa,h2,L.jl,rW];rfl
             · cases h1
           · cases h1
         · cases h1
       · cases h
     · cases h
   · cases h
 · cases h
def ag.sink (S:ag):SC→Option ((Kd×At)×List Nat)
 | .p k x=>some ((k,x),[])
 | .nil=>some ((.sl,.r0),[])
 | .own n=>match List.lookup n S.heap with
  |some (.row _ x)=>some ((.sl,x),[n])
  |_=>none
 |_=>none
def ag.sinks (S:ag):List SC→Option (List (Kd×At)×List Nat)
 |[]=>some ([],[])
 |c::cs=>match S.sink c,S.sinks cs with
  |some (q,ns),some (qs,ms)=>some (q::qs,ns++ms)
  |_,_=>none
theorem ag.aEp {c:SC} {q:Kd×At} {ns:List Nat} (h:S.sink c=some (q,ns)):(S.aa ρ).sink (c.aa ρ)=some (q.1.pv (q.2.ev ρ),ns):=by
 cases c with
 |p k x=>cases h;rfl
 |nil=>cases h;rfl
 |own n=>
  simp only[ag.sink]at h;split at h
  · rename_i e x hl;cases h;simp only[SC.aa,ak.sink,dD,hl,aJ,SB.aa];rfl
  · cases h
 |_=>cases h
theorem ag.LP:∀{cs:List SC} {qs:List (Kd×At)} {ns:List Nat},S.sinks cs=some (qs,ns)→(S.aa ρ).sinks (cs.map (SC.aa ρ))=some (bp ρ qs,ns)
 |[],_,_,h=>by cases h;rfl
 |c::cs,qs,ns,h=>by
  simp only[ag.sinks]at h;split at h
  · rename_i q ns1 qs1 ms h1 h2;cases h;simp only[bC,ak.sinks,ag.aEp h1,ag.LP h2];rfl
  · cases h
def aB.cells:aB→List SC
 | .c x=> [x]
 | .agg xs=>xs
theorem aB.BQ (x:aB):(x.aa ρ).cells=x.cells.map (SC.aa ρ):=by cases x<;>rfl
def MB (T:aV) (S:ag) (t:aw) (x y:aM):Option bm:=
 match S.arg x,S.arg y,List.lookup t T with
 |some (.v (.c (.ptr n off))),some (.v y),some r=>match List.lookup n S.heap with
  |some (.box cs)=>if y.cells.length=r.size∧off+y.cells.length≤cs.length∧r.info=true then some ⟨[],.c1 .dead,⟨[(n,.box (cs.take off++y.cells++cs.drop (off+y.cells.length)))],[]⟩,[]⟩else none
  |_=>none
 |some (.v (.c (.cB n i j))),some (.v y),some r=>match List.lookup n S.heap,S.sinks y.cells with
  |some (.row e x),some (ps,ns)=>if ps.length=r.size∧r.info=true∧n∉ns then some ⟨[.set x i j ps],.c1 .dead,⟨[(n,.row e (.v S.nv))],ns⟩,[]⟩else none
  |_,_=>none
 |_,_,_=>none
theorem axw (hT:aV.ok P T) {t:aw} {x y:aM} {r:bm} (h:MB T S t x y=some r) (hs:Sat ρ S.nv r.nds):(uo P (S.aa ρ) t x y).map (fun e=> (⟨.c .dead,e,[]⟩:bc))=some (r.aa ρ):=by
 unfold MB at h;split at h
 · rename_i n off y1 row hx hy hr;have:=hT _ _ hr;subst this;split at h
   · rename_i cs hl;split at h
     · rename_i hc;cases h;have bG:(S.aa ρ).arg x=some (.v (.c (.ptr n off))):=ag.bL ρ hx;have hy':(S.aa ρ).arg y=some (.v (y1.aa ρ)):=ag.bL ρ hy;simp only[uo,bG,hy',dD,hl,aJ,SB.aa,aB.BQ,ax];rw[au ⟨hc.1,hc.2.1,hc.2.2⟩];simp only[aJ,bm.aa,fO.aa,cb.aa,bC,cj,SB.aa,ej,p8,p7];rfl
     · cases h
   · cases h
 · rename_i n i j y1 row hx hy hr;have:=hT _ _ hr;subst this;split at h
   · rename_i e xr ps ns hl hsk;split at h
     · rename_i hc;cases h;have bG:(S.aa ρ).arg x=some (.v (.c (.cB n (i.ev ρ).af.toNat j))):=ag.bL ρ hx;have hy':(S.aa ρ).arg y=some (.v (y1.aa ρ)):=ag.bL ρ hy;obtain⟨l,h1,h2⟩:=hs.dM rfl;simp only[Nd.ev]at h1;split at h1
       · rename_i rr nM;split at h1
         · rename_i gx;cases h1;simp only[uo,bG,hy',dD,hl,aJ,SB.aa,aB.BQ,ag.LP hsk,nM];have hpl:(bp ρ ps).length=ps.length:=by simp[bp]
           rw[hpl,au ⟨hc.1,gx,hc.2.1,hc.2.2⟩];simp only[aJ,bm.aa,fO.aa,cb.aa,bC,cj,SB.aa,h2,L.ah];rfl
         · cases h1
       · cases h1
     · cases h
   · cases h
 · cases h
end
def ag.num (S:ag) (o:Option aM) (d:At):Option At:=match o with
 |none=>some d
 |some o=>match S.arg o with
  |some (.v (.c (.p (.int _) a)))=>some a
  |_=>none
def ag.view (S:ag) (m:Nat):SC→Option (List Nd×At)
 | .p .sl x=>some ([],x)
 | .nil=>some ([],.r0)
 | .own n=>match List.lookup n S.heap with
  |some (.row _ x)=>some ([],x)
  |_=>none
 | .sub n lo ln=>match List.lookup n S.heap with
  |some (.row _ x)=>some ([.vw x lo ln],.v m)
  |_=>none
 |_=>none
def Ev (l h v:At):At:=match l,h with
 | .i 0,.i 0=> .i 0
 |_,_=>v
theorem azA {ρ:List L} {l h v:At} (hv:v.ev ρ= .i (((h.ev ρ).af.toNat- (l.ev ρ).af.toNat:Nat):Int)):(Ev l h v).ev ρ= .i (((h.ev ρ).af.toNat- (l.ev ρ).af.toNat:Nat):Int):=by
 unfold Ev;split
 · rfl
 · exact hv
def L_ (T:aV) (S:ag) (t:aw) (x:aM) (lo hi:Option aM):Option bm:=
 match S.arg x,List.lookup t T,S.num lo (.i 0)with
 | some (.v (.c c)),some r,some l=>match c with
  | .p .str a=>if r.ux then match S.num hi (.v S.nv)with
    |some h=>some ⟨[.mw a,.MC a l h],.c1 (.p .str (.v (S.nv+1))),dQ,[]⟩
    |none=>none
   else none
  | .p .sl a=>match r.elem with
   |some e=>match List.lookup e T,S.num hi (.v S.nv)with
    |some re,some h=>some ⟨[.len a,.part a l h re.size],.c1 (.p .sl (.v (S.nv+1))),dQ,[]⟩
    |_,_=>none
   |none=>none
  | .own n=>match r.elem,List.lookup n S.heap with
   |some e,some (.row _ a)=>match List.lookup e T,S.num hi (.v S.nv)with
    |some re,some h=>some ⟨[.len a,.cut a l h re.size],.c1 (.sub n l (Ev l h (.v (S.nv+1)))),dQ,[]⟩
    |_,_=>none
   |_,_=>none
  | .sub n l0 ln=>match r.elem,List.lookup n S.heap with
   |some e,some (.row _ a)=>match List.lookup e T,S.num hi ln with
    |some re,some h=>some ⟨[.GJ a l0 ln l h re.size],.c1 (.sub n (.v S.nv) (.v (S.nv+1))),dQ,[]⟩
    |_,_=>none
   |_,_=>none
  | .nil=>match r.elem with
   |some e=>match List.lookup e T,S.num hi (.i 0)with
    |some re,some h=>some ⟨[.cut .r0 l h re.size],.c1 .nil,dQ,[]⟩
    |_,_=>none
   |none=>none
  |_=>none
 |_,_,_=>none
def ag.fy (S:ag) (e:aw) (m:Nat):SC→Option (List Nd×At×List Nat)
 | .nil=>some ([],.r0,[])
 | .own n=>match List.lookup n S.heap with
  |some (.row e' x)=>if e'=e then some ([],x,[n])else none
  |_=>none
 | .sub n (.i 0) ln=>match List.lookup n S.heap with
  |some (.row e' x)=>if e'=e then some ([.tk x ln],.v m,[n])else none
  |_=>none
 |_=>none
def uw (T:aV) (S:ag) (d:Nat) (t:aw) (s x:aM):Option bm:=
 match S.arg s,S.arg x,(List.lookup t T).bind Ty.elem with
 | some (.v (.c cs)),some (.v (.c cx)),some e=>match(List.lookup e T).bind Ty.app,S.fy e S.nv cs with
  |some (n,b),some (nds,a,ms)=>match S.view (S.nv+fX nds) cx with
   |some (CL,a')=>some ⟨nds++CL++ [.app a a' n b],.c1 (.own d),⟨[(d,.row e (.v (S.nv+fX (nds++CL))))],ms⟩,[]⟩
   |none=>none
  |_,_=>none
 |_,_,_=>none
def d_ (T:aV) (S:ag) (t:aw) (x:aM):Option bm:=
 match S.arg x,List.lookup t T with
 |some (.v (.c (.p .str a))),some r=>if r.ux then some ⟨[.mw a],.c1 (.p (.int .i64) (.v S.nv)),dQ,[]⟩else none
 |some (.v (.c c)),some r=>match S.view S.nv c,r.sl with
  |some ([],.r0),some _=>some ⟨[],.c1 (.p (.int .i64) (.i 0)),dQ,[]⟩
  |some (nds,a),some _=>some ⟨nds++ [.len a],.c1 (.p (.int .i64) (.v (S.nv+fX nds))),dQ,[]⟩
  |_,_=>none
 |_,_=>none
section
variable {P:aQ} {T:aV} {S:ag} {ρ:List L}
theorem vk {o:Option aM} {d a:At} {k:Int} (h:S.num o d=some a) (hd:o=none→(d.ev ρ).af=k):(S.aa ρ).num o k=some (a.ev ρ).af:=by
 cases o with
 |none=>cases h;simp only[ak.num,hd rfl]
 |some o=>
  simp only[ag.num]at h;split at h
  · rename_i kk a' hx;cases h;have bG:(S.aa ρ).arg o=some (.v (.c (.p (.sc (.int kk (a.ev ρ).af))))):=ag.bL ρ hx;simp only[ak.num,bG]
  · cases h
theorem rZ {m:Nat} {c:SC} {nds:List Nd} {a:At} (h:S.view m c=some (nds,a)) (hs:Sat ρ m nds):(S.aa ρ).view (c.aa ρ)=some (a.ev ρ).ah:=by
 unfold ag.view at h;split at h
 · cases h;rfl
 · cases h;rfl
 · split at h
   · rename_i hl;cases h;simp only[SC.aa,ak.view,dD,hl,aJ,SB.aa]
   · cases h
 · split at h
   · rename_i hl;cases h;obtain⟨l,h1,h2⟩:=hs.dM rfl;simp only[Nd.ev]at h1;cases h1;simp only[SC.aa,ak.view,dD,hl,aJ,SB.aa,h2,L.ah]
   · cases h
 · cases h
theorem acs {size:Nat} {rows:List (List PV)} (h:qy size rows=true):∀r,rows[0]? =some r→r.length=size:=by
 intro r hr
 cases rows with
 |nil=>simp at hr
 |cons a l=>simp_all[qy]
theorem x_ {t:aw} (h:NJ P t=true):P.underlying t=some .string:=by
 unfold NJ at h;split at h
 · assumption
 · cases h
theorem Bm {t e:aw} (h:B0 P t=some e):P.underlying t=some (.slice e):=by
 unfold B0 at h;split at h
 · cases h;assumption
 · cases h
theorem avd (hT:aV.ok P T) {t e:aw} (h:(List.lookup t T).bind Ty.elem=some e):eL P t=some e:=by
 simp only[gE]at h;obtain⟨r,h1,h2⟩:=h;have:=hT _ _ h1;subst this;exact h2
def Aj (x:At) (k:Kd):Nat→Nat→List Nd
 |_,0=> []
 |i,n+1=> .rc x (.i i) 0 k::Aj x k (i+1) n
def HH (k:Kd):Nat→Nat→List (Kd×At)
 |_,0=> []
 |m,n+1=> (k,.v m)::HH k (m+1) n
theorem VA {x:At} {k:Kd}:∀{n i:Nat},fX (Aj x k i n)=n
 |0,_=>rfl
 |n+1,i=>by simp only[Aj,fX,Nd.n,VA];omega
theorem ach {x:At} {k:Kd} {rows:List (List PV)} (hr:eA 1 rows) (hx:(x.ev ρ).ah=rows):∀{n i m:Nat},i+n=rows.length→Sat ρ m (Aj x k i n)→bp ρ (HH k m n)=(rows.drop i).flatten
 |0,i,m,hl,_=>by rw[uk om];rfl
 | n+1,i,m,hl,h=>by
  obtain⟨l,h1,h2⟩:=Sat.dM h rfl;have h3:=ach hr hx (n:=n) (i:=i+1) (m:=m+1) om h.2;have hd:rows.drop i=rows[i]'om::rows.drop (i+1):=zF om;have hlen:=hr (rows[i]'om) (b9 _);simp only[Nd.ev,hx]at h1
  have h1:(match rows[i]? with
   |some r=>match r[0]? with
    |some q=> (k.of q).map ([·])
    |none=>none
   |none=>none)=some [l]:=h1
  rw[bX (show i<rows.length by omega)]at h1;simp only at h1;rw[hd];generalize rows[i]'om=r at h1 hlen
  match r,hlen with
  |[q],_=>
   have h1:(k.of q).map ([·])=some [l]:=h1;simp only[aW]at h1;obtain⟨l',h4,h5⟩:=h1;cases h5;simp only[HH,bp,bC,aix,fv,fa]at h3⊢;rw[h3,h2,Kd.EH h4]
def ON (T:aV) (S:ag) (t:aw) (x:aM):Option bm:=
 match S.arg x,(List.lookup t T).bind Ty.arr with
 |some (.v (.c (.p .sl a))),some (n,e)=>match(List.lookup e T).bind Ty.oX with
  |some [k]=>if 0<n then some ⟨.part a (.i 0) (.i n) 1::(Aj (.v S.nv) k 0 n++ [.lit [HH k (S.nv+1) n],.row (.v (S.nv+1+n)) (.i 0) n]),.c1 (.ref (.v (S.nv+1+n+1)) 0),dQ,[]⟩else none
  |_=>none
 |_,_=>none
theorem ayE (hT:aV.ok P T) {t e:aw} {n:Nat} (h:(List.lookup t T).bind Ty.arr=some (n,e)):la P t=some (n,e):=by
 simp only[gE]at h;obtain⟨r,h1,h2⟩:=h;have:=hT _ _ h1;subst this;exact h2
theorem alm (hT:aV.ok P T) {t:aw} {x:aM} {r:bm} (h:ON T S t x=some r) (hs:Sat ρ S.nv r.nds):(yQ P (S.aa ρ) t x).map bc.pure=some (r.aa ρ):=by
 unfold ON at h;split at h
 · rename_i a n e hx ha;split at h
   · rename_i k hk;split at h
     · rename_i hn;cases h;have bG:(S.aa ρ).arg x=some (.v (.c (.p (.sl (a.ev ρ).ah)))):=ag.bL ρ hx;have ha':=ayE hT ha;obtain⟨l1,h1,h2⟩:=hs.dM rfl;obtain⟨h3,h4⟩:=Sat.app hs.2;rw[VA]at h4;obtain⟨l2,h5,h6⟩:=h4.dM rfl;obtain⟨l3,h7,h8⟩:=Sat.dM h4.2 rfl;simp only[Nd.ev]at h1;split at h1
       · rename_i c1;cases h1;have hle:n≤(a.ev ρ).ah.length:=by simp_all[At.ev,L.af]
         have e1:(At.ev ρ (.v S.nv)).ah=(a.ev ρ).ah.take n:=by rw[h2];rfl
         have hR:eA 1 ((a.ev ρ).ah.take n):=fun r hr=>nZ.1 c1.2.2.2 r (hU hr)
         have e2:=ach hR e1 (k:=k) (n:=n) (i:=0) (m:=S.nv+1) (by simp;omega) h3;simp only[Nd.ev]at h5;cases h5;have e3:(At.ev ρ (.v (S.nv+1+n))).ah=[((a.ev ρ).ah.take n).flatten]:=by
           have:At.ev ρ (.v (S.nv+1+n))=_:=h6;simp_all[L.ah]
         simp only[Nd.ev,e3]at h7;rw[au (show(0:Int)≤(At.ev ρ (.i 0)).af from IL 0)]at h7;have h7:(if((a.ev ρ).ah.take n).flatten.length=n then some [L.c ((a.ev ρ).ah.take n).flatten]else none)=some [l3]:=h7;by_cases hc:((a.ev ρ).ah.take n).flatten.length=n
         · rw[au hc]at h7;cases p9 h7;simp only[yQ,bG,ha'];rw[au ⟨hn,hle,c1.2.2.2⟩];simp only[aJ,bc.pure,bm.aa,SV.aa,aB.aa,SC.aa];have e4:At.ev ρ (.v (S.nv+1+n+1))=_:=h8;rw[e4];rfl
         simp_all
       · cases h1
     · cases h
   · cases h
 · cases h
def LG (T:aV) (S:ag) (t:aw) (x:aM) (lo:Option aM) (hi mx:aM):Option bm:=
 match S.arg x,(List.lookup t T).bind Ty.elem,S.num lo (.i 0),S.arg hi,S.arg mx with
 |some (.v (.c (.p .sl a))),some e,some l,some (.v (.c (.p (.int _) h))),some (.v (.c (.p (.int _) m)))=>match List.lookup e T with
  |some re=>some ⟨[.part a h m re.size,.part a l h re.size],.c1 (.p .sl (.v (S.nv+1))),dQ,[]⟩
  |none=>none
 |_,_,_,_,_=>none
theorem asT (hT:aV.ok P T) {t:aw} {x hi mx:aM} {lo:Option aM} {r:bm} (h:LG T S t x lo hi mx=some r) (hs:Sat ρ S.nv r.nds):(xz P (S.aa ρ) t x lo hi mx).map bc.pure=some (r.aa ρ):=by
 unfold LG at h;split at h
 · rename_i a e l k1 hh k2 m hx dx dr eC hmx;split at h
   · rename_i re he;have:=hT _ _ he;subst this;cases h;obtain⟨l1,h1,h2⟩:=hs.dM rfl;obtain⟨l2,h3,h4⟩:=Sat.dM hs.2 rfl;simp only[Nd.ev]at h1 h3;have wm:(S.aa ρ).num lo 0=some (l.ev ρ).af:=vk dr (fun _=>rfl);have bG:(S.aa ρ).arg x=some (.v (.c (.p (.sl (a.ev ρ).ah)))):=ag.bL ρ hx;have oH:(S.aa ρ).arg hi=some (.v (.c (.p (.sc (.int k1 (hh.ev ρ).af))))):=ag.bL ρ eC;have aHi:(S.aa ρ).arg mx=some (.v (.c (.p (.sc (.int k2 (m.ev ρ).af))))):=ag.bL ρ hmx;have hO:eL P t=some e:=avd hT dx;split at h1
     · rename_i c1;split at h3
       · rename_i c3;cases h1;cases h3;simp only[xz,bG,hO,wm,oH,aHi];rw[au ⟨c3.1,c3.2.1,c1.2.1,c1.2.2.1,c1.2.2.2⟩];simp only[aJ,bc.pure,bm.aa,SV.aa,aB.aa,SC.aa,Kd.pv];have:At.ev ρ (.v (S.nv+1))=_:=h4;rw[this];rfl
       · cases h3
     · cases h1
   · cases h
 · cases h
theorem azx (hT:aV.ok P T) {t:aw} {x:aM} {lo hi:Option aM} {r:bm} (h:L_ T S t x lo hi=some r) (hs:Sat ρ S.nv r.nds):(lq P (S.aa ρ) t x lo hi).map bc.pure=some (r.aa ρ):=by
 unfold L_ at h;split at h
 · rename_i c row l hx hr dr;have:=hT _ _ hr;subst this;have wm:(S.aa ρ).num lo 0=some (l.ev ρ).af:=vk dr (fun _=>rfl);have bG:=ag.bL ρ hx;have sz:∀{e:aw} {re:Ty},List.lookup e T=some re→re.size=db P e:=fun he=>by rw[hT _ _ he];rfl
   split at h
   · rename_i a;split at h
     · rename_i hS;split at h
       · rename_i hh eC;cases h;obtain⟨l1,h1,h2⟩:=hs.dM rfl;obtain⟨l2,h3,h4⟩:=Sat.dM hs.2 rfl;simp only[Nd.ev]at h1 h3;cases h1;have oH:(S.aa ρ).num hi ((a.ev ρ).cv.size:Int)=some (hh.ev ρ).af:=vk eC (fun _=>by rw[h2];rfl);split at h3
         · rename_i hc;cases h3;simp only[lq,bG,SV.aa,aB.aa,SC.aa,Kd.pv,wm,oH,x_ (P:=P) hS];rw[jr hc];simp only[aJ,bc.pure,bm.aa,SV.aa,aB.aa,SC.aa,Kd.pv];have:At.ev ρ (.v (S.nv+1))=_:=h4;rw[this];rfl
         · cases h3
       · cases h
     · cases h
   · rename_i a;split at h
     · rename_i e dx;have hO:eL P t=some e:=dx;split at h
       · rename_i re hh he eC;cases h;obtain⟨l1,h1,h2⟩:=hs.dM rfl;obtain⟨l2,h3,h4⟩:=Sat.dM hs.2 rfl;simp only[Nd.ev]at h1 h3;cases h1;have oH:(S.aa ρ).num hi ((a.ev ρ).ah.length:Int)=some (hh.ev ρ).af:=vk eC (fun _=>by rw[h2];rfl);split at h3
         · rename_i hc;cases h3;simp only[lq,bG,SV.aa,aB.aa,SC.aa,Kd.pv,ak.nw,ak.view,aJ,hO,wm,oH];rw[jr ⟨hc.1,hc.2.1⟩];simp only[ak.part];rw[au ⟨hc.2.2.1,by rw[←sz he,←nZ];exact hc.2.2.2⟩];simp only[aJ,bc.pure,bm.aa,SV.aa,aB.aa,SC.aa,Kd.pv];have:At.ev ρ (.v (S.nv+1))=_:=h4;rw[this];rfl
         · cases h3
       · cases h
     · cases h
   · rename_i n;split at h
     · rename_i e e' a dx hl;have hO:eL P t=some e:=dx;split at h
       · rename_i re hh he eC;cases h;obtain⟨l1,h1,h2⟩:=hs.dM rfl;obtain⟨l2,h3,h4⟩:=Sat.dM hs.2 rfl;simp only[Nd.ev]at h1 h3;cases h1;have oH:(S.aa ρ).num hi ((a.ev ρ).ah.length:Int)=some (hh.ev ρ).af:=vk eC (fun _=>by rw[h2];rfl);split at h3
         · rename_i hc;cases h3;simp only[lq,bG,SV.aa,aB.aa,SC.aa,ak.nw,ak.view,dD,hl,aJ,SB.aa,hO,wm,oH];rw[jr ⟨hc.1,hc.2.1⟩];simp only[ak.part,dD,hl,aJ,SB.aa];rw[au ⟨hc.2.2.1,by rw[←sz he];exact acs hc.2.2.2⟩];simp only[aJ,bc.pure,bm.aa,SV.aa,aB.aa,SC.aa];have e9:(Ev l hh (.v (S.nv+1))).ev ρ=_:=azA h4;rw[e9];rfl
         · cases h3
       · cases h
     · cases h
   · rename_i n l0 ln;split at h
     · rename_i e e' a dx hl;have hO:eL P t=some e:=dx;split at h
       · rename_i re hh he eC;cases h;obtain⟨ls,h1,h2⟩:=hs.one;simp only[Nd.ev]at h1;split at h1
         · rename_i hc;cases h1;have oI:=h2 0 (by simp[Nd.n]);have kM:=h2 1 (by simp[Nd.n]);simp only[gb,mL,eN]at oI;simp only[zB,mL,eN]at kM;have oH:(S.aa ρ).num hi ((ln.ev ρ).af.toNat:Int)=some (hh.ev ρ).af:=vk eC (fun hn=>by
            subst hn;simp only[ag.num]at eC;cases eC;have:=hc.1;have:=hc.2.1;omega)
           simp only[lq,bG,SV.aa,aB.aa,SC.aa,ak.nw,hO,wm,oH];rw[jr ⟨hc.1,hc.2.1⟩];simp only[ak.part,dD,hl,aJ,SB.aa];rw[au ⟨hc.2.2.1,by rw[←sz he];exact acs hc.2.2.2⟩];simp only[aJ,bc.pure,bm.aa,SV.aa,aB.aa,SC.aa,oI,kM,L.af,gd];rfl
         · cases h1
       · cases h
     · cases h
   · split at h
     · rename_i e dx;have hO:eL P t=some e:=dx;split at h
       · rename_i re hh he eC;cases h;obtain⟨l1,h1,h2⟩:=hs.dM rfl;simp only[Nd.ev]at h1;split at h1
         · rename_i hc;have oH:(S.aa ρ).num hi 0=some (hh.ev ρ).af:=vk eC (fun _=>rfl);have h0:(hh.ev ρ).af.toNat=0:=by
            have e0:(At.ev ρ .r0).ah=[]:=rfl;simp_all
           simp only[lq,bG,SV.aa,aB.aa,SC.aa,ak.nw,ak.view,aJ,hO,wm,oT];have aHj:(S.aa ρ).num hi ((0:Nat):Int)=some (hh.ev ρ).af:=oH;simp only[aHj];rw[jr ⟨hc.1,hc.2.1⟩];simp only[ak.part];rw[au h0];rfl
         · cases h1
       · cases h
     · cases h
   · cases h
 · cases h
theorem anS {e:aw} {m:Nat} {c:SC} {nds:List Nd} {a:At} {ms:List Nat} (h:S.fy e m c=some (nds,a,ms)) (hs:Sat ρ m nds):(S.aa ρ).fy e (c.aa ρ)=some ((a.ev ρ).ah,ms):=by
 unfold ag.fy at h;split at h
 · cases h;rfl
 · split at h
   · simp_all[SC.aa,ak.fy,dD,aJ,SB.aa,if_true]
   · cases h
 · split at h
   · rename_i hl;split at h
     · rename_i fK;cases h;obtain⟨l,h1,h2⟩:=hs.dM rfl;simp only[Nd.ev]at h1;cases h1;simp only[SC.aa,At.ev,L.af,zG,ak.fy,dD,hl,aJ,SB.aa,fK,if_true];simp only[At.ev]at h2;rw[h2];rfl
     · cases h
   · cases h
 · cases h
theorem aCN (hT:aV.ok P T) {d:Nat} {t:aw} {s x:aM} {r:bm} (h:uw T S d t s x=some r) (hs:Sat ρ S.nv r.nds):(r_ P (S.aa ρ) d t s x).map bc.of=some (r.aa ρ):=by
 unfold uw at h;split at h
 · rename_i cs cx e hcs H_ dx;simp only[gE]at dx;obtain⟨row,hr,dx⟩:=dx;have:=hT _ _ hr;subst this;have hO:eL P t=some e:=dx;split at h
   · rename_i n b nds a ms ft dK;simp only[gE]at ft;obtain⟨row',gC,ft⟩:=ft;have:=hT _ _ gC;subst this;have rE:jH P e=some (n,b):=ft;split at h
     · rename_i CL a' hv;cases h;obtain⟨hs1,hs2⟩:=Sat.app (a:=nds++CL) (b:=[.app a a' n b]) hs;obtain⟨hs3,ze⟩:=Sat.app hs1;obtain⟨l,h1,h2⟩:=hs2.dM rfl;simp only[Nd.ev]at h1;split at h1
       · rename_i hc;cases h1;have k1:(S.aa ρ).arg s=some (.v (.c (cs.aa ρ))):=ag.bL ρ hcs;have k2:(S.aa ρ).arg x=some (.v (.c (cx.aa ρ))):=ag.bL ρ H_;simp only[r_,hO,rE,k1,k2,anS dK hs3,rZ hv ze];rw[au hc];simp only[aJ,bc.of,bm.aa,fO.aa,cb.aa,bC,cj,SB.aa,h2,L.ah];rfl
       · cases h1
     · cases h
   · cases h
 · cases h
theorem aCR (hT:aV.ok P T) {t:aw} {x:aM} {r:bm} (h:d_ T S t x=some r) (hs:Sat ρ S.nv r.nds):(o_ P (S.aa ρ) t x).map bc.pure=some (r.aa ρ):=by
 unfold d_ at h;split at h
 · rename_i a row hx hr;have:=hT _ _ hr;subst this;split at h
   · rename_i hS;cases h;obtain⟨l,h1,h2⟩:=hs.dM rfl;simp only[Nd.ev]at h1;cases h1;have bG:=ag.bL ρ hx;simp only[o_,bG,SV.aa,aB.aa,SC.aa,Kd.pv,x_ (P:=P) hS];simp only[aJ,bc.pure,bm.aa,SV.aa,aB.aa,SC.aa,Kd.pv,h2,L.af];rfl
   · cases h
 · rename_i c row hno hx hr;have:=hT _ _ hr;subst this;split at h
   · rename_i e hv lK;have aHk:B0 P t=some e:=lK;cases h;have bG:(S.aa ρ).arg x=some (.v (.c (c.aa ρ))):=ag.bL ρ hx;have hv':=rZ (ρ:=ρ) hv trivial;have hres:o_ P (S.aa ρ) t x=some (.sc (.int .i64 ((At.r0).ev ρ).ah.length)):=by
      unfold o_;rw[bG];split
      · rename_i b heq
        cases c with
        |p k y=>
         cases k with
         |str=>simp_all
         |_=>simp[SC.aa,Kd.pv]at heq
        |_=>simp[SC.aa]at heq
      · simp_all[im,V.v.injEq,V1.c.injEq,Bm]
      simp_all
     rw[hres];rfl
   · rename_i nds a e _ hv lK;have aHk:B0 P t=some e:=lK;cases h;obtain⟨hs1,hs2⟩:=Sat.app hs;obtain⟨l,h1,h2⟩:=hs2.dM rfl;simp only[Nd.ev]at h1;cases h1;have bG:(S.aa ρ).arg x=some (.v (.c (c.aa ρ))):=ag.bL ρ hx;have hv':=rZ hv hs1;have hres:o_ P (S.aa ρ) t x=some (.sc (.int .i64 (a.ev ρ).ah.length)):=by
      unfold o_;rw[bG];split
      · rename_i b heq
        cases c with
        |p k y=>
         cases k with
         |str=>simp_all
         |_=>simp[SC.aa,Kd.pv]at heq
        |_=>simp[SC.aa]at heq
      · simp_all[im,V.v.injEq,V1.c.injEq,Bm]
      simp_all
     rw[hres];simp only[aJ,bc.pure,bm.aa,SV.aa,aB.aa,SC.aa,Kd.pv,h2,L.af];rfl
   · cases h
 · cases h
end
end
end
end Go.Proofs.YtndegphojkiblaaGreatDoor
