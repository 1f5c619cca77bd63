/- Towards the last file's theorem: part 11. -/
import Derived.Test.YtndegphojkiblaaGreatDoorG9
import Derived.Test.YtndegphojkiblaaGreatDoorG10
set_option linter.all false
set_option maxHeartbeats 4000000
set_option maxRecDepth 100000
namespace Go.Proofs.YtndegphojkiblaaGreatDoor
noncomputable section
section
open Go.RowKit
namespace AI
def GZ:RS→RS→Bool
 |none,_=>true
 |some a,some b=>AC.py a b
 |some _,none=>false
theorem Yl {x y:RS} (h:GZ x y=true) {rows:List (List PV)} (hr:ic x rows):ic y rows:=by
 cases x with
 |none=>
  have:rows=[]:=hr;subst this
  cases y with
  |none=>rfl
  |some c=>intro r hr;cases hr
 |some a=>cases y with
  |none=>cases h
  |some b=>exact fun r hm=>AC.sH h (hr r hm)
def HO (S:AS):List At→Option (List Nat)
 |[]=>some []
 | .v i::xs=>match S.env[i]?,HO S xs with
  |some g,some gs=>some (g::gs)
  |_,_=>none
 |_::_=>none
def Gp (S:AS) (xs:List At) (i:At):Option (List Nat×Nat):=match i,HO S xs with
 | .v i,some gs=>match S.env[i]? with
  |some g=>some (gs,g)
  |none=>none
 |_,_=>none
def Ez (k:List Nat×Nat):List ((List Nat×Nat)×Nat)→Option Nat
 |[]=>none
 | (k',r)::l=>if k'.2==k.2&&k'.1==k.1 then some r else Ez k l
theorem adB {k:List Nat×Nat}:∀{l:List ((List Nat×Nat)×Nat)} {r:Nat},Ez k l=some r→(k,r)∈l
 |[],_,h=>by cases h
 | (k',r')::l,r,h=>by
  simp only[Ez]at h;split at h
  · rename_i hk;simp only[bt]at hk;have h1:=eq_of_beq hk.1;have h2:=eq_of_beq hk.2;cases h;obtain⟨a,b⟩:=k;obtain⟨c,d⟩:=k';simp only at h1 h2;subst h1;subst h2;exact ek
  · exact fb _ (adB h)
def Qf (S:AS) (xs:List At) (i:At):Option Li:=match Gp S xs i with
 |some k=>match Ez k S.sm with
  |some r=>some (match lk S.ll r with|some x=>x|none=> (3*r+2,0))
  |none=>none
 |none=>none
theorem Ug {S:AS} {τ ρ:List L} (h:Ga S τ ρ):∀{xs:List At} {gs:List Nat},HO S xs=some gs→xs.map (At.ev ρ)=gs.map (at' τ)∧gs.all (fun g=>decide (g<S.n))=true
 |[],gs,he=>by cases he;simp_all
 | x ::xs,gs,he=>by
  cases x with
  |v i=>
   simp only[HO]at he;split at he
   · rename_i g gs' hg nI;cases he;obtain⟨h1,h2⟩:=Ug h nI;refine⟨?_,?_⟩
     · simp only[bC,h1,h.ev,hg]
     · simp only[SM,h2,Bool.and_true,cg];exact h.lt g (cH hg)
   · cases he
  |_=>cases he
theorem afO {S:AS} {τ ρ:List L} (h:Ga S τ ρ) {xs:List At} {i:At} {k:List Nat×Nat} (hk:Gp S xs i=some k):qx S.n k=true∧uA τ k=(xs[(i.ev ρ).af.toNat]?).map (At.ev ρ):=by
 unfold Gp at hk;split at hk
 · rename_i j gs nI;split at hk
   · rename_i g hg;cases hk;obtain⟨h1,h2⟩:=Ug h nI;refine⟨by simp only[qx,h2,Bool.true_and,cg];exact h.lt g (cH hg),?_⟩;unfold uA;simp only;rw[h.ev,hg,←bO,←bO,h1]
   · cases hk
 · cases hk
theorem aDe {S:AS} {τ ρ:List L} (h:Ga S τ ρ) {xs:List At} {i:At} {x:Li} (hx:Qf S xs i=some x) {y:At} (hy:xs[(i.ev ρ).af.toNat]? =some y):((y.ev ρ).ah.length:Int)=aL τ x:=by
 unfold Qf at hx;split at hx
 · rename_i k hk;obtain⟨_,h1⟩:=afO h hk;split at hx
   · rename_i r hr;have h2:=(h.sm _ (adB hr)).2.2;simp only at h2;rw[h1,hy]at h2;simp only[aJ,im]at h2;rw[h2];cases hx;split
     · rename_i x hl;exact(h.ll _ (ng hl)).2.2
     simp_all[aL,QL]
   · cases hx
 · cases hx
def Ka (S:AS) (xs:List At) (i:At):Option bN:=
 if dj S.fs (0,0) (S.li i) 0=true∧dj S.fs (S.li i) (0,xs.length) (-1)=true then
  match xs.foldl (fun (z:Option (RS×Int)) x=>match z,S.rs x,f_ S.fs (S.le x)with
   |some (z,m),some y,some hi=> (yU z y).map fun w=> (w,imax m hi)
   |_,_,_=>none) (some (none,0))with
  | some (z,m)=>if xs.all (fun x=>match S.rs x,f_ S.fs (S.le x)with
    |some y,some hi=>GZ y z&&decide (hi≤m)
    |_,_=>false)=true then some {fs:=[iZ (3*S.n+2) (0,0) m,kb (3*S.n+2) (0,0) 0],rw:=some z,ll:=Qf S xs i,sm:=Gp S xs i}else none
  |none=>some {}
 else none
section
variable {S:AS} {τ ρ:List L} (h:Ga S τ ρ)
include h
theorem aEI {xs:List At} {i:At} {N:bN} (hN:Ka S xs i=some N):∃l,Nd.ev ρ (.iG xs i)=some [l]∧N.ok τ l:=by
 have hf:∀f∈S.fs,f.holds τ:=fun f hf=>h.holds hf
 unfold Ka at hN;split at hN
 · rename_i hc;obtain⟨c1,c2⟩:=hc;have c1:=ff hf c1;have c2:=ff hf c2;have e1:=h.li i;rw[z0]at c1;have hlen:aL τ ((0:Nat),(xs.length:Int))=xs.length:=by simp[aL,gh]
   rw[hlen]at c2;have hlt:(i.ev ρ).af.toNat<xs.length:=om;split at hN
   · rename_i z m hz;split at hN
     · rename_i hall;cases hN;have hx:=bk.1 hall xs[(i.ev ρ).af.toNat] (b9 hlt);have hg:xs[(i.ev ρ).af.toNat]? =some xs[(i.ev ρ).af.toNat]:=bX hlt;generalize xs[(i.ev ρ).af.toNat]=x at hx hg;split at hx
       · rename_i y hi hy eC;simp only[bt,cg]at hx;have h3:=gp hf eC;have h4:=h.le x;have hv:bH (τ++ [x.ev ρ]) (3*S.n+2)=((x.ev ρ).ah.length:Int):=by rw[←h.n,uM]
         refine⟨x.ev ρ,by simp only[Nd.ev,hg],fZ (kD ?_) (fZ (lZ ?_) holds_nil),fun w hw=> (by cases hw;exact Yl hx.1 (h.rs hy)),fun _ h=> (by cases h),fun _ h=> (by cases h),fun _ h=> (by cases h),fun w hw=>aDe h hw hg,fun w hw=>by rw[(afO h hw).2,hg];rfl⟩
         · rw[hv,z0];omega
         · rw[hv,z0];omega
       · cases hx
     · cases hN
   · cases hN;exact⟨xs[(i.ev ρ).af.toNat].ev ρ,by simp only[Nd.ev,bX hlt],eO holds_nil⟩
 · cases hN
theorem atb {op:BinOp} {x y:At} {N:bN} (hN:KZ S op x y=some N):∃l,Nd.ev ρ (.bs op x y)=some [l]∧N.ok τ l:=by
 have hf:∀f∈S.fs,f.holds τ:=fun f hf=>h.holds hf
 cases op<;>simp only[KZ]at hN
 case add=>
  split at hN
  · rename_i a b ha hb;split at hN
    · rename_i ma mb hma hmb;split at hN
      · rename_i hc;cases hN;have h1:=gp hf hma;have h2:=gp hf hmb;have e1:=h.ls ha;have e2:=h.ls hb;have hc2:(((x.ev ρ).cv.size+(y.ev ρ).cv.size:Nat):Int)≤9223372036854775807:=om;refine⟨.s ((x.ev ρ).cv++(y.ev ρ).cv),by simp only[Nd.ev,sa,au hc2];rfl,eO (QR hf (fk (h.QC ha)) (fk (h.QC hb)) ?_)⟩;rw[←h.n,Cp];show(((x.ev ρ).cv++(y.ev ρ).cv).size:Int)=_;simp_all[ByteArray.size_append,kU]
      · cases hN
    · cases hN
  · cases hN
 all_goals first| (cases hN;done)| (cases hN;exact⟨_,rfl,eO holds_nil⟩)
theorem aEE {op:UnOp} {k:bS} {x:At} {N:bN} (hN:KR S op k=some N):∃l,Nd.ev ρ (.un op k x)=some [l]∧N.ok τ l:=by
 cases op<;>simp only[KR]at hN
 case neg=>
  cases hN;exact⟨_,rfl,eO (k_ (k:=some k) (by rw[←h.n,n9];rfl))⟩
 case xor=>
  cases hN;exact⟨_,rfl,eO (k_ (k:=some k) (by rw[←h.n,n9];rfl))⟩
 all_goals cases hN
theorem avS {x i:At} {N:bN} (hN:LK S x i=some N):∃l,Nd.ev ρ (.tE x i)=some [l]∧N.ok τ l:=by
 have hf:∀f∈S.fs,f.holds τ:=fun f hf=>h.holds hf
 unfold LK at hN;split at hN
 · rename_i y hy;split at hN
   · rename_i hc;cases hN;have c1:=ff hf hc.1;have c2:=ff hf hc.2;have e1:=h.li i;have e2:=h.ls hy;rw[z0]at c1;have g1:0≤(i.ev ρ).af:=om;have g2:(i.ev ρ).af.toNat< (x.ev ρ).cv.size:=om;obtain⟨b,hb⟩:∃b,(x.ev ρ).cv[(i.ev ρ).af.toNat]? =some b:=⟨_,getElem?_pos (x.ev ρ).cv (i.ev ρ).af.toNat g2⟩
     have hlt:b.toNat<256:=b.toNat_lt;refine⟨.i b.toNat,by simp only[Nd.ev,au g1,hb],eO (l_ ?_ ?_)⟩
     · rw[←h.n,n9];show(0:Int)≤(b.toNat:Int);omega
     · rw[←h.n,n9];show(b.toNat:Int)≤255;omega
   · cases hN
 · cases hN
theorem aDB {x:At} {N:bN} (hN:KD S x=some N):∃l,Nd.ev ρ (.str x)=some [l]∧N.ok τ l:=by
 have fin:∀b:List Int,lj (x.ev ρ).ah=some b→b.length=(x.ev ρ).ah.length→N={fs:=uz (3*S.n+3) (S.le x)}→∃l,Nd.ev ρ (.str x)=some [l]∧N.ok τ l:=fun b hb hl hN=>by
   subst hN;refine⟨.s (strOfNums b),by simp only[Nd.ev,hb];rfl,eO (YS ?_)⟩;rw[←h.n,Cp,fk (h.x5 x),←h.le x,←hl];show((strOfNums b).size:Int)=_;simp[strOfNums,ByteArray.size]
 unfold KD at hN;split at hN
 · rename_i hz;have h0:(x.ev ρ).ah=[]:=h.rs hz;cases hN;exact fin [] (by rw[h0];rfl) (by rw[h0];rfl) rfl
 · rename_i lo hi hz;have h0:AC.rows [.int .u8 lo hi] (x.ev ρ).ah:=h.rs hz;cases hN;have key:∀rows:List (List PV),AC.rows [.int .u8 lo hi] rows→∃b,lj rows=some b∧b.length=rows.length:=by
    intro rows
    induction rows with
    |nil=>exact fun _=> ⟨[],rfl,rfl⟩
    | cons r rows ih=>
     intro hr;obtain⟨b,hb,hl⟩:=ih fun q hq=>hr q (fb _ hq)
     have h1:=hr r ek
     cases r with
     |nil=>cases h1
     | cons q r=>
      cases r with
      |cons=>cases h1.2
      |nil=>
       obtain⟨n,rfl,_,_⟩:=h1.1;refine⟨n::b,?_,by simp[hl]⟩;unfold lj at hb⊢;simp[je,u_,hb]
   obtain⟨b,h1,h2⟩:=key _ h0;exact fin b h1 h2 rfl
 · cases hN
end
def EL.ok (τ:List L):List bN→List L→Prop
 |[],[]=>True
 |N::Ns,l::ls=>N.ok τ l∧EL.ok (τ++ [l]) Ns ls
 |_,_=>False
def AS.sB (S:AS):List bN→Option AS
 |[]=>some S
 |N::Ns=> (S.push N).bind fun S'=>S'.sB Ns
theorem Ga.sB:∀{Ns:List bN} {S S':AS} {τ ρ ls:List L},Ga S τ ρ→S.sB Ns=some S'→EL.ok τ Ns ls→Ga S' (τ++ls) (ρ++ls)
 |[],S,S',τ,ρ,[],h,hp,_=>by cases hp;simpa using h
 |N::Ns,S,S',τ,ρ,l::ls,h,hp,hN=>by
  simp only[AS.sB,gE]at hp;obtain⟨S1,h1,h2⟩:=hp;have:=Ga.sB (h.push h1 hN.1) h2 hN.2;simpa using this
 |[],_,_,_,_,_::_,_,_,h=>by cases h
 |_::_,_,_,_,_,[],_,_,h=>by cases h
def one (x:Option bN):Option (List bN):=x.map fun N=> [N]
def FF (S:AS):Nd→Option (List bN)
 | .bi op k x y=>one (L1 S op k (S.li x) (S.li y))
 | .bs op x y=>one (KZ S op x y)
 | .bb op _ _=>one (bbN op)
 | .not x=>one (OD S x)
 | .un op k _=>one (KR S op k)
 | .conv k x=>one (JH S k x)
 | .len x=>one (VU S x)
 | .mw x=>one (LQ S x)
 | .row x i size=>one (Pe S x i size)
 | .rc x i j k=>one (N6 S x i j k)
 | .cl x j k=>one (QS S x j k)
 | .fo i bM=>if dj S.fs (0,0) (S.li i) 0=true∧dj S.fs (S.li i) (0,bM) (-1)=true then some []else none
 | .iG xs i=>one (Ka S xs i)
 | .part x lo hi size=>one (Mi S x lo hi size)
 | .cut x lo hi size=>one (Oq S x lo hi size)
 | .vw x lo ln=>one (Pn S x lo ln)
 | .tk x ln=>one (Kn S x ln)
 | .app x y n b=>one (Qi S x y n b)
 | .set x i j ps=>one (QH S x i j ps)
 | .lit rows=>one (OT S rows)
 | .rep n ps b=>one (K2 S n ps b)
 | .str x=>one (KD S x)
 | .tE x i=>one (LK S x i)
 | .mn x y=>one (Wf S x y)
 | .mx x y=>one (ZK S x y)
 |_=>none
theorem fS {τ ρ:List L} {x:Option bN} {Ns:List bN} {nd:Nd} (hN:one x=some Ns) (h:∀N,x=some N→∃l,nd.ev ρ=some [l]∧N.ok τ l):∃ls,nd.ev ρ=some ls∧EL.ok τ Ns ls:=by
 simp only[one,aW]at hN;obtain⟨N,h1,rfl⟩:=hN;obtain⟨l,h2,h3⟩:=h N h1;exact⟨[l],h2,h3,trivial⟩
theorem aEL {S:AS} {τ ρ:List L} (h:Ga S τ ρ) {nd:Nd} {Ns:List bN} (hN:FF S nd=some Ns):∃ls,nd.ev ρ=some ls∧EL.ok τ Ns ls:=by
 cases nd<;>simp only[FF]at hN
 case bi op k x y=>
  refine fS hN fun N hx=> ?_
  obtain⟨l,h1,h2⟩:=aCa h (h.ow x) (h.ow y) hx;exact⟨l,by simp only[Nd.ev,h.li x,h.li y,h1];rfl,h2⟩
 case bs op x y=>exact fS hN fun N hx=>atb h hx
 case bb op x y=>
  refine fS hN fun N hx=> ?_
  cases op<;>simp only[bbN]at hx<;>first| (cases hx;done)| (cases hx;exact⟨_,rfl,eO holds_nil⟩)
 case not x=>exact fS hN fun N hx=>aAH h hx
 case un op k x=>exact fS hN fun N hx=>aEE h hx
 case conv k x=>exact fS hN fun N hx=>aCZ h hx
 case len x=>exact fS hN fun N hx=>atQ h hx
 case mw x=>exact fS hN fun N hx=>apa h hx
 case row x i size=>exact fS hN fun N hx=>aCj h hx
 case rc x i j k=>exact fS hN fun N hx=>are h hx
 case cl x j k=>exact fS hN fun N hx=>aFa h hx
 case fo i bM=>
  split at hN
  · rename_i hc;cases hN;have hf:∀f∈S.fs,f.holds τ:=fun f hf=>h.holds hf
    have c1:=ff hf hc.1;have c2:=ff hf hc.2;have e1:=h.li i;have hc0:aL τ ((0:Nat),(bM:Int))=bM:=by simp[aL,gh]
    rw[z0]at c1;rw[hc0]at c2;have g1:0≤(i.ev ρ).af:=om;have g2:(i.ev ρ).af<bM:=om;exact⟨[],by simp only[Nd.ev,au (And.intro g1 g2)],trivial⟩
  · cases hN
 case iG xs i=>exact fS hN fun N hx=>aEI h hx
 case part x lo hi size=>exact fS hN fun N hx=>ajf h hx
 case cut x lo hi size=>exact fS hN fun N hx=>aEr h hx
 case vw x lo ln=>exact fS hN fun N hx=>awc h hx
 case tk x ln=>exact fS hN fun N hx=>aue h hx
 case app x y n b=>exact fS hN fun N hx=>ayk h hx
 case set x i j ps=>exact fS hN fun N hx=>aCt h hx
 case lit rows=>exact fS hN fun N hx=>azS h hx
 case rep n ps b=>exact fS hN fun N hx=>ajC h hx
 case str x=>exact fS hN fun N hx=>aDB h hx
 case tE x i=>exact fS hN fun N hx=>avS h hx
 case mn x y=>exact fS hN fun N hx=>amH h hx
 case mx x y=>exact fS hN fun N hx=>apv h hx
 all_goals cases hN
end AI
namespace AI
def uB (x y:Li) (c:Int):Fa:=⟨x.1,y.1,c+y.2-x.2⟩
theorem aan {τ:List L} {x y:Li} {c:Int} (h:aL τ x-aL τ y≤c):(uB x y c).holds τ:=by
 unfold Fa.holds uB;unfold aL at h;simp only;omega
def Ar (fs:List Fa) (x y:Li) (c:Int):Bool:=match sQ fs y x with
 |some d=>decide (d+c<0)
 |none=>false
theorem Xr {fs:List Fa} {τ:List L} (hf:∀f∈fs,f.holds τ) {x y:Li} {c:Int} (h:Ar fs x y c=true) (h1:aL τ x-aL τ y≤c):False:=by
 unfold Ar at h;split at h
 · rename_i d hd;have:=xw hf hd;simp at h;omega
 · cases h
def v7 (fs:List Fa) (op:BinOp) (x y:Li) (r:Bool):List (Li×Li×Int):=match op,r with
 | .eql,true=> [(x,y,0),(y,x,0)]
 | .neq,false=> [(x,y,0),(y,x,0)]
 | .eql,false=>if dj fs x y 0 then[(x,y,-1)]else if dj fs y x 0 then[(y,x,-1)]else[]
 | .neq,true=>if dj fs x y 0 then[(x,y,-1)]else if dj fs y x 0 then[(y,x,-1)]else[]
 | .lss,true=> [(x,y,-1)]
 | .lss,false=> [(y,x,0)]
 | .leq,true=> [(x,y,0)]
 | .leq,false=> [(y,x,-1)]
 | .gtr,true=> [(y,x,-1)]
 | .gtr,false=> [(x,y,0)]
 | .geq,true=> [(y,x,0)]
 | .geq,false=> [(x,y,-1)]
 |_,_=> []
theorem alJ {fs:List Fa} {τ:List L} (hf:∀f∈fs,f.holds τ) {op:BinOp} {x y:Li} {r:Bool} (h:tB op (aL τ x) (aL τ y)=r):∀z∈v7 fs op x y r,aL τ z.1-aL τ z.2.1≤z.2.2:=by
 have ne:aL τ x≠aL τ y→∀z∈(if dj fs x y 0=true then[(x,y,(-1:Int))]else if dj fs y x 0=true then[(y,x,-1)]else[]),aL τ z.1-aL τ z.2.1≤z.2.2:=fun hne z hz=>by
  split at hz
  · rename_i h1;have:=ff hf h1;rw[eS.1 hz];simp only;omega
  · split at hz
    · rename_i h1;have:=ff hf h1;rw[eS.1 hz];simp only;omega
    · cases hz
 have eq:aL τ x=aL τ y→∀z∈ [(x,y,(0:Int)),(y,x,0)],aL τ z.1-aL τ z.2.1≤z.2.2:=fun he z hz=>by
  simp only[cU,lS,or_false]at hz;rcases hz with rfl|rfl<;>simp only<;>omega
 intro z hz;cases op<;>cases r<;>simp only[v7,lS]at hz<;>simp only[tB,cg,rS]at h
 case eql.true=>exact eq h z hz
 case eql.false=>exact ne h z hz
 case neq.true=>exact ne h z hz
 case neq.false=>exact eq om z hz
 all_goals (rw[eS.1 hz];simp only;omega)
def AS.nA (S:AS) (c:At) (t:Bool):AS:=match c with
 | .v i=>match S.env[i]? with
  |some g=> {S with bd:=(g,.iF t)::S.bd}
  |none=>S
 |_=>S
def AS.assume (S:AS) (c:At) (t:Bool):Option AS:=match S.bo c with
 |some (.iF b)=>if b==t then some S else none
 |some (.cmp op x y p)=>
  let zs:=v7 S.fs op x y (p==t)
  if zs.any (fun z=>Ar S.fs z.1 z.2.1 z.2.2)then none else some {(S.nA c t)with fs:=zs.map (fun z=>uB z.1 z.2.1 z.2.2)++S.fs}
 |none=>some (S.nA c t)
theorem Ga.nA {S:AS} {τ ρ:List L} (h:Ga S τ ρ) {c:At} {t:Bool} (ht:(c.ev ρ).br=t):Ga (S.nA c t) τ ρ:=by
 cases c with
 | v i=>
  rw[h.ev]at ht;simp only[AS.nA]
  cases hg:S.env[i]? with
  |none=>exact h
  | some g=>
   rw[hg]at ht;have iL:∀x∈(g,BD.iF t)::S.bd,x.1<S.n∧x.2.in S.n=true∧(at' τ x.1).br=x.2.val τ:=fun x hx=>by
    rcases cU.1 hx with rfl|hx
    · exact⟨h.lt g (cH hg),rfl,ht⟩
    · exact h.bd x hx
   exact⟨h.n,h.env,h.lt,h.fs,h.rw,h.cl,iL,h.al,h.ll,h.sm,h.pr⟩
 |_=>exact h
theorem afw (S:AS) (c:At) (t:Bool):(S.nA c t).n=S.n∧(S.nA c t).env=S.env∧(S.nA c t).rw=S.rw∧(S.nA c t).cl=S.cl:=by
 cases c with
 |v i=>simp only[AS.nA];cases S.env[i]? <;>exact⟨rfl,rfl,rfl,rfl⟩
 |_=>exact⟨rfl,rfl,rfl,rfl⟩
theorem akc {fs:List Fa} {op:BinOp} {x y:Li} {r:Bool} {z:Li×Li×Int} (hz:z∈v7 fs op x y r):(z.1=x∧z.2.1=y)∨(z.1=y∧z.2.1=x):=by
 have e:∀l:List (Li×Li×Int),(∀w∈l,(w.1=x∧w.2.1=y)∨(w.1=y∧w.2.1=x))→z∈l→(z.1=x∧z.2.1=y)∨(z.1=y∧z.2.1=x):=fun l h hz=>h z hz
 have s1:∀c,∀w∈ [(x,y,(c:Int))],(w.1=x∧w.2.1=y)∨(w.1=y∧w.2.1=x):=fun c w hw=>by simp_all
 have s2:∀c,∀w∈ [(y,x,(c:Int))],(w.1=x∧w.2.1=y)∨(w.1=y∧w.2.1=x):=fun c w hw=>by simp_all
 have s3:∀w∈ [(x,y,(0:Int)),(y,x,0)],(w.1=x∧w.2.1=y)∨(w.1=y∧w.2.1=x):=fun w hw=>by
  rcases cU.1 hw with rfl|hw
  · exact .inl ⟨rfl,rfl⟩
  · exact s2 _ w hw
 have s4:∀w∈(if dj fs x y 0=true then[(x,y,(-1:Int))]else if dj fs y x 0=true then[(y,x,-1)]else[]),(w.1=x∧w.2.1=y)∨(w.1=y∧w.2.1=x):=fun w hw=>by
  split at hw
  · exact s1 _ w hw
  · split at hw
    · exact s2 _ w hw
    · cases hw
 cases op<;>cases r<;>simp only[v7,lS]at hz<;>first
  |exact s1 _ z hz
  |exact s2 _ z hz
  |exact s3 z hz
  |exact s4 z hz
theorem Ga.assume {S:AS} {τ ρ:List L} (h:Ga S τ ρ) {c:At} {t:Bool} (ht:(c.ev ρ).br=t):∃S',S.assume c t=some S'∧S'.env=S.env∧Ga S' τ ρ:=by
 have hf:∀f∈S.fs,f.holds τ:=fun f hf=>h.holds hf
 unfold AS.assume;split
 · rename_i b hb;have:=h.bo hb;rw[ht]at this;have this:t=b:=this;subst this;exact⟨S,by simp,rfl,h⟩
 · rename_i op x y p hb;have hv:=h.bo hb;rw[ht]at hv;have hv:t=(tB op (aL τ x) (aL τ y)==p):=hv;have hcv:tB op (aL τ x) (aL τ y)=(p==t):=by
    rw[hv];cases tB op (aL τ x) (aL τ y)<;>cases p<;>rfl
   have hz:=alJ hf hcv;have aHC:(v7 S.fs op x y (p==t)).any (fun z=>Ar S.fs z.1 z.2.1 z.2.2)=false:=by
    rw[List.any_eq_false];intro z hm hc;exact Xr hf hc (hz z hm)
   simp only[aHC,lP,if_false];obtain⟨e1,e2,e3,e4⟩:=afw S c t;have bW:BD.in S.n (.cmp op x y p)=true:=by
    cases c with
    | v i=>
      simp only[AS.bo]at hb
      cases hg:S.env[i]? with
      |none=>rw[hg]at hb;cases hb
      |some g=>rw[hg]at hb;exact(h.bd _ (ng hb)).2.1
    |b=>cases hb
    |_=>cases hb
   simp only[BD.in,bt]at bW;refine⟨_,rfl,e2,?_⟩;have hB:=h.nA ht;have kK:∀f∈(v7 S.fs op x y (p==t)).map (fun z=>uB z.1 z.2.1 z.2.2)++S.fs,f.ok τ:=fun f hm=>by
    rcases ei.1 hm with hm|hm
    · obtain⟨z,hzm,rfl⟩:=dy.1 hm;refine⟨?_,aan (hz z hzm)⟩;rcases akc hzm with⟨a1,a2⟩| ⟨a1,a2⟩<;>simp only[Fa.in,uB,a1,a2,h.n,bW.1,bW.2,Bool.and_self]
    · exact h.fs f hm
   exact⟨hB.n,hB.env,hB.lt,kK,hB.rw,hB.cl,hB.bd,hB.al,hB.ll,hB.sm,hB.pr⟩
 · exact⟨_,rfl,(afw S c t).2.1,h.nA ht⟩
def AS.tr (S:AS) (ats:List At) (t:Nat):Option Li:=match t with
 |0=>some (0,0)
 |t+1=>match ats[t/3]? with
  |none=>some (0,0)
  |some x=>if t%3=0 then some (S.li x)else if t%3=1 then some (S.le x)else S.ls x
theorem Ga.tr {S:AS} {τ ρ:List L} (h:Ga S τ ρ) {ats:List At} {t:Nat} {x:Li} (hx:S.tr ats t=some x):aL τ x=bH (ats.map (At.ev ρ)) t∧fj τ.length x.1=true:=by
 cases t with
 |zero=>cases hx;exact⟨by rfl,rfl⟩
 | succ t=>
  simp only[AS.tr]at hx;simp only[bH,bO]
  cases ha:ats[t/3]? with
  |none=>rw[ha]at hx;cases hx;refine⟨?_,rfl⟩;simp only[aL,gh,aiN,Option.getD_none,L.af,L.ah,L.cv];simp_all
  |some y=>
   rw[ha]at hx;simp only[aJ,eN]at hx⊢;split at hx
   · rename_i h0;cases hx;rw[au h0];exact⟨(h.li y).symm,h.ow y⟩
   · rename_i h0;rw[aE h0];split at hx
     · rename_i h1;cases hx;rw[au h1];exact⟨(h.le y).symm,h.x5 y⟩
     · rename_i h1;rw[aE h1];exact⟨(h.ls hx).symm,h.QC hx⟩
structure iw where
 fs:List Fa:=[]
 rw:List (Nat×RS):=[]
 bs:List (Nat×Bool):=[]
 pr:List (Nat×List Nat):=[]
deriving Inhabited
structure iw.ok (T:iw) (vs:List L):Prop where
 fs:∀f∈T.fs,f.holds vs
 rw:∀x∈T.rw,ic x.2 (at' vs x.1).ah
 bs:∀x∈T.bs,(at' vs x.1).br=x.2
 pr:∀x∈T.pr,Prp x.1 (x.2.map (at' vs))
def AS.qX (S:AS) (ats:List At):List Nat→Option (List Nat)
 |[]=>some []
 | p::ps=>match ats[p]? with
  |some (.v i)=>match S.env[i]?,S.qX ats ps with
   |some g,some gs=>some (g::gs)
   |_,_=>none
  |_=>none
def Bv (id:Nat) (gs:List Nat):List (Nat×List Nat)→Bool
 |[]=>false
 | (i,l)::r=>if i==id&&l==gs then true else Bv id gs r
theorem UZ {id:Nat} {gs:List Nat}:∀{l:List (Nat×List Nat)},Bv id gs l=true→(id,gs)∈l
 |[],h=>by cases h
 | (i,l)::r,h=>by
  simp only[Bv]at h;split at h
  · rename_i hk;simp only[bt]at hk;rw[eq_of_beq hk.1,eq_of_beq hk.2];exact ek
  · exact fb _ (UZ h)
theorem Ga.qX {S:AS} {τ ρ:List L} (h:Ga S τ ρ) {ats:List At}:∀{ps gs:List Nat},S.qX ats ps=some gs→ps.map (at' (ats.map (At.ev ρ)))=gs.map (at' τ)
 |[],gs,he=>by cases he;rfl
 |p::ps,gs,he=>by
  simp only[AS.qX]at he;split at he
  · rename_i i hi;split at he
    · rename_i g gs' hg nI;cases he;simp only[bC,h.qX nI];congr 1;simp only[at',bO,hi,aJ,eN];rw[h.ev,hg];rfl
    · cases he
  · cases he
def AS.dN (S:AS) (ats:List At) (T:iw):Bool:=
 T.fs.all (fun f=>match S.tr ats f.a,S.tr ats f.b with
  |some x,some y=>dj S.fs x y f.c
  |_,_=>false)&&
 T.rw.all (fun x=>match ats[x.1]? with
  |some y=>match S.rs y with
   |some z=>GZ z x.2
   |none=> (match S.bo y with|_=>false)
  |none=>false)&&
 T.bs.all (fun x=>match ats[x.1]? with
  |some y=>match S.bo y with
   |some (.iF b)=>b==x.2
   |_=>false
  |none=>false)&&
 T.pr.all (fun x=>match S.qX ats x.2 with
  |some gs=>Bv x.1 gs S.pr
  |none=>false)
theorem LD {ats:List At} {ρ:List L} {p:Nat} {y:At} (h:ats[p]? =some y):at' (ats.map (At.ev ρ)) p=y.ev ρ:=by simp[at',h]
theorem Ga.dN {S:AS} {τ ρ:List L} (h:Ga S τ ρ) {ats:List At} {T:iw} (hc:S.dN ats T=true):T.ok (ats.map (At.ev ρ)):=by
 have hf:∀f∈S.fs,f.holds τ:=fun f hf=>h.holds hf
 simp only[AS.dN,bt,bk]at hc;obtain⟨⟨⟨c1,c2⟩,c3⟩,c4⟩:=hc;refine⟨fun f hm=> ?_,fun x hm=> ?_,fun x hm=> ?_,fun x hm=> ?_⟩;rotate_left 3
 · have:=c4 x hm;split at this
   · rename_i gs nI;rw[h.qX nI];exact(h.pr _ (UZ this)).2
   · cases this
 · have:=c1 f hm;split at this
   · rename_i x y hx hy;have:=ff hf this;unfold Fa.holds;rw[←(h.tr hx).1,←(h.tr hy).1];exact this
   · cases this
 · have:=c2 x hm;split at this
   · rename_i y hy;split at this
     · rename_i z hz;rw[LD hy];exact Yl this (h.rs hz)
     · cases this
   · cases this
 · have:=c3 x hm;split at this
   · rename_i y hy;split at this
     · rename_i b hb;rw[LD hy,h.bo hb];have:=eq_of_beq this;exact this
     · cases this
   · cases this
def AS.ext (S:AS) (ats:List At) (m:Nat) (T:iw):Option AS:=
 let k:=ats.length
 let tr:=fun t=>match t with
  |0=>some ((0,0):Li)
  |t+1=>if t/3<k then S.tr ats (t+1)else some (3*(S.n+(t/3-k))+t%3+1,0)
 let fs:=T.fs.mapM fun f=>match tr f.a,tr f.b with
  |some x,some y=>some (uB x y f.c)
  |_,_=>none
 let ps:=fun p=>if p<k then match ats[p]? with
   |some (.v i)=>S.env[i]?
   |_=>none
  else if p<k+m then some (S.n+(p-k))else none
 let psL:=fun (l:List Nat)=>l.mapM ps
 match fs with
 |some fs=>if fs.all (Fa.in (S.n+m))=true then some ⟨S.env++(List.range m).map (S.n+ ·),S.n+m,fs++S.fs,(T.rw.filterMap fun x=> (ps x.1).map fun g=> (g,x.2))++S.rw,S.cl,(T.bs.filterMap fun x=> (ps x.1).map fun g=> (g,.iF x.2))++S.bd,S.al,S.ll,S.sm,(T.pr.filterMap fun x=> (psL x.2).map fun gs=> (x.1,gs))++S.pr⟩else none
 |none=>none
end AI
namespace AI
theorem mapM_mem {α β:Type} {g:α→Option β}:∀{l:List α} {ys:List β} {y:β},l.mapM g=some ys→y∈ys→∃x∈l,g x=some y
 |[],ys,y,h,hy=>by simp_all
 | a::l,ys,y,h,hy=>by
  simp only[je]at h
  cases h1:g a with
  |none=>simp[h1]at h
  | some z=>
   cases h2:l.mapM g with
   |none=>simp[h1,h2]at h
   |some zs=>
    simp[h1,h2]at h;subst h;rcases cU.1 hy with rfl|hy
    · simp_all
    simp_all[mapM_mem]
theorem atA {τ1 τ2:List L} {g1 g2 t:Nat} (h:τ1[g1]? =τ2[g2]?) (ht:t/3=g2):bH τ1 (3*g1+t%3+1)=bH τ2 (t+1):=by
 simp only[bH];rw[show(3*g1+t%3) /3=g1 by omega,show(3*g1+t%3)%3=t%3 by omega,h,ht]
theorem Ga.ext {S S':AS} {τ ρ:List L} (h:Ga S τ ρ) {ats:List At} {m:Nat} {T:iw} (hx:S.ext ats m T=some S') {o:List L} (ho:o.length=m) (hT:T.ok (ats.map (At.ev ρ)++o)):Ga S' (τ++o) (ρ++o):=by
 subst ho;unfold AS.ext at hx;simp only at hx;split at hx
 · rename_i fs kK;split at hx
   · rename_i bW;injection hx with hx
     subst hx;have hn:=h.n;have hat:∀g,g<S.n→at' (τ++o) g=at' τ g:=fun g hg=>s_ om
     have gw:∀j,at' (τ++o) (S.n+j)=at' o j:=fun j=>by
      unfold at';rw[lR om];congr 2;omega
     have pI:∀p,ats.length≤p→at' (ats.map (At.ev ρ)++o) p=at' o (p-ats.length):=fun p hp=>by
      unfold at';rw[lR (by simpa using hp)];simp
     have Ro:∀p,p<ats.length→at' (ats.map (At.ev ρ)++o) p=at' (ats.map (At.ev ρ)) p:=fun p hp=>s_ (by simpa using hp)
     have Ie:∀(t:Nat) (x:Li),(match t with
        |0=>some ((0,0):Li)
        |t+1=>if t/3<ats.length then S.tr ats (t+1)else some (3*(S.n+(t/3-ats.length))+t%3+1,0))=some x→aL (τ++o) x=bH (ats.map (At.ev ρ)++o) t:=fun t x ht=>by
      cases t with
      |zero=>cases ht;rfl
      | succ t=>
        simp only at ht;split at ht
        · rename_i hlt;obtain⟨e1,e2⟩:=h.tr ht;rw[fk e2,e1,xE];simp only[fj,ax,cg];omega
        · rename_i wy;cases ht;simp only[aL,Int.add_zero];refine atA ?_ rfl;rw[lR om,lR (by simp;omega)];congr 1;simp;omega
     have fM:∀(p g:Nat),(if p<ats.length then match ats[p]? with
        |some (.v i)=>S.env[i]?
        |_=>none
      else if p<ats.length+o.length then some (S.n+(p-ats.length))else none)=some g→g<S.n+o.length∧at' (τ++o) g=at' (ats.map (At.ev ρ)++o) p:=fun p g hp=>by
      split at hp
      · rename_i hlt;split at hp
        · rename_i i hi;have hg:=h.lt g (cH hp);refine⟨om,?_⟩;rw[hat g hg,Ro p hlt,LD hi,h.ev,hp]
        · cases hp
      · rename_i wy;split at hp
        · rename_i hlt;cases hp;exact⟨om,by rw[gw,pI p om]⟩
        · cases hp
     exact{
      n:=by simp[hn]
      env :=by
        rw[h.env,ej];congr 1
        · exact gO fun g hg=> (hat g (h.lt g hg)).symm
        · apply uj;intro j;rw[iP,bO];by_cases hj:j<o.length
          · rw[pY hj,bX hj];simp only[aJ,Function.comp];rw[gw j];simp[at',hj]
          simp_all
      lt:=fun g hg=>by
        rcases ei.1 hg with hg|hg
        · have:=h.lt g hg;show g<S.n+o.length;omega
        · obtain⟨j,hj,rfl⟩:=dy.1 hg;have:=ko.1 hj;show S.n+j<S.n+o.length;omega
      fs := fun f hf=>by
        rcases ei.1 hf with hf|hf
        · refine⟨by simp_all,?_⟩;obtain⟨f0,hf0,he⟩:=mapM_mem kK hf;split at he
          · rename_i x y hx hy;cases he;refine aan ?_;rw[Ie _ _ hx,Ie _ _ hy];exact hT.fs f0 hf0
          · cases he
        · exact(h.fs f hf).append
      rw:=fun x hx=>by
        rcases ei.1 hx with hx|hx
        · obtain⟨x0,hx0,he⟩:=rU.1 hx;simp only[aW]at he;obtain⟨g,hg,rfl⟩:=he;obtain⟨k1,k2⟩:=fM _ _ hg;exact⟨k1,by simp only;rw[k2];exact hT.rw x0 hx0⟩
        · obtain⟨h1,h2⟩:=h.rw x hx;exact⟨by show x.1<S.n+o.length;omega,by rw[hat _ h1];exact h2⟩
      cl:=fun x hx=>by
        obtain⟨h1,h2⟩:=h.cl x hx;exact⟨by show x.1<S.n+o.length;omega,by rw[hat _ h1];exact h2⟩
      bd:=fun x hx=>by
        rcases ei.1 hx with hx|hx
        · obtain⟨x0,hx0,he⟩:=rU.1 hx;simp only[aW]at he;obtain⟨g,hg,rfl⟩:=he;obtain⟨k1,k2⟩:=fM _ _ hg;exact⟨k1,rfl,by simp only;rw[k2];exact hT.bs x0 hx0⟩
        · obtain⟨h1,h2,h3⟩:=h.bd x hx;exact⟨by show x.1<S.n+o.length;omega,BD.Mw h2 (by simp_all),by rw[hat _ h1,BD.Ng (by rw[hn];exact h2)];exact h3⟩
      al:=fun x hx=>by
        obtain⟨h1,h2,h3⟩:=h.al x hx;exact⟨by show x.1<S.n+o.length;omega,th h2 (by simp_all),by rw[hat _ h1,fk (by rw[hn];exact h2)];exact h3⟩
      ll:=fun x hx=>by
        obtain⟨h1,h2,h3⟩:=h.ll x hx;exact⟨by show x.1<S.n+o.length;omega,th h2 (by simp_all),by rw[hat _ h1,fk (by rw[hn];exact h2)];exact h3⟩
      sm:=fun x hx=>by
        obtain⟨h1,h2,h3⟩:=h.sm x hx;exact⟨by show x.2<S.n+o.length;omega,Jo h2 (by simp_all),by rw[hat _ h1,Og (by rw[hn];exact h2)];exact h3⟩
      pr := fun x hx=>by
        rcases ei.1 hx with hx|hx
        · obtain⟨x0,hx0,he⟩:=rU.1 hx;simp only[aW]at he;obtain⟨gs,nI,rfl⟩:=he
          have key:∀(l gs:List Nat),l.mapM (fun p=>if p<ats.length then match ats[p]? with
             |some (.v i)=>S.env[i]?
             |_=>none
            else if p<ats.length+o.length then some (S.n+(p-ats.length))else none)=some gs→(∀g∈gs,g<S.n+o.length)∧gs.map (at' (τ++o))=l.map (at' (ats.map (At.ev ρ)++o)):=by
            intro l
            induction l with
            |nil=>simp_all
            |cons p l ih=>
             intro gs hg;simp only[je,Option.bind_eq_bind,gE]at hg;obtain⟨g,hg1,gs',hg2,hg3⟩:=hg;cases hg3;obtain⟨k1,k2⟩:=fM _ _ hg1;obtain⟨k3,k4⟩:=ih gs' hg2;exact⟨fun g' hg'=>by rcases cU.1 hg' with rfl|hg';exact k1;exact k3 g' hg',by simp only[bC,k2,k4]⟩
          obtain⟨k1,k2⟩:=key _ _ nI;exact⟨k1,by simp only;rw[k2];exact hT.pr x0 hx0⟩
        · obtain⟨h1,h2⟩:=h.pr x hx;exact⟨fun g hg=> (by have:=h1 g hg;show g<S.n+o.length;omega),by rw[gO (g:=at' τ) fun g hg=>hat g (h1 g hg)];exact h2⟩}
   simp_all
 simp_all
structure aO where
 cE:Nat
 gG:Nat
 pre:iw
 cases:List iw
deriving Inhabited
def aO.ok (F:List L→Option (List L)) (s:aO):Prop:=∀ls,ls.length=s.cE→s.pre.ok ls→∃o,F ls=some o∧o.length=s.gG∧∃T∈s.cases,T.ok (ls++o)
def AC.bare:AC→Bool
 | .int .. =>true
 | .bool=>true
 | .str _=>true
 | .sl hi _=>decide (hi≤0)
 | .any=>false
theorem AC.aBl {c:AC} {q:PV} (h:AC.bare c=true) (hq:AC.ok c q):q.bare=true:=by
 cases c with
 |int k lo hi=>obtain⟨n,rfl,_⟩:=hq;rfl
 |bool=>obtain⟨b,rfl⟩:=hq;rfl
 |str hi=>obtain⟨s,rfl,_⟩:=hq;rfl
 |sl hi cs=>
  obtain⟨rows,rfl,h1,_⟩:=hq;simp only[AC.bare,cg]at h;have:rows.length=0:=om;rw[iq this];rfl
 |any=>cases h
theorem AC.MR:∀{cs:List AC} {r:List PV},cs.all AC.bare=true→AC.dp cs r→r.all PV.bare=true
 |[],[],_,_=>rfl
 |c::cs,q::r,h,hq=>by
  simp only[SM,bt]at h⊢;exact⟨AC.aBl h.1 hq.1,AC.MR h.2 hq.2⟩
 |[],_::_,_,h=>by cases h
 |_::_,[],_,h=>by cases h
def Z' (T:iw) (p:Nat):Bool:=match lk T.rw p with
 |some none=>true
 |some (some cs)=>cs.all AC.bare
 |none=>false
def AS.FK (S:AS) (ats:List At) (T:iw):Bool:=T.fs.any fun f=>decide (f.a≤3*ats.length)&&decide (f.b≤3*ats.length)&&match S.tr ats f.a,S.tr ats f.b with
 |some x,some y=>Ar S.fs x y f.c
 |_,_=>false
theorem asp {S:AS} {τ ρ o:List L} (h:Ga S τ ρ) {ats:List At} {T:iw} (hT:T.ok (ats.map (At.ev ρ)++o)):S.FK ats T=false:=by
 have hf:∀f∈S.fs,f.holds τ:=fun f hf=>h.holds hf
 cases hc:S.FK ats T with
 |false=>rfl
 |true=>
  simp only[AS.FK,Dh,bt,cg]at hc;obtain⟨f,hm,⟨ha,hb⟩,hc⟩:=hc;split at hc
  · rename_i x y hx hy;refine(Xr hf hc ?_).elim;have:=hT.fs f hm;unfold Fa.holds at this;rw[xE (by simpa[fj]using ha),xE (by simpa[fj]using hb)]at this;rw[(h.tr hx).1,(h.tr hy).1];exact this
  · cases hc
def iY (S:AS) (s:aO) (args:List At) (n:Nat) (us:List Nat):Option (List AS):=
 if args.length=s.cE∧n=s.gG∧S.dN args s.pre=true∧s.cases.all (fun T=>us.all fun u=>Z' T (s.cE+u))=true then(s.cases.filter fun T=> !S.FK args T).mapM fun T=>S.ext args n T else none
theorem aje {S:AS} {τ ρ:List L} (h:Ga S τ ρ) {s:aO} {F:List L→Option (List L)} (hs:s.ok F) {tag:Nat} {args:List At} {n:Nat} {us:List Nat} {Ss:List AS} (hc:iY S s args n us=some Ss):
   ∃o,Nd.ev ρ (.call tag F args n us)=some o∧∃S'∈Ss,Ga S' (τ++o) (ρ++o):=by
 unfold iY at hc;split at hc
 · rename_i hcc;obtain⟨c1,c2,c3,c4⟩:=hcc;obtain⟨o,h1,h2,T,hT,h3⟩:=hs (args.map (At.ev ρ)) (by simpa using c1) (h.dN c3);have CM:us.all (fun i=> ((o[i]?).getD (.b false)).ah.all (·.all PV.bare))=true:=by
     rw[bk];intro u hu;have:=bk.1 (bk.1 c4 T hT) u hu;unfold Z' at this;have hat:at' (args.map (At.ev ρ)++o) (s.cE+u)=(o[u]?).getD (.b false):=by
       unfold at';rw[lR (by simp;omega)];congr 2;simp;omega
     split at this
     · rename_i hlk;have:=h3.rw _ (ng hlk);simp only[hat]at this;have this:((o[u]?).getD (.b false)).ah=[]:=this;rw[this];rfl
     · rename_i cs hlk;have hr:=h3.rw _ (ng hlk);simp only[hat]at hr;rw[bk];intro r hr1;exact AC.MR this (hr r hr1)
     · cases this
   refine⟨o,?_,?_⟩
   · simp only[Nd.ev,h1];rw[au ⟨h2.trans c2.symm,CM⟩]
   · have key:∀(l:List iw) (Ss:List AS),l.mapM (fun T=>S.ext args n T)=some Ss→T∈l→∃S'∈Ss,S.ext args n T=some S':=by
       intro l
       induction l with
       |nil=>intro _ _ hm;cases hm
       | cons a l ih=>
        intro Ss hm hT;simp only[je]at hm
        cases e1:S.ext args n a with
        |none=>simp[e1]at hm
        | some z=>
         cases e2:l.mapM (fun T=>S.ext args n T)with
         |none=>simp[e1,e2]at hm
         |some zs=>
          simp[e1,e2]at hm;subst hm;rcases cU.1 hT with rfl|hT
          · exact⟨z,ek,e1⟩
          · obtain⟨S',q1,q2⟩:=ih zs e2 hT;exact⟨S',fb _ q1,q2⟩
     obtain⟨S',q1,q2⟩:=key _ _ hc (qa.2 ⟨hT,by rw[asp h h3];rfl⟩);exact⟨S',q1,h.ext q2 (by rw[h2,c2]) h3⟩
 · cases hc
end AI
end
section
open Go.RowKit
open Classical
def SC.clear (g:List Nat) (c:SC):SC:=if c.names.any (g.contains ·)then .dead else c
def SB.clear (g:List Nat):SB→SB
 | .box cs=> .box (cs.map (SC.clear g))
 |b=>b
def ag.settle (S:ag):ag:=match S.ao with
 |[]=>S
 |g=> {S with tmps:=S.tmps.map (SV.eB (SC.clear g)),heap:=(S.heap.filter fun x=> !g.contains x.1).map fun x=> (x.1,x.2.clear g),ao:=[]}
theorem SC.FW {ρ:List L} {g:List Nat} (c:SC):(c.clear g).aa ρ=(c.aa ρ).clear g:=by
 unfold SC.clear C.clear;rw[SC.mQ];split<;>rfl
theorem aBV {ρ:List L} {f:SC→SC} {f':C→C} (hf:∀c,(f c).aa ρ=f' (c.aa ρ)) (x:SV):(x.eB f).aa ρ=(x.aa ρ).on f':=by
 have h1:∀x:aB,(x.eB f).aa ρ=(x.aa ρ).on f':=by
  intro x
  cases x with
  |c c=>simp only[aB.eB,aB.aa,V1.on,hf]
  |agg cs=>simp_all[aB.eB,aB.aa,V1.on,congr]
 cases x with
 |v x=>simp only[SV.eB,SV.aa,V.on,h1]
 |aj xs=>simp_all[SV.eB,SV.aa,V.on,congr]
theorem SB.FW {ρ:List L} {g:List Nat} (b:SB):(b.clear g).aa ρ=(b.aa ρ).on (C.clear g):=by
 cases b with
 |box cs=>simp only[SB.clear,SB.aa,cO.on,iP];congr 1;apply gO;intro c _;exact SC.FW c
 |row=>rfl
 |map=>rfl
theorem Tf {ρ:List L} {S:ag}:(S.settle).aa ρ=(S.aa ρ).settle:=by
 unfold ag.settle ak.settle;have hg:(S.aa ρ).ao=S.ao:=rfl;rw[hg]
 cases S.ao with
 |nil=>rfl
 |cons t U=>
  simp only[ag.aa,ak.mk.injEq,iP,and_true,true_and];refine⟨gO fun x _=>aBV (fun c=>SC.FW c) x,?_⟩;simp only[cb.aa,iP,List.filter_map];refine gO fun x _=> ?_
  simp only[Function.comp,SB.FW]
theorem TR (S:ag):S.settle.ao=[]:=by
 unfold ag.settle;split
 · assumption
 · rfl
theorem Te (S:ag):S.settle.nv=S.nv:=by
 unfold ag.settle;split<;>rfl
def SC.in (m:Nat):SC→Bool
 | .p _ x=>x.in m
 | .sub _ a b=>a.in m&&b.in m
 | .gg _ _ _ _ i=>i.in m
 | .cB _ i _=>i.in m
 | .ref x _=>x.in m
 |_=>true
def aB.in (m:Nat):aB→Bool
 | .c x=>x.in m
 | .agg xs=>xs.all (SC.in m)
def SV.in (m:Nat):SV→Bool
 | .v x=>x.in m
 | .aj xs=>xs.all (aB.in m)
def SB.in (m:Nat):SB→Bool
 | .box cs=>cs.all (SC.in m)
 | .row _ x=>x.in m
 | .map=>true
def ag.in (m:Nat) (S:ag):Bool:=S.tmps.all (SV.in m)&&S.heap.all fun x=>x.2.in m
theorem SC.ky {m:Nat} {ρ ys:List L} {c:SC} (h:c.in m=true) (hm:m≤ρ.length):c.aa (ρ++ys)=c.aa ρ:=by
 cases c<;>simp only[SC.in,bt]at h<;>simp only[SC.aa]<;>first
  |rfl
  | (rw[At.er h hm];done)
  | (rw[At.er h.1 hm,At.er h.2 hm];done)
theorem aB.ky {m:Nat} {ρ ys:List L} {x:aB} (h:x.in m=true) (hm:m≤ρ.length):x.aa (ρ++ys)=x.aa ρ:=by
 cases x with
 |c c=>simp only[aB.aa];rw[SC.ky h hm]
 |agg cs=>
  simp only[aB.in,bk]at h;simp only[aB.aa];congr 1;exact gO fun c hc=>SC.ky (h c hc) hm
theorem SV.ky {m:Nat} {ρ ys:List L} {x:SV} (h:x.in m=true) (hm:m≤ρ.length):x.aa (ρ++ys)=x.aa ρ:=by
 cases x with
 |v x=>simp only[SV.aa];rw[aB.ky h hm]
 |aj xs=>
  simp only[SV.in,bk]at h;simp only[SV.aa];congr 1;exact gO fun c hc=>aB.ky (h c hc) hm
theorem SB.ky {m:Nat} {ρ ys:List L} {b:SB} (h:b.in m=true) (hm:m≤ρ.length):b.aa (ρ++ys)=b.aa ρ:=by
 cases b with
 |box cs=>
  simp only[SB.in,bk]at h;simp only[SB.aa];congr 1;exact gO fun c hc=>SC.ky (h c hc) hm
 |row e x=>simp only[SB.aa];rw[At.er h hm]
 |map=>rfl
theorem ag.ky {m:Nat} {ρ ys:List L} {S:ag} (h:S.in m=true) (hm:m≤ρ.length):S.aa (ρ++ys)=S.aa ρ:=by
 simp only[ag.in,bt,bk]at h;simp only[ag.aa,ak.mk.injEq,and_true,true_and];refine⟨gO fun c hc=>SV.ky (h.1 c hc) hm,?_⟩;simp only[cb.aa];exact gO fun c hc=>by rw[SB.ky (h.2 c hc) hm]
def RT.vE (f:ag→gW→Option ad):RT→Option ad
 | .ar S ts=>f S ts
 | .ops nds k=> (RT.vE f k).map fun k=>nds.foldr .op k
 | .ite a x y=>match RT.vE f x,RT.vE f y with
  |some x,some y=>some (.ite a x y)
  |_,_=>none
 | .stuck=>some (.op (.fo (.i 0) 0) (.ar (.jump 0 [])))
theorem HD:∀{nds:List Nd} {k:ad} {ρ:List L},(nds.foldr ad.op k).aa ρ=match qQ ρ nds with|some ρ'=>k.aa ρ'|none=>none
 |[],_,_=>rfl
 |nd::nds,k,ρ=>by
  simp only[List.foldr_cons,ad.aa,qQ]
  cases nd.ev ρ with
  |none=>rfl
  |some ls=>exact HD
theorem AA {f:ag→gW→Option ad}:∀{t:RT} {u:ad} {ρ:List L} {o:Lf×List L},t.vE f=some u→u.aa ρ=some o→∃S ts ρ' v,t.aa ρ=some ((S,ts),ρ')∧f S ts=some v∧v.aa ρ'=some o
 | .ar S ts,u,ρ,o,h,hd=> ⟨S,ts,ρ,u,rfl,h,hd⟩
 | .ops nds k,u,ρ,o,h,hd=>by
  simp only[RT.vE,aW]at h;obtain⟨v,hv,rfl⟩:=h;rw[HD]at hd;split at hd
  · rename_i bE he;obtain⟨S,ts,ρ',w,h1,h2,h3⟩:=AA hv hd;exact⟨S,ts,ρ',w,by simp only[RT.aa,he];exact h1,h2,h3⟩
  · cases hd
 | .stuck,u,ρ,o,h,hd=>by
  cases h;simp[ad.aa,Nd.ev,At.ev,L.af]at hd
 | .ite a x y,u,ρ,o,h,hd=>by
  simp only[RT.vE]at h;split at h
  · rename_i u1 u2 h1 h2;cases h;simp only[ad.aa]at hd;split at hd
    · rename_i hc;obtain⟨S,ts,ρ',w,k1,k2,k3⟩:=AA h1 hd;exact⟨S,ts,ρ',w,by simp_all[RT.aa,au],k2,k3⟩
    · rename_i hc;obtain⟨S,ts,ρ',w,k1,k2,k3⟩:=AA h2 hd;exact⟨S,ts,ρ',w,by simp_all[RT.aa,aE],k2,k3⟩
  · cases h
def dG (T:aV) (C:cm) (ops:Array Oper) (draw:Bool) (S:ag):Option ad:=
 if S.in S.nv=true∧S.ao=[]∧(!draw||FO ops)=true then
  (tw T C S.next ops (4*ops.size+8) ops.toList 0 {S with next:=S.next+8*ops.size} []).bind fun t=>RT.vE (fun S' ts=>
   if(if draw then nD ops ts&&qN S.next ops ts else nj S.next 0 ts)=true then some (.ar (.st .normal S'.settle))else none) t
 else none
def Good (P:aQ) (k0:Nat) (c:Code) (S:ag) (ρ:List L) (x:Lf) (ρ':List L):Prop:=
 ∃e S',x= .st e S'∧S'.nv=ρ'.length∧(∃ys,ρ'=ρ++ys)∧S'.ao=[]∧∀X:Fx,X.P=P→X.k0=k0→∀Q:Exit→ak→Prop,Q e.to (S'.aa ρ')→Aw X c Q (S.aa ρ)
theorem aqt {P:aQ} {T:aV} {C:cm} {k0:Nat} (hT:aV.ok P T) (hC:cm.ok P C) (hm:P.follows .mixedOrders=true) {id:Nat} {ops:Array Oper} {draw:Bool} {S:ag} {u:ad} {ρ ρ':List L} {x:Lf}
   (h:dG T C ops draw S=some u) (hl:ρ.length=S.nv) (hd:u.aa ρ=some (x,ρ')):Good P k0 (.region id ops draw) S ρ x ρ':=by
 unfold dG at h;split at h
 · rename_i hc;obtain⟨bW,hg,hf⟩:=hc;simp only[gE]at h;obtain⟨t,ht,h⟩:=h;obtain⟨S1,ts,bE,v,k1,k2,k3⟩:=AA h hd;replace k2:(if(if draw then nD ops ts&&qN S.next ops ts else nj S.next 0 ts)=true then some (ad.ar (Lf.st Ex.normal S1.settle))else none)=some v:=k2;have aX:(if draw then nD ops ts&&qN S.next ops ts else nj S.next 0 ts)=true:=by
     simp_all
   rw[au aX]at k2
   · cases k2;cases k3;obtain⟨e1,⟨ys,e2⟩,rs,zh,Sp,e3,e4⟩:=vH hT hC ht (by exact hl) k1;simp only[List.reverse_nil,fa]at e4;subst e4;refine⟨.normal,S1.settle,rfl,by rw[Te];exact e1,⟨ys,e2⟩,TR S1,fun X wz CN Q hQ=> ?_⟩;have oJ:S.aa ρ'=S.aa ρ:=by rw[e2];exact ag.ky bW om
     have hb:ag.aa ρ' {S with next:=S.next+8*ops.size}=(S.aa ρ).bump ops.toList.length:=by
      simp_all[ag.aa,ak.bump]
     rw[hb]at e3;rw[Tf]at hQ;have wA:ops.toList.toArray=ops:=by simp
     subst wz
     cases draw with
     |false=>
      simp only[lP,if_false]at aX;have:=vb (X:=X) (Sp:=Sp) (Q:=Q) (id:=id) (ops:=ops.toList) (st:=S.aa ρ) (rs:=rs) (ts:=ts) (by rw[wA];exact e3) aX hQ;omega
     |true=>
      simp only[if_true,bt]at aX;have:=atg (X:=X) (Sp:=Sp) (Q:=Q) hm (id:=id) (ops:=ops.toList) (st:=S.aa ρ) (rs:=rs) (ts:=ts) (by simp_all) (by rw[wA];exact e3) (by simp_all) (by rw[wA];exact aX.2) hQ;omega
 · cases h
def At.par (aI:Nat) (as:List At):At→At
 | .v j=>if j<aI then .v j else(as[j-aI]?).getD (.b false)
 |x=>x
theorem At.LN {aI:Nat} {as:List At} {ρ ys:List L} (hl:ρ.length=aI) (x:At):(x.par aI as).ev (ρ++ys)=x.ev (ρ++as.map (At.ev (ρ++ys))):=by
 cases x with
 |v j=>
  simp only[At.par];split
  · rename_i hj;simp only[At.ev];rw[nS om,nS om]
  · rename_i hj;simp only[At.ev];rw[lR om,hl,bO];cases as[j-aI]? <;>rfl
 |_=>rfl
abbrev ig:=List (Nat×At×At×At)
def DJ (D:ig) (S:ag) (aI:Nat) (as:List At) (ι:Ren) (Z:List Nat):SC→SC→Bool
 |_,.dead=>true
 | .p k x,.p k' y=>decide (k=k')&& (y.par aI as).same x
 | .nil,.p .sl y=> (y.par aI as).same .r0
 | .sub n a b,.p .sl y=> !ι.old.contains n&&D.any fun z=>z.1==n&&z.2.1.same a&&z.2.2.1.same b&& (y.par aI as).same z.2.2.2
 | .own n,.p .sl y=>match List.lookup n S.heap with
  |some (.row _ x)=> (y.par aI as).same x&& !ι.old.contains n
  |_=>false
 | .nil,.nil=>true
 | .nil,.own n'=>Z.contains n'
 | .nil,.sub n' (.i 0) (.i 0)=>Z.contains n'
 | .own n,.own n'=>List.lookup n ι==some n'
 | .sub n a b,.sub n' a' b'=>List.lookup n ι==some n'&& (a'.par aI as).same a&& (b'.par aI as).same b
 | .ptr n o,.ptr n' o'=>List.lookup n ι==some n'&&o==o'
 | .gg n o c m i,.gg n' o' c' m' i'=>List.lookup n ι==some n'&&o==o'&&c==c'&&m==m'&& (i'.par aI as).same i
 | .cB n i j,.cB n' i' j'=>List.lookup n ι==some n'&& (i'.par aI as).same i&&j==j'
 | .ref x j,.ref x' j'=> (x'.par aI as).same x&&j==j'
 | .fn f ns,.fn f' eg=>f==f'&&ns.map (fun n=>List.lookup n ι)==eg.map some
 | .mp n,.mp n'=>List.lookup n ι==some n'
 |_,_=>false
theorem uP {ι:Ren} {n n':Nat} (h:(List.lookup n ι==some n')=true):ι.to n=n'∧n∈ι.old:=by
 have h':List.lookup n ι=some n':=by simpa using h
 refine⟨by simp[Ren.to,h'],?_⟩;clear h
 induction ι with
 |nil=>cases h'
 |cons x ι ih=>
  obtain⟨k,k'⟩:=x;rw[eR]at h';split at h'
  · rename_i heq;simp at heq;subst heq;simp[Ren.old]
  · have:=ih h';simp only[Ren.old,bC,cU]at this⊢;exact .inr this
section
variable {D:ig} {S:ag} {aI:Nat} {as:List At} {ι:Ren} {Z:List Nat} {ρ ys:List L}
def ig.ok (D:ig) (S:ag) (ρ:List L):Prop:=∀z∈D,(S.aa ρ).view ((SC.sub z.1 z.2.1 z.2.2.1).aa ρ)=some (z.2.2.2.ev ρ).ah
theorem XU (hl:ρ.length=aI) (hD:D.ok S (ρ++ys)) {c c':SC} (h:DJ D S aI as ι Z c c'=true):BP (S.aa (ρ++ys)) ι Z (c.aa (ρ++ys)) (c'.aa (ρ++as.map (At.ev (ρ++ys)))):=by
 have same:∀{x y:At},(y.par aI as).same x=true→y.ev (ρ++as.map (At.ev (ρ++ys)))=x.ev (ρ++ys):=fun hs=>by rw[←At.LN hl,At.mo hs]
 unfold DJ at h;split at h
 · rename_i c;cases c<;>trivial
 · simp only[bt,cg]at h;obtain⟨rfl,h2⟩:=h;exact .inl (by simp only[SC.aa,same h2])
 · exact .inr ⟨[],by simp only[Kd.pv,same h];rfl,rfl,fun k hk=>by simp[SC.aa,C.names]at hk⟩
 · rename_i n a b y;simp only[bt,lO,zD,rS,Dh,beq_iff_eq]at h;obtain⟨h1,⟨m,a',b',z⟩,h2,⟨⟨h3,h4⟩,h5⟩,h6⟩:=h;simp only at h3 h4 h5 h6;subst h3;have hv:=hD _ h2;simp only[SC.aa,At.mo h4,At.mo h5]at hv;refine .inr ⟨(z.ev (ρ++ys)).ah,by simp only[Kd.pv,same h6],hv,fun k hk=> ?_⟩;simp_all[SC.aa,C.names]
 · rename_i n y;split at h
   · rename_i e x hx;simp only[bt,lO,zD,rS]at h;refine .inr ⟨(x.ev (ρ++ys)).ah,by simp only[Kd.pv,same h.1],by simp only[SC.aa,ak.view,dD,hx,aJ,SB.aa],fun k hk=> ?_⟩;simp_all[SC.aa,C.names]
   · cases h
 · exact⟨rfl,by simp[SC.aa,C.names]⟩
 · rename_i n';exact(by simpa using h:n'∈Z)
 · rename_i n';exact⟨(by simpa using h:n'∈Z),rfl,rfl⟩
 · obtain⟨h1,h2⟩:=uP h;exact⟨by simp only[SC.aa,C.cX,h1],by simpa[SC.aa,C.names]using h2⟩
 · simp only[bt]at h;obtain⟨h1,h2⟩:=uP h.1.1;exact⟨by simp only[SC.aa,C.cX,h1,same h.1.2,same h.2],by simpa[SC.aa,C.names]using h2⟩
 · simp only[bt]at h;obtain⟨h1,h2⟩:=uP h.1;have h3:=h.2;simp only[beq_iff_eq]at h3;exact⟨by simp_all[SC.aa,C.cX],by simpa[SC.aa,C.names]using h2⟩
 · simp only[bt]at h;obtain⟨h1,h2⟩:=uP h.1.1.1.1;have h3:=h.1.1.1.2;have h4:=h.1.2;simp only[beq_iff_eq]at h3 h4;exact⟨by simp only[SC.aa,C.cX,h1,h3,h4,same h.2],by simpa[SC.aa,C.names]using h2⟩
 · simp only[bt]at h;obtain⟨h1,h2⟩:=uP h.1.1;have h3:=h.2;simp only[beq_iff_eq]at h3;exact⟨by simp only[SC.aa,C.cX,h1,h3,same h.1.2],by simpa[SC.aa,C.names]using h2⟩
 · simp only[bt,beq_iff_eq]at h;exact⟨by simp only[SC.aa,C.cX,h.2,same h.1],by simp[SC.aa,C.names]⟩
 · rename_i f ns f' eg;simp only[bt,beq_iff_eq]at h;obtain⟨rfl,h2⟩:=h;have h3:eg=ns.map ι.to∧∀m∈ns,m∈ι.old:=by
     clear same
     induction ns generalizing eg with
     |nil=>simp_all
     | cons m ms ih=>
      cases eg with
      |nil=>simp at h2
      |cons n ns=>
       simp only[bC,IQ]at h2;obtain⟨h4,h5⟩:=ih ns h2.2;obtain⟨h6,h7⟩:=uP (ι:=ι) (n:=m) (n':=n) (by simpa using h2.1);simp_all
   exact⟨by simp_all[SC.aa,C.cX],by simp_all[SC.aa,C.names]⟩
 · obtain⟨h1,h2⟩:=uP h;exact⟨by simp only[SC.aa,C.cX,h1],by simpa[SC.aa,C.names]using h2⟩
 · cases h
def Ae (D:ig) (S:ag) (aI:Nat) (as:List At) (ι:Ren) (Z:List Nat):List SC→List SC→Bool
 |[],[]=>true
 |c::cs,c'::cs'=>DJ D S aI as ι Z c c'&&Ae D S aI as ι Z cs cs'
 |_,_=>false
def GK (D:ig) (S:ag) (aI:Nat) (as:List At) (ι:Ren) (Z:List Nat):aB→aB→Bool
 |_,.c .dead=>true
 | .c c,.c c'=>DJ D S aI as ι Z c c'
 | .agg cs,.agg cs'=>Ae D S aI as ι Z cs cs'
 |_,_=>false
def DN (D:ig) (S:ag) (aI:Nat) (as:List At) (ι:Ren) (Z:List Nat):List aB→List aB→Bool
 |[],[]=>true
 |c::cs,c'::cs'=>GK D S aI as ι Z c c'&&DN D S aI as ι Z cs cs'
 |_,_=>false
def O9 (D:ig) (S:ag) (aI:Nat) (as:List At) (ι:Ren) (Z:List Nat):SV→SV→Bool
 |_,.v (.c .dead)=>true
 | .v x,.v x'=>GK D S aI as ι Z x x'
 | .aj xs,.aj xs'=>DN D S aI as ι Z xs xs'
 |_,_=>false
def D2 (D:ig) (S:ag) (aI:Nat) (as:List At) (ι:Ren) (Z:List Nat):List SV→List SV→Bool
 |[],[]=>true
 |c::cs,c'::cs'=>O9 D S aI as ι Z c c'&&D2 D S aI as ι Z cs cs'
 |_,_=>false
def Qk (D:ig) (S:ag) (aI:Nat) (as:List At) (ι:Ren) (Z:List Nat):SB→SB→Bool
 | .box cs,.box cs'=>Ae D S aI as ι Z cs cs'
 | .row e x,.row e' x'=>e==e'&& (x'.par aI as).same x
 | .map,.map=>true
 |_,_=>false
theorem I_ (hl:ρ.length=aI) (hD:D.ok S (ρ++ys)):∀{cs cs':List SC},Ae D S aI as ι Z cs cs'=true→Ck (S.aa (ρ++ys)) ι Z (cs.map (SC.aa (ρ++ys))) (cs'.map (SC.aa (ρ++as.map (At.ev (ρ++ys)))))
 |[],[],_=>trivial
 |c::cs,c'::cs',h=>by
  simp only[Ae,bt]at h;exact⟨XU hl hD h.1,I_ hl hD h.2⟩
 |[],_::_,h=>by cases h
 |_::_,[],h=>by cases h
theorem aeV (hl:ρ.length=aI) (hD:D.ok S (ρ++ys)) {x x':aB} (h:GK D S aI as ι Z x x'=true):vX (S.aa (ρ++ys)) ι Z (x.aa (ρ++ys)) (x'.aa (ρ++as.map (At.ev (ρ++ys)))):=by
 unfold GK at h;split at h
 · simp_all[aB.aa,SC.aa,vX,trivial]
 · rename_i c c' _;have:=XU (ys:=ys) hl hD h;simp only[aB.aa];revert this;generalize SC.aa (ρ++as.map (At.ev (ρ++ys))) c'=C';intro this;cases C'<;>first|exact this|trivial
 · exact I_ hl hD h
 · cases h
theorem XN (hl:ρ.length=aI) (hD:D.ok S (ρ++ys)):∀{cs cs':List aB},DN D S aI as ι Z cs cs'=true→E_ (S.aa (ρ++ys)) ι Z (cs.map (aB.aa (ρ++ys))) (cs'.map (aB.aa (ρ++as.map (At.ev (ρ++ys)))))
 |[],[],_=>trivial
 |c::cs,c'::cs',h=>by
  simp only[DN,bt]at h;exact⟨aeV hl hD h.1,XN hl hD h.2⟩
 |[],_::_,h=>by cases h
 |_::_,[],h=>by cases h
theorem ajl (hl:ρ.length=aI) (hD:D.ok S (ρ++ys)) {x x':SV} (h:O9 D S aI as ι Z x x'=true):wQ (S.aa (ρ++ys)) ι Z (x.aa (ρ++ys)) (x'.aa (ρ++as.map (At.ev (ρ++ys)))):=by
 unfold O9 at h;split at h
 · simp_all[SV.aa,aB.aa,SC.aa,wQ,trivial]
 · rename_i y y' _;have:=aeV (ys:=ys) hl hD h;simp only[SV.aa];revert this;generalize aB.aa (ρ++as.map (At.ev (ρ++ys))) y'=C';intro this
   cases C' with
   |c C'=>cases C'<;>first|exact this|trivial
   |agg _=>exact this
 · exact XN hl hD h
 · cases h
theorem adp (hl:ρ.length=aI) (hD:D.ok S (ρ++ys)):∀{cs cs':List SV},D2 D S aI as ι Z cs cs'=true→dj (S.aa (ρ++ys)) ι Z (cs.map (SV.aa (ρ++ys))) (cs'.map (SV.aa (ρ++as.map (At.ev (ρ++ys)))))
 |[],[],_=>trivial
 |c::cs,c'::cs',h=>by
  simp only[D2,bt]at h;exact⟨ajl hl hD h.1,adp hl hD h.2⟩
 |[],_::_,h=>by cases h
 |_::_,[],h=>by cases h
theorem amN (hl:ρ.length=aI) (hD:D.ok S (ρ++ys)) {b b':SB} (h:Qk D S aI as ι Z b b'=true):leB (S.aa (ρ++ys)) ι Z (b.aa (ρ++ys)) (b'.aa (ρ++as.map (At.ev (ρ++ys)))):=by
 cases b with
 |box cs=>
  cases b' with
  |box cs'=>exact I_ hl hD h
  |_=>cases h
 | row e x=>
  cases b' with
  |row e' x'=>
   simp only[Qk,bt,beq_iff_eq]at h;refine⟨h.1,?_⟩;rw[←At.LN (ys:=ys) hl,At.mo h.2]
  |_=>cases h
 |map=>
  cases b' with
  |map=>rfl
  |_=>cases h
end
def uC (D:ig) (T:aV) (k0:Nat) (S S':ag) (aI:Nat) (as:List At) (ι:Ren) (Z:List Nat):Bool:=
 S'.ao.isEmpty&&decide ι.old.Nodup&&decide ι.new.Nodup&&decide (k0≤S'.next)&&decide (S'.nv=aI+as.length)&&
 (Z.all fun n=> !ι.new.contains n&&decide (k0≤n)&&decide (n<S'.next)&&match List.lookup n S'.heap with
  |some (.row e x)=> (x.par aI as).same .r0&&match List.lookup e T with
   |some r=>decide (0<r.size)
   |none=>false
  |_=>false)&&
 (ι.all fun x=>decide (x.2<S'.next)&& (decide (k0≤x.2)||x.1==x.2))&&
 D2 D S aI as ι Z S.tmps S'.tmps&&
 S'.heap.all fun x=>Z.contains x.1||ι.any fun y=>y.2==x.1&&match List.lookup y.1 S.heap with
  |some b=>Qk D S aI as ι Z b x.2
  |none=>false
theorem AR {D:ig} {P:aQ} {T:aV} {k0:Nat} (hT:aV.ok P T) {S S':ag} {aI:Nat} {as:List At} {ι:Ren} {Z:List Nat} {ρ ys:List L} (hl:ρ.length=aI) (hD:D.ok S (ρ++ys)) (h:uC D T k0 S S' aI as ι Z=true) (hg:S.ao=[]):
  S'.ao=[]∧S'.nv=(ρ++as.map (At.ev (ρ++ys))).length∧∀X:Fx,X.P=P→X.k0=k0→Le X (S.aa (ρ++ys)) (S'.aa (ρ++as.map (At.ev (ρ++ys)))):=by
 unfold uC at h;simp only[bt,cg,aiO]at h;obtain⟨⟨⟨⟨⟨⟨⟨⟨h1,h2⟩,h3⟩,h4⟩,h5⟩,h6⟩,h7⟩,h8⟩,h9⟩:=h;refine⟨h1,by simp[h5,hl],fun X wz CN=> ?_⟩;subst wz CN;refine oj.le (ι:=ι) (Z:=Z) hg ?_;exact {
  ao:=h1
  old:=h2
  new:=h3
  k0:=h4
  zs :=fun n hn=>by
   simp only[bk,bt,lO,zD,rS,cg]at h6;obtain⟨⟨⟨a1,a2⟩,a3⟩,a4⟩:=h6 n hn;refine⟨a1,a2,a3,?_⟩;split at a4
   · rename_i e x hx;simp only[bt]at a4;obtain⟨b1,b2⟩:=a4;split at b2
     · rename_i r hr;have:=hT _ _ hr;subst this;have b3:0< (eH X.P e).size:=by simpa using b2
       refine⟨e,?_,b3⟩;rw[dD,hx];simp only[aJ,SB.aa];rw[←At.LN (ys:=ys) hl,At.mo b1];rfl
     · cases b2
   · cases a4
  lt:=fun x hx=>by
   simp only[bk,bt,rV,cg,beq_iff_eq]at h7;obtain⟨a1,a2⟩:=h7 x hx;exact⟨a1,fun hlt=>a2.resolve_left om⟩
  tmps:=adp hl hD h8
  heap :=fun n' b' hb=>by
   rw[dD]at hb;simp only[aW]at hb;obtain⟨b0,hb0,rfl⟩:=hb;simp only[bk,rV,zD,cg,Dh,bt,beq_iff_eq]at h9;rcases h9 _ (B1 hb0)with a1| ⟨y,a1,a2,a3⟩
   · exact .inl a1
   · right;split at a3
     · rename_i b hb;obtain⟨n,m⟩:=y;simp only at a2 hb;subst a2;exact⟨n,b.aa (ρ++ys),a1,by rw[dD,hb];rfl,amN hl hD a3⟩
     · cases a3}
end
end
end Go.Proofs.YtndegphojkiblaaGreatDoor
