/- A part. -/
import Derived.Test.YtndegphojkiblaaGreatDoorG9
set_option linter.all false
set_option maxHeartbeats 4000000
set_option maxRecDepth 100000
namespace Go.Proofs.YtndegphojkiblaaGreatDoor
noncomputable section
section
open Go.RowKit
namespace AI
def AS.rs(S:AS):At->Option RS
 |.v i=>match S.env[i]? with
  |some g=>lk S.rw g
  |none=>some none
 |_=>some none
def AS.cs(S:AS):At->Option (List AC)
 |.v i=>match S.env[i]? with
  |some g=>lk S.cl g
  |none=>none
 |_=>none
def AS.bo(S:AS):At->Option BD
 |.v i=>match S.env[i]? with
  |some g=>lk S.bd g
  |none=>none
 |.b t=>some (.iH t)
 |_=>none
section
variable{S:AS}{τ ρ:List L}(h:Ga S τ ρ)
include h
theorem Ga.rs{x r}(a:S.rs x=some r):iA r (x.ev ρ).bm:=by
 cases x with
 |v i=>
  rw[h.ev];simp only[AS.rs]at a
  cases d:S.env[i]? with
  |none=>rw[d]at a;cases a;rfl
  |some g=>rw[d]at a;exact(h.rw _ (mJ a)).2
 |_=>cases a;rfl
theorem Ga.cs{x r}(a:S.cs x=some r):AC.dS r (x.ev ρ).jm:=by
 cases x with
 |v i=>
  rw[h.ev];simp only[AS.cs]at a
  cases d:S.env[i]? with
  |none=>simp_all
  |some g=>rw[d]at a;exact(h.cl _ (mJ a)).2
 |_=>cases a
theorem Ga.bo{x b}(a:S.bo x=some b):(x.ev ρ).ck=b.val τ:=by
 cases x with
 |v i=>
  rw[h.ev];simp only[AS.bo]at a
  cases d:S.env[i]? with
  |none=>simp_all
  |some g=>rw[d]at a;exact(h.bd _ (mJ a)).2.2
 |b t=>cases a;rfl
 |_=>cases a
end
def Fy(n:Nat)(k:Kd)(c:AC):Option dN:=match k,c with
 |.int k,.int b d a=>if k==b then some {fs:=fq (3*n+1) d a}else none
 |.bool,.bool=>some {}
 |.str,.str a=>some {fs:=fq (3*n+3) 0 a}
 |.sl,.sl a cs=>some {fs:=fq (3*n+2) 0 a,rw:=some (if a<=0 then none else some cs)}
 |_,_=>none
theorem SU{τ k c q N}(h:AC.ok c q)(a:Fy τ.length k c=some N):∃l,k.of q=some l/\N.ok τ l:=by
 unfold Fy at a;split at a
 .split at a
  .rename_i g;have:=eq_of_beq g;subst this;cases a;obtain⟨n,rfl,d,e⟩:=h;exact⟨.i n,by simp[Kd.of],fu (lP (by rw[nB];exact d) (by rw[nB];exact e))⟩
  .cases a
 .cases a;obtain⟨b,rfl⟩:=h;exact⟨.b b,rfl,fu holds_nil⟩
 .cases a;obtain⟨s,rfl,d⟩:=h;exact⟨.s s,rfl,fu (lP (by rw[zH];omega) (by rw[zH];exact d))⟩
 .cases a;obtain⟨rows,rfl,d,e⟩:=h;refine⟨.r rows,rfl,lP (by rw[tT];omega) (by rw[tT];exact d),λx f=>?_,λ_ h=>(by cases h),λ_ h=>(by cases h),λ_ h=>(by cases h),λ_ h=>(by cases h),λ_ h=>(by cases h)⟩;have f:=pf f;rw[<-f];split
  .have:rows.length=0:=om;exact jX this
  .exact e
 .cases a
def AS.ac(S:AS)(p:Kd×At):AC:=match p.1 with
 |.int k=>match iN S.fs (S.li p.2),gq S.fs (S.li p.2)with
  |some d,some a=>.int k d a
  |_,_=>.any
 |.bool=>.bool
 |.sl=>match gq S.fs (S.le p.2),S.rs p.2 with
  |some a,some (some cs)=>.sl a cs
  |_,some none=>.sl 0 []
  |_,_=>.any
 |.str=>match S.ls p.2 with
  |some y=>match gq S.fs y with
   |some a=>.str a
   |none=>.any
  |none=>.any
 |_=>.any
theorem Ga.ls{S τ ρ}(h:Ga S τ ρ){x y}(a:S.ls x=some y):((x.ev ρ).du.size:Int)=bQ τ y:=by
 cases x with
 |v i=>
  rw[h.ev];simp only[AS.ls]at a
  cases d:S.env[i]? with
  |none=>rw[d]at a;cases a;rfl
  |some g=>rw[d]at a;cases a;simp only[bQ,RU];omega
 |s x=>cases a;simp[bQ,gM,At.ev,L.du]
 |i c=>cases a;rfl
 |b t=>cases a;rfl
 |r0=>cases a;rfl
theorem Ga.MM{S τ ρ}(h:Ga S τ ρ){x y}(a:S.ls x=some y):fS τ.length y.1=true:=by
 cases x with
 |v i=>
  simp only[AS.ls]at a
  cases d:S.env[i]? with
  |none=>rw[d]at a;cases a;rfl
  |some g=>
   rw[d]at a;cases a;have:=h.lt g (dB d);simp only[fS,h.n,dj];omega
 |_=>cases a;rfl
theorem avM{S τ ρ}(h:Ga S τ ρ)(p):AC.ok (S.ac p) (p.1.pv (p.2.ev ρ)):=by
 have a:∀f∈S.fs,f.holds τ:=λf a=>h.holds a
 obtain⟨k,x⟩:=p
 cases k with
 |int k=>
  simp only[AS.ac];split
  .rename_i i d b c;exact⟨_,rfl,by rw[h.li];exact iV a b,by rw[h.li];exact gO a c⟩
  .trivial
 |bool=>exact⟨_,rfl⟩
 |sl=>
  simp only[AS.ac];split
  .rename_i d cs b c;exact⟨_,rfl,by rw[h.le];exact gO a b,h.rs c⟩
  .rename_i c;have e:(x.ev ρ).bm=[]:=h.rs c;exact⟨_,rfl,by rw[e];decide,by simp_all⟩
  .trivial
 |str=>
  simp only[AS.ac];split
  .rename_i y g;split
   .rename_i d b;exact⟨_,rfl,by rw[h.ls g];exact gO a b⟩
   .trivial
  .trivial
 |ptr=>trivial
 |mp=>trivial
 |fn=>trivial
 |BR=>trivial
theorem E8{S τ ρ}(h:Ga S τ ρ):∀ps:List (Kd×At),AC.dS (ps.map S.ac) (cH ρ ps)
 |[]=>trivial
 |p::ps=>⟨avM h p,E8 h ps⟩
def vZ(x y:RS):Option RS:=match x,y with
 |none,y=>some y
 |x,none=>some x
 |some a,some b=>if AC.n9 a b then some (some b)else if AC.n9 b a then some (some a)else
  let j:=AC.Mv a b
  if AC.n9 a j&&AC.n9 b j then some (some j)else none
theorem CL{x y z}(h:vZ x y=some z){rows}:(iA x rows->iA z rows)/\(iA y rows->iA z rows):=by
 have nil:∀z:RS,iA none rows->iA z rows:=λz g=>by
  have:rows=[]:=g;subst this
  cases z with
  |none=>rfl
  |some c=>intro r d;cases d
 cases x with
 |none=>cases h;simp_all
 |some a=>
  cases y with
  |none=>cases h;simp_all
  |some b=>
   simp only[vZ]at h;split at h
   .rename_i e;cases h;exact⟨λd r f=>AC.qI e (d r f),id⟩
   .split at h
    .rename_i e;cases h;exact⟨id,λd r f=>AC.qI e (d r f)⟩
    .split at h
     .rename_i e;simp only[cd]at e;cases h;exact⟨λd r f=>AC.qI e.1 (d r f),λd r f=>AC.qI e.2 (d r f)⟩
     .cases h
theorem aee{z a b}(c:iA z a)(d:iA z b):iA z (a++b):=by
 cases z with
 |none=>have c:a=[]:=c;simp_all
 |some cs=>intro r e;exact(fo.1 e).elim (c r) (d r)
theorem BJ{z a b}(c:iA z a)(h:∀r∈b,r∈a):iA z b:=by
 cases z with
 |none=>
  subst c
  cases b with
  |nil=>rfl
  |cons r b=>exact absurd (h r eJ) (by simp)
 |some cs=>exactλr d=>c r (h r d)
def zB(n:Nat):RS->Bool
 |none=>true
 |some cs=>cs.length==n
theorem DA{n z rows}(h:zB n z=true)(a:iA z rows):cf n rows=true:=by
 cases z with
 |none=>subst a;rfl
 |some cs=>
  have h:=eq_of_beq h;subst h;exact AC.tR a
theorem W9{τ l fs z}(h:∀f∈fs,f.holds (τ++[l]))(a:iA z l.bm):dN.ok {fs:=fs,rw:=some z} τ l:=
 ⟨h,λx b=>(by cases b;exact a),λ_ h=>(by cases h),λ_ h=>(by cases h),λ_ h=>(by cases h),λ_ h=>(by cases h),λ_ h=>(by cases h)⟩
theorem ri{τ l fs z y}(h:∀f∈fs,f.holds (τ++[l]))(a:iA z l.bm)(b:∀x,y=some x->(l.bm.length:Int)=bQ τ x):dN.ok {fs:=fs,rw:=some z,ll:=y} τ l:=
 ⟨h,λx c=>(by cases c;exact a),λ_ h=>(by cases h),λ_ h=>(by cases h),λ_ h=>(by cases h),b,λ_ h=>(by cases h)⟩
theorem wL{τ y x v}(h:v=bQ τ y)(a:some y=some x):v=bQ τ x:=by cases a;exact h
def Vw(S:AS)(x:At):Option dN:=some {al:=some (S.le x)}
def Km(S:AS)(x:At):Option dN:=match S.ls x with
 |some y=>some {al:=some y}
 |none=>none
def Oe(S:AS)(k:dH)(x:At):Option dN:=match iN S.fs (S.li x),gq S.fs (S.li x)with
 |some a,some b=>if pZ (some k) a b=true then some {al:=some (S.li x)}else some {fs:=tO (some k) (3*S.n+1)}
 |_,_=>some {fs:=tO (some k) (3*S.n+1)}
def O1(S:AS)(x:At):Option dN:=match S.bo x with
 |some b=>some {bd:=some b.neg}
 |none=>some {}
def AS.at(S:AS)(x i:At):Bool:=dP S.fs (0,0) (S.li i) 0&&dP S.fs (S.li i) (S.le x) (-1)
def JU(S:AS)(x i:At)(size:Nat):Option dN:=match S.rs x with
 |some (some cs)=>if S.at x i=true/\cs.length=size then some {cl:=some cs}else none
 |_=>none
def Oy(S:AS)(x:At)(j:Nat)(k:Kd):Option dN:=match S.cs x with
 |some cs=>(cs[j]?).bind (Fy S.n k)
 |none=>none
def K1(S:AS)(x i:At)(j:Nat)(k:Kd):Option dN:=match S.rs x with
 |some (some cs)=>if S.at x i=true then(cs[j]?).bind (Fy S.n k)else none
 |_=>none
def Hr(S:AS)(x a b:At)(size:Nat):Option dN:=match S.rs x with
 |some z=>if dP S.fs (0,0) (S.li a) 0=true/\dP S.fs (S.li a) (S.li b) 0=true/\dP S.fs (S.li b) (S.le x) 0=true/\zB size z=true then some {fs:=yS S.fs none (3*S.n+2) (S.li b) (S.li a),rw:=some z,ll:=xT S.fs none (S.li b) (S.li a)}else none
 |none=>none
def Kq(S:AS)(x y:At)(n b:Nat):Option dN:=match S.rs x,S.rs y,gq S.fs (S.le x),gq S.fs (S.le y)with
 |some a,some c,some d,some e=>if d+e<=9223372036854775807/\(d+e)*b<=140737488355328/\zB n a=true/\zB n c=true then(vZ a c).map λz=> {fs:=yL S.fs none (3*S.n+2) (S.le x) (S.le y),rw:=some z,ll:=FO S.fs none (S.le x) (S.le y)}else none
 |_,_,_,_=>none
def Mk(S:AS)(rows:List (List (Kd×At))):Option dN:=match rows with
 |[]=>some {rw:=some none,ll:=some (0,0)}
 |ps::r=>(r.foldl (λ(z:Option RS)ps=>z.bind λz=>vZ z (some (ps.map S.ac))) (some (some (ps.map S.ac)))).bind λz=>match z with
  |some cs=>if rows.all (λps=>AC.n9 (ps.map S.ac) cs)=true then some {rw:=some (some cs),ll:=some (0,rows.length)}else none
  |none=>none
def N8(S:AS)(n:At)(ps:List (Kd×At))(b:Nat):Option dN:=match gq S.fs (S.li n)with
 |some a=>if dP S.fs (0,0) (S.li n) 0=true/\a<=9223372036854775807/\b*a<=281474976710656 then some {rw:=some (some (ps.map S.ac)),ll:=some (S.li n)}else none
 |none=>none
section
variable{S:AS}{τ ρ:List L}(h:Ga S τ ρ)
include h
theorem amF{x N}(a:Vw S x=some N):∃l,Nd.ev ρ (.len x)=some [l]/\N.ok τ l:=by
 cases a;refine⟨_,rfl,ui ?_⟩;rw[<-h.le x];rfl
theorem amp{x N}(a:Km S x=some N):∃l,Nd.ev ρ (.lI x)=some [l]/\N.ok τ l:=by
 unfold Km at a;split at a
 .rename_i y b;cases a;refine⟨_,rfl,ui ?_⟩;rw[<-h.ls b];rfl
 .cases a
theorem awI{k x N}(a:Oe S k x=some N):∃l,Nd.ev ρ (.conv k x)=some [l]/\N.ok τ l:=by
 have b:∀f∈S.fs,f.holds τ:=λf b=>h.holds b
 refine⟨_,rfl,?_⟩;have c:cz (τ++[L.i (k.wrap (x.ev ρ).a_)]) (3*S.n+1)=kQ (some k) (bQ τ (S.li x)):=by rw[<-h.n,nB,<-h.li x];rfl
 unfold Oe at a;split at a
 .rename_i i j d e;split at a
  .rename_i g;cases a;refine ui ?_;rw[<-tu g (iV b d) (gO b e),<-h.li x];rfl
  .cases a;exact fu (lg c)
 .cases a;exact fu (lg c)
theorem alj{x N}(a:O1 S x=some N):∃l,Nd.ev ρ (.not x)=some [l]/\N.ok τ l:=by
 refine⟨_,rfl,?_⟩;unfold O1 at a;split at a
 .rename_i b c;cases a;refine JW ?_;rw[BD.auu,<-h.bo c];rfl
 .cases a;exact fu holds_nil
theorem L4{x i}(b:S.at x i=true):0<=(i.ev ρ).a_/\(i.ev ρ).a_.toNat< (x.ev ρ).bm.length:=by
 have a:∀f∈S.fs,f.holds τ:=λf a=>h.holds a
 simp only[AS.at,cd]at b;have c:=fL a b.1;have d:=fL a b.2;have e:=h.li i;have g:=h.le x;have j:bQ τ (0,0)=0:=by simp[bQ,gM]
 omega
theorem ahm{x i size N}(a:JU S x i size=some N):∃l,Nd.ev ρ (.row x i size)=some [l]/\N.ok τ l:=by
 unfold JU at a;split at a
 .rename_i cs c;split at a
  .rename_i d;cases a;obtain⟨f,e⟩:=L4 h d.1;have g:=cW e;have b:AC.dS cs (x.ev ρ).bm[(i.ev ρ).a_.toNat]:=h.rs c _ (cT e);refine⟨.c (x.ev ρ).bm[(i.ev ρ).a_.toNat],?_,holds_nil,λ_ h=>(by cases h),λy j=>(by cases j;exact b),λ_ h=>(by cases h),λ_ h=>(by cases h),λ_ h=>(by cases h),λ_ h=>(by cases h)⟩;simp only[Nd.ev,bF f,g,AC.tV b,d.2,if_true]
  .cases a
 .cases a
theorem akK{x j k N}(a:Oy S x j k=some N):∃l,Nd.ev ρ (.cl x j k)=some [l]/\N.ok τ l:=by
 unfold Oy at a;split at a
 .rename_i cs b;simp only[gV]at a;obtain⟨c,d,a⟩:=a;obtain⟨q,e,f⟩:=AC.KY (h.cs b) d;rw[<-h.n]at a;obtain⟨l,g,i⟩:=SU f a;exact⟨l,by simp only[Nd.ev,e,g];rfl,i⟩
 .cases a
theorem ave{x i j k N}(a:K1 S x i j k=some N):∃l,Nd.ev ρ (.rc x i j k)=some [l]/\N.ok τ l:=by
 unfold K1 at a;split at a
 .rename_i cs b;split at a
  .rename_i f;simp only[gV]at a;obtain⟨c,g,a⟩:=a;obtain⟨s,e⟩:=L4 h f;have m:=cW e;have d:AC.dS cs (x.ev ρ).bm[(i.ev ρ).a_.toNat]:=h.rs b _ (cT e);obtain⟨q,n,o⟩:=AC.KY d g;rw[<-h.n]at a;obtain⟨l,p,r⟩:=SU o a;exact⟨l,by simp only[Nd.ev,m,n,p];rfl,r⟩
  .cases a
 .cases a
theorem aic{x b a size N}(d:Hr S x b a size=some N):∃l,Nd.ev ρ (.part x b a size)=some [l]/\N.ok τ l:=by
 have c:∀f∈S.fs,f.holds τ:=λf c=>h.holds c
 unfold Hr at d;split at d
 .rename_i z e;split at d
  .rename_i g;obtain⟨c1,c2,c3,c4⟩:=g;cases d;have c1:=fL c c1;have c2:=fL c c2;have c3:=fL c c3;have m:=h.li b;have e2:=h.li a;have e3:=h.le x;have i:bQ τ (0,0)=0:=by rfl
   have hlen:(((x.ev ρ).bm.take (a.ev ρ).a_.toNat).drop (b.ev ρ).a_.toNat).length=(a.ev ρ).a_.toNat- (b.ev ρ).a_.toNat:=by
    rw[iw,eA];omega
   refine⟨.r (((x.ev ρ).bm.take (a.ev ρ).a_.toNat).drop (b.ev ρ).a_.toNat),?_,ri (HR c (fU (h.nw a)) ?_) (BJ (h.rs e) λr j=>iR (pa j)) λy k=>?_⟩
   .simp only[Nd.ev];rw[bF ⟨om,om,om,DA c4 (h.rs e)⟩]
   .rw[<-h.n,tT];show((((x.ev ρ).bm.take (a.ev ρ).a_.toNat).drop (b.ev ρ).a_.toNat).length:Int)=_;simp only[kQ];omega
   .have:=MU c k;simp only[kQ]at this;show((((x.ev ρ).bm.take (a.ev ρ).a_.toNat).drop (b.ev ρ).a_.toNat).length:Int)=_;omega
  .cases d
 .cases d
theorem aqI{x y n b N}(a:Kq S x y n b=some N):∃l,Nd.ev ρ (.app x y n b)=some [l]/\N.ok τ l:=by
 have c:∀f∈S.fs,f.holds τ:=λf c=>h.holds c
 unfold Kq at a;split at a
 .rename_i q r d e g i j k;split at a
  .rename_i o;obtain⟨c1,c2,c3,c4⟩:=o;simp only[bY]at a;obtain⟨z,m,rfl⟩:=a;have j:=gO c j;have k:=gO c k;have s:=h.le x;have e2:=h.le y;refine⟨.r ((x.ev ρ).bm++(y.ev ρ).bm),?_,ri (N5 c (fU (h.vl x)) (fU (h.vl y)) ?_) (aee ((CL m).1 (h.rs g)) ((CL m).2 (h.rs i))) λw p=>?_⟩
   .simp only[Nd.ev];have q1:(((x.ev ρ).bm.length+(y.ev ρ).bm.length:Nat):Int)<=d+e:=om;have q2:(((x.ev ρ).bm.length+(y.ev ρ).bm.length:Nat):Int)*(b:Int)<=(d+e)*b:=Int.mul_le_mul_of_nonneg_right q1 (Int.natCast_nonneg b);have q3:((((x.ev ρ).bm.length+(y.ev ρ).bm.length)*b:Nat):Int)<=140737488355328:=by
     omega
    have q4:((x.ev ρ).bm.length+(y.ev ρ).bm.length)*b<=140737488355328:=Int.ofNat_le.1 q3;have q5:(x.ev ρ).bm.length+(y.ev ρ).bm.length<=9223372036854775807:=om;rw[bF ⟨q5,q4,DA c3 (h.rs g),DA c4 (h.rs i)⟩]
   .rw[<-h.n,tT];show(((x.ev ρ).bm++(y.ev ρ).bm).length:Int)=_;simp_all[kQ]
   .have:=QP c p;simp only[kQ]at this;show(((x.ev ρ).bm++(y.ev ρ).bm).length:Int)=_;simp_all
  .cases a
 .cases a
theorem aib{rows N}(a:Mk S rows=some N):∃l,Nd.ev ρ (.lit rows)=some [l]/\N.ok τ l:=by
 refine⟨_,rfl,?_⟩;unfold Mk at a;split at a
 .cases a;exact ri holds_nil rfl λx b=>wL (by rfl) b
 .simp only[gV]at a;obtain⟨z,_,a⟩:=a
  cases z with
  |none=>cases a
  |some cs=>
   simp only at a;split at a
   .rename_i d;cases a;refine ri holds_nil ?_ λx b=>wL ?_ b
    rotate_left
    .simp[bQ,gM,L.bm]
    .intro r e;obtain⟨ps,c,rfl⟩:=eV.1 e;exact AC.qI (cj.1 d ps c) (E8 h ps)
   .cases a
theorem aiI{n ps b N}(a:N8 S n ps b=some N):∃l,Nd.ev ρ (.f_ n ps b)=some [l]/\N.ok τ l:=by
 have c:∀f∈S.fs,f.holds τ:=λf c=>h.holds c
 unfold N8 at a;split at a
 .rename_i e d;split at a
  .rename_i g;obtain⟨c1,c2,c3⟩:=g;cases a;have c1:=fL c c1;have c4:=gO c d;have m:=h.li n;have i:bQ τ (0,0)=0:=by rfl
   refine⟨.r (List.replicate (n.ev ρ).a_.toNat (cH ρ ps)),?_,ri holds_nil (λr j=>?_) λx k=>wL ?_ k⟩;rotate_left 2
   .show((List.replicate (n.ev ρ).a_.toNat (cH ρ ps)).length:Int)=_;rw[mT];omega
   .simp only[Nd.ev];have q:(b:Int)*((n.ev ρ).a_.toNat:Int)<=b*e:=Int.mul_le_mul_of_nonneg_left om (Int.natCast_nonneg b);have q3:((b*(n.ev ρ).a_.toNat:Nat):Int)<=281474976710656:=by exact qw q c3
    have q4:b*(n.ev ρ).a_.toNat<=281474976710656:=Int.ofNat_le.1 q3;have q5:0<=(n.ev ρ).a_:=om;have q6:(n.ev ρ).a_<=9223372036854775807:=om;rw[bF ⟨q5,q6,q4⟩]
   .obtain⟨_,rfl⟩:=GU.1 j;exact E8 h ps
  .cases a
 .cases a
end
end AI
namespace AI
theorem lG{n rows}(h:cf n rows=true):rC n rows=true:=by
 cases rows with
 |nil=>rfl
 |cons r rows=>
  have:=(nL.1 h) r eJ;simp[rC,this]
def LD(S:AS)(x a b:At)(size:Nat):Option dN:=match S.rs x with
 |some z=>if dP S.fs (0,0) (S.li a) 0=true/\dP S.fs (S.li a) (S.li b) 0=true/\dP S.fs (S.li b) (S.le x) 0=true/\zB size z=true then(match xT S.fs none (S.li b) (S.li a)with|some z=>some {al:=some z}|none=>some {fs:=yS S.fs none (3*S.n+1) (S.li b) (S.li a)})else none
 |none=>none
def MZ(S:AS)(x ln:At):Option dN:=match S.rs x with
 |some z=>some {fs:=iW (3*S.n+2) (S.le x) 0::jH (3*S.n+2) (0,0) 0::(if dP S.fs (0,0) (S.li ln) 0=true then iW (3*S.n+2) (S.li ln) 0::(if dP S.fs (S.li ln) (S.le x) 0=true then[jH (3*S.n+2) (S.li ln) 0]else[])else[]),rw:=some z}
 |none=>none
def MF(S:AS)(x a ln:At):Option dN:=match S.rs x with
 |some z=>if(S.li a).1=0/\0<=(S.li a).2/\dP S.fs (0,0) (S.li ln) 0=true/\dP S.fs (S.li ln) (S.le x) (-(S.li a).2)=true then some {rw:=some z,ll:=some (S.li ln)}else some {fs:=iW (3*S.n+2) (S.le x) 0::jH (3*S.n+2) (0,0) 0::(if dP S.fs (0,0) (S.li ln) 0=true then[iW (3*S.n+2) (S.li ln) 0]else[]),rw:=some z}
 |none=>none
def I9(S:AS)(x i:At)(j:Nat)(ps:List (Kd×At)):Option dN:=match S.rs x with
 |some (some cs)=>if S.at x i=true/\j+ps.length<=cs.length then
  let new:=cs.take j++ps.map S.ac++cs.drop (j+ps.length)
  (vZ (some cs) (some new)).map λz=> {rw:=some z,ll:=some (S.le x)}
  else none
 |_=>none
def RA(S:AS)(x y:At):Option dN:=some {fs:=iW (3*S.n+1) (S.li x) 0::iW (3*S.n+1) (S.li y) 0::(match iN S.fs (S.li x),iN S.fs (S.li y)with
 |some a,some b=>[jH (3*S.n+1) (0,0) (-(YJ a b))]
 |_,_=>[])}
def Ru(S:AS)(x y:At):Option dN:=some {fs:=jH (3*S.n+1) (S.li x) 0::jH (3*S.n+1) (S.li y) 0::(match gq S.fs (S.li x),gq S.fs (S.li y)with
 |some a,some b=>[iW (3*S.n+1) (0,0) (imax a b)]
 |_,_=>[])}
def Ly(S:AS)(op:BinOp)(x y:At):Option dN:=match op with
 |.add=>match S.ls x,S.ls y with
  |some a,some b=>match gq S.fs a,gq S.fs b with
   |some c,some d=>if c+d<=9223372036854775807 then some {fs:=yL S.fs none (3*S.n+3) a b}else none
   |_,_=>none
  |_,_=>none
 |.eql| .neq| .lss| .leq| .gtr| .geq=>some {}
 |_=>none
def R3(op:BinOp):Option dN:=match op with
 |.eql| .neq=>some {}
 |_=>none
def OQ(S:AS)(op:UnOp)(k:dH):Option dN:=match op with
 |.neg| .xor=>some {fs:=fq (3*S.n+1) k.min k.max}
 |_=>none
def Jb(S:AS)(x:At):Option dN:=match S.rs x with
 |some none=>some {fs:=tL (3*S.n+3) (S.le x)}
 |some (some [.int .u8 _ _])=>some {fs:=tL (3*S.n+3) (S.le x)}
 |_=>none
def MO(S:AS)(x i:At):Option dN:=match S.ls x with
 |some y=>if dP S.fs (0,0) (S.li i) 0=true/\dP S.fs (S.li i) y (-1)=true then some {fs:=fq (3*S.n+1) 0 255}else none
 |none=>none
theorem z0(τ):bQ τ (0,0)=0:=by rfl
section
variable{S:AS}{τ ρ:List L}(h:Ga S τ ρ)
include h
theorem apv{x b a size N}(c:LD S x b a size=some N):∃l,Nd.ev ρ (.cut x b a size)=some [l]/\N.ok τ l:=by
 have d:∀f∈S.fs,f.holds τ:=λf d=>h.holds d
 unfold LD at c;split at c
 .rename_i z e;split at c
  .rename_i g;obtain⟨c1,c2,c3,c4⟩:=g;have c1:=fL d c1;have c2:=fL d c2;have c3:=fL d c3;have o:=h.li b;have e2:=h.li a;have e3:=h.le x;have i:=z0 τ;refine⟨.i (((a.ev ρ).a_.toNat- (b.ev ρ).a_.toNat:Nat):Int),?_,?_⟩
   .have j:0<=(b.ev ρ).a_:=om;have k:(b.ev ρ).a_<=(a.ev ρ).a_:=om;have m:(a.ev ρ).a_.toNat<=(x.ev ρ).bm.length:=om;simp only[Nd.ev];rw[bF ⟨j,k,m,lG (DA c4 (h.rs e))⟩]
   .split at c
    .rename_i w n;cases c;have:=MU d n;simp only[kQ]at this;refine ui ?_;show(((a.ev ρ).a_.toNat- (b.ev ρ).a_.toNat:Nat):Int)=_;omega
    .cases c;refine fu (HR d (fU (h.nw a)) ?_);rw[<-h.n,nB];show(((a.ev ρ).a_.toNat- (b.ev ρ).a_.toNat:Nat):Int)=_;simp only[kQ];omega
  .cases c
 .cases c
theorem arY{x ln N}(a:MZ S x ln=some N):∃l,Nd.ev ρ (.tk x ln)=some [l]/\N.ok τ l:=by
 have b:∀f∈S.fs,f.holds τ:=λf b=>h.holds b
 unfold MZ at a;split at a
 .rename_i z e;cases a;have j:=h.li ln;have e3:=h.le x;have g:=z0 τ;have hlen:cz (τ++[L.r ((x.ev ρ).bm.take (ln.ev ρ).a_.toNat)]) (3*S.n+2)=((min (ln.ev ρ).a_.toNat (x.ev ρ).bm.length:Nat):Int):=by
   rw[<-h.n,tT,<-eA];rfl
  have l1:=fU (ys:=[L.r ((x.ev ρ).bm.take (ln.ev ρ).a_.toNat)]) (h.nw ln);have l2:=fU (ys:=[L.r ((x.ev ρ).bm.take (ln.ev ρ).a_.toNat)]) (h.vl x);refine⟨_,rfl,W9 (gv (kx ?_) (gv (lF ?_) ?_)) (BJ (h.rs e) λr i=>iR i)⟩
  .omega
  .rw[hlen,z0];omega
  .split
   .rename_i c;have c:=fL b c;refine gv (kx om) ?_;split
    .rename_i d;have d:=fL b d;exact gv (lF om) holds_nil
    simp_all
   simp_all
 .cases a
theorem amj{x a ln N}(b:MF S x a ln=some N):∃l,Nd.ev ρ (.vw x a ln)=some [l]/\N.ok τ l:=by
 have d:∀f∈S.fs,f.holds τ:=λf d=>h.holds d
 unfold MF at b;split at b
 .rename_i z g;have m:=h.li ln;have e3:=h.le x;have j:=z0 τ;by_cases c:(S.li a).1=0/\0<=(S.li a).2/\dP S.fs (0,0) (S.li ln) 0=true/\dP S.fs (S.li ln) (S.le x) (-(S.li a).2)=true
  .rw[bF c]at b;cases b;obtain⟨c1,c2,c3,c4⟩:=c;have e2:=h.li a;have c3:=fL d c3;have c4:=fL d c4;have n:bQ τ (S.li a)=(S.li a).2:=by simp_all[bQ,gM]
   refine⟨_,rfl,ri holds_nil (BJ (h.rs g) λr e=>pa (iR e)) λy k=>wL ?_ k⟩;show(((((x.ev ρ).bm.drop (a.ev ρ).a_.toNat).take (ln.ev ρ).a_.toNat).length:Nat):Int)=_;rw[eA,iw];omega
  rw[bO c]at b;cases b;have hlen:cz (τ++[L.r (((x.ev ρ).bm.drop (a.ev ρ).a_.toNat).take (ln.ev ρ).a_.toNat)]) (3*S.n+2)=((min (ln.ev ρ).a_.toNat ((x.ev ρ).bm.length- (a.ev ρ).a_.toNat):Nat):Int):=by
   rw[<-h.n,tT,<-iw,<-eA];rfl
  have l1:=fU (ys:=[L.r (((x.ev ρ).bm.drop (a.ev ρ).a_.toNat).take (ln.ev ρ).a_.toNat)]) (h.nw ln);have l2:=fU (ys:=[L.r (((x.ev ρ).bm.drop (a.ev ρ).a_.toNat).take (ln.ev ρ).a_.toNat)]) (h.vl x);refine⟨_,rfl,W9 (gv (kx ?_) (gv (lF ?_) ?_)) (BJ (h.rs g) λr e=>pa (iR e))⟩
  .omega
  .rw[hlen,z0];omega
  .split
   .rename_i i;have i:=fL d i;exact gv (kx om) holds_nil
   simp_all
 .cases b
theorem alz{x y N}(i:RA S x y=some N):∃l,Nd.ev ρ (.mn x y)=some [l]/\N.ok τ l:=by
 have c:∀f∈S.fs,f.holds τ:=λf c=>h.holds c
 cases i;have k:=h.li x;have e2:=h.li y;refine⟨_,rfl,?_⟩;generalize j:(if(y.ev ρ).a_< (x.ev ρ).a_ then(y.ev ρ).a_ else(x.ev ρ).a_)=v;have d:cz (τ++[L.i v]) (3*S.n+1)=v:=by rw[<-h.n,nB];rfl
 have l1:=fU (ys:=[L.i v]) (h.nw x);have l2:=fU (ys:=[L.i v]) (h.nw y);refine fu (gv (kx ?_) (gv (kx ?_) ?_))
 .omega
 .omega
 .split
  .rename_i a b e g;have e:=iV c e;have g:=iV c g;refine gv (lF ?_) holds_nil;rw[d,z0];unfold YJ;split<;>split at j<;>omega
  simp_all
theorem ajJ{x y N}(i:Ru S x y=some N):∃l,Nd.ev ρ (.mx x y)=some [l]/\N.ok τ l:=by
 have c:∀f∈S.fs,f.holds τ:=λf c=>h.holds c
 cases i;have k:=h.li x;have e2:=h.li y;refine⟨_,rfl,?_⟩;generalize j:(if(y.ev ρ).a_> (x.ev ρ).a_ then(y.ev ρ).a_ else(x.ev ρ).a_)=v;have d:cz (τ++[L.i v]) (3*S.n+1)=v:=by rw[<-h.n,nB];rfl
 have l1:=fU (ys:=[L.i v]) (h.nw x);have l2:=fU (ys:=[L.i v]) (h.nw y);refine fu (gv (lF ?_) (gv (lF ?_) ?_))
 .omega
 .omega
 .split
  .rename_i a b e g;have e:=gO c e;have g:=gO c g;refine gv (kx ?_) holds_nil;rw[d,z0];unfold imax;split<;>split at j<;>omega
  simp_all
theorem afn{x i:At}{j:Nat}{ps:List (Kd×At)}{N:dN}(g:I9 S x i j ps=some N):∃l,Nd.ev ρ (.set x i j ps)=some [l]/\N.ok τ l:=by
 unfold I9 at g;split at g
 .rename_i cs k;split at g
  .rename_i A;obtain⟨c1,c2⟩:=A;simp only[bY]at g;obtain⟨z,s,rfl⟩:=g;obtain⟨D,t⟩:=L4 h c1;have u:=cW t;have f:AC.dS cs (x.ev ρ).bm[(i.ev ρ).a_.toNat]:=h.rs k _ (cT t);generalize (x.ev ρ).bm[(i.ev ρ).a_.toNat]=r at u f;have E:=AC.tV f;have app:∀{a b:List AC}{p q:List PV},AC.dS a p->AC.dS b q->AC.dS (a++b) (p++q):=by
    intro a
    induction a with
    |nil=>intro b p q e o;cases p with|nil=>exact o|cons=>cases e
    |cons c a ih=>intro b p q e o;cases p with|nil=>cases e|cons p ps=>exact⟨e.1,ih e.2 o⟩
   have tk:∀{a:List AC}{p:List PV}(n:Nat),AC.dS a p->AC.dS (a.take n) (p.take n)/\AC.dS (a.drop n) (p.drop n):=by
    intro a
    induction a with
    |nil=>intro p n e;cases p with|nil=>simp[AC.dS]|cons=>cases e
    |cons c a ih=>intro p n e;cases p with
     |nil=>cases e
     |cons q ps=>cases n with
      |zero=>exact⟨trivial,e⟩
      |succ n=>exact⟨⟨e.1,(ih n e.2).1⟩,(ih n e.2).2⟩
   have v:AC.dS (cs.take j++ps.map S.ac++cs.drop (j+ps.length)) (r.take j++cH ρ ps++r.drop (j+ps.length)):=app (app (tk j f).1 (E8 h ps)) (tk _ f).2;refine⟨.r ((x.ev ρ).bm.set (i.ev ρ).a_.toNat (r.take j++cH ρ ps++r.drop (j+ps.length))),?_,ri holds_nil ?_ λy B=>wL ?_ B⟩;rotate_left 2
   .rw[<-h.le x];show((List.set _ _ _).length:Int)=_;rw[G2]
   .have c3:j+ps.length<=r.length:=om;simp only[Nd.ev,u];rw[bF c3]
   .have w:=(CL s (rows:=(x.ev ρ).bm)).1 (h.rs k);have C:=(CL s (rows:=[r.take j++cH ρ ps++r.drop (j+ps.length)])).2 (λq m=>by simp_all)
    cases z with
    |none=>
     have:(x.ev ρ).bm=[]:=w;simp_all
    |some d=>
     intro q m;rcases List.mem_or_eq_of_mem_set m with m|rfl
     .exact w q m
     .exact C _ eJ
  .cases g
 .cases g
end
end AI
namespace AI
def Dy:RS->RS->Bool
 |none,_=>true
 |some a,some b=>AC.n9 a b
 |some _,none=>false
theorem Y1{x y}(h:Dy x y=true){rows}(d:iA x rows):iA y rows:=by
 cases x with
 |none=>
  have:rows=[]:=d;subst this
  cases y with
  |none=>rfl
  |some c=>intro r d;cases d
 |some a=>cases y with
  |none=>cases h
  |some b=>exactλr e=>AC.qI h (d r e)
def EK(S:AS):List At->Option (List Nat)
 |[]=>some []
 |.v i::xs=>match S.env[i]?,EK S xs with
  |some g,some gs=>some (g::gs)
  |_,_=>none
 |_::_=>none
def C'(S:AS)(xs:List At)(i:At):Option (List Nat×Nat):=match i,EK S xs with
 |.v i,some gs=>match S.env[i]? with
  |some g=>some (gs,g)
  |none=>none
 |_,_=>none
def Ev(k:List Nat×Nat):List ((List Nat×Nat)×Nat)->Option Nat
 |[]=>none
 |(a,r)::l=>if a.2==k.2&&a.1==k.1 then some r else Ev k l
theorem X5{k:List Nat×Nat}:∀{l:List ((List Nat×Nat)×Nat)}{r:Nat},Ev k l=some r->(k,r)∈l
 |[],_,h=>by cases h
 |(f,g)::l,r,h=>by
  simp only[Ev]at h;split at h
  .rename_i c;simp only[cd]at c;have d:=eq_of_beq c.1;have e:=eq_of_beq c.2;cases h;obtain⟨a,b⟩:=k;subst d;subst e;exact eJ
  .exact fp _ (X5 h)
def HZ(S:AS)(xs:List At)(i:At):Option Li:=match C' S xs i with
 |some k=>match Ev k S.sm with
  |some r=>some (match lk S.ll r with|some x=>x|none=>(3*r+2,0))
  |none=>none
 |none=>none
theorem X0{S:AS}{τ ρ:List L}(h:Ga S τ ρ):∀{xs:List At}{gs:List Nat},EK S xs=some gs->xs.map (At.ev ρ)=gs.map (at' τ)/\gs.all (λg=>decide (g<S.n))=true
 |[],gs,a=>by cases a;simp_all
 |x ::xs,gs,a=>by
  cases x with
  |v i=>
   simp only[EK]at a;split at a
   .rename_i g d c b;cases a;obtain⟨e,f⟩:=X0 h b;refine⟨?_,?_⟩
    .simp only[ct,e,h.ev,c]
    .simp only[P',f,Bool.and_true,dj];exact h.lt g (dB c)
   .cases a
  |_=>cases a
theorem abS{S τ ρ}(h:Ga S τ ρ){xs i k}(a:C' S xs i=some k):pE S.n k=true/\ub τ k=(xs[(i.ev ρ).a_.toNat]?).map (At.ev ρ):=by
 unfold C' at a;split at a
 .rename_i j gs b;split at a
  .rename_i g c;cases a;obtain⟨d,e⟩:=X0 h b;refine⟨by simp only[pE,e,Bool.true_and,dj];exact h.lt g (dB c),?_⟩;unfold ub;rw[h.ev,c,<-cN,<-cN,d]
  .cases a
 .cases a
theorem agM{S τ ρ}(h:Ga S τ ρ){xs i x}(a:HZ S xs i=some x){y}(c:xs[(i.ev ρ).a_.toNat]?=some y):((y.ev ρ).bm.length:Int)=bQ τ x:=by
 unfold HZ at a;split at a
 .rename_i k d;obtain⟨_,e⟩:=abS h d;split at a
  .rename_i r f;have b:=(h.sm _ (X5 f)).2.2;rw[e,c]at b;simp only[bS,iQ]at b;rw[b];cases a;split
   .rename_i x g;exact(h.ll _ (mJ g)).2.2
   simp_all[bQ,Ix]
  .cases a
 .cases a
def HP(S:AS)(xs:List At)(i:At):Option dN:=
 if dP S.fs (0,0) (S.li i) 0=true/\dP S.fs (S.li i) (0,xs.length) (-1)=true then
  match xs.foldl (λ(z:Option (RS×Int))x=>match z,S.rs x,gq S.fs (S.le x)with
   |some (z,m),some y,some a=>(vZ z y).map λw=>(w,imax m a)
   |_,_,_=>none) (some (none,0))with
  |some (z,m)=>if xs.all (λx=>match S.rs x,gq S.fs (S.le x)with
   |some y,some a=>Dy y z&&decide (a<=m)
   |_,_=>false)=true then some {fs:=[iW (3*S.n+2) (0,0) m,jH (3*S.n+2) (0,0) 0],rw:=some z,ll:=HZ S xs i,sm:=C' S xs i}else none
  |none=>some {}
 else none
section
variable{S:AS}{τ ρ:List L}(h:Ga S τ ρ)
include h
theorem asb{xs i N}(a:HP S xs i=some N):∃l,Nd.ev ρ (.fw xs i)=some [l]/\N.ok τ l:=by
 have c:∀f∈S.fs,f.holds τ:=λf c=>h.holds c
 unfold HP at a;split at a
 .rename_i m;obtain⟨c1,c2⟩:=m;have c1:=fL c c1;have c2:=fL c c2;have o:=h.li i;rw[z0]at c1;have hlen:bQ τ ((0:Nat),(xs.length:Int))=xs.length:=by simp[bQ,gM]
  have b:(i.ev ρ).a_.toNat<xs.length:=om;split at a
  .split at a
   .rename_i hall;cases a;have d:=cj.1 hall xs[(i.ev ρ).a_.toNat] (cT b);have g:xs[(i.ev ρ).a_.toNat]?=some xs[(i.ev ρ).a_.toNat]:=cW b;generalize xs[(i.ev ρ).a_.toNat]=x at d g;split at d
    .rename_i y p n j;simp only[cd,dj]at d;have q:=gO c j;have r:=h.le x;have k:cz (τ++[x.ev ρ]) (3*S.n+2)=((x.ev ρ).bm.length:Int):=by rw[<-h.n,tT]
     refine⟨x.ev ρ,by simp only[Nd.ev,g],gv (kx ?_) (gv (lF ?_) holds_nil),λw e=>(by cases e;exact Y1 d.1 (h.rs n)),λ_ h=>(by cases h),λ_ h=>(by cases h),λ_ h=>(by cases h),λw e=>agM h e g,λw e=>by rw[(abS h e).2,g];rfl⟩
     .rw[k,z0];omega
     .rw[k,z0];omega
    .cases d
   .cases a
  .cases a;exact⟨xs[(i.ev ρ).a_.toNat].ev ρ,by simp only[Nd.ev,cW b],fu holds_nil⟩
 .cases a
theorem ajt{op x y N}(c:Ly S op x y=some N):∃l,Nd.ev ρ (.bs op x y)=some [l]/\N.ok τ l:=by
 have d:∀f∈S.fs,f.holds τ:=λf d=>h.holds d
 cases op<;>simp only[Ly]at c
 case add=>
  split at c
  .rename_i a b j k;split at c
   .rename_i m n e g;split at c
    .cases c;have o:=gO d e;have p:=gO d g;have q:=h.ls j;have e2:=h.ls k;have i:(((x.ev ρ).du.size+(y.ev ρ).du.size:Nat):Int)<=9223372036854775807:=om;refine⟨.s ((x.ev ρ).du++(y.ev ρ).du),by simp only[Nd.ev,rT,bF i];rfl,fu (N5 d (fU (h.MM j)) (fU (h.MM k)) ?_)⟩;rw[<-h.n,zH];show(((x.ev ρ).du++(y.ev ρ).du).size:Int)=_;simp_all[ByteArray.size_append,kQ]
    .cases c
   .cases c
  .cases c
 all_goals first| (cases c;done)| (cases c;exact⟨_,rfl,fu holds_nil⟩)
theorem akh{op k x N}(a:OQ S op k=some N):∃l,Nd.ev ρ (.un op k x)=some [l]/\N.ok τ l:=by
 cases op<;>simp only[OQ]at a
 case neg=>
  cases a;exact⟨_,rfl,fu (lg (k:=some k) (by rw[<-h.n,nB];rfl))⟩
 case xor=>
  cases a;exact⟨_,rfl,fu (lg (k:=some k) (by rw[<-h.n,nB];rfl))⟩
 all_goals cases a
theorem ani{x i N}(a:MO S x i=some N):∃l,Nd.ev ρ (.rr x i)=some [l]/\N.ok τ l:=by
 have c:∀f∈S.fs,f.holds τ:=λf c=>h.holds c
 unfold MO at a;split at a
 .rename_i y e;split at a
  .rename_i d;cases a;have c1:=fL c d.1;have c2:=fL c d.2;have n:=h.li i;have e2:=h.ls e;rw[z0]at c1;have g:0<=(i.ev ρ).a_:=om;have j:(i.ev ρ).a_.toNat< (x.ev ρ).du.size:=om;obtain⟨b,k⟩:∃b,(x.ev ρ).du[(i.ev ρ).a_.toNat]?=some b:=⟨_,getElem?_pos (x.ev ρ).du (i.ev ρ).a_.toNat j⟩
   have m:b.toNat<256:=b.toNat_lt;refine⟨.i b.toNat,by simp only[Nd.ev,bF g,k],fu (lP ?_ ?_)⟩
   .rw[<-h.n,nB];show(0:Int)<=(b.toNat:Int);omega
   .rw[<-h.n,nB];show(b.toNat:Int)<=255;omega
  .cases a
 .cases a
theorem arR{x N}(a:Jb S x=some N):∃l,Nd.ev ρ (.str x)=some [l]/\N.ok τ l:=by
 have fin:∀b:List Int,lh (x.ev ρ).bm=some b->b.length=(x.ev ρ).bm.length->N={fs:=tL (3*S.n+3) (S.le x)}->∃l,Nd.ev ρ (.str x)=some [l]/\N.ok τ l:=λb d f a=>by
  subst a;refine⟨.s (strOfNums b),by simp only[Nd.ev,d];rfl,fu (Wo ?_)⟩;rw[<-h.n,zH,fU (h.vl x),<-h.le x,<-f];show((strOfNums b).size:Int)=_;simp[strOfNums,ByteArray.size]
 unfold Jb at a;split at a
 .rename_i g;have e:(x.ev ρ).bm=[]:=h.rs g;cases a;exact fin [] (by rw[e];rfl) (by rw[e];rfl) rfl
 .rename_i i j g;have e:AC.rows [.int .u8 i j] (x.ev ρ).bm:=h.rs g;cases a;have key:∀rows:List (List PV),AC.rows [.int .u8 i j] rows->∃b,lh rows=some b/\b.length=rows.length:=by
   intro rows
   induction rows with
   |nil=>exactλ_=>⟨[],rfl,rfl⟩
   |cons r rows ih=>
    intro k;obtain⟨b,d,f⟩:=ih λq m=>k q (fp _ m)
    have c:=k r eJ
    cases r with
    |nil=>cases c
    |cons q r=>
     cases r with
     |cons=>cases c.2
     |nil=>
      obtain⟨n,rfl,_,_⟩:=c.1;refine⟨n::b,?_,by simp[f]⟩;unfold lh at d⊢;simp[nU,tD,d]
  obtain⟨b,c,o⟩:=key _ e;exact fin b c o rfl
 .cases a
end
def Df.ok(τ:List L):List dN->List L->Prop
 |[],[]=>True
 |N::a,l::ls=>N.ok τ l/\Df.ok (τ++[l]) a ls
 |_,_=>False
def AS.rP(S:AS):List dN->Option AS
 |[]=>some S
 |N::a=>(S.push N).bind λS'=>S'.rP a
theorem Ga.rP:∀{a:List dN}{S S':AS}{τ ρ ls:List L},Ga S τ ρ->S.rP a=some S'->Df.ok τ a ls->Ga S' (τ++ls) (ρ++ls)
 |[],S,S',τ,ρ,[],h,hp,_=>by cases hp;simpa using h
 |N::a,S,S',τ,ρ,l::ls,h,hp,d=>by
  simp only[AS.rP,gV]at hp;obtain⟨o,k,m⟩:=hp;have:=Ga.rP (h.push k d.1) m d.2;simpa using this
 |[],_,_,_,_,_::_,_,_,h=>by cases h
 |_::_,_,_,_,_,[],_,_,h=>by cases h
def one(x:Option dN):Option (List dN):=x.map λN=>[N]
def DH(S:AS):Nd->Option (List dN)
 |.bi op k x y=>one (LK S op k (S.li x) (S.li y))
 |.bs op x y=>one (Ly S op x y)
 |.bb op _ _=>one (R3 op)
 |.not x=>one (O1 S x)
 |.un op k _=>one (OQ S op k)
 |.conv k x=>one (Oe S k x)
 |.len x=>one (Vw S x)
 |.lI x=>one (Km S x)
 |.row x i size=>one (JU S x i size)
 |.rc x i j k=>one (K1 S x i j k)
 |.cl x j k=>one (Oy S x j k)
 |.ed i cM=>if dP S.fs (0,0) (S.li i) 0=true/\dP S.fs (S.li i) (0,cM) (-1)=true then some []else none
 |.fw xs i=>one (HP S xs i)
 |.part x a c size=>one (Hr S x a c size)
 |.cut x a c size=>one (LD S x a c size)
 |.vw x a ln=>one (MF S x a ln)
 |.tk x ln=>one (MZ S x ln)
 |.app x y n b=>one (Kq S x y n b)
 |.set x i j ps=>one (I9 S x i j ps)
 |.lit rows=>one (Mk S rows)
 |.f_ n ps b=>one (N8 S n ps b)
 |.str x=>one (Jb S x)
 |.rr x i=>one (MO S x i)
 |.mn x y=>one (RA S x y)
 |.mx x y=>one (Ru S x y)
 |_=>none
theorem gp{τ ρ x a}{b:Nd}(c:one x=some a)(h:∀N,x=some N->∃l,b.ev ρ=some [l]/\N.ok τ l):∃ls,b.ev ρ=some ls/\Df.ok τ a ls:=by
 simp only[one,bY]at c;obtain⟨N,d,rfl⟩:=c;obtain⟨l,e,f⟩:=h N d;exact⟨[l],e,f,trivial⟩
theorem aiP{S τ ρ}(h:Ga S τ ρ){e g}(c:DH S e=some g):∃ls,e.ev ρ=some ls/\Df.ok τ g ls:=by
 cases e<;>simp only[DH]at c
 case bi op k x y=>
  refine gp c λN a=>?_
  obtain⟨l,p,q⟩:=aqA h (h.nw x) (h.nw y) a;exact⟨l,by simp only[Nd.ev,h.li x,h.li y,p];rfl,q⟩
 case bs op x y=>exact gp c λN a=>ajt h a
 case bb op x y=>
  refine gp c λN a=>?_
  cases op<;>simp only[R3]at a<;>first| (cases a;done)| (cases a;exact⟨_,rfl,fu holds_nil⟩)
 case not x=>exact gp c λN a=>alj h a
 case un op k x=>exact gp c λN a=>akh h a
 case conv k x=>exact gp c λN a=>awI h a
 case len x=>exact gp c λN a=>amF h a
 case lI x=>exact gp c λN a=>amp h a
 case row x i size=>exact gp c λN a=>ahm h a
 case rc x i j k=>exact gp c λN a=>ave h a
 case cl x j k=>exact gp c λN a=>akK h a
 case ed i cM=>
  split at c
  .rename_i m;cases c;have d:∀f∈S.fs,f.holds τ:=λf d=>h.holds d
   have c1:=fL d m.1;have c2:=fL d m.2;have v:=h.li i;have r:bQ τ ((0:Nat),(cM:Int))=cM:=by simp[bQ,gM]
   rw[z0]at c1;have s:0<=(i.ev ρ).a_:=om;have t:(i.ev ρ).a_<cM:=om;exact⟨[],by simp only[Nd.ev,bF (And.intro s t)],trivial⟩
  .cases c
 case fw xs i=>exact gp c λN a=>asb h a
 case part x o u size=>exact gp c λN a=>aic h a
 case cut x o u size=>exact gp c λN a=>apv h a
 case vw x o ln=>exact gp c λN a=>amj h a
 case tk x ln=>exact gp c λN a=>arY h a
 case app x y n b=>exact gp c λN a=>aqI h a
 case set x i j ps=>exact gp c λN a=>afn h a
 case lit rows=>exact gp c λN a=>aib h a
 case f_ n ps b=>exact gp c λN a=>aiI h a
 case str x=>exact gp c λN a=>arR h a
 case rr x i=>exact gp c λN a=>ani h a
 case mn x y=>exact gp c λN a=>alz h a
 case mx x y=>exact gp c λN a=>ajJ h a
 all_goals cases c
end AI
namespace AI
def sK(x y:Li)(c:Int):Fa:=⟨x.1,y.1,c+y.2-x.2⟩
theorem Qu{τ x y c}(h:bQ τ x-bQ τ y<=c):(sK x y c).holds τ:=by
 unfold Fa.holds sK;unfold bQ at h;simp only;omega
def zW(fs:List Fa)(x y:Li)(c:Int):Bool:=match qA fs y x with
 |some d=>decide (d+c<0)
 |none=>false
theorem Wx{fs τ}(a:∀f∈fs,f.holds τ){x y c}(h:zW fs x y c=true)(e:bQ τ x-bQ τ y<=c):False:=by
 unfold zW at h;split at h
 .rename_i d b;have:=wq a b;simp at h;omega
 .cases h
def tw(fs:List Fa)(op:BinOp)(x y:Li)(r:Bool):List (Li×Li×Int):=match op,r with
 |.eql,true=>[(x,y,0),(y,x,0)]
 |.neq,false=>[(x,y,0),(y,x,0)]
 |.eql,false=>if dP fs x y 0 then[(x,y,-1)]else if dP fs y x 0 then[(y,x,-1)]else[]
 |.neq,true=>if dP fs x y 0 then[(x,y,-1)]else if dP fs y x 0 then[(y,x,-1)]else[]
 |.lss,true=>[(x,y,-1)]
 |.lss,false=>[(y,x,0)]
 |.leq,true=>[(x,y,0)]
 |.leq,false=>[(y,x,-1)]
 |.gtr,true=>[(y,x,-1)]
 |.gtr,false=>[(x,y,0)]
 |.geq,true=>[(y,x,0)]
 |.geq,false=>[(x,y,-1)]
 |_,_=>[]
theorem afp{fs τ}(c:∀f∈fs,f.holds τ){op x y r}(h:rX op (bQ τ x) (bQ τ y)=r):∀z∈tw fs op x y r,bQ τ z.1-bQ τ z.2.1<=z.2.2:=by
 have d:bQ τ x≠bQ τ y->∀z∈(if dP fs x y 0=true then[(x,y,(-1:Int))]else if dP fs y x 0=true then[(y,x,-1)]else[]),bQ τ z.1-bQ τ z.2.1<=z.2.2:=λg z a=>by
  split at a
  .rename_i b;have:=fL c b;rw[fO.1 a];simp only;omega
  .split at a
   .rename_i b;have:=fL c b;rw[fO.1 a];simp only;omega
   .cases a
 have e:bQ τ x=bQ τ y->∀z∈ [(x,y,(0:Int)),(y,x,0)],bQ τ z.1-bQ τ z.2.1<=z.2.2:=λi z a=>by
  simp only[dn,iS,or_false]at a;rcases a with rfl|rfl<;>simp only<;>omega
 intro z a;cases op<;>cases r<;>simp only[tw,iS]at a<;>simp only[rX,dj,u6]at h
 case eql.true=>exact e h z a
 case eql.false=>exact d h z a
 case neq.true=>exact d h z a
 case neq.false=>exact e om z a
 all_goals (rw[fO.1 a];simp only;omega)
def AS.my(S:AS)(c:At)(t:Bool):AS:=match c with
 |.v i=>match S.env[i]? with
  |some g=> {S with bd:=(g,.iH t)::S.bd}
  |none=>S
 |_=>S
def AS.assume(S:AS)(c:At)(t:Bool):Option AS:=match S.bo c with
 |some (.iH b)=>if b==t then some S else none
 |some (.cmp op x y p)=>
  let a:=tw S.fs op x y (p==t)
  if a.any (λz=>zW S.fs z.1 z.2.1 z.2.2)then none else some {(S.my c t)with fs:=a.map (λz=>sK z.1 z.2.1 z.2.2)++S.fs}
 |none=>some (S.my c t)
theorem Ga.my{S τ ρ}(h:Ga S τ ρ){c t}(a:(c.ev ρ).ck=t):Ga (S.my c t) τ ρ:=by
 cases c with
 |v i=>
  rw[h.ev]at a;simp only[AS.my]
  cases m:S.env[i]? with
  |none=>exact h
  |some g=>
   rw[m]at a;have d:∀x∈(g,BD.iH t)::S.bd,x.1<S.n/\x.2.in S.n=true/\(at' τ x.1).ck=x.2.val τ:=λx k=>by
    rcases dn.1 k with rfl|k
    .exact⟨h.lt g (dB m),rfl,a⟩
    .exact h.bd x k
   exact⟨h.n,h.env,h.lt,h.fs,h.rw,h.cl,d,h.al,h.ll,h.sm,h.pr⟩
 |_=>exact h
theorem ZO(S:AS)(c)(t):(S.my c t).n=S.n/\(S.my c t).env=S.env/\(S.my c t).rw=S.rw/\(S.my c t).cl=S.cl:=by
 cases c with
 |v i=>simp only[AS.my];cases S.env[i]? <;>exact⟨rfl,rfl,rfl,rfl⟩
 |_=>exact⟨rfl,rfl,rfl,rfl⟩
theorem ano{fs op x y r z}(b:z∈tw fs op x y r):(z.1=x/\z.2.1=y)\/(z.1=y/\z.2.1=x):=by
 have s1:∀c,∀w∈ [(x,y,(c:Int))],(w.1=x/\w.2.1=y)\/(w.1=y/\w.2.1=x):=λc w a=>by simp_all
 have d:∀c,∀w∈ [(y,x,(c:Int))],(w.1=x/\w.2.1=y)\/(w.1=y/\w.2.1=x):=λc w a=>by simp_all
 have e:∀w∈ [(x,y,(0:Int)),(y,x,0)],(w.1=x/\w.2.1=y)\/(w.1=y/\w.2.1=x):=λw a=>by
  rcases dn.1 a with rfl|a
  .exact .inl ⟨rfl,rfl⟩
  .exact d _ w a
 have s4:∀w∈(if dP fs x y 0=true then[(x,y,(-1:Int))]else if dP fs y x 0=true then[(y,x,-1)]else[]),(w.1=x/\w.2.1=y)\/(w.1=y/\w.2.1=x):=λw a=>by
  split at a
  .exact s1 _ w a
  .split at a
   .exact d _ w a
   .cases a
 cases op<;>cases r<;>simp only[tw,iS]at b<;>first
  |exact s1 _ z b
  |exact d _ z b
  |exact e z b
  |exact s4 z b
theorem Ga.assume{S τ ρ}(h:Ga S τ ρ){c t}(u:(c.ev ρ).ck=t):∃S',S.assume c t=some S'/\S'.env=S.env/\Ga S' τ ρ:=by
 have A:∀f∈S.fs,f.holds τ:=λf A=>h.holds A
 unfold AS.assume;split
 .rename_i b a;have:=h.bo a;rw[u]at this;subst this;exact⟨S,by simp,rfl,h⟩
 .rename_i op x y p a;have B:=h.bo a;rw[u]at B;have B:t=(rX op (bQ τ x) (bQ τ y)==p):=B;have D:rX op (bQ τ x) (bQ τ y)=(p==t):=by
   rw[B];cases rX op (bQ τ x) (bQ τ y)<;>cases p<;>rfl
  have F:=afp A D;have o:(tw S.fs op x y (p==t)).any (λz=>zW S.fs z.1 z.2.1 z.2.2)=false:=by
   rw[List.any_eq_false];intro z k J;exact Wx A J (F z k)
  simp only[o,qp,if_false];obtain⟨K,e2,e3,M⟩:=ZO S c t;have m:BD.in S.n (.cmp op x y p)=true:=by
   cases c with
   |v i=>
    simp only[AS.bo]at a
    cases G:S.env[i]? with
    |none=>rw[G]at a;cases a
    |some g=>rw[G]at a;exact(h.bd _ (mJ a)).2.1
   |b=>cases a
   |_=>cases a
  simp only[BD.in,cd]at m;refine⟨_,rfl,e2,?_⟩;have d:=h.my u;have E:∀f∈(tw S.fs op x y (p==t)).map (λz=>sK z.1 z.2.1 z.2.2)++S.fs,f.ok τ:=λf k=>by
   rcases fo.1 k with k|k
   .obtain⟨z,q,rfl⟩:=eV.1 k;refine⟨?_,Qu (F z q)⟩;rcases ano q with⟨H,I⟩| ⟨H,I⟩<;>simp only[Fa.in,sK,H,I,h.n,m.1,m.2,Bool.and_self]
   .exact h.fs f k
  exact⟨d.n,d.env,d.lt,E,d.rw,d.cl,d.bd,d.al,d.ll,d.sm,d.pr⟩
 .exact⟨_,rfl,(ZO S c t).2.1,h.my u⟩
def AS.tr(S:AS)(a:List At)(t:Nat):Option Li:=match t with
 |0=>some (0,0)
 |t+1=>match a[t/3]? with
  |none=>some (0,0)
  |some x=>if t%3=0 then some (S.li x)else if t%3=1 then some (S.le x)else S.ls x
theorem Ga.tr{S τ ρ}(h:Ga S τ ρ){d t x}(a:S.tr d t=some x):bQ τ x=cz (d.map (At.ev ρ)) t/\fS τ.length x.1=true:=by
 cases t with
 |zero=>cases a;exact⟨by rfl,rfl⟩
 |succ t=>
  simp only[AS.tr]at a;simp only[cz,cN]
  cases o:d[t/3]? with
  |none=>rw[o]at a;cases a;refine⟨?_,rfl⟩;simp only[bQ,gM,adj,Option.getD_none,L.a_,L.bm,L.du];simp_all
  |some y=>
   rw[o]at a;simp only[bS,gS]at a⊢;split at a
   .rename_i k;cases a;rw[bF k];exact⟨(h.li y).symm,h.nw y⟩
   .rename_i k;rw[bO k];split at a
    .rename_i m;cases a;rw[bF m];exact⟨(h.le y).symm,h.vl y⟩
    .rename_i m;rw[bO m];exact⟨(h.ls a).symm,h.MM a⟩
structure iX where
 fs:List Fa:=[]
 rw:List (Nat×RS):=[]
 bs:List (Nat×Bool):=[]
 pr:List (Nat×List Nat):=[]
deriving Inhabited
structure iX.ok(T:iX)(vs:List L):Prop where
 fs:∀f∈T.fs,f.holds vs
 rw:∀x∈T.rw,iA x.2 (at' vs x.1).bm
 bs:∀x∈T.bs,(at' vs x.1).ck=x.2
 pr:∀x∈T.pr,Wk x.1 (x.2.map (at' vs))
def AS.pP(S:AS)(a:List At):List Nat->Option (List Nat)
 |[]=>some []
 |p::ps=>match a[p]? with
  |some (.v i)=>match S.env[i]?,S.pP a ps with
   |some g,some gs=>some (g::gs)
   |_,_=>none
  |_=>none
def yj(id:Nat)(gs:List Nat):List (Nat×List Nat)->Bool
 |[]=>false
 |(i,l)::r=>if i==id&&l==gs then true else yj id gs r
theorem aam{id:Nat}{gs:List Nat}:∀{l:List (Nat×List Nat)},yj id gs l=true->(id,gs)∈l
 |[],h=>by cases h
 |(i,l)::r,h=>by
  simp only[yj]at h;split at h
  .rename_i a;simp only[cd]at a;rw[eq_of_beq a.1,eq_of_beq a.2];exact eJ
  .exact fp _ (aam h)
theorem Ga.pP{S:AS}{τ ρ:List L}(h:Ga S τ ρ){d:List At}:∀{ps gs:List Nat},S.pP d ps=some gs->ps.map (at' (d.map (At.ev ρ)))=gs.map (at' τ)
 |[],gs,a=>by cases a;rfl
 |p::ps,gs,a=>by
  simp only[AS.pP]at a;split at a
  .rename_i i m;split at a
   .rename_i g o q k;cases a;simp only[ct,h.pP k];simp only[at',cN,m,bS,gS];rw[h.ev,q];rfl
   .cases a
  .cases a
def AS.eC(S:AS)(a:List At)(T:iX):Bool:=
 T.fs.all (λf=>match S.tr a f.a,S.tr a f.b with
  |some x,some y=>dP S.fs x y f.c
  |_,_=>false)&&
 T.rw.all (λx=>match a[x.1]? with
  |some y=>match S.rs y with
   |some z=>Dy z x.2
   |none=>(match S.bo y with|_=>false)
  |none=>false)&&
 T.bs.all (λx=>match a[x.1]? with
  |some y=>match S.bo y with
   |some (.iH b)=>b==x.2
   |_=>false
  |none=>false)&&
 T.pr.all (λx=>match S.pP a x.2 with
  |some gs=>yj x.1 gs S.pr
  |none=>false)
theorem JI{a:List At}{ρ p y}(h:a[p]?=some y):at' (a.map (At.ev ρ)) p=y.ev ρ:=by simp[at',h]
theorem Ga.eC{S τ ρ}(h:Ga S τ ρ){d T}(q:S.eC d T=true):T.ok (d.map (At.ev ρ)):=by
 have m:∀f∈S.fs,f.holds τ:=λf m=>h.holds m
 simp only[AS.eC,cd,cj]at q;obtain⟨⟨⟨c1,c2⟩,c3⟩,c4⟩:=q;refine⟨λf a=>?_,λx a=>?_,λx a=>?_,λx a=>?_⟩;rotate_left 3
 .have:=c4 x a;split at this
  .rename_i gs o;rw[h.pP o];exact(h.pr _ (aam this)).2
  .cases this
 .have:=c1 f a;split at this
  .rename_i x y t k;have:=fL m this;unfold Fa.holds;rw[<-(h.tr t).1,<-(h.tr k).1];exact this
  .cases this
 .have:=c2 x a;split at this
  .rename_i y k;split at this
   .rename_i z u;rw[JI k];exact Y1 this (h.rs u)
   .cases this
  .cases this
 .have:=c3 x a;split at this
  .rename_i y k;split at this
   .rename_i b A;rw[JI k,h.bo A];have:=eq_of_beq this;exact this
   .cases this
  .cases this
def AS.ext(S:AS)(a:List At)(m:Nat)(T:iX):Option AS:=
 let k:=a.length
 let tr:=λt=>match t with
  |0=>some ((0,0):Li)
  |t+1=>if t/3<k then S.tr a (t+1)else some (3*(S.n+(t/3-k))+t%3+1,0)
 let fs:=T.fs.mapM λf=>match tr f.a,tr f.b with
  |some x,some y=>some (sK x y f.c)
  |_,_=>none
 let ps:=λp=>if p<k then match a[p]? with
  |some (.v i)=>S.env[i]?
  |_=>none
  else if p<k+m then some (S.n+(p-k))else none
 let d:=λ(l:List Nat)=>l.mapM ps
 match fs with
 |some fs=>if fs.all (Fa.in (S.n+m))=true then some ⟨S.env++(List.range m).map (S.n+ ·),S.n+m,fs++S.fs,(T.rw.filterMap λx=>(ps x.1).map λg=>(g,x.2))++S.rw,S.cl,(T.bs.filterMap λx=>(ps x.1).map λg=>(g,.iH x.2))++S.bd,S.al,S.ll,S.sm,(T.pr.filterMap λx=>(d x.2).map λgs=>(x.1,gs))++S.pr⟩else none
 |none=>none
end AI
namespace AI
theorem mapM_mem{α e:Type}{g}:∀{l:List α}{ys}{y:e},l.mapM g=some ys->y∈ys->∃x∈l,g x=some y
 |[],ys,y,h,b=>by simp_all
 |a::l,ys,y,h,b=>by
  cases c:g a with
  |none=>simp[c]at h
  |some z=>
   cases d:l.mapM g with
   |none=>simp[c,d]at h
   |some f=>
    simp[c,d]at h;subst h;rcases dn.1 b with rfl|b
    .simp_all
    simp_all[mapM_mem]
theorem ant{a b c d t}(h:a[c]?=b[d]?)(e:t/3=d):cz a (3*c+t%3+1)=cz b (t+1):=by
 simp only[cz];rw[show(3*c+t%3) /3=c by omega,show(3*c+t%3)%3=t%3 by omega,h,e]
theorem Ga.ext{S S' τ ρ}(h:Ga S τ ρ){a m T}(d:S.ext a m T=some S'){o}(ho:o.length=m)(O:T.ok (a.map (At.ev ρ)++o)):Ga S' (τ++o) (ρ++o):=by
 subst ho;unfold AS.ext at d;simp only at d;split at d
 .rename_i fs P;split at d
  .injection d with d
   subst d;have I:=h.n;have q:∀g,g<S.n->at' (τ++o) g=at' τ g:=λg k=>q_ om
   have E:∀j,at' (τ++o) (S.n+j)=at' o j:=λj=>by
    unfold at';rw[nV om];congr 2;omega
   have Q:∀p,a.length<=p->at' (a.map (At.ev ρ)++o) p=at' o (p-a.length):=λp hp=>by
    unfold at';rw[nV (by simpa using hp)];simp
   have R:∀p,p<a.length->at' (a.map (At.ev ρ)++o) p=at' (a.map (At.ev ρ)) p:=λp hp=>q_ (by simpa using hp)
   have J:∀(t:Nat)(x:Li),(match t with
    |0=>some ((0,0):Li)
    |t+1=>if t/3<a.length then S.tr a (t+1)else some (3*(S.n+(t/3-a.length))+t%3+1,0))=some x->bQ (τ++o) x=cz (a.map (At.ev ρ)++o) t:=λt x K=>by
    cases t with
    |zero=>cases K;rfl
    |succ t=>
     simp only at K;split at K
     .obtain⟨e1,e2⟩:=h.tr K;rw[fU e2,e1,vk];simp only[fS,bC,dj];omega
     .cases K;simp only[bQ,Int.add_zero];refine ant ?_ rfl;rw[nV om,nV (by simp;omega)];congr 1;simp;omega
   have F:∀(p g:Nat),(if p<a.length then match a[p]? with
    |some (.v i)=>S.env[i]?
    |_=>none
    else if p<a.length+o.length then some (S.n+(p-a.length))else none)=some g->g<S.n+o.length/\at' (τ++o) g=at' (a.map (At.ev ρ)++o) p:=λp g hp=>by
    split at hp
    .rename_i U;split at hp
     .rename_i i hi;have k:=h.lt g (dB hp);refine⟨om,?_⟩;rw[q g k,R p U,JI hi,h.ev,hp]
     .cases hp
    .split at hp
     .cases hp;exact⟨om,by rw[E,Q p om]⟩
     .cases hp
   exact{
    n:=by simp[I]
    env :=by
     rw[h.env,eB];congr 1
     .exact ia λg k=>(q g (h.lt g k)).symm
     .apply sv;intro j;rw[h_,cN];by_cases M:j<o.length
      .rw[u9 M,cW M];simp only[bS,Function.comp];rw[E j];simp[at',M]
      simp_all
    lt:=λg k=>by
     rcases fo.1 k with k|k
     .have:=h.lt g k;show g<S.n+o.length;omega
     .obtain⟨j,M,rfl⟩:=eV.1 k;have:=jZ.1 M;show S.n+j<S.n+o.length;omega
    fs :=λf N=>by
     rcases fo.1 N with N|N
     .refine⟨by simp_all,?_⟩;obtain⟨f0,W,B⟩:=mapM_mem P N;split at B
      .rename_i x y d hy;cases B;refine Qu ?_;rw[J _ _ d,J _ _ hy];exact O.fs f0 W
      .cases B
     .exact(h.fs f N).append
    rw:=λx d=>by
     rcases fo.1 d with d|d
     .obtain⟨x0,D,B⟩:=sx.1 d;simp only[bY]at B;obtain⟨g,k,rfl⟩:=B;obtain⟨k1,k2⟩:=F _ _ k;exact⟨k1,by rw[k2];exact O.rw x0 D⟩
     .obtain⟨A,u⟩:=h.rw x d;exact⟨by show x.1<S.n+o.length;omega,by rw[q _ A];exact u⟩
    cl:=λx d=>by
     obtain⟨A,u⟩:=h.cl x d;exact⟨by show x.1<S.n+o.length;omega,by rw[q _ A];exact u⟩
    bd:=λx d=>by
     rcases fo.1 d with d|d
     .obtain⟨x0,D,B⟩:=sx.1 d;simp only[bY]at B;obtain⟨g,k,rfl⟩:=B;obtain⟨k1,k2⟩:=F _ _ k;exact⟨k1,rfl,by rw[k2];exact O.bs x0 D⟩
     .obtain⟨A,u,G⟩:=h.bd x d;exact⟨by show x.1<S.n+o.length;omega,BD.IS u (by simp_all),by rw[q _ A,BD.Mb (by rw[I];exact u)];exact G⟩
    al:=λx d=>by
     obtain⟨A,u,G⟩:=h.al x d;exact⟨by show x.1<S.n+o.length;omega,ru u (by simp_all),by rw[q _ A,fU (by rw[I];exact u)];exact G⟩
    ll:=λx d=>by
     obtain⟨A,u,G⟩:=h.ll x d;exact⟨by show x.1<S.n+o.length;omega,ru u (by simp_all),by rw[q _ A,fU (by rw[I];exact u)];exact G⟩
    sm:=λx d=>by
     obtain⟨A,u,G⟩:=h.sm x d;exact⟨by show x.2<S.n+o.length;omega,Oo u (by simp_all),by rw[q _ A,Ko (by rw[I];exact u)];exact G⟩
    pr :=λx d=>by
     rcases fo.1 d with d|d
     .obtain⟨x0,D,B⟩:=sx.1 d;simp only[bY]at B;obtain⟨gs,X,rfl⟩:=B
      have key:∀(l gs:List Nat),l.mapM (λp=>if p<a.length then match a[p]? with
       |some (.v i)=>S.env[i]?
       |_=>none
       else if p<a.length+o.length then some (S.n+(p-a.length))else none)=some gs->(∀g∈gs,g<S.n+o.length)/\gs.map (at' (τ++o))=l.map (at' (a.map (At.ev ρ)++o)):=by
       intro l
       induction l with
       |nil=>simp_all
       |cons p l ih=>
        intro gs k;simp only[nU,Option.bind_eq_bind,gV]at k;obtain⟨g,Y,Z,aa,ab⟩:=k;cases ab;obtain⟨k1,k2⟩:=F _ _ Y;obtain⟨k3,k4⟩:=ih Z aa;exact⟨λg' H=>by rcases dn.1 H with rfl|H;exact k1;exact k3 g' H,by simp only[ct,k2,k4]⟩
      obtain⟨k1,k2⟩:=key _ _ X;exact⟨k1,by rw[k2];exact O.pr x0 D⟩
     .obtain⟨A,u⟩:=h.pr x d;exact⟨λg k=>(by have:=A g k;show g<S.n+o.length;omega),by rw[ia (g:=at' τ) λg k=>q g (A g k)];exact u⟩}
  simp_all
 simp_all
structure dO where
 fF:Nat
 il:Nat
 pre:iX
 cases:List iX
deriving Inhabited
def dO.ok(F:List L->Option (List L))(s:dO):Prop:=∀ls,ls.length=s.fF->s.pre.ok ls->∃o,F ls=some o/\o.length=s.il/\∃T∈s.cases,T.ok (ls++o)
def AC.bare:AC->Bool
 |.int .. =>true
 |.bool=>true
 |.str _=>true
 |.sl a _=>decide (a<=0)
 |.any=>false
theorem AC.arM{c q}(h:AC.bare c=true)(a:AC.ok c q):q.bare=true:=by
 cases c with
 |int k m d=>obtain⟨n,rfl,_⟩:=a;rfl
 |bool=>obtain⟨b,rfl⟩:=a;rfl
 |str d=>obtain⟨s,rfl,_⟩:=a;rfl
 |sl d cs=>
  obtain⟨rows,rfl,o,_⟩:=a;simp only[AC.bare,dj]at h;have:rows.length=0:=om;rw[jX this];rfl
 |any=>cases h
theorem AC.Ou:∀{cs}{r},cs.all AC.bare=true->AC.dS cs r->r.all PV.bare=true
 |[],[],_,_=>rfl
 |c::cs,q::r,h,a=>by
  simp only[P',cd]at h⊢;exact⟨AC.arM h.1 a.1,AC.Ou h.2 a.2⟩
 |[],_::_,_,h=>by cases h
 |_::_,[],_,h=>by cases h
def SJ(T:iX)(p:Nat):Bool:=match lk T.rw p with
 |some none=>true
 |some (some cs)=>cs.all AC.bare
 |none=>false
def AS.FJ(S:AS)(a:List At)(T:iX):Bool:=T.fs.any λf=>decide (f.a<=3*a.length)&&decide (f.b<=3*a.length)&&match S.tr a f.a,S.tr a f.b with
 |some x,some y=>zW S.fs x y f.c
 |_,_=>false
theorem akV{S τ ρ o}(h:Ga S τ ρ){a T}(d:T.ok (a.map (At.ev ρ)++o)):S.FJ a T=false:=by
 have c:∀f∈S.fs,f.holds τ:=λf c=>h.holds c
 cases b:S.FJ a T with
 |false=>rfl
 |true=>
  simp only[AS.FJ,Bt,cd,dj]at b;obtain⟨f,e,⟨g,i⟩,b⟩:=b;split at b
  .rename_i x y j k;refine(Wx c b ?_).elim;have:=d.fs f e;unfold Fa.holds at this;rw[vk (by simpa[fS]using g),vk (by simpa[fS]using i)]at this;rw[(h.tr j).1,(h.tr k).1];exact this
  .cases b
def iY(S:AS)(s:dO)(args:List At)(n:Nat)(us:List Nat):Option (List AS):=
 if args.length=s.fF/\n=s.il/\S.eC args s.pre=true/\s.cases.all (λT=>us.all λu=>SJ T (s.fF+u))=true then(s.cases.filter λT=> !S.FJ args T).mapM λT=>S.ext args n T else none
theorem alQ{S τ ρ}(h:Ga S τ ρ){s F}(w:s.ok F){tag args n us d}(j:iY S s args n us=some d):
 ∃o,Nd.ev ρ (.call tag F args n us)=some o/\∃S'∈d,Ga S' (τ++o) (ρ++o):=by
 unfold iY at j;split at j
 .rename_i p;obtain⟨c1,c2,c3,c4⟩:=p;obtain⟨o,x,t,T,e,k⟩:=w (args.map (At.ev ρ)) (by simpa using c1) (h.eC c3);have b:us.all (λi=>((o[i]?).getD (.b false)).bm.all (·.all PV.bare))=true:=by
   rw[cj];intro u y;have:=cj.1 (cj.1 c4 T e) u y;unfold SJ at this;have g:at' (args.map (At.ev ρ)++o) (s.fF+u)=(o[u]?).getD (.b false):=by
    unfold at';rw[nV (by simp;omega)];congr 2;simp;omega
   split at this
   .rename_i c;have:=k.rw _ (mJ c);simp only[g]at this;rw[this];rfl
   .rename_i cs c;have v:=k.rw _ (mJ c);simp only[g]at v;rw[cj];intro r q;exact AC.Ou this (v r q)
   .cases this
  refine⟨o,?_,?_⟩
  .simp only[Nd.ev,x];rw[bF ⟨t.trans c2.symm,b⟩]
  .have key:∀(l:List iX)(d:List AS),l.mapM (λT=>S.ext args n T)=some d->T∈l->∃S'∈d,S.ext args n T=some S':=by
    intro l
    induction l with
    |nil=>intro _ _ f;cases f
    |cons a l ih=>
     intro d f e
     cases m:S.ext args n a with
     |none=>simp[m]at f
     |some z=>
      cases e2:l.mapM (λT=>S.ext args n T)with
      |none=>simp[m,e2]at f
      |some A=>
       simp[m,e2]at f;subst f;rcases dn.1 e with rfl|e
       .exact⟨z,eJ,m⟩
       .obtain⟨S',q1,q2⟩:=ih A e2 e;exact⟨S',fp _ q1,q2⟩
   obtain⟨S',q1,q2⟩:=key _ _ j (ph.2 ⟨e,by rw[akV h k];rfl⟩);exact⟨S',q1,h.ext q2 (by rw[t,c2]) k⟩
 .cases j
end AI
end
end
end Go.Proofs.YtndegphojkiblaaGreatDoor
