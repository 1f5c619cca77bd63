/- A part. -/
import Derived.Test.YtiikkkhcolcebaaGreatDoorG4
import Derived.Test.YtiikkkhcolcebaaGreatDoorG5
import Derived.Laws.Cover3
set_option linter.all false
set_option maxHeartbeats 4000000
set_option maxRecDepth 100000
namespace Go.Proofs.YtiikkkhcolcebaaGreatDoor
noncomputable section
section
open Go.RowKit
theorem XO:∀{rows},dy 1 rows->∀j:Nat,rows.flatten[j]?=(rows[j]?).bind (·[0]?)
 |[],_,j=>by simp
 |r::rows,h,j=>by
  have b:r.length=1:=h r (by simp)
  match r,b with
  |[p],_=>
   cases j with
   |zero=>rfl
   |succ j=>
    exact XO (λr c=>h r (by simp[c])) j
def xz(P:cC)(st:bx)(t:cd)(x:cF):Option V:=
 match st.arg x,lu P t with
 |some (.v (.c (.p (.sl rows)))),some (n,_)=>if 0<n/\n<=rows.length/\ct 1 rows=true then some (.v (.c (.ref (rows.take n).flatten)))else none
 |_,_=>none
section
variable{X:Fx}{E:Env}{st:bx}{a:Act}{w:bX}
theorem abW(h:Rel X E st a w){t x v}
 (b:xz X.P st t x=some v):∃u,(Instr.arrayAt t (a.eval x)).run X.P w=.ok u w/\RV X.M E w v u:=by
 unfold xz at b;split at b
 .rename_i rows n e z A;obtain⟨B,_⟩:=EP A;split at b
  .rename_i C;obtain⟨H,b1,D⟩:=C;cases b;have i:RP (bad X.M E) w (.sl rows) (a.eval x):=(h.cN z).1;have hR:=jk.1 D;generalize a.eval x=y at i
   cases i with
   |nil=>simp at b1;omega
   |@row _ g o cap sz f F I J G k l=>
    have m:sz=1:=by
     cases rows with
     |nil=>exact absurd rfl F
     |cons r rows=>rw[<-G r (by simp),hR r (by simp)]
    subst m;refine⟨.pointer (some ⟨g,o,none⟩),?_,g,o,rfl,λj p q=>?_⟩
    .simp[Instr.arrayAt,run_underlying B,Nat.not_lt.2 b1]
    .rw[XO (λr i=>hR r (mO i))]at q;simp only[iy]at q;obtain⟨r,c,s⟩:=q;rw[jc]at c;split at c
     .have k1:=k j r 0 p c s;have k2:=l j r 0 p c s;rw[x7,lh]at k1;exact⟨_,k1.1,k1.2,k2⟩
     .cases c
  .cases b
 .cases b
end
def qt(g:cd->Option Nat):List Field->Nat->Option Nat
 |[],o=>some o
 |f::l,o=>match g f.type with
  |some n=>if f.offset=o/\f.name≠ "_" then qt g l (o+n)else none
  |none=>none
def ot(P:cC):Nat->cd->Option Nat
 |0,_=>none
 |d+1,t=>match P.underlying t with
  |some (.int _)=>some 1
  |some (.struct b)=>match qt (ot P d) b.toList 0 with
   |some n=>if P.stoodInHeld t=false/\(P.info? t).isSome=true/\dZ P t=n then some n else none
   |none=>none
  |some (.array n e)=>match P.underlying e with
   |some (.int _)=>if 1<=d/\(P.info? e).isSome=true/\dZ P e=1/\(P.info? t).isSome=true/\dZ P t=n then some n else none
   |_=>none
  |_=>none
def CN(P:cC)(t:cd):Nat:=match P.underlying t with
 |some (.struct _)|some (.array _ _)=>if P.eqGuardType P.depth t then 0 else(ot P 4 t).getD 0
 |_=>0
theorem P'{g:cd->Option Nat}:∀{l:List Field}{o n:Nat},qt g l o=some n->o<=n
 |[],o,n,h=>by simp[qt]at h;omega
 |f::l,o,n,h=>by
  simp only[qt]at h;split at h
  .split at h
   .have:=P' h;omega
   .cases h
  .cases h
theorem eq_int{P w t k c a b}(e:P.underlying t=some (.int c))(d):
 (Op.equalIn (d+1) t (.int k a) (.int k b)).run P w=.ok (a==b) w:=by
 simp[Op.equalIn,run_underlying e]
theorem DG{P w t k}(b:P.underlying t=some (.int k)){cs i v}(c:cs[i]?=some v):
 (part t cs i).run P w=.ok v w:=by
 simp[part,isAgg,run_underlying b,c]
def nE(us:Array b9)(o n:Nat)(k:Nat->eX)(a:Nat->Int):Prop:=∀i,i<n->us[o+i]?=some (.int (k i) (a i))
def EqAt(P:cC)(w:bX)(d:Nat)(t:cd)(n:Nat):Prop:=∀(us vs:Array b9)(o:Nat)(k:Nat->eX)(a b:Nat->Int),nE us o n k a->nE vs o n k b->
 ∃u v r,(part t us o).run P w=.ok u w/\(part t vs o).run P w=.ok v w/\(∀e,(Op.equalIn (e+d) t u v).run P w=.ok r w)/\(r=true↔∀i,i<n->a i=b i)
theorem Jr{P w d}(ih:∀t n,ot P d t=some n->EqAt P w d t n){us vs N k a b}(q:nE us 0 N k a)(s:nE vs 0 N k b)(e):
 ∀(l )(o ),qt (ot P d) l o=some N->∃r,(∀K:Option Bool×Unit->bX->Result Bool,K (none,()) w=.ok true w->(∀r,K (some r,()) w=.ok r w)->(Sem.run P
       (forIn l ((none:Option Bool),()) λf __s=>
        if f.name= "_" then pure (ForInStep.yield (none,()))
        else do
         let __do_lift<-part f.type us f.offset
         let aAq<-part f.type vs f.offset
         let __do_lift<-Op.equalIn (e+d) f.type __do_lift aAq
         if __do_lift=false then pure (ForInStep.done (some false,()))else pure (ForInStep.yield (none,())))
       w).andThen K=Result.ok r w)/\(r=true↔∀i,o<=i->i<N->a i=b i)
 |[],o,h=>by
  simp only[qt,jq]at h;exact⟨true,λK m x=>by simpa using m,by simp;omega⟩
 |f :: l,o,h=>by
  simp only[qt]at h;split at h
  .rename_i n y;split at h
   .rename_i z;obtain⟨rfl,p⟩:=z;have A:=P' h;obtain⟨u,v,r,m,x,B,C⟩:=ih _ _ y us vs f.offset (λi=>k (f.offset+i)) (λi=>a (f.offset+i)) (λi=>b (f.offset+i)) (λi j=>by have:=q (f.offset+i) om;simpa using this) (λi j=>by have:=s (f.offset+i) om;simpa using this);obtain⟨r',D,F⟩:=Jr ih q s e l _ h;refine⟨r&&r',?_,?_⟩
    .intro K k1 k2;simp[p,m,x,B e];cases r
     .simpa using k2 false
     .simpa using D K k1 k2
    .rw [cu,C,F];constructor
     .intro⟨G,H⟩ i j c;by_cases I:f.offset+n<=i
      .exact H i I c
      .have:=G (i-f.offset) om
       rwa [Nat.add_sub_cancel' j]at this
     .intro g;exact⟨λi j=>g _ om om,λi j c=>g i om c⟩
   .cases h
  .cases h
theorem XZ{P w d}(ih:∀t n,ot P d t=some n->EqAt P w d t n){t c}(q:P.underlying t=some (.struct c))(s:P.stoodInHeld t=false){n}(g:qt (ot P d) c.toList 0=some n)
 {us vs} {k} {a b} (j:nE us 0 n k a) (m:nE vs 0 n k b):∃r,(∀e,(Op.equalIn (e+(d+1)) t (.agg us) (.agg vs)).run P w=.ok r w)/\(r=true↔∀i,i<n->a i=b i):=by
 obtain⟨l⟩:=c;obtain⟨r,_,p⟩:=Jr ih j m 0 l 0 g;refine⟨r,λe=>?_,p.trans ⟨λh i f=>h i (eM _) f,λh i _ f=>h i f⟩⟩;obtain⟨r',u,v⟩:=Jr ih j m e l 0 g;have:r'=r:=by rw[jT,p,v]
 subst this;show(Op.equalIn ((e+d)+1) t _ _).run P w=_;rw[Op.equalIn];simp[run_underlying q,s];exact u _ (by simp) (λr=>by simp)
theorem Xg{P:cC}{w:bX}{t e:cd}{n:Nat}{h:eX}(m:P.underlying t=some (.array n e))(f:P.underlying e=some (.int h))(c:(P.info? e).isSome=true)(p:dZ P e=1)
 {us vs:Array b9} {k:Nat->eX} {a b:Nat->Int} (q:nE us 0 n k a) (s:nE vs 0 n k b):
 ∃r,(∀d,(Op.equalIn (d+2) t (.agg us) (.agg vs)).run P w=.ok r w)/\(r=true↔∀i,i<n->a i=b i):=by
 refine⟨(List.range' 0 n 1).all λi=>a i==b i,λd=>?_,?_⟩
 .rw [Op.equalIn];simp only[Sem.run_bind,run_underlying m,Result.andThen_ok,run_sizeOf w c,p,Std.Legacy.Range.forIn_eq_forIn_range',Std.Legacy.Range.size,Oj,Gt,Nat.div_one];have g:∀i∈List.range' 0 n 1,i<n:=λi c=>by simpa using(List.mem_range'_1.1 c).2
  generalize List.range' 0 n 1=l at g⊢
  induction l with
  |nil=>simp
  |cons i l ih=>
   have c:i<n:=g i (by simp);have u:(part e us (i*1)).run P w=.ok (.int (k i) (a i)) w:=DG f (by have:=q i c;simpa using this);have v:(part e vs (i*1)).run P w=.ok (.int (k i) (b i)) w:=DG f (by have:=s i c;simpa using this);have x:(Op.equalIn (d+1) e (.int (k i) (a i)) (.int (k i) (b i))).run P w=.ok (a i==b i) w:=eq_int f d;simp only[List.forIn_cons,Sem.run_bind,u,v,x,Result.andThen_ok,Gs];cases z:(a i==b i)
   .simp
   .simp only[Bool.not_true,pS,if_false,Sem.run_pure,Result.andThen_ok,Bool.true_and];exact ih λj y=>g j (by simp[y])
 .simp[cz,List.mem_range'_1]
theorem TM{P:cC}{w:bX}:∀(d:Nat)(t:cd)(n:Nat),ot P d t=some n->EqAt P w d t n
 |0,t,n,h=>by cases h
 |d + 1,t,n,h=>by
  intro us vs o k a b l p;rw[ot]at h;split at h
  .rename_i u j;cases h;have v:=l 0 om;have x:=p 0 om;refine⟨_,_,_,DG j v,DG j x,λe=>eq_int j (e+d),?_⟩;simp only[beq_iff_eq];exact ⟨λg i c=> by
                           obtain rfl:i=0:=om;exact g,λg=>g 0 om⟩
  .rename_i A j;split at h
   .rename_i m y;split at h
    .rename_i f;cases h;obtain⟨r,q,s⟩:=XZ (w:=w) (λt n=>TM d t n) j f.1 y (us:=us.extract o (o+n)) (vs:=vs.extract o (o+n)) (k:=k) (a:=a) (b:=b)
      (λi c=>by rw[Om,jV,bA (by have:=(jW.1 (l i c)).1;omega)];exact l i c)
      (λi c=>by rw[Om,jV,bA (by have:=(jW.1 (p i c)).1;omega)];exact p i c)
     refine⟨_,_,r,?_,?_,q,s⟩
     .simp[part,isAgg,run_underlying j,run_sizeOf w f.2.1,f.2.2]
     .simp[part,isAgg,run_underlying j,run_sizeOf w f.2.1,f.2.2]
    .cases h
   .cases h
  .rename_i m B j;split at h
   .rename_i u z;split at h
    .rename_i f;cases h;obtain⟨r,q,s⟩:=Xg (w:=w) j z f.2.1 f.2.2.1 (us:=us.extract o (o+n)) (vs:=vs.extract o (o+n)) (k:=k) (a:=a) (b:=b)
      (λi c=>by rw[Om,jV,bA (by have:=(jW.1 (l i c)).1;omega)];exact l i c)
      (λi c=>by rw[Om,jV,bA (by have:=(jW.1 (p i c)).1;omega)];exact p i c)
     refine⟨.agg (us.extract o (o+n)),.agg (vs.extract o (o+n)),r,?_,?_,λe=>?_,s⟩;rotate_left 2
     .have:=q (e+(d-1))
      rwa [show e+(d-1)+2=e+(d+1)by omega]at this
     .simp[part,isAgg,run_underlying j,run_sizeOf w f.2.2.2.1,f.2.2.2.2]
     .simp[part,isAgg,run_underlying j,run_sizeOf w f.2.2.2.1,f.2.2.2.2]
    .cases h
   .cases h
  .cases h
theorem ajo{P t n}(h:CN P t=n)(l:n≠0)(w)(x y){us vs k a b}(v:nE us 0 n k a)(z:nE vs 0 n k b){r}(A:r=true↔∀i,i<n->a i=b i):
 (do eqGuard .eql t x y (.agg us) (.agg vs);binOp .eql t (.agg us) (.agg vs)).run P w=.ok (.bool r) w/\
 (do eqGuard .neq t x y (.agg us) (.agg vs);binOp .neq t (.agg us) (.agg vs)).run P w=.ok (.bool (!r)) w:=by
 have key:P.eqGuardType P.depth t=false/\(ot P 4 t).getD 0=n/\¬∃k,P.underlying t=some (.int k):=by
  unfold CN at h;split at h
  .rename_i H g;split at h
   .exact absurd h.symm l
   .rename_i j;exact⟨by simpa using j,h,λ⟨k,f⟩=>by rw[g]at f;cases f⟩
  .rename_i m e g;split at h
   .exact absurd h.symm l
   .rename_i j;exact⟨by simpa using j,h,λ⟨k,f⟩=>by rw[g]at f;cases f⟩
  .exact absurd h.symm l
 obtain⟨j,h,q⟩:=key;have B : (Op.equal t (.agg us) (.agg vs)).run P w=.ok r w:=by
  cases c:ot P 4 t with
  |none=>rw[c]at h;exact absurd h.symm l
  |some m=>
   rw[c]at h;obtain rfl:m=n:=h;rw[ot]at c;split at c
   .rename_i C f;exact absurd ⟨_,f⟩ q
   .rename_i D g;split at c
    .rename_i F G;split at c
     .rename_i p;cases c;obtain⟨r',s,u⟩:=XZ (w:=w) (λt n=>TM 3 t n) g p.1 G v z;obtain rfl:r'=r:=by rw[jT,u,A]
      exact s 9996
     .cases c
    .cases c
   .rename_i F I g;split at c
    .rename_i C f;split at c
     .rename_i p;cases c;obtain⟨r',s,u⟩:=Xg (w:=w) g f p.2.1 p.2.2.1 v z;obtain rfl:r'=r:=by rw[jT,u,A]
      exact s 9998
     .cases c
    .cases c
   .cases c
 constructor
 .simp[eqGuard,binOp,run_program,B,j]
 .simp[eqGuard,binOp,run_program,B,j]
def tC:List C->Option (List (eX×Int))
 |[]=>some []
 |.p (.sc (.int k a))::cs=>(tC cs).map ((k,a):: ·)
 |_=>none
def o8(t:Bool):List (eX×Int)->List (eX×Int)->Bool
 |(_,a)::xs,(_,b)::ys=>o8 (t&&a==b) xs ys
 |_,_=>t
def Cx(P:cC)(op:BinOp)(t:cd)(cs ds:List C):Option Bool:=match tC cs,tC ds with
 |some ((i,a)::xs),some ((j,b)::ys)=>if CN P t=xs.length+1/\i::xs.map (·.1)=j::ys.map (·.1)then match op with
  |.eql=>some (o8 (a==b) xs ys)
  |.neq=>some (!o8 (a==b) xs ys)
  |_=>none
  else none
 |_,_=>none
def nI(xs:List (eX×Int))(i:Nat):eX×Int:=xs[i]?.getD (.i64,0)
theorem M1:∀{cs:List C}{xs:List (eX×Int)},tC cs=some xs->∀i,i<xs.length->cs[i]?=some (.p (.sc (.int (nI xs i).1 (nI xs i).2)))
 |[],xs,h,i,b=>by cases h;cases b
 |c::cs,xs,h,i,b=>by
  unfold tC at h;split at h
  .cases ‹_::_=[]›
  .rename_i k a e f;cases f;simp only[bY]at h;obtain⟨ys,g,rfl⟩:=h
   cases i with
   |zero=>rfl
   |succ i=>simpa[nI]using M1 g i (by simpa using b)
  .cases h
theorem Uy:∀{xs ys:List (eX×Int)}{t:Bool},xs.length=ys.length->(o8 t xs ys=true↔t=true/\∀i,i<xs.length->(nI xs i).2=(nI ys i).2)
 |[],[],t,_=>by simp[o8]
 |(k,a)::xs,(j,b)::ys,t,h=>by
  rw[o8,Uy (by simpa using h),cu,beq_iff_eq,and_assoc];refine and_congr_right λ_=>⟨λ⟨e,f⟩i c=>?_,λg=>⟨by simpa[nI]using g 0 (by simp),λi c=>by simpa[nI]using g (i+1) (by simpa using c)⟩⟩
  cases i with
  |zero=>simpa[nI]using e
  |succ i=>simpa[nI]using f i (by simpa using c)
theorem RP.slice3{M w rows A n cap size}(q:RP M w (.sl rows) (.slice A n cap))(hR:dy size rows){l h}(K:l<=h){m}(I:h<=m)(u:m<=rows.length):
 RP M w (.sl ((rows.take h).drop l)) (.slice (if m=l then A else A.map (·.add (l*size))) (h-l) (m-l)):=by
 by_cases x:l=h
 .subst x;have:(rows.take l).drop l=[]:=by simp
  rw[this,sO];exact .nil
 .cases q with
  |nil=>simp at u;omega
  |@row _ g o cap sz f N O P H y z=>
   have hlen:((rows.take h).drop l).length=h-l:=by simp;omega
   have B:∀r∈rows,sz=size:=λr q=>by rw[<-H r q];exact hR r q
   have D:m≠l:=om;rw[bH D,<-hlen];simp only[b_,oJ];have F:∀(i:Nat)(r:List PV),((rows.take h).drop l)[i]?=some r->rows[l+i]?=some r:=by
    intro i r k;rw[kC,jc]at k;split at k
    .exact k
    .cases k
   have t:∀(i:Nat)(r:List PV)(j:Nat),((rows.take h).drop l)[i]?=some r->o+l*size+i*sz+j=o+(l+i)*sz+j:=by
    intro i r j k;have:=B r (eb (F i r k));subst this;rw[jU];omega
   refine RP.row (sz:=sz) (f:=λi j=>f (l+i) j) (by intro J;rw[J]at hlen;simp at hlen;omega) om om (λr q=>H r (mO (nP q))) ?_ ?_
   .intro i r j p k G;rw[t i r j k];exact y (l+i) r j p (F i r k) G
   .intro i r j p k G;exact z (l+i) r j p (F i r k) G
theorem RP.ayh{M w rows v}(h:RP M w (.sl rows) v):∃A n cap,v=.slice A n cap/\rows.length<=cap:=by
 cases h with
 |nil=>exact⟨_,_,_,rfl,eM _⟩
 |row m k=>exact⟨_,_,_,rfl,k⟩
theorem ahs{P}(b)(len cap:Nat)(lo){l h m:Int}{k1 k2}(f:lo=none/\l=0\/∃k,lo=some (.int k l))
 (p:0<=l) (q:l<=h) (s:h<=m) (n:m<=cap) (w):(Instr.sliceBounds b len cap lo (some (.int k1 h)) (some (.int k2 m))).run P w=.ok (l.toNat,h.toNat,m.toNat) w:=by
 have e:∀(k:eX)(y:Nat)(c:BoundsCode)(i:Int),0<=i->i<=y->(Instr.sliceBound (.int k i) y c).run P w=.ok i.toNat w:=by
  intro k y c i g j;simp[Instr.sliceBound,asIntOf,g,j]
 rcases f with⟨rfl,rfl⟩| ⟨k,rfl⟩
 .simp[Instr.sliceBounds,e k2 cap _ m om n,e k1 m.toNat _ h om om]
 .simp[Instr.sliceBounds,e k2 cap _ m om n,e k1 m.toNat _ h om om,e k h.toNat _ l p om]
def w_(P:cC)(st:bx)(t:cd)(x:cF)(lo:Option cF)(b mx:cF):Option V:=
 match st.arg x,fr P t,st.num lo 0,st.arg b,st.arg mx with
 |some (.v (.c (.p (.sl rows)))),some e,some l,some (.v (.c (.p (.sc (.int _ h))))),some (.v (.c (.p (.sc (.int _ m)))))=>
  if 0<=l/\l<=h/\h<=m/\m.toNat<=rows.length/\ct (dZ P e) rows=true then some (.v (.c (.p (.sl ((rows.take h.toNat).drop l.toNat)))))else none
 |_,_,_,_,_=>none
section
variable{X:Fx}{E:Env}{st:bx}{a:Act}{w:bX}
theorem avZ(h:Rel X E st a w){t x k mx lo v}
 (b:w_ X.P st t x lo k mx=some v):∃u,(Instr.sliceAt t (a.eval x) (lo.map a.eval) (some (a.eval k)) (some (a.eval mx))).run X.P w=.ok u w/\RV X.M E w v u:=by
 unfold w_ at b;split at b
 .rename_i rows e l k1 s k2 m y z c f g;obtain⟨B,i⟩:=nB z;split at b
  .rename_i C;obtain⟨D,b1,F,G,H⟩:=C;cases b;have j:RP (bad X.M E) w (.sl rows) (a.eval x):=(h.cN y).1;have I:=RP.ek (h.cN f).1;have J:=RP.ek (h.cN g).1;obtain⟨A,n,cap,p,q⟩:=RP.ayh j;rw[p]at j;have K:=ahs (P:=X.P) true n cap (lo.map a.eval) (k1:=k1) (k2:=k2) (yx h c) D b1 F om w;refine⟨_,?_,RP.slice3 j (jk.1 H) (l:=l.toNat) (h:=s.toNat) (m:=m.toNat) om om G⟩;rw[p,I,J];simp[Instr.sliceAt,Instr.slice,run_underlying B,K,run_sizeOf w i,dZ]
  .cases b
 .cases b
end
end
section
open Go.RowKit
open Classical
abbrev Spec:=Nat->Option (V×gO×List Nat)
structure bZ where
 v:V
 e:gO
 rd:List Nat
def OM:gO:=⟨[],[]⟩
def bZ.pure(v:V):bZ:=⟨v,OM,[]⟩
def bZ.of(x:V×gO):bZ:=⟨x.1,x.2,[]⟩
def Ir:b9->b9->Option b9
 |.int k x,.int _ y=>some (.int k (if y<x then y else x))
 |_,_=>none
def MX:b9->b9->Option b9
 |.int k x,.int _ y=>some (.int k (if y>x then y else x))
 |_,_=>none
def kB(P:cC)(Sp:Spec)(st:bx)(d:Nat)(b:Builtin)(args:List cF)(ts:List cd):Option bZ:=
 match b,args,ts with
 |.len,[x],[t]=>(ov P st t x).map bZ.pure
 |.append,[s,x],[t,c]=>if t=c then match Sp d with
  |some (.v (.c (.sub _ _ _)),_,_)=>(sC P st t s x).map bZ.of
  |_=>(pt P st d t s x).map bZ.of
  else(qg P st d t c s x).map bZ.of
 |.copy,[x,y],[t,_]=>(ql P st t x y).map bZ.of
 |.min,[x,y],_=>match st.arg x,st.arg y with
  |some (.v (.c (.p (.sc u)))),some (.v (.c (.p (.sc v))))=>(Ir u v).map λr=>bZ.pure (.sc r)
  |_,_=>none
 |.max,[x,y],_=>match st.arg x,st.arg y with
  |some (.v (.c (.p (.sc u)))),some (.v (.c (.p (.sc v))))=>(MX u v).map λr=>bZ.pure (.sc r)
  |_,_=>none
 |.cap,[x],[t]=>match st.arg x,P.underlying t with
  |some (.v (.c .nil)),some (.slice _)=>some (bZ.pure (.sc (.int .i64 0)))
  |_,_=>none
 |.delete,[m,k],t::_=>(w5 P st t m k).map λe=>⟨.bL [],e,[]⟩
 |.complex,[x,y],_=>match st.arg x,st.arg y with
  |some (.v (.c (.p (.sc (.float k a))))),some (.v (.c (.p (.sc (.float f b)))))=>if k=f then some (bZ.pure (.sc (.complex k a b)))else none
  |_,_=>none
 |.real,[x],_=>match st.arg x with
  |some (.v (.c (.p (.sc (.complex k a _)))))=>some (bZ.pure (.sc (.float k a)))
  |_=>none
 |.imag,[x],_=>match st.arg x with
  |some (.v (.c (.p (.sc (.complex k _ b)))))=>some (bZ.pure (.sc (.float k b)))
  |_=>none
 |_,_,_=>none
def bx.callee(st:bx):cF->Option (FuncId×List Nat)
 |.func f=>some (f,[])
 |x=>match st.arg x with
  |some (.v (.c (.fn f ee)))=>some (f,ee)
  |_=>none
def tX(P:cC)(Sp:Spec)(st:bx)(d:Nat)(x:cF)(args:List cF):Option bZ:=
 match st.callee x,args.mapM st.fG,Sp d with
 |some (f,ee),some xs,some (v,b,rd)=>if zf P st d f (xs++ee.map λn=>.c (.ptr n 0)) v b rd then some ⟨v,b,rd⟩else none
 |_,_,_=>none
def bx.cap(st:bx)(x:cF):Option Nat:=match st.arg x with
 |some (.v (.c (.ptr n 0)))=>some n
 |_=>none
def cq(P:cC)(Sp:Spec)(st:bx)(d:Nat)(op:Op):Option bZ:=
 match op with
 |.move (.tmp t)=>(st.tmps[t]?).map bZ.pure
 |.move x=>(st.arg x).map bZ.pure
 |.assign (.tmp t)=>(st.tmps[t]?).map bZ.pure
 |.assign x=>(st.arg x).map bZ.pure
 |.pick c a b=>match st.arg c with
  |some (.v (.c (.p (.sc (.bool t)))))=>(if t then st.arg a else st.arg b).map bZ.pure
  |_=>none
 |.alloc e=>(pN P e).map λcs=>⟨.c (.ptr d 0),⟨[(d,.box cs)],[]⟩,[]⟩
 |.box _ x=>(st.fG x).map λx=>⟨.c (.ptr d 0),⟨[(d,.box x.cells)],[]⟩,[]⟩
 |.build t parts=>(w3 P st t parts).map bZ.pure
 |.buildSlice t len parts=>(wN P st d t len parts.toList).map bZ.of
 |.load t x=>(oG P st t x).map bZ.pure
 |.store t x y=>(uF P st t x y).map λe=>⟨.c .dead,e,[]⟩
 |.nilCheck x=>match st.arg x with
  |some (.v (.c (.ptr n o)))=>some (.pure (.c (.ptr n o)))
  |some (.v (.c (.dH n i j)))=>some (.pure (.c (.dH n i j)))
  |some (.v (.c (.ref cells)))=>some (.pure (.c (.ref cells)))
  |some (.v (.c (.fn f ee)))=>some (.pure (.c (.fn f ee)))
  |_=>none
 |.binOp op t x y _=>match st.arg x,st.arg y with
  |some (.v (.c (.p (.sc u)))),some (.v (.c (.p (.sc v))))=>(jd (qo P t) op u v).map λr=>.pure (.sc r)
  |some (.v (.agg cs)),some (.v (.agg ds))=>(Cx P op t cs ds).map λb=>.pure (.sc (.bool b))
  |_,_=>none
 |.unOp op _ x=>match st.arg x with
  |some (.v (.c (.p (.sc u))))=>(xv op u).map λr=>.pure (.sc r)
  |_=>none
 |.convert s t x=>match ku P st s t x with
  |some v=>some (.pure v)
  |none=>(se P st s t x).map bZ.of
 |.makeSlice t l c=>(xq P st d t l c).map bZ.of
 |.slice t x lo g none=>match lU P st t x lo g with
  |some v=>some (.pure v)
  |none=>match lo,g with
   |none,none=>(su P st t x).map bZ.of
   |_,_=>none
 |.slice t x lo (some g) (some mx)=>(w_ P st t x lo g mx).map bZ.pure
 |.sliceToArrayPointer t x=>(xz P st t x).map bZ.pure
 |.makeMap _ none=>some ⟨.c (.mp d),⟨[(d,.map [])],[]⟩,[]⟩
 |.mapUpdate t m k x=>(wF P st t m k x).map λe=>⟨.c .dead,e,[]⟩
 |.lookup t m k ok=>(xJ P st t m k ok).map bZ.pure
 |.fieldAddr t x f=>(qc P st t x f).map bZ.pure
 |.indexAddr t x i=>(nf P st t x i).map bZ.pure
 |.index t x i=>match st.arg x,st.arg i,P.underlying t with
  |some (.v (.c (.p (.sc (.string s))))),some (.v (.c (.p (.sc (.int _ i))))),some .string=>iM (0<=i) (match s[i.toNat]? with
   |some b=>some (.pure (.sc (.int .u8 b.toNat)))
   |none=>none)
  |some (.v (.agg cs)),some (.v (.c (.p (.sc (.int _ i))))),some (.array n e)=>iM (0<=i/\i<n/\m_ P e=true) ((kW P e (cs.drop (i.toNat*dZ P e))).map bZ.pure)
  |_,_,_=>none
 |.extract (.tmp t) i=>match st.tmps[t]? with
  |some (.bL xs)=>match xs[i]? with
   |some x=>some (.pure (.v x))
   |none=>none
  |_=>none
 |.makeFunc (.func f) first captured=>if first.size=0 then(captured.toList.mapM st.cap).map λh=>.pure (.c (.fn f h))else none
 |.call c=>match c.callee with
  |.value x=>tX P Sp st d x c.args.toList
  |.builtin b=>kB P Sp st d b c.args.toList c.argTypes.toList
  |_=>none
 |_=>none
theorem aoI{P f}(h:Own P f)(args)(w):(callFunc f args).run P w=.ok (.enter f args) w:=by
 obtain⟨fn,b,c,e⟩:=h.fn;simp only[callFunc,Sem.run_bind,run_program,Result.andThen_ok,b,c,e,pS,if_false,Sem.run_pure]
def uG(X:Fx)(E:Env)(st:bx)(d:Nat)(a:Act)(o:Oper)(r:bZ)(next:Act->bX->Prop):Prop:=
 ∀u w' E',(∀n,¬(d<=n/\n<d+8)->E.N n=none->E'.N n=none)->Rel X E' (st.dS r.e) a w'->RV X.M E' w' r.v u->next (a.put o.dst u) w'
theorem iI{P o a w w' next Q u}
 (hr:(execOp a.eval o).run P w=.ok (.value u) w') (h:next (a.put o.dst u) w'):o.wp P a w next Q:=by
 unfold Oper.wp;rw[hr];exact h
section
variable{X:Fx}{Sp:Spec}{E:Env}{st:bx}{a:Act}{w:bX}{d:Nat}{o:Oper}{r:bZ}{next:Act->bX->Prop}{Q:Exit->Act->bX->Prop}
theorem uG.pure(hn:uG X E st d a o r next)(h:Rel X E st a w){v}(hr:r=.pure v){u}(hv:RV X.M E w v u){s}(h1:execOp a.eval o=(do let x<-s;Pure.pure (Next.value x)))(h2:s.run X.P w=.ok u w):o.wp X.P a w next Q:=by
 subst hr;exact iI (u:=u) (w':=w) (by rw[h1];simp[h2]) (hn u w E (λ_ _ h=>h) h hv)
theorem uG.pure'(hn:uG X E st d a o r next)(h:Rel X E st a w){v}(hr:r=.pure v){u}(hv:RV X.M E w v u)(h1:(execOp a.eval o).run X.P w=.ok (.value u) w):o.wp X.P a w next Q:=by
 subst hr;exact iI (u:=u) (w':=w) h1 (hn u w E (λ_ _ h=>h) h hv)
theorem avF(h:Rel X E st a w)(hF:rY X E st d){b args ts}(ho:o.op=.call ⟨.builtin b,args,ts⟩)
 (he:kB X.P Sp st d b args.toList ts.toList=some r) (hn:uG X E st d a o r next):o.wp X.P a w next Q:=by
 have hex:(execOp a.eval o)=(builtin b ts o.type (args.map λ| .const _=>true|_=>false) (args.map a.eval)):=by
  unfold execOp;rw[ho];rfl
 have fA:=hF d (de _) om;unfold kB at he;split at he
 .rename_i x t ha ht;have ha':args= #[x]:=mi.1 (by simpa using ha);have mL:ts= #[t]:=mi.1 (by simpa using ht);subst ha' mL;simp only[bY]at he;obtain⟨v,hv,rfl⟩:=he;obtain⟨u,h1,h2⟩:=acH h hv (ty:=o.type);exact hn.pure' h rfl h2 (by rw[hex];simp[builtin,h1])
 .rename_i s x t t' ha ht;have ha':args= #[s,x]:=mi.1 (by simpa using ha);have mL:ts= #[t,t']:=mi.1 (by simpa using ht);subst ha' mL;split at he
  .rename_i htt;subst htt;split at he
   .simp only[bY]at he;obtain⟨⟨v,ef⟩,hv,rfl⟩:=he;obtain⟨u,w',h1,h3,h4⟩:=akb h hv (ty:=o.type);exact iI (u:=u) (w':=w') (by rw[hex];simp[builtin,h1]) (hn u w' E (λ_ _ h=>h) h3 h4)
   simp only[bY]at he;obtain⟨⟨v,ef⟩,hv,rfl⟩:=he;obtain⟨u,w',E',h1,h2,h3,h4⟩:=awo h fA.1 fA.2.2.2 fA.2.2.1 fA.2.1 hv (ty:=o.type);exact iI (u:=u) (w':=w') (by rw[hex];simp[builtin,h1]) (hn u w' E' (λn qY=>h2 n om) h3 h4)
  .simp only[bY]at he;obtain⟨⟨v,ef⟩,hv,rfl⟩:=he;obtain⟨u,w',E',h1,h2,h3,h4⟩:=agb h fA.1 fA.2.2.2 fA.2.2.1 fA.2.1 hv (ty:=o.type);exact iI (u:=u) (w':=w') (by rw[hex];simp[builtin,h1]) (hn u w' E' (λn qY=>h2 n om) h3 h4)
 .rename_i x y t t' ha ht;have ha':args= #[x,y]:=mi.1 (by simpa using ha);have mL:ts= #[t,t']:=mi.1 (by simpa using ht);subst ha' mL;simp only[bY]at he;obtain⟨⟨v,ef⟩,hv,rfl⟩:=he;obtain⟨u,w',h1,h3,h4⟩:=amC h hv (ty:=o.type) (t2:=t');exact iI (u:=u) (w':=w') (by rw[hex];simp[builtin,h1]) (hn u w' E (λ_ _ h=>h) h3 h4)
 .rename_i _ x y ha;have ha':args= #[x,y]:=mi.1 (by simpa using ha);subst ha';split at he
  .rename_i u v hx hy;have k1:=RP.ek (h.cN hx).1;have k2:=RP.ek (h.cN hy).1;simp only[bY]at he;obtain⟨q,hq,rfl⟩:=he;unfold Ir at hq;split at hq
   .simp at hq;subst hq;refine hn.pure' h rfl (.sc rfl) ?_;rw[hex];simp[builtin,k1,k2,Builtin.min_,Builtin.min2]
   .cases hq
  .cases he
 .rename_i _ x y ha;have ha':args= #[x,y]:=mi.1 (by simpa using ha);subst ha';split at he
  .rename_i u v hx hy;have k1:=RP.ek (h.cN hx).1;have k2:=RP.ek (h.cN hy).1;simp only[bY]at he;obtain⟨q,hq,rfl⟩:=he;unfold MX at hq;split at hq
   .simp at hq;subst hq;refine hn.pure' h rfl (.sc rfl) ?_;rw[hex];simp[builtin,k1,k2,Builtin.max_,Builtin.max2]
   .cases hq
  .cases he
 .rename_i x t ha ht;have ha':args= #[x]:=mi.1 (by simpa using ha);have mL:ts= #[t]:=mi.1 (by simpa using ht);subst ha' mL;split at he
  .rename_i e hx hu;cases he;have k1:=(h.cN hx).1;refine hn.pure' h rfl (.sc rfl) ?_;rw[hex];simp only[RC]at k1;simp[builtin,k1,Builtin.cap_,run_underlying hu,goInt]
  .cases he
 .rename_i m k t tl ha ht;have ha':args= #[m,k]:=mi.1 (by simpa using ha);have mL:ts=(t::tl).toArray:=mi.1 (by simpa using ht);subst ha' mL;simp only[bY]at he;obtain⟨ef,hv,rfl⟩:=he;obtain⟨w',h1,h3⟩:=awd h hv (ts:=tl) (ty:=o.type);exact iI (u:=.tuple #[]) (w':=w') (by rw[hex];simp[builtin,h1]) (hn _ w' E (λ_ _ h=>h) h3 ⟨#[],rfl,rfl,by simp⟩)
 .rename_i _ x y ha;have ha':args= #[x,y]:=mi.1 (by simpa using ha);subst ha';split at he
  .rename_i k u k' v hx hy;have k1:=RP.ek (h.cN hx).1;have k2:=RP.ek (h.cN hy).1;split at he
   .rename_i hk;subst hk;cases he;refine hn.pure' h rfl (.sc rfl) ?_;rw[hex];simp[builtin,k1,k2,run_complex]
   .cases he
  .cases he
 .rename_i _ x ha;have ha':args= #[x]:=mi.1 (by simpa using ha);subst ha';split at he
  .rename_i k u v hx;have k1:=RP.ek (h.cN hx).1;cases he;refine hn.pure' h rfl (.sc rfl) ?_;rw[hex];simp[builtin,k1,run_real]
  .cases he
 .rename_i _ x ha;have ha':args= #[x]:=mi.1 (by simpa using ha);subst ha';split at he
  .rename_i k u v hx;have k1:=RP.ek (h.cN hx).1;cases he;refine hn.pure' h rfl (.sc rfl) ?_;rw[hex];simp[builtin,k1,run_imag]
  .cases he
 .cases he
theorem anw(h:Rel X E st a w){args:List cF}{xs}(b:args.mapM st.fG=some xs):args.length=xs.length/\∀(i:Nat)(x),xs[i]?=some x->∃u,(args.map a.eval)[i]?=some u/\eB X.M E w x u:=by
 obtain⟨c,e⟩:=nL b;refine⟨c.symm,λi x f=>?_⟩;obtain⟨o,j,g⟩:=e i x f;exact⟨a.eval o,by simp_all,(h.fG g).1⟩
theorem alZ(h:Rel X E st a w)(B:rY X E st d){x args ts}(C:o.op=.call ⟨.value x,args,ts⟩)
 (e:tX X.P Sp st d x args.toList=some r) (D:uG X E st d a o r next):o.wp X.P a w next Q:=by
 unfold tX at e;split at e
 .rename_i f ee xs v N rd j l F;split at e
  .rename_i G;cases e;obtain⟨A,H⟩:=anw h l;have m:∃us:Array b9,a.eval x=.func (.func f) #[] us/\us.size=ee.length/\∀(i n:Nat),ee[i]?=some n->∃u,us[i]?=some u/\cW E n λx=>∃g,x.g=some g/\u=.pointer (some ⟨g,0,none⟩):=by
    unfold bx.callee at j;split at j
    .cases j;exact⟨#[],by simp[Act.eval],rfl,λi n k=>by simp at k⟩
    .split at j
     .rename_i I;cases j;exact(h.cN I).1
     .cases j
   obtain⟨us,p,q,s⟩:=m;have c:(args.map a.eval++us).size=(xs++ee.map λn=>V1.c (.ptr n 0)).length:=by simp[q,<-A]
   have b:=aok h B (vals:=args.map a.eval++us) c (λi y k=>by
    rw[lg]at k;rw[sQ];simp only[Array.size_map];have J:args.size=xs.length:=by rw[<-A];simp
    split at k
    .grind
    .rw[bH om];simp only[cX,bY]at k;obtain⟨n,t,rfl⟩:=k;obtain⟨u,K,L⟩:=s _ n t;refine⟨u,by rw[J];exact K,L⟩) G
   have z:(execOp a.eval o).run X.P w=.ok (.enter f (args.map a.eval++us)) w:=by
    unfold execOp;rw[C];simp[resolve,Deferred.ofValue,p,invoke,aoI b.1]
   unfold Oper.wp;rw[z,Oper.upon_enter];refine b.2.mono ?_;rintro _ w' ⟨u,E',rfl,k1,k2,M⟩;exact D u w' E' k1 k2 M
  .cases e
 .cases e
set_option maxHeartbeats 4000000 in
theorem snd(h:Rel X E st a w)(hF:rY X E st d)
 (he:cq X.P Sp st d o.op=some r) (hn:uG X E st d a o r next):o.wp X.P a w next Q:=by
 have fA:=hF d (de _) om;have ND:∀n,¬(d<=n/\n<d+8)->n≠d:=λn qY=>om
 cases hop:o.op with
 |move x=>
  rw[hop]at he
  cases x with
  |tmp t=>
   simp only[cq,bY]at he;obtain⟨v,hv,rfl⟩:=he;obtain⟨u,h1,h2⟩:=h.tmps t _ hv;have e1:a.eval (.tmp t)=u:=by simp[Act.eval,h1]
   exact hn.pure' h rfl (u:=a.eval (.tmp t)) (by rw[e1];exact h2) (by unfold execOp;rw[hop];rfl)
  |_=>
   simp only[cq,bY]at he;obtain⟨v,hv,rfl⟩:=he;exact hn.pure' h rfl (h.arg hv).1 (by unfold execOp;rw[hop];rfl)
 |assign x=>
  rw[hop]at he
  cases x with
  |tmp t=>
   simp only[cq,bY]at he;obtain⟨v,hv,rfl⟩:=he;obtain⟨u,h1,h2⟩:=h.tmps t _ hv;have e1:a.eval (.tmp t)=u:=by simp[Act.eval,h1]
   exact hn.pure' h rfl (u:=a.eval (.tmp t)) (by rw[e1];exact h2) (by unfold execOp;rw[hop];rfl)
  |_=>
   simp only[cq,bY]at he;obtain⟨v,hv,rfl⟩:=he;exact hn.pure' h rfl (h.arg hv).1 (by unfold execOp;rw[hop];rfl)
 |pick c x y=>
  rw[hop]at he;simp only[cq]at he;split at he
  .rename_i t hc;have k1:=RP.ek (h.cN hc).1;simp only[bY]at he;obtain⟨v,hv,rfl⟩:=he;refine hn.pure' h rfl (u:=if t then a.eval x else a.eval y) ?_ (by unfold execOp;rw[hop];simp[k1,asBool]);cases t
   .simpa using(h.arg hv).1
   .simpa using(h.arg hv).1
  .cases he
 |alloc e=>
  rw[hop]at he;simp only[cq,bY]at he;obtain⟨cs,hcs,rfl⟩:=he;obtain⟨i,z,hi,hz,YO⟩:=wi (M:=X.M) (E:=E) (w:=w) hcs;have hb:=h.fresh (w':=w.alloc (.cells z.cells e)) d fA.1 fA.2.2.2 fA.2.2.1 ((Below.refl _ _).alloc (de _) _) (x:=⟨some w.heap.size,0,0,0⟩) (.inr ⟨rfl,by simp⟩) (.box cs) (λhG=>
   ⟨⟨some w.heap.size,0,0,0⟩,w.heap.size,z.cells,e,by simp[Env.add],rfl,heap_alloc_new w _,YO.1,λi c hi=>let⟨u,h1,h2,h3⟩:=YO.2 i c hi; ⟨u,h1,h2.goes hG,h3⟩⟩)
  refine iI (u:=.pointer (some ⟨w.heap.size,0,none⟩)) (w':=w.alloc (.cells z.cells e)) ?_ (hn _ _ _ (λn qY hE=>by grind[Env.kJ]) hb.2 (.inr ⟨⟨some w.heap.size,0,0,0⟩,by simp[Env.add],_,rfl,rfl⟩));unfold execOp;rw[hop];simp[Instr.alloc,zeroValue,typeInfo,hi,hz,newVar,newRow]
 |box e x=>
  rw[hop]at he;simp only[cq,bY]at he;obtain⟨y,hy,rfl⟩:=he;obtain⟨k1,k2⟩:=h.fG hy;obtain⟨k3,k4⟩:=eB.cells k1 (by rw[h.bu];exact k2);have hb:=h.fresh (w':=w.alloc (.cells (a.eval x).cells e)) d fA.1 fA.2.2.2 fA.2.2.1 ((Below.refl _ _).alloc (de _) _) (x:=⟨some w.heap.size,0,0,0⟩) (.inr ⟨rfl,by simp⟩) (.box y.cells) (λhG=>
   ⟨⟨some w.heap.size,0,0,0⟩,w.heap.size,(a.eval x).cells,e,by simp[Env.add],rfl,heap_alloc_new w _,k3,λi c hi=>let⟨u,h1,h2,h3⟩:=k4 i c hi; ⟨u,h1,h2.goes hG,h3⟩⟩)
  refine iI (u:=.pointer (some ⟨w.heap.size,0,none⟩)) (w':=w.alloc (.cells (a.eval x).cells e)) ?_ (hn _ _ _ (λn qY hE=>by grind[Env.kJ]) hb.2 (.inr ⟨⟨some w.heap.size,0,0,0⟩,by simp[Env.add],_,rfl,rfl⟩));unfold execOp;rw[hop];rfl
 |build t parts=>
  rw[hop]at he;simp only[cq,bY]at he;obtain⟨v,hv,rfl⟩:=he;obtain⟨u,h1,h2⟩:=ayt h hv;exact hn.pure h rfl h2 (s:=Instr.build t (parts.map λx=>(x.1,a.eval x.2))) (by unfold execOp;rw[hop]) h1
 |buildSlice t len parts=>
  rw[hop]at he;simp only[cq,bY]at he;obtain⟨⟨v,ef⟩,hv,rfl⟩:=he;obtain⟨u,w',E',h1,h2,h3,h4⟩:=ahm h fA.1 fA.2.2.2 fA.2.2.1 hv;exact iI (u:=u) (w':=w') (by unfold execOp;simp_all) (hn u w' E' (λn qY=>h2 n (ND n qY)) h3 h4)
 |load t x=>
  rw[hop]at he;simp only[cq,bY]at he;obtain⟨v,hv,rfl⟩:=he;obtain⟨u,h1,h2⟩:=azl h hv;exact hn.pure h rfl h2 (s:=Instr.loadAt t (a.eval x)) (by unfold execOp;rw[hop]) h1
 |store t x y=>
  rw[hop]at he;simp only[cq,bY]at he;obtain⟨ef,hv,rfl⟩:=he;obtain⟨w',E',h1,h2,h3⟩:=akH h hv;have hex:(execOp a.eval o).run X.P w=.ok .skip w':=by unfold execOp;simp_all
  unfold Oper.wp;rw[hex];exact hn undef w' E' (λn _=>h2 n) h3 trivial
 |nilCheck x=>
  rw[hop]at he;simp only[cq]at he;split at he
  .rename_i n off hx;cases he;have hh:=(h.cN hx).1;obtain⟨y,k1,g,k2,k3⟩:=cW.get hh (h.ir hx (n:=n) (by simp[C.names]));exact hn.pure' h rfl (u:=a.eval x) hh (by unfold execOp;simp_all)
  .rename_i n i j hx;cases he;have hh:=(h.cN hx).1;obtain⟨y,k1,k4,g,k2,k3⟩:=cW.get hh (h.ir hx (n:=n) (by simp[C.names]));exact hn.pure' h rfl (u:=a.eval x) hh (by unfold execOp;simp_all)
  .rename_i cells hx;cases he;have hh:=(h.cN hx).1;obtain⟨g,o',k1,k2⟩:=hh;exact hn.pure' h rfl (u:=a.eval x) (h.cN hx).1 (by unfold execOp;simp_all)
  .rename_i f ee hx;cases he;have hh:=(h.cN hx).1;obtain⟨us,k1,k2⟩:=hh;exact hn.pure' h rfl (u:=a.eval x) (h.cN hx).1 (by unfold execOp;simp_all)
  .cases he
 |binOp op t x y yt=>
  rw[hop]at he;simp only[cq]at he;split at he
  .rename_i u v hx hy;simp only[bY]at he;obtain⟨q,hq,rfl⟩:=he;have k1:=RP.ek (h.cN hx).1;have k2:=RP.ek (h.cN hy).1;exact hn.pure h rfl (v:=.sc q) (RP.sc (auF hq)) (s:=do eqGuard op t x y u v;binOp op t u v) (by unfold execOp;simp_all) (asj t x y hq w)
  .rename_i cs ds hx hy;simp only[bY]at he;obtain⟨b,hb,rfl⟩:=he;obtain⟨us,k1,k2,k3⟩:=(h.arg hx).1;obtain⟨vs,j1,j2,j3⟩:=(h.arg hy).1;unfold Cx at hb;split at hb
   .rename_i i0 a0 xs j0 b0 ys hcs hds;split at hb
    .rename_i hc;obtain⟨ht,hk⟩:=hc;simp only[List.cons.injEq]at hk;obtain⟨rfl,hk⟩:=hk;have hl:xs.length=ys.length:=by simpa using cO List.length hk
     have kk:∀i,(nI ((i0,b0)::ys) i).1=(nI ((i0,a0)::xs) i).1:=λi=>by
      cases i with
      |zero=>rfl
      |succ i=>
       have:=cO (λl:List eX=>l[i]?) hk;grind[nI]
     have hu:nE us 0 (xs.length+1) (λi=>(nI ((i0,a0)::xs) i).1) (λi=>(nI ((i0,a0)::xs) i).2):=λi hi=>by
      obtain⟨u,q1,q2,_⟩:=k3 i _ (M1 hcs i hi);rw[jV,q1,RP.ek q2]
     have hv:nE vs 0 (xs.length+1) (λi=>(nI ((i0,a0)::xs) i).1) (λi=>(nI ((i0,b0)::ys) i).2):=λi hi=>by
      obtain⟨u,q1,q2,_⟩:=j3 i _ (M1 hds i (by simp_all));rw[jV,q1,RP.ek q2,kk]
     obtain⟨r1,r2⟩:=ajo ht om w x y hu hv (r:=o8 (a0==b0) xs ys) (by
      rw[Uy hl,beq_iff_eq];refine⟨λ⟨g1,g2⟩i hi=>?_,λg=>⟨g 0 om,λi hi=>g (i+1) om⟩⟩
      cases i with
      |zero=>exact g1
      |succ i=>exact g2 i om)
     split at hb
     .cases hb;exact hn.pure h rfl (v:=.sc (.bool _)) (RP.sc rfl) (s:=do eqGuard .eql t x y (a.eval x) (a.eval y);binOp .eql t (a.eval x) (a.eval y)) (by unfold execOp;rw[hop]) (by simp_all)
     .cases hb;exact hn.pure h rfl (v:=.sc (.bool _)) (RP.sc rfl) (s:=do eqGuard .neq t x y (a.eval x) (a.eval y);binOp .neq t (a.eval x) (a.eval y)) (by unfold execOp;rw[hop]) (by simp_all)
     .cases hb
    .cases hb
   .cases hb
  .cases he
 |unOp op t x=>
  rw[hop]at he;simp only[cq]at he;split at he
  .rename_i u hx;simp only[bY]at he;obtain⟨q,hq,rfl⟩:=he;have k1:=RP.ek (h.cN hx).1;have k2:=aeD (P:=X.P) hq w;exact hn.pure h rfl (v:=.sc q) (RP.sc k2.2) (s:=Op.unary op (a.eval x)) (by unfold execOp;rw[hop]) (by simp_all)
  .cases he
 |convert s t x=>
  rw[hop]at he;simp only[cq]at he;split at he
  .rename_i v hv;cases he;obtain⟨u,h1,h2⟩:=agI h hv;exact hn.pure h rfl h2 (s:=convert s t (a.eval x)) (by unfold execOp;rw[hop]) h1
  .simp only[bY]at he;obtain⟨⟨v,ef⟩,hv,rfl⟩:=he;obtain⟨u,w',h1,h2,h3⟩:=avI h hv;exact iI (u:=u) (w':=w') (by unfold execOp;simp_all) (hn u w' E (λ_ _ h=>h) h2 h3)
 |makeSlice t l c=>
  rw[hop]at he;simp only[cq,bY]at he;obtain⟨⟨v,ef⟩,hv,rfl⟩:=he;obtain⟨u,w',E',h1,h2,h3,h4⟩:=aiC h fA.1 fA.2.2.2 fA.2.2.1 hv;exact iI (u:=u) (w':=w') (by unfold execOp;simp_all) (hn u w' E' (λn qY=>h2 n (ND n qY)) h3 h4)
 |sliceToArrayPointer t x=>
  rw[hop]at he;simp only[cq,bY]at he;obtain⟨v,hv,rfl⟩:=he;obtain⟨u,h1,h2⟩:=abW h hv;exact hn.pure h rfl h2 (s:=Instr.arrayAt t (a.eval x)) (by unfold execOp;rw[hop]) h1
 |slice t x lo hi mx=>
  rw[hop]at he
  cases mx with
  |some mx=>
   cases hi with
   |none=>simp[cq]at he
   |some hi=>
    simp only[cq,bY]at he;obtain⟨v,hv,rfl⟩:=he;obtain⟨u,h1,h2⟩:=avZ h hv;exact hn.pure h rfl h2 (s:=Instr.sliceAt t (a.eval x) (lo.map a.eval) (some (a.eval hi)) (some (a.eval mx))) (by unfold execOp;rw[hop];rfl) h1
  |none=>
   simp only[cq]at he;split at he
   .rename_i v hv;cases he;obtain⟨u,h1,h2⟩:=apW h hv;exact hn.pure h rfl h2 (s:=Instr.sliceAt t (a.eval x) (lo.map a.eval) (hi.map a.eval) none) (by unfold execOp;rw[hop];rfl) h1
   .split at he
    .simp only[bY]at he;obtain⟨⟨v,ef⟩,hv,rfl⟩:=he;obtain⟨u,E',h1,h2,h3,h4⟩:=amO h hv;exact iI (u:=u) (w':=w) (by unfold execOp;simp_all) (hn u w E' (λn _=>h2 n) h3 h4)
    .cases he
 |makeMap t r=>
  rw[hop]at he
  cases r with
  |some _=>simp[cq]at he
  |none=>
   simp only[cq,jq]at he;subst he;have hb:=h.fresh (w':=w.alloc (.map #[] 0)) d fA.1 fA.2.2.2 fA.2.2.1 ((Below.refl _ _).alloc (de _) _) (x:=⟨some w.heap.size,0,0,0⟩) (.inr ⟨rfl,by simp⟩) (.map []) (λhG=>
    ⟨⟨some w.heap.size,0,0,0⟩,w.heap.size,#[],0,by simp[Env.add],rfl,heap_alloc_new w _,trivial⟩)
   refine iI (u:=.map (some w.heap.size)) (w':=w.alloc (.map #[] 0)) ?_ (hn _ _ _ (λn qY hE=>by grind[Env.kJ]) hb.2 (.inr ⟨⟨some w.heap.size,0,0,0⟩,by simp[Env.add],_,rfl,rfl⟩));unfold execOp;rw[hop];rfl
 |mapUpdate t m k x=>
  rw[hop]at he;simp only[cq,bY]at he;obtain⟨ef,hv,rfl⟩:=he;obtain⟨w',h1,h2⟩:=alq h hv;have hex:(execOp a.eval o).run X.P w=.ok .skip w':=by unfold execOp;simp_all
  unfold Oper.wp;rw[hex];exact hn undef w' E (λ_ _ h=>h) h2 trivial
 |lookup t m k ok=>
  rw[hop]at he;simp only[cq,bY]at he;obtain⟨v,hv,rfl⟩:=he;obtain⟨u,h1,h2⟩:=awb h hv;exact hn.pure h rfl h2 (s:=Instr.lookup t (a.eval m) (a.eval k) ok) (by unfold execOp;rw[hop]) h1
 |fieldAddr t x f=>
  rw[hop]at he;simp only[cq,bY]at he;obtain⟨v,hv,rfl⟩:=he;obtain⟨u,h1,h2⟩:=ash h hv;exact hn.pure h rfl h2 (s:=Instr.fieldAt t (a.eval x) f) (by unfold execOp;rw[hop]) h1
 |indexAddr t x i=>
  rw[hop]at he;simp only[cq,bY]at he;obtain⟨v,hv,rfl⟩:=he;obtain⟨u,h1,h2⟩:=apo h hv;exact hn.pure h rfl h2 (s:=Instr.indexAt t (a.eval x) (a.eval i)) (by unfold execOp;rw[hop]) h1
 |index t x i=>
  rw[hop]at he;simp only[cq]at he;split at he
  .rename_i s k i' hx hi hu;unfold iM at he;have k1:=RP.ek (h.cN hx).1;have k2:=RP.ek (h.cN hi).1;split at he
   .rename_i h0;split at he
    .rename_i b hb;cases he;refine hn.pure h rfl (v:=.sc (.int .u8 b.toNat)) (u:=.int .u8 b.toNat) (RP.sc rfl) (s:=Instr.index t (a.eval x) (a.eval i)) (by unfold execOp;rw[hop]) ?_;rw[k1,k2];simp[Instr.index,asIntOf,run_underlying hu,h0,hb]
    .cases he
   .cases he
  .rename_i cs k i' n e hx hi hu;unfold iM at he;have k2:=RP.ek (h.cN hi).1;obtain⟨us,k1,k3,k4⟩:=(h.arg hx).1;split at he
   .rename_i h0;obtain⟨h1,h2,h3⟩:=h0;simp only[bY]at he;obtain⟨v,hv,rfl⟩:=he;obtain⟨u,h4,h5⟩:=aeX (w:=w) hv k3 k4;refine hn.pure h rfl h5 (s:=Instr.index t (a.eval x) (a.eval i)) (by unfold execOp;rw[hop]) ?_;rw[k1,k2];simp only[Instr.index,asIntOf,Sem.run_bind,Sem.run_pure,Result.andThen_ok,run_underlying hu,bA (And.intro h1 h2),run_sizeOf w h3];exact h4
   .cases he
  .cases he
 |extract t i=>
  rw[hop]at he
  cases t with
  |tmp t=>
   simp only[cq]at he;split at he
   .rename_i xs hx;split at he
    .rename_i x hxi;cases he;obtain⟨u,h1,us,h2,h3,h4⟩:=h.tmps t _ hx;subst h2;obtain⟨u',h5,h6⟩:=h4 i x hxi;refine hn.pure h rfl (v:=.v x) (u:=u') h6 (s:=Instr.extract (a.eval (.tmp t)) i) (by unfold execOp;rw[hop]) ?_;simp[Act.eval,rf,h1,Instr.extract,h5]
    .cases he
   .cases he
  |const=>simp[cq]at he
  |global=>simp[cq]at he
  |func=>simp[cq]at he
 |makeFunc fn first captured=>
  rw[hop]at he
  cases fn with
  |func f=>
   simp only[cq]at he;split at he
   .rename_i hz;simp only[bY]at he;obtain⟨ns,FR,rfl⟩:=he;have hfe:first= #[]:=Ba hz
    obtain⟨h1,h2⟩:=nL FR;refine hn.pure' h rfl (v:=.c (.fn f ns)) (u:=.func (.func f) #[] (captured.map a.eval)) ⟨_,rfl,by simp[h1],λi n hi=>?_⟩ (by unfold execOp;rw[hop];simp[Instr.makeFunc,hfe]);obtain⟨x,h3,h4⟩:=h2 i n hi;refine⟨a.eval x,by simp_all,?_⟩;unfold bx.cap at h4;split at h4
    .rename_i hx;cases h4;exact(h.cN hx).1
    .cases h4
   .cases he
  |_=>simp[cq]at he
 |call c=>
  obtain⟨callee,args,ts⟩:=c;grind[avF,cq,alZ]
 |_=>rw[hop]at he;simp[cq]at he
end
end
end
end Go.Proofs.YtiikkkhcolcebaaGreatDoor
