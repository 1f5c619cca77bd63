/- A part. -/
import Derived.Test.YtiikkkhcolcebaaGreatDoorG39
import Derived.Test.YtiikkkhcolcebaaGreatDoorG40
import Derived.Test.YtiikkkhcolcebaaGreatDoorG41
set_option linter.all false
set_option maxHeartbeats 4000000
set_option maxRecDepth 100000
namespace Go.Proofs.YtiikkkhcolcebaaGreatDoor
noncomputable section
section
open Go.RowKit Pl AI
attribute [local irreducible] bl.wp
def jn(A B:List Fl)(g:Fl)(i:Nat):List Fl:=A.take i++if A.length<i then g::B.take (i-A.length)else[]
def oA(A B:List Fl)(g:Fl)(i:Nat):List Fl:=A.take i++if A.length<=i then g::B.take (i-A.length)else[]
theorem ahP{A B g i}(b:i< (A++B).length):oA A B g i++[(A++B)[i]]=jn A B g (i+1):=by
 unfold oA jn;by_cases h:A.length<=i
 .have c:i-A.length<B.length:=by rw[cD]at b;omega
  rw[bA h,bA om,eo (l:=A) h,eo (l:=A) (show A.length<=i+1 by omega),yj h,show i+1-A.length=(i-A.length)+1 by omega,fi c];simp
 .have a:i<A.length:=om;rw[bH h,bH om,fW,fW,GH a,<-fi a]
theorem apl{A B g i}:(jn A B g i).length<=A.length+B.length+1:=by
 unfold jn;split<;>simp only[cD,dz,gy,jH]<;>omega
theorem avR{A B g i}:(oA A B g i).length<=A.length+B.length+1:=by
 unfold oA;split<;>simp only[cD,dz,gy,jH]<;>omega
theorem anH(c l:L)(A B:List Fl)(g:Fl)(hn:A.length+B.length<=1000000)(hA:∀x∈A,x.name.toList<g.name.toList)(hB:∀x∈B,g.name.toList<x.name.toList):
 JV [c,l,.r ((A++B).map bJ),.s g.name,.r g.base,.r (g.bM.map df)]=some [.r ((A++g::B).map bJ)]:=by
 have hl:(A++B).length=A.length+B.length:=cD;refine bF ?_;refine bz (λxs=>xs=[.b (decide (A.length<A.length+B.length)),.r ((jn A B g (A.length+B.length)).map bJ)]) ?_ ?_;rotate_left
 .rintro _ rfl;refine nW ?_;refine bz (λxs=>xs=[.r ((A++g::B).map bJ)]) ?_ (by rintro _ rfl;refine nW ?_;exact bk rfl);refine uR ?_;refine r6 rfl decide_eq_true_iff (λh=>?_) (λh=>?_)
  .have h0:B.length=0:=om;have e:jn A B g (A.length+B.length)=A:=by
    unfold jn;rw[bH h,fW,eo om]
   rw[e];refine uR ?_;refine er (r:=(A++[g]).map bJ) (lO A) rfl (by show(A.map bJ).length<=_;rw[bD];omega) (by show(1:Nat)<=_;omega) dc (by show List.map bJ A++List.map bJ [g]=_;rw[<-dE]) (nW ?_);refine bk ?_;rw[mN h0];rfl
  .refine bk ?_;show[L.r ((jn A B g (A.length+B.length)).map bJ)]=_;unfold jn;rw[bA h,eo om,eo om]
 refine wp_loop (I:=λa=>∃i:Nat,a=[.b (decide (A.length<i)),.i i,.r ((jn A B g i).map bJ)]/\i<=A.length+B.length) (mu:=λa=>match a with|[_,.i i,_]=>A.length+B.length-i.toNat|_=>0) ⟨0,?_,om⟩ ?_
 .show[L.b false,L.i 0,L.r []]=_;rw[decide_eq_false om];unfold jn;rw[bH om];rfl
 rintro a ⟨i,rfl,e1⟩;have kY:=apl (A:=A) (B:=B) (g:=g) (i:=i);have u9:=avR (A:=A) (B:=B) (g:=g) (i:=i);refine uR ?_;rw[bD,hl];refine bO rfl (λhc=>?_) (λhc=>?_);rotate_left
 .obtain rfl:i=A.length+B.length:=om;exact bk rfl
 have hi:i< (A++B).length:=om;obtain⟨x,hx⟩:∃x,(A++B)[i]=x:=⟨_,rfl⟩
 have hge:Op.bytesLess x.name.toList g.name.toList=decide (i<A.length):=by
  rw[jT,tF,decide_eq_true_iff];constructor
  .intro h;by_cases N2:i<A.length
   .exact N2
   .rw[yj om]at hx;have:=hB x (by rw[<-hx];exact cQ _);exact absurd (yh h this) (lq _)
  .intro h;rw[GH h]at hx;exact hA x (by rw[<-hx];exact cQ _)
 have hne:(x.name.toList==g.name.toList)=false:=by
  refine beq_false_of_ne λe=>?_
  by_cases N2:i<A.length
  .rw[GH N2]at hx;have:=hA x (by rw[<-hx];exact cQ _);rw[e]at this;exact lq _ this
  .rw[yj om]at hx;have:=hB x (by rw[<-hx];exact cQ _);rw[e]at this;exact lq _ this
 refine bz (λxs=>xs=[.b (decide (A.length<i+1)),.r ((jn A B g (i+1)).map bJ)]) ?_ ?_;rotate_left
 .rintro _ rfl;refine nW ?_;refine b8 (i:=i) rfl om (nW ?_);refine bk ⟨⟨i+1,rfl,om⟩,?_⟩;show A.length+B.length- ((i+1:Nat):Int).toNat<A.length+B.length-i;omega
 refine bz (λxs=>xs=[.b (decide (A.length<=i)),.r ((oA A B g i).map bJ)]) ?_ ?_
 .refine bz (c8 (i=A.length)) ?_ ?_
  .refine uR ?_;refine r6 rfl decide_eq_true_iff (λh=>?_) (λh=>bk (e7 om));refine bS (f:=bJ) (j:=i) rfl rfl hi rfl ?_;rw[hx];refine uR ?_;refine mq (l:=.b (!decide (i<A.length))) (by show some (L.b (!(Op.bytesLess x.name.toList g.name.toList)))=_;rw[hge]) (nW ?_);exact bk (qv om)
  .rintro _ ⟨t,rfl,ht⟩;refine nW ?_;refine iU rfl ht (λh=>?_) (λh=>?_)
   .refine uR ?_;refine er (r:=(oA A B g i).map bJ) (lO _) rfl (by show((jn A B g i).map bJ).length<=_;rw[bD];omega) (by show(1:Nat)<=_;omega) dc ?_ (nW ?_)
    .show(jn A B g i).map bJ++[bJ g]=_;unfold jn oA;rw[bH om,bA om,h,sO,fW,dE];rfl
    .refine bk ?_;rw[decide_eq_true (show A.length<=i by omega)];rfl
   .refine bk ?_;have e:jn A B g i=oA A B g i:=by
     unfold jn oA;by_cases h2:A.length<i
     .rw[bA h2,bA om]
     .rw[bH h2,bH om]
    show[L.b (decide (A.length<i)),L.r ((jn A B g i).map bJ)]=_;rw[e,decide_eq_decide.2 (show A.length<i↔A.length<=i by omega)]
 .rintro _ rfl;refine nW ?_;refine bS (f:=bJ) (j:=i) rfl rfl hi rfl ?_;rw[hx];refine uR ?_;refine mq (l:=.b true) (by show some (L.b (!(x.name.toList==g.name.toList)))=_;rw[hne];rfl) (nW ?_);refine fT rfl ?_;refine bS (f:=bJ) (j:=i) rfl rfl hi rfl ?_;rw[hx];refine uR ?_;refine er (r:=(jn A B g (i+1)).map bJ) (lO _) rfl (by show((oA A B g i).map bJ).length<=_;rw[bD];omega) (by show(1:Nat)<=_;omega) dc (by rw[<-ahP hi,hx];show List.map bJ (oA A B g i)++List.map bJ [x]=_;rw[<-dE]) (nW ?_);refine bk ?_;rw[decide_eq_decide.2 (show A.length<i+1↔A.length<=i by omega)];rfl
theorem Q9:okB []:=⟨λx a=>(by cases a),dc⟩
theorem afW{f}(p:dx f){j}(a:j<72)(h:f j=none):yy (dA (cM f)++[.s (nm j)])=some (.i 0::dA (cM (ch f j (some [])))):=by
 have c:=alf p;have hlen:(cM f).length<=72:=pZ f 72 0;obtain⟨e,q,t⟩:=Nf c.2 (zJ j);obtain rfl:e=0:=t.2 ⟨c.1,zK a,by show(-1:Int)≠0;omega⟩;have l:=H_ (d:=⟨0,-1,cM f⟩) (s:=nm j) (by show(cM f).length<=_;omega) (r:= -1) (λi u=>by obtain⟨v,o,_⟩:=u;rw[acy a h i v]at o;cases o) (λ_=>rfl);refine bF ?_;refine bm q rfl rfl (uR ?_);refine bR rfl oO ?_;refine bm l rfl rfl (uR ?_);refine bR rfl oO ?_;refine uR ?_;rw[bD];refine bR rfl om ?_;refine bm (Ei (.i 0) (cM f) om) rfl rfl (nW ?_);have w:(dL f j).length<=j:=pZ f j 0;have y:(jw f j).length<=71-j:=pZ f _ _;have g:=anH (.i 0) (.i (-1)) (dL f j) (jw f j) (fj j []) om
  (λx m=>by
   obtain⟨i,b,z,A,_,rfl⟩:=nz m;show(nm i).toList< (nm j).toList;rw[lP,lP];exact qP om a)
  (λx m=>by
   obtain⟨i,b,z,A,_,rfl⟩:=nz m;show(nm j).toList< (nm i).toList;rw[lP,lP];exact qP om om)
 rw[<-TK a h]at g;refine bm g rfl rfl (nW ?_);refine bk ?_;rw[UW a];rfl
theorem acX{f}(m:dx f){j}(g:j<72){b}(h:f j=some b):yy (dA (cM f)++[.s (nm j)])=some [.i 7,.i 0,.i 0,.r []]:=by
 have o:=sX g (m j b h);have a:=DZ m o;have hlen:=y6 f g (fj j b);rw[yk g h];obtain⟨e,q,t⟩:=Nf a.2 (zJ j);obtain rfl:e=0:=t.2 ⟨a.1,zK g,by show(-1:Int)≠0;omega⟩;have c:=Ln (f:=f) o;have l:=H_ (d:=Cs f j (fj j b)) (s:=nm j) (by show(ep f j _).length<=_;omega) (r:=(dL f j).length) (λi u=>by rw[u.uniq c]) (λv=>by obtain⟨w,p,_⟩:=c;rw[v _ w]at p;cases p);refine bF ?_;refine bm q rfl rfl (uR ?_);refine bR rfl oO ?_;refine bm l rfl rfl (uR ?_);refine cP rfl om ?_;exact bk rfl
theorem Rh(s:fu){b:List Nat}(a:okB b):n_ [.s s,.r (b.map b1),.r []]=some [.r (b.map b1)]:=
 (Ak (f:=⟨s,b.map b1,[]⟩) ⟨nN b,by show(b.map b1).length<=_;rw[bD];have:=a.2;omega,eM _,λw c=>by cases c⟩ (s:=s)).1 ⟨by show(b.map b1).length<=_;rw[bD];exact a.2,trivial⟩
def lE(j:Nat)(b x:List Nat):Fl:=⟨nm j,b.map b1,[⟨b.length,x.map b1,false⟩]⟩
theorem CS(b x:List Nat):gM (b.map b1) ⟨b.length,x.map b1,false⟩=(b++x).map b1:=by
 unfold gM;rw[bH (λh=>by cases h)];show((b.map b1)++List.replicate (b.length- (b.map b1).length) iD).take b.length++x.map b1++(b.map b1).drop (b.length+(x.map b1).length)=_;rw[bD,sO,List.replicate_zero,fW,eo (by rw[bD];omega),rl (by rw[bD,bD];omega),fW,dE]
theorem Rq{j}(c:j<72){b x}(a:okB b)(d:okB x)(h:(b++x).length<=1048576):qw j (lE j b x):=by
 have f:=a.2;have g:=d.2;refine⟨c,rfl,⟨by show(b.map b1).length<=_;rw[bD];exact a.2,⟨⟨by show(0:Int)<=(b.length:Int);omega,by show(b.length:Int)<=_;omega,λh=>by cases h.1⟩,?_,trivial⟩⟩,⟨nN b,by show(b.map b1).length<=_;rw[bD];omega,by show(1:Nat)<=_;omega,λw e=>?_⟩⟩
 .show(gM (b.map b1) ⟨b.length,x.map b1,false⟩).length<=_;rw[CS,bD];exact h
 .rw[jX.1 e];exact⟨nN x,by show(x.map b1).length<=_;rw[bD];omega⟩
theorem Qf{f j}{g h:Fl}:(ep f j g).set (dL f j).length h=ep f j h:=by
 unfold ep;rw[OG _ _ (de _),sO,OH]
theorem aaC{f j}(g:j<72){b x}(e:okB b)(i:okB x)(h:(b++x).length<=1048576):
 La (dA (ep f j (fj j b))++[.i (dL f j).length,.i b.length,.r (x.map b1),.b false])=some (.i 0::dA (ep f j (lE j b x))):=by
 have l:=e.2;have o:=i.2;have hlen:=y6 f g (fj j b);have hp:=Rq g e i h;rw[cD]at h;have d:=(Ak (f:=lE j b x) hp.hf (s:=nm j)).1 hp.hb;rw[show dm (lE j b x).base (lE j b x).bM=(b++x).map b1 from CS b x]at d;refine bF ?_;refine bS (f:=bJ) (j:=(dL f j).length) rfl rfl (nY f j _) rfl ?_;rw[zC];refine uR ?_;refine bm (Rh (nm j) e) rfl rfl (uR ?_);rw[bD,bD];refine dp (n:=(b.length:Int)+x.length) rfl om om (uR ?_);refine bR rfl om ?_;refine uR ?_;refine fc (a:=[]) (c:=x) rfl rfl (eM _) om (uR ?_);refine er (r:=[]) rfl rfl (by show(0:Nat)<=_;omega) (by show(0:Nat)<=_;omega) dc rfl (uR ?_);refine er (r:=[[.sc (.int .i64 b.length),.sl (x.map b1),.sc (.bool false)]]) rfl rfl (by show(0:Nat)<=_;omega) (by show(1:Nat)<=_;omega) dc rfl (nW ?_);refine nq (m:=b++x) d rfl rfl (uR ?_);rw[bD,cD];refine di (n:=x.length) (by show((b.length+x.length:Nat):Int) - (b.length:Int)=x.length;omega) om om (nW ?_);refine bz (λxs=>xs=[.b false]) ?_ ?_
 .refine uR ?_;refine bR rfl oO ?_;exact bk rfl
 rintro _ rfl;refine nW ?_;refine cn rfl ?_;refine bm (Ei (.i 0) (ep f j (fj j b)) om) rfl rfl (nW ?_);refine bS (f:=bJ) (j:=(dL f j).length) rfl rfl (nY f j _) rfl (nW ?_);refine uL (f:=bJ) (j:=(dL f j).length) (v:=lE j b x) rfl rfl (nY f j _) rfl rfl ?_;rw[Qf];refine nW ?_;exact bk rfl
theorem aak{f}(d:dx f){j}(c:j<72){b x}(e:f j=some b)(g:okB x)(h:(b++x).length<=1048576):
 IX (dA (cM f)++[.s (nm j),.r (x.map b1)])=some (.i 0::dA (ep f j (lE j b x))):=by
 have a:=d j b e;rw[yk c e];refine bF ?_;refine bm (G8 d (sX c a)) rfl rfl (uR ?_);refine bR rfl oO ?_;refine bS (f:=bJ) (j:=(dL f j).length) rfl rfl (nY f j _) rfl ?_;rw[zC];refine uR ?_;refine bm (Rh (nm j) a) rfl rfl (uR ?_);rw[bD];refine bm (aaC c a g h) rfl rfl (nW ?_);exact bk rfl
theorem akt{f}(d:dx f){j}(c:j<72){b x}(e:okB b)(g:okB x)(h:(b++x).length<=1048576):
 KU (dA (ep f j (lE j b x))++[.s (nm j)])=some (.i 0::dA (cM (ch f j (some (b++x))))):=by
 have hp:=Rq c e g h;have hlen:=y6 f c (lE j b x);have a:=(Ak (f:=lE j b x) hp.hf (s:=nm j)).1 hp.hb;rw[show dm (lE j b x).base (lE j b x).bM=(b++x).map b1 from CS b x]at a;rw[UW c];refine bF ?_;refine bm (G8 d hp) rfl rfl (uR ?_);refine bR rfl oO ?_;refine bm (Ei (.i 0) (ep f j (lE j b x)) om) rfl rfl (nW ?_);refine bS (f:=bJ) (j:=(dL f j).length) rfl rfl (nY f j _) rfl (nW ?_)
 repeat refine cK (f:=bJ) (l:=ep f j (lE j b x)) (j:=(dL f j).length) rfl rfl (nY f j _) (by rw[zC];rfl) rfl (nW ?_)
 refine bm a rfl rfl (nW ?_);refine bS (f:=bJ) (j:=(dL f j).length) rfl rfl (nY f j _) rfl (nW ?_);refine uL (f:=bJ) (j:=(dL f j).length) (v:=fj j (b++x)) rfl rfl (nY f j _) rfl rfl ?_;rw[Qf];refine nW ?_;exact bk rfl
def gg(f:Fs)(j:Nat):List Nat:=match f j with|some b=>b|none=>[]
theorem vx{f}(p:dx f){j}(q:j<72){x}(t:okB x)(h:(gg f j++x).length<=1048576)(u v w z A:L):
 qF (dA (cM f)++[u,v,w,z,A,.s (nm j),.r (x.map b1)])=some (dA (cM (ch f j (some (gg f j++x)))))/\qF (dA (cM f)++[u,v,w,z,A,.s (nm j),.r (x.map b1)])=some (dA (cM (ch f j (some (gg f j++x))))):=by
 obtain⟨d,g,B,C,D⟩:∃d:Fs,dx d/\d j=some (gg f j)/\(∃e,yy (dA (cM f)++[.s (nm j)])=some e/\((d=f/\e=[.i 7,.i 0,.i 0,.r []])\/e=.i 0::dA (cM d)))/\ch d j (some (gg f j++x))=ch f j (some (gg f j++x)):=by
  cases c:f j with
  |none=>
   refine⟨ch f j (some []),p.ch λy E=>by cases E;exact Q9,by rw[gj];unfold gg;rw[c],⟨_,afW p q c,.inr rfl⟩,?_⟩;funext i;by_cases e:i=j
   .subst e;rw[gj,gj]
   .rw[dv e,dv e,dv e]
  |some b=>exact⟨f,p,by unfold gg;rw[c],⟨_,acX p q c,.inl ⟨rfl,rfl⟩⟩,rfl⟩
 obtain⟨e,r,a⟩:=C;have s:okB (gg f j):=g j _ B;have m:=aak g q B t h;have o:=m;have l:=akt g q s t h;rw[D]at l;constructor
 .refine bF ?_;refine bz (λxs=>xs=dA (cM d)) ?_ ?_
  .rcases a with⟨rfl,rfl⟩|rfl
   .refine bm r rfl rfl (uR ?_);refine bR rfl oO ?_;exact bk rfl
   .refine bm r rfl rfl (uR ?_);refine cP rfl rfl ?_;exact bk rfl
  rintro _ rfl;refine nW ?_;refine bm m rfl rfl (nW ?_);refine bm l rfl rfl (nW ?_);exact bk rfl
 .refine bF ?_;refine bz (λxs=>xs=dA (cM d)) ?_ ?_
  .rcases a with⟨rfl,rfl⟩|rfl
   .refine bm r rfl rfl (uR ?_);refine bR rfl oO ?_;exact bk rfl
   .refine bm r rfl rfl (uR ?_);refine cP rfl rfl ?_;exact bk rfl
  rintro _ rfl;refine nW ?_;refine bm o rfl rfl (nW ?_);refine bm l rfl rfl (nW ?_);exact bk rfl
theorem amb{f}(d:dx f){j}(a:j<72){b}(e:f j=some b):Iw (dA (cM f)++[.s (nm j)])=some (.i 0::dA (cM (ch f j none))):=by
 have g:=sX a (d j b e);have hlen:=y6 f a (fj j b);have h:=nY f j (fj j b);rw[yk a e,aov a];have c:(ep f j (fj j b)).take (dL f j).length=dL f j:=by unfold ep;rw[GI]
 have iJ:(ep f j (fj j b)).drop ((dL f j).length+1)=jw f j:=by
  unfold ep;rw[show dL f j++fj j b::jw f j=(dL f j++[fj j b])++jw f j by simp];exact Ow (by simp)
 refine bF ?_;refine bm (G8 d g) rfl rfl (uR ?_);refine bR rfl oO ?_;refine bm (Ei (.i 0) (ep f j (fj j b)) om) rfl rfl (uR ?_);refine mc ⟨by show(0:Int)<=0;omega,by show(0:Int)<=((dL f j).length:Int);omega,by show(dL f j).length<=((ep f j (fj j b)).map bJ).length;rw[bD];omega,lV (lO _)⟩ (nW ?_);refine jy (ls:=[.r ((dL f j).map bJ)]) ?_ (nW ?_)
 .show some [L.r ((((ep f j (fj j b)).map bJ).drop 0).take (dL f j).length)]=_;rw[vh,<-lj,c]
 have i:(dL f j).length<=j:=pZ f j 0;have l:(jw f j).length<=71-j:=pZ f _ _;refine tO (r:=(dL f j).map bJ) rfl (lO _) (eM _) (by show((dL f j).map bJ).length<=_;rw[bD];omega) dc rfl (nW ?_);refine dp (n:=(((dL f j).length+1:Nat):Int)) rfl om om (uR ?_);rw[bD];refine mc ⟨by show(0:Int)<=(((dL f j).length+1:Nat):Int);omega,by show(((dL f j).length+1:Nat):Int)<=((ep f j (fj j b)).length:Int);omega,by show(ep f j (fj j b)).length<=((ep f j (fj j b)).map bJ).length;rw[bD];omega,lV (lO _)⟩ (nW ?_);refine jy (ls:=[.r ((jw f j).map bJ)]) ?_ (nW ?_)
 .show some [L.r ((((ep f j (fj j b)).map bJ).drop ((dL f j).length+1)).take ((ep f j (fj j b)).length- ((dL f j).length+1)))]=_;rw[<-nR,iJ,eo];rw[bD,<-iJ,mh];omega
 refine tO (r:=(dL f j++jw f j).map bJ) (lO _) (lO _) (by show((dL f j).map bJ).length<=_;rw[bD];omega) (by show((jw f j).map bJ).length<=_;rw[bD];omega) dc (by show(dL f j).map bJ++(jw f j).map bJ=_;rw[<-dE]) (nW ?_);exact bk rfl
theorem asH{f}(d:dx f){j}(c:j<72){b}(e:f j=some b):y8 (dA (cM f)++[.s (nm j)])=some [.r (b.map b1),.i 0]:=by
 have g:=sX c (d j b e);have a:=DZ d g;rw[yk c e];refine(aug a.2 (zJ j)).1 _ ⟨a.1,zK c,(by show(-1:Int)≠0;omega),_,Ln g,?_⟩;show _=dm ((ep f j (fj j b))[(dL f j).length]'_).base ((ep f j (fj j b))[(dL f j).length]'_).bM;rw[zC];rfl
def lC(j:Nat):List UInt8:=kT (j/2)++cond (Nat.beq (j%2) 1) [46,116,109,112] []
def eU(j:Nat):fu:=⟨(lC j).toArray⟩
theorem lQ(j):(eU j).toList=lC j:=by rw[Lib.toList_data];rfl
theorem QB(j:Nat):eU (2*j)=nm j:=by
 unfold eU nm lC;rw[show 2*j/2=j by omega,show 2*j%2=0 by omega];show ByteArray.mk (kT j++[]).toArray=_;rw[fW]
theorem ajK:(List.range 144).all (λj=>(lC j).all λc=>Dp c.toNat)=true:=kr
theorem ajF:(List.range 143).all (λj=>Op.bytesLess (lC j) (lC (j+1)))=true:=kr
theorem JN(j):1<=(lC j).length/\(lC j).length<=13:=by
 have:=EG (j/2);unfold lC;rw[cD]
 cases Nat.beq (j%2) 1 with
 |true=>show 1<=_+4/\_+4<=13;omega
 |false=>show 1<=_+0/\_+0<=13;omega
theorem L_(j):(eU j).size=(lC j).length:=by
 show(lC j).toArray.size=_;rw[kD]
theorem Kh(j):(eU j).size<=4611686018427387904:=by
 have:=JN j;rw[L_];omega
theorem Kj{j}(a:j<144):fP (eU j):=by
 refine⟨λi b h=>?_,?_,?_⟩
 .rw[chars]at h;have c:b∈lC j:=eb h;have d:=cz.1 (cz.1 ajK j (jr.2 a)) b c;simp only[Dp,oX,cu,Nat.ble_eq,Nat.beq_eq]at d;unfold ko;omega
 .rw[L_];exact(JN j).1
 .rw[L_];have:=(JN j).2;omega
theorem qQ:∀{b a:Nat},a<b->b<144->lC a<lC b
 |0,_,h,_=>om
 |b+1,a,h,d=>by
  have c:=(tF _ _).1 (cz.1 ajF b (jr.2 om));by_cases e:a=b
  .subst e;exact c
  .exact yh (qQ (b:=b) om om) c
theorem ayj{a b}(h:a≠b)(c:a<144)(d:b<144):((eU a).toList==(eU b).toList)=false:=by
 rw[lQ,lQ];rcases OI h with h|h
 .exact beq_false_of_ne λe=>by have:=qQ h d;rw[e]at this;exact lq _ this
 .exact beq_false_of_ne λe=>by have:=qQ h c;rw[e]at this;exact lq _ this
def o5(j:Nat)(b:List Nat):Fl:=⟨eU j,b.map b1,[]⟩
def fJ(f:Fs):Nat->Nat->List Fl
 |_,0=>[]
 |lo,n+1=>(match f lo with|some b=>[o5 lo b]|none=>[])++fJ f (lo+1) n
theorem vl(f):∀n lo,(fJ f lo n).length<=n
 |0,_=>de 0
 |n+1,lo=>by
  have:=vl f n (lo+1);rw[fJ,cD]
  cases f lo with
  |none=>simp only[jH];omega
  |some b=>simp only[GC];omega
theorem lH{f x}:∀{n lo},x∈fJ f lo n->∃j b,lo<=j/\j<lo+n/\f j=some b/\x=o5 j b
 |0,_,h=>by cases h
 |n+1,lo,h=>by
  rw[fJ]at h;rcases gI.1 h with h|h
  .cases a:f lo with
   |none=>rw[a]at h;cases h
   |some b=>rw[a]at h;exact⟨lo,b,om,om,a,jX.1 h⟩
  .obtain⟨j,b,e,g,c,d⟩:=lH h;exact⟨j,b,om,om,c,d⟩
theorem E4(f):∀m n lo,fJ f lo (m+n)=fJ f lo m++fJ f (lo+m) n
 |0,n,lo=>by rw[jV,lh];rfl
 |m+1,n,lo=>by
  rw[show m+1+n=(m+n)+1 by omega,fJ,fJ,E4 f m n (lo+1),dI,show lo+1+m=lo+(m+1)by omega]
theorem zu{f g:Fs}:∀{n lo},(∀j,lo<=j->j<lo+n->f j=g j)->fJ f lo n=fJ g lo n
 |0,_,_=>rfl
 |n+1,lo,h=>by
  rw[fJ,fJ,h lo om om,zu (n:=n) (lo:=lo+1) λj a b=>h j om om]
def jg(f:Fs)(j:Nat):List Fl:=fJ f 0 j
def ji(f:Fs)(j:Nat):List Fl:=fJ f (j+1) (143-j)
def dj(f:Fs):List Fl:=fJ f 0 144
theorem Pf{f j}(a:j<144):dj f=jg f j++((match f j with|some b=>[o5 j b]|none=>[])++ji f j):=by
 unfold dj jg ji;rw[show(144:Nat)=j+((143-j)+1)by omega,E4,jV,fJ]
theorem Wm{f j b}:jg (ch f j b) j=jg f j:=zu λi _ h=>dv om
theorem XC{f j b}:ji (ch f j b) j=ji f j:=zu λi h _=>dv om
abbrev kl(f:Fs)(j:Nat)(g:Fl):List Fl:=jg f j++g::ji f j
theorem xn{f j b}(a:j<144)(h:f j=some b):dj f=kl f j (o5 j b):=by rw[Pf a,h];rfl
theorem Cr{f j}(a:j<144)(h:f j=none):dj f=jg f j++ji f j:=by rw[Pf a,h];rfl
theorem Nk{f j b}(a:j<144):dj (ch f j (some b))=kl f j (o5 j b):=by
 rw[xn a gj,kl,kl,Wm,XC]
theorem anp{f j}(a:j<144):dj (ch f j none)=jg f j++ji f j:=by
 rw[Cr a gj,Wm,XC]
structure qC(j:Nat)(g:Fl):Prop where
 hj:j<144
 hn:g.name=eU j
 hb:okF g.base g.bM
 hf:jb g
theorem rF{j}(c:j<144){b}(a:okB b):qC j (o5 j b):=
 ⟨c,rfl,⟨by show(b.map b1).length<=_;rw[bD];exact a.2,trivial⟩,nN b,by show(b.map b1).length<=_;rw[bD];have:=a.2;omega,eM _,λw d=>by cases d⟩
theorem acf{f}(d:dx f){j g}(a:qC j g){x}(e:x∈kl f j g):∃i,qC i x:=by
 rcases gI.1 e with h|h
 .obtain⟨i,b,l,m,c,rfl⟩:=lH h;exact⟨i,rF (by have:=a.hj;omega) (d i b c)⟩
 .rcases eG.1 h with rfl|h
  .exact⟨j,a⟩
  .obtain⟨i,b,l,m,c,rfl⟩:=lH h;exact⟨i,rF (by have:=a.hj;omega) (d i b c)⟩
theorem ali(f){j}(a:j<144)(g):(kl f j g).length<=144:=by
 have b:=vl f j 0;have c:=vl f (143-j) (j+1);show(jg f j++g::ji f j).length<=144;unfold jg ji;rw[cD,gy];omega
abbrev Tv(f:Fs)(j:Nat)(g:Fl):Dk:=⟨0,-1,kl f j g⟩
theorem Cn(f):∀n lo,lo+n<=144->(fJ f lo n).Pairwise λx y=>x.name.toList<y.name.toList
 |0,_,_=>List.Pairwise.nil
 |n +1,lo,h=>by
  rw[fJ];refine GG.2 ⟨?_,Cn f n (lo+1) om,λx a y e=>?_⟩
  .cases f lo with
   |none=>exact List.Pairwise.nil
   |some b=>exact ZZ _ _
  .obtain⟨j,b,g,i,_,rfl⟩:=lH e
   cases d:f lo with
   |none=>rw[d]at a;cases a
   |some c=>
    rw[d]at a;rw[jX.1 a];show(eU lo).toList< (eU j).toList;rw[lQ,lQ];exact qQ om om
theorem ahL{f j g}(d:qC j g):(kl f j g).Pairwise λx y=>x.name.toList<y.name.toList:=by
 have m:=d.hj;refine GG.2 ⟨Cn f j 0 om,gK.2 ⟨λy a=>?_,Cn f _ _ om⟩,λx e y a=>?_⟩
 .obtain⟨i,b,h,l,_,rfl⟩:=lH a;rw[d.hn];show(eU j).toList< (eU i).toList;rw[lQ,lQ];exact qQ om om
 .obtain⟨i,b,h,l,_,rfl⟩:=lH e;show(eU i).toList<_;rcases eG.1 a with rfl|a
  .rw[d.hn,lQ,lQ];exact qQ om om
  .obtain⟨k,c,o,p,_,rfl⟩:=lH a;show _< (eU k).toList;rw[lQ,lQ];exact qQ om om
theorem Sw{l:List Fl}(f:l.length<=144)(c:∀x∈l,∃i,qC i x)(d:l.Pairwise λx y=>x.name.toList<y.name.toList):iw ⟨0,-1,l⟩/\kc ⟨0,-1,l⟩:=by
 refine⟨⟨⟨by show(0:Int)<=0;omega,by show(-1:Int)<=-1;omega,by show l.length<=256;omega⟩,λi b=>?_⟩,⟨by show l.length<=_;omega,λx e=>?_⟩⟩
 .obtain⟨k,a⟩:=c _ (cQ b);refine⟨⟨by show fP (l[i]).name;rw[a.hn];exact Kj a.hj,a.hb⟩,λg=>?_⟩;exact WO (kE.1 d (i-1) i (by have:i<l.length:=b;omega) b om)
 .obtain⟨k,a⟩:=c x e;exact⟨a.hf,by rw[a.hn];exact Kh k⟩
theorem T6{f}(b:dx f){j g}(a:qC j g):iw (Tv f j g)/\kc (Tv f j g):=
 Sw (ali f a.hj g) (λ_ c=>acf b a c) (ahL a)
theorem Vg{f}(a:dx f):iw ⟨0,-1,dj f⟩/\kc ⟨0,-1,dj f⟩:=
 Sw (vl f 144 0) (λx c=>by obtain⟨i,b,_,e,d,rfl⟩:=lH c;exact⟨i,rF om (a i b d)⟩) (Cn f 144 0 om)
theorem K0{e:Fs}(a:dx e){J g}(b:qC J g):jB (kl e J g):=⟨(T6 a b).1,(T6 a b).2⟩
theorem iX{e:Fs}(a:dx e):jB (dj e):=⟨(Vg a).1,(Vg a).2⟩
theorem V8(e:Fs){J}(c:J<144):uf (jg e J) (ji e J) (eU J):=by
 refine⟨Kj c,Kh J,λx a=>?_,λx a=>?_⟩
 .obtain⟨i,b,d,f,_,rfl⟩:=lH a;show(eU i).toList< (eU J).toList;rw[lQ,lQ];exact qQ om c
 .obtain⟨i,b,d,f,_,rfl⟩:=lH a;show(eU J).toList< (eU i).toList;rw[lQ,lQ];exact qQ om om
theorem wY{e:Fs}(b:dx e){J g}(a:qC J g):kM (jg e J) g (ji e J) (eU J):=⟨Kj a.hj,Kh J,K0 b a,a.hn⟩
theorem akB{e:Fs}{J b}:∀x∈kl e J (o5 J b),x.bM=[]:=λx a=>by
 rcases gI.1 a with h|h
 .obtain⟨j,b,_,_,_,rfl⟩:=lH h;rfl
 .rcases eG.1 h with rfl|h
  .rfl
  .obtain⟨j,b,_,_,_,rfl⟩:=lH h;rfl
theorem arK{e:Fs}(c:dx e){J}(b:J<144)(h:e J=none):Hl (dA (dj e)++[.s (eU J)])=some (.i 0::dA (dj (ch e J (some [])))):=by
 have d:(dj e).length<=144:=vl e 144 0;have a:=iX c;rw[Cr b h]at d a;have:=anm (V8 e b) a om;rw[Cr b h,this,Nk b];rfl
theorem avf{e:Fs}(c:dx e){J}(a:J<144){b}(h:e J=some b):AD (dA (dj e)++[.s (eU J)])=some (.i 0::dA (dj (ch e J none))):=by
 have:=adj (wY c (rF a (c J b h)));rw[xn a h,this,anp a]
def kI(J:Nat)(x:List Nat):Fl:=⟨eU J,[],[⟨0,x.map b1,false⟩]⟩
theorem TB(J)(x:List Nat):dm (kI J x).base (kI J x).bM=x.map b1:=by
 have:=CS [] x;rw[lp]at this;exact this
theorem DK{J}(a:J<144){x:List Nat}(b:okB x):qC J (kI J x):=by
 have c:=b.2;refine⟨a,rfl,⟨eM _,⟨⟨by show(0:Int)<=0;omega,by show(0:Int)<=_;omega,λh=>by cases h.1⟩,?_,trivial⟩⟩,⟨rfl,eM _,by show(1:Nat)<=_;omega,λw d=>?_⟩⟩
 .show(dm (kI J x).base (kI J x).bM).length<=_;rw[TB,bD];exact c
 .rw[jX.1 d];exact⟨nN x,by show(x.map b1).length<=_;rw[bD];omega⟩
def BL(e:Fs)(J:Nat)(x:List Nat):List (List PV):=(jg e J).map fw++bJ (kI J x)::(ji e J).map fw
theorem ahq{e:Fs}(c:dx e){J}(a:J<144)(h:e J=some []){x}(d:okB x):Df (dA (dj e)++[.s (eU J),.r (x.map b1)])=some [.i 0,.i 0,.i (-1),.r (BL e J x)]:=by
 have hp:=DK a d;have:=adM (b:=x.map b1) (wY c (rF a (c J [] h))) akB ⟨hp.hb,hp.hf⟩ (by rw[bD];exact d.2);rw[xn a h,this];rfl
theorem aya{e:Fs}(m:dx e){J}(o:J<144){x}(p:okB x){a b}:ti [a,b,.r (BL e J x)]=some [.r ((kl e J (kI J x)).map bJ)]:=by
 have c:=K0 m (DK o p);obtain⟨g,f⟩:∃g:Fl->List PV,g=λy=>if y.bM.isEmpty=true then fw y else bJ y:=⟨_,rfl⟩
 have i:∀y:Fl,y.bM=[]->g y=fw y:=λy d=>by rw[f];show ite _ _ _=_;rw[d];exact bA rfl
 have l:∀lo n,(fJ e lo n).map fw=(fJ e lo n).map g:=λlo n=>gz λy d=>by
  obtain⟨j,b,_,_,_,rfl⟩:=lH d;exact(i _ rfl).symm
 have q:BL e J x=(kl e J (kI J x)).map g:=by
  rw[ug];show(jg e J).map fw++bJ (kI J x)::(ji e J).map fw=_;rw[show(jg e J).map fw=(jg e J).map g from l _ _,show(ji e J).map fw=(ji e J).map g from l _ _];have r:g (kI J x)=bJ (kI J x):=by rw[f];exact bH (show¬false=true by decide)
  rw[r]
 rw[q];refine SY (λy d=>?_) (by have:=c.len;omega) c.pn;by_cases h:y.bM=[]
 .exact .inr ⟨h,i y h⟩
 .refine .inl ?_;rw[f];show ite _ _ _=_;rw[bH (by rw[Ou];exact h)]
theorem o9{l:List Fl}(h:jB l){a b}:ti [a,b,.r (l.map bJ)]=some [.r (l.map bJ)]:=SY (λ_ _=>.inl rfl) (by have:=h.len;omega) h.pn
theorem auc{e:Fs}(b:dx e){J}(a:J<144){x}(c:okB x):MD (dA (kl e J (kI J x))++[.s (eU J)])=some (.i 0::dA (dj (ch e J (some x)))):=by
 have:=aAm (wY b (DK a c));rw[TB]at this;rw[this,Nk a];rfl
theorem UB{e:Fs}(d:dx e){j}(t:j<72){b}(h:e (2*j+1)=some b)(l:e (2*j)=none):E3 (dA (dj e)++[.s (eU (2*j+1)),.s (eU (2*j))])=some (.i 0::dA (dj (ch (ch e (2*j+1) none) (2*j) (some b)))):=by
 have m:2*j+1<144:=om;have a:2*j<144:=om;have f:dx (ch e (2*j+1) none):=d.ch λx r=>by cases r
 have g:ch e (2*j+1) none (2*j)=none:=by rw[dv om];exact l
 have o:=V8 (ch e (2*j+1) none) a;have p:jg (ch e (2*j+1) none) (2*j)=jg e (2*j+1):=by
  unfold jg;rw[E4 e (2*j) 1 0,jV,show fJ e (2*j) 1=[]by rw[fJ,fJ,l];rfl,fW];exact zu λi _ s=>dv om
 have q:ji (ch e (2*j+1) none) (2*j)=ji e (2*j+1):=by
  unfold ji;rw[show 143-2*j=1+(143- (2*j+1))by omega,E4,show fJ (ch e (2*j+1) none) (2*j+1) 1=[]by rw[fJ,fJ,gj];rfl,lp];exact zu λi s _=>dv om
 have c:=iX f;rw[Cr a g]at c;rw[p,q]at o c;have:=ain (wY d (rF m (d _ b h))) o c;rw[xn m h,this,Nk a];show _=some (L.i 0::dA (jg (ch e (2*j+1) none) (2*j)++o5 (2*j) b::ji (ch e (2*j+1) none) (2*j)));rw[p,q];rfl
theorem aAc{e:Fs}{J}(c:J<144)(h:e J=none):Fz [.r ((dj e).map ow),.s (eU J)]=some [.b false]:=by
 have f:(dj e).length<=144:=vl e 144 0;refine adI om λx d=>?_
 obtain⟨i,b,g,j,a,rfl⟩:=lH d;exact ayj (λq=>by subst q;rw[h]at a;cases a) om c
theorem agu{e:Fs}(a:dx e){J}(c:J<144){b}(h:e J=some b):Fg (dA (dj e)++[.s (eU J)])=some [.i b.length,.i 0]:=by
 have:=aeL (wY a (rF c (a J b h)));rw[xn c h,this];show some [L.i ((b.map b1).length:Nat),L.i 0]=_;rw[bD]
theorem acC{e:Fs}(a:dx e){J}(c:J<144){b}(h:e J=some b):r_ (dA (dj e)++[.s (eU J),.i 0,.i b.length])=some [.i 0,.r (b.map b1)]:=by
 have:=auZ (wY a (rF c (a J b h))) (n:=b.length) (by show _=(b.map b1).length;rw[bD]);rw[xn c h,this];rfl
def j_(f:Fs):Fs:=λj=>if j%2=0 then f (j/2)else none
theorem uk(f:Fs)(j):j_ f (2*j)=f j:=by unfold j_;rw[bA om,show 2*j/2=j by omega]
theorem DU(f:Fs)(j):j_ f (2*j+1)=none:=bH om
theorem Wp(f:Fs):∀n lo,fJ (j_ f) (2*lo) (2*n)=gP f lo n
 |0,_=>rfl
 |n+1,lo=>by
  rw[show 2*(n+1)=(2*n+1)+1 by omega,fJ,fJ,gP,uk,DU,show 2*lo+1+1=2*(lo+1)by omega,Wp f n (lo+1)]
  cases f lo with
  |none=>rfl
  |some b=>
   show[o5 (2*lo) b]++([]++_)=[fj lo b]++_;unfold o5 fj;rw[QB];rfl
theorem w6(f:Fs):dj (j_ f)=cM f:=Wp f 72 0
theorem dx.j_{f:Fs}(h:dx f):dx (j_ f):=λj b a=>by
 unfold Go.Proofs.YtiikkkhcolcebaaGreatDoor.j_ at a;split at a
 .exact h _ b a
 .cases a
end
section
open Go.RowKit AI
attribute [local irreducible] bl.wp
def Wy:=rG TC [(336,JJ)]
theorem Vh:Gk Wy xh:=rK [(336,xe)] ⟨cH rfl VH,trivial⟩
theorem amA:(List.range 112).all (λj=>wu (Wy [.i 1,.i (j%8+1:Nat),.i (j/8%7:Nat),.b (Nat.beq (j/56) 1)]) [.s (eU (2*(9*(j%8)+(2+j/8%7))+j/56))])=true:=kr
theorem Pm{n k t:Nat}(a:n<8)(b:k<7)(c:t<2):xh [.i 1,.i (n+1:Nat),.i k,.b (Nat.beq t 1)]=some [.s (eU (2*(9*n+(2+k))+t))]:=by
 have:=Vh _ _ (sb (cz.1 amA _ (jr.2 (show t*56+k*8+n<112 by omega))))
 rwa [show(t*56+k*8+n)%8=n by omega,show(t*56+k*8+n) /8%7=k by omega,show(t*56+k*8+n) /56=t by omega]at this
theorem WL{n:Nat}(a:n<8):r4 [.i 1,.i 1,.i (n+1:Nat)]=some [.s (eU (2*(9*n)))]:=by
 rw[QB];exact ara (t:=0) a dc dc
section
variable{d0 d1 d2 s1 s2 s3 v7 v9 v10 v11 v12 v13 v14 v15 v16 v17 v18 v19 v20 v21:L}{n k:Nat}
theorem vz(a:n<8)(b:k<7):sY [d0,d1,d2,.i 1,s1,s2,s3,v7,.i (n+1:Nat),v9,v10,v11,v12,v13,v14,v15,v16,v17,v18,v19,v20,v21,.i k,.b true]=some [.s (eU (2*(9*n+(2+k))+1))]:=by
 refine bF ?_;refine bm (Pm (t:=1) a b dc) rfl rfl (nW ?_);exact bk rfl
theorem QZ(a:n<8)(b:k<7):sY [d0,d1,d2,.i 1,s1,s2,s3,v7,.i (n+1:Nat),v9,v10,v11,v12,v13,v14,v15,v16,v17,v18,v19,v20,v21,.i k,.b false]=some [.s (eU (2*(9*n+(2+k))))]:=by
 refine bF ?_;refine bm (Pm (t:=0) a b dc) rfl rfl (nW ?_);exact bk rfl
end
end
section
open Go.RowKit Pl AI
open Classical
attribute [local irreducible] bl.wp
theorem lM{b p q r:List Nat}{a c}(e:b=p++(q++r))(d:p.length=a)(f:a+q.length=c):fe b a c=q:=by
 subst e d f;unfold fe;rw[List.drop_take,List.drop_left,show p.length+q.length-p.length=q.length by omega,GI]
theorem abC{a g r}(h:0<=a/\a<4/\1<=g/\g<=8/\0<=r/\r<4294967296){x}(i:B8 x)(s:x.length<=2097152):H7 [.r ((gA a g r++x).map b1)]=some [.i 0,.i a,.i g,.i r]:=by
 obtain⟨b,d⟩:∃b,gA a g r++x=b:=⟨_,rfl⟩
 have e:b=[78,86,79,76]++(num a 2++(num g 2++(num r 4++(eH (ec a g r)++x)))):=by rw[<-d];simp[gA,gb,ec]
 have f:=dY a 2;have j:=dY g 2;have u:=dY r 4;have c1:fe b 0 4=[78,86,79,76]:=lM (p:=[]) e rfl rfl;have c2:fe b 4 6=num a 2:=lM e rfl om;have c3:fe b 6 8=num g 2:=lM (p:=[78,86,79,76]++num a 2) (by rw[e,<-dI]) (by rw[cD,f];rfl) om;have c4:fe b 8 12=num r 4:=lM (p:=[78,86,79,76]++num a 2++num g 2) (by rw[e,<-dI,<-dI]) (by rw[cD,cD,f,j];rfl) om;have c5:fe b 0 12=ec a g r:=lM (p:=[]) (r:=eH (ec a g r)++x) (by rw[e];simp[ec]) rfl (by rw[rz]);have c6:fe b 12 16=eH (ec a g r):=lM (p:=ec a g r) (r:=x) (by rw[e];simp[ec]) (rz _ _ _) rfl;have v:B8 b:=by rw[<-d];exact gu (tS _ _ _) i
 have m:b.length=16+x.length:=by rw[<-d,cD,pz]
 have o:=λp q=>arb b p q
 rw[d];refine bF ?_;refine uR ?_;rw[bD];refine bR rfl om ?_;refine uR ?_;refine lT (a:=0) (c:=4) rfl rfl rfl om om ?_;show bl.wp _ (_++[L.r ((fe b 0 4).map b1)]) _;rw[c1];refine nW ?_;refine Bv (l:=[78,86,79,76]) rfl (nW ?_);refine GU (a:=[78,86,79,76]) (b:=[78,86,79,76]) (t:=false) rfl (by rfl) (by unfold B8;decide) (by unfold B8;decide) (by simp) (nW ?_);refine cn rfl ?_;refine uR ?_;refine lT (a:=0) (c:=12) rfl rfl rfl om om ?_;show bl.wp _ (_++[L.r ((fe b 0 12).map b1)]) _;rw[c5];refine nW ?_;refine bm (xm (ec a g r) (by rw[rz];omega)) rfl rfl (nW ?_);refine Bv rfl (uR ?_);refine lT (a:=12) (c:=16) rfl rfl rfl om om ?_;show bl.wp _ (_++[L.r ((fe b 12 16).map b1)]) _;rw[c6];refine nW ?_;refine Bv rfl (nW ?_);refine GU (a:=eH (ec a g r)) (b:=eH (ec a g r)) (t:=false) rfl rfl (Kx _) (Kx _) (by simp) (nW ?_);refine cn rfl ?_;refine uR ?_;refine lT (a:=4) (c:=6) rfl rfl rfl om om ?_;show bl.wp _ (_++[L.r ((fe b 4 6).map b1)]) _;rw[c2];refine nW ?_;refine bm (KY _ (gC a 2) om) rfl rfl (nW ?_);refine pL (n:=a) (EX a 2 om om (by show a<65536;omega)) om om (uR ?_);refine lT (a:=6) (c:=8) rfl rfl rfl om om ?_;show bl.wp _ (_++[L.r ((fe b 6 8).map b1)]) _;rw[c3];refine nW ?_;refine bm (KY _ (gC g 2) om) rfl rfl (nW ?_);refine pL (n:=g) (EX g 2 om om (by show g<65536;omega)) om om (uR ?_);refine lT (a:=8) (c:=12) rfl rfl rfl om om ?_;show bl.wp _ (_++[L.r ((fe b 8 12).map b1)]) _;rw[c4];refine nW ?_;refine bm (KY _ (gC r 4) om) rfl rfl (nW ?_);refine pL (n:=r) (EX r 4 om om (by show r<4294967296;omega)) om om (nW ?_);refine bm (K7 a g r (b:=true) ⟨λ_=>h,λ_=>rfl⟩) rfl rfl (uR ?_);refine cn rfl ?_;exact bk rfl
def gw(x:It):List Nat:=num x.key 8++num x.cookie 4++num x.off 4++num x.size 4
def fX(l:List It):List Nat:=l.flatMap λx=>gb (gw x)
theorem IW(x):(gw x).length=20:=by simp[gw,dY]
theorem atq(x):B8 (gw x):=gu (gu (gu (gC _ _) (gC _ _)) (gC _ _)) (gC _ _)
theorem Q1(x)(l):fX (x::l)=gb (gw x)++fX l:=by simp[fX]
theorem v8:∀l,(fX l).length=24*l.length
 |[]=>rfl
 |x::l=>by
  rw[Q1,cD,rE,IW,v8 l,gy];omega
theorem PA:∀l,B8 (fX l)
 |[]=>λx a=>by cases a
 |x::l=>by rw[Q1];exact gu (qH (atq x)) (PA l)
def sh(x:It):Prop:=0<=x.key/\x.key<18446744073709551616/\0<=x.cookie/\x.cookie<4294967296
def iQ(c:Nat->Int)(i:Nat):List Nat:=(List.range i).flatMap λk=>num (c k) 4
theorem CQ(c)(i):iQ c (i+1)=iQ c i++num (c i) 4:=by unfold iQ;rw[Gy,ZY];simp
theorem vJ(c):∀i,(iQ c i).length=4*i
 |0=>rfl
 |i+1=>by rw[CQ,cD,vJ c i,dY];omega
theorem Sy(c):∀i,B8 (iQ c i)
 |0=>λx a=>by cases a
 |i+1=>by rw[CQ];exact gu (Sy c i) (gC _ _)
def lI(a g r n:Int)(c:Nat->Int)(l:List It):List Nat:=[78,73,68,88]++num a 2++num g 2++num r 4++num n 8++iQ c 6++num l.length 4++fX l
def jA(a g r n:Int)(c:Nat->Int)(l:List It):List Nat:=gb (lI a g r n c l)
theorem yC(a g r n)(c)(l):(lI a g r n c l).length=48+24*l.length:=by simp[lI,dY,vJ,v8];omega
theorem FA(a g r n)(c)(l):B8 (lI a g r n c l):=gu (gu (gu (gu (gu (gu (gu (by unfold B8;decide) (gC _ _)) (gC _ _)) (gC _ _)) (gC _ _)) (Sy _ _)) (gC _ _)) (PA l)
end
section
open Go.RowKit Pl AI
attribute [local irreducible] bl.wp
theorem O_(l)(x):fX (l++[x])=fX l++gb (gw x):=by simp[fX]
theorem axz{l:List It}(hv:VL l)(hE:∀x∈l,sh x)(hl:l.length<=1000):LL [.r (l.map bt)]=some [.i 0,.r ((fX l).map b1)]:=by
 refine bF ?_;refine bm (Iq l om (jt hv)) rfl rfl (uR ?_);refine cn rfl ?_;refine bz (λxs=>xs=[.r ((fX l).map b1)]) ?_ (by rintro _ rfl;refine nW ?_;exact bk rfl);refine wp_loop (I:=λa=>∃i:Nat,a=[.i i,.r ((fX (l.take i)).map b1)]/\i<=l.length) (mu:=λa=>match a with|[.i i,_]=>l.length-i.toNat|_=>0) ⟨0,rfl,om⟩ ?_;rintro a ⟨i,rfl,e1⟩;refine uR ?_;rw[bD];refine bO rfl (λhc=>?_) (λhc=>?_);rotate_left
 .refine bk ?_;show[L.r ((fX (l.take i)).map b1)]=_;rw[eo om]
 have hi:i<l.length:=om;have hx:=hE _ (cQ hi);have hb:=yU (hv.2 _ (cQ hi));have A6:=v8 (l.take i);rw[dz]at A6;have kZ:=fi hi;obtain⟨x,sL⟩:∃x,l[i]=x:=⟨_,rfl⟩
 rw[sL]at hx hb kZ;obtain⟨h1,h2,h3,h4⟩:=hx;have l1:=dY x.key 8;have l2:=dY x.cookie 4;have l3:=dY x.off 4;have l4:=dY x.size 4;refine bS (f:=bt) (j:=i) rfl rfl hi rfl ?_;rw[sL];refine uR ?_;refine bm (jP x.key 8 om om) rfl rfl (nW ?_);refine bS (f:=bt) (j:=i) rfl rfl hi rfl ?_;rw[sL];refine uR ?_;refine gE (n:=x.cookie) rfl om om (nW ?_);refine bm (jP x.cookie 4 om om) rfl rfl (nW ?_);refine fc (a:=num x.key 8) (c:=num x.cookie 4) rfl rfl om om (nW ?_);refine bS (f:=bt) (j:=i) rfl rfl hi rfl ?_;rw[sL];refine uR ?_;refine gE (n:=x.off) rfl om om (nW ?_);refine bm (jP x.off 4 om om) rfl rfl (nW ?_);refine fc (a:=num x.key 8++num x.cookie 4) (c:=num x.off 4) rfl rfl (by rw[cD];omega) om (nW ?_);refine bS (f:=bt) (j:=i) rfl rfl hi rfl ?_;rw[sL];refine uR ?_;refine gE (n:=x.size) rfl om om (nW ?_);refine bm (jP x.size 4 om om) rfl rfl (nW ?_);refine fc (a:=num x.key 8++num x.cookie 4++num x.off 4) (c:=num x.size 4) rfl rfl (by rw[cD,cD];omega) om ?_;show bl.wp _ (_++[L.r ((gw x).map b1)]) _;have jE:=IW x;refine nW ?_;refine fc (a:=fX (l.take i)) (c:=gw x) rfl rfl om om (nW ?_);refine nq (m:=eH (gw x)) (xm (gw x) om) rfl rfl (nW ?_);refine fc (a:=fX (l.take i)++gw x) (c:=eH (gw x)) rfl rfl (by rw[cD];omega) (by rw[qk];omega) (nW ?_);refine b8 (i:=i) rfl om (nW ?_);refine bk ⟨⟨i+1,?_,om⟩,?_⟩
 .rw[kZ,O_];show[L.i _,L.r ((fX (l.take i)++gw x++eH (gw x)).map b1)]=[L.i _,L.r ((fX (l.take i)++(gw x++eH (gw x))).map b1)]
  rw[dI]
 .show l.length- ((i+1:Nat):Int).toNat<l.length-i;omega
abbrev cA(c:Nat->Int):List L:=[.i (c 0),.i (c 1),.i (c 2),.i (c 3),.i (c 4),.i (c 5)]
theorem TF{c:Nat->Int}{i:Nat}(g:i<6){a b d e:L}{f Q k xs}{x:At}(h:(x.ev (a::b::d::e::(cA c++f))).br=i)(j:k.wp (a::b::d::e::(cA c++f)++[.i (c i)]) Q)(l:xs=w 4 6:=by rfl):(bl.op (.gk xs x) k).wp (a::b::d::e::(cA c++f)) Q:=by
 subst l;have:∃y:At,(w 4 6)[i]?=some y/\y.ev (a::b::d::e::(cA c++f))=.i (c i):=by
  match i,g with
  |0,_=>exact⟨_,rfl,rfl⟩
  |1,_=>exact⟨_,rfl,rfl⟩
  |2,_=>exact⟨_,rfl,rfl⟩
  |3,_=>exact⟨_,rfl,rfl⟩
  |4,_=>exact⟨_,rfl,rfl⟩
  |5,_=>exact⟨_,rfl,rfl⟩
 obtain⟨y,m,o⟩:=this;exact xd (x:=y) (by rw[h,ey];exact m) (by rw[o];exact j)
theorem amU{a g r n:Int}{c:Nat->Int}{l:List It}(hH:ma a g r n l)(hc:∀k,0<=c k/\c k<4294967296)(hE:∀x∈l,sh x)(hl:l.length<=1000):
 LU ([.i a,.i g,.i r,.i n]++cA c++[.r (l.map bt)])=some [.i 0,.r ((jA a g r n c l).map b1)]:=by
 have hH1:=hH.1;have hH2:=hH.2.1;have hH3:=hH.2.2.1;have l1:=dY a 2;have l2:=dY g 2;have l3:=dY r 4;have l4:=dY n 8;have l5:=dY l.length 4;have l6:=v8 l;refine bF ?_;refine bm (XY a g r n (.i (c 0)) (.i (c 1)) (.i (c 2)) (.i (c 3)) (.i (c 4)) (.i (c 5)) l om (jt hH)) rfl rfl (uR ?_);refine cn rfl ?_;refine uR ?_;refine iG (r:=b1 78) oO rfl rfl (nW ?_);refine gE (n:=a) rfl om om (nW ?_);refine bm (jP a 2 om om) rfl rfl (nW ?_);refine fc (a:=[78,73,68,88]) (c:=num a 2) rfl rfl (by show(4:Nat)<=_;omega) om (nW ?_);refine gE (n:=g) rfl om om (nW ?_);refine bm (jP g 2 om om) rfl rfl (nW ?_);refine fc (a:=[78,73,68,88]++num a 2) (c:=num g 2) rfl rfl (by simp only[cD];show 4+_<=_;omega) om (nW ?_);refine gE (n:=r) rfl om om (nW ?_);refine bm (jP r 4 om om) rfl rfl (nW ?_);refine fc (a:=[78,73,68,88]++num a 2++num g 2) (c:=num r 4) rfl rfl (by simp only[cD];show 4+_+_<=_;omega) om (nW ?_);refine gE (n:=n) rfl om om (nW ?_);refine bm (jP n 8 om om) rfl rfl (nW ?_);refine fc (a:=[78,73,68,88]++num a 2++num g 2++num r 4) (c:=num n 8) rfl rfl (by simp only[cD];show 4+_+_+_<=_;omega) om ?_;obtain⟨p,hp⟩:∃p,[78,73,68,88]++num a 2++num g 2++num r 4++num n 8=p:=⟨_,rfl⟩
 have hpl:p.length=20:=by rw[<-hp];simp[dY]
 have hh:lI a g r n c l=p++iQ c 6++num l.length 4++fX l:=by rw[<-hp];rfl
 have hhl:=yC a g r n c l;rw[hp];refine nW ?_;refine bz (λxs=>xs=[.r ((p++iQ c 6).map b1)]) ?_ ?_
 .refine wp_loop (I:=λy=>∃i:Nat,y=[.i i,.r ((p++iQ c i).map b1)]/\i<=6) (mu:=λy=>match y with|[.i i,_]=>6-i.toNat|_=>0) ⟨0,by show[L.i 0,L.r (p.map b1)]=_;simp[iQ],om⟩ ?_;rintro y ⟨i,rfl,e1⟩;have mg:=vJ c i;refine uR ?_;refine bO rfl (λhx=>?_) (λhx=>?_);rotate_left
  .obtain rfl:i=6:=om;exact bk rfl
  have hi:i<6:=om;have AY:=hc i;refine lK ⟨by show(0:Int)<=i;omega,by show(i:Int)< (6:Nat);omega⟩ (nW ?_);refine TF (c:=c) hi (by rfl) (nW ?_);refine gE (n:=c i) rfl om om (nW ?_);refine bm (jP (c i) 4 om om) rfl rfl (nW ?_);refine fc (a:=p++iQ c i) (c:=num (c i) 4) rfl rfl (by rw[cD];omega) (by rw[dY];omega) (nW ?_);refine b8 (i:=i) rfl om (nW ?_);refine bk ⟨⟨i+1,?_,om⟩,?_⟩
  .rw[CQ,<-dI];rfl
  .show 6- ((i+1:Nat):Int).toNat<6-i;omega
 rintro _ rfl;have mg:=vJ c 6;refine nW ?_;refine bm (axz hH.2.2.2.1 hE hl) rfl rfl (uR ?_);rw[bD];refine gE (n:=(l.length:Int)) rfl om om (nW ?_);refine bm (jP l.length 4 om om) rfl rfl (nW ?_);refine fc (a:=p++iQ c 6) (c:=num l.length 4) rfl rfl (by rw[cD];omega) om (nW ?_);refine fc (a:=p++iQ c 6++num l.length 4) (c:=fX l) rfl rfl (by simp only[cD];omega) om ?_;rw[<-hh];refine nW ?_;refine nq (m:=eH (lI a g r n c l)) (xm (lI a g r n c l) om) rfl rfl (nW ?_);refine fc (a:=lI a g r n c l) (c:=eH (lI a g r n c l)) rfl rfl om (by rw[qk];omega) (nW ?_);exact bk rfl
end
end
end Go.Proofs.YtiikkkhcolcebaaGreatDoor
