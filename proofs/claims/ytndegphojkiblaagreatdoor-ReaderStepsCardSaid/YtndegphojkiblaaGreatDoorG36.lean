/- A part. -/
import Derived.Test.YtndegphojkiblaaGreatDoorG12
import Derived.Test.YtndegphojkiblaaGreatDoorG13
import Derived.Test.YtndegphojkiblaaGreatDoorG25
import Derived.Test.YtndegphojkiblaaGreatDoorG30
import Derived.Test.YtndegphojkiblaaGreatDoorG31
import Derived.Test.YtndegphojkiblaaGreatDoorG32
import Derived.Test.YtndegphojkiblaaGreatDoorG33
import Derived.Test.YtndegphojkiblaaGreatDoorG34
import Derived.Test.YtndegphojkiblaaGreatDoorG35
set_option linter.all false
set_option maxHeartbeats 4000000
set_option maxRecDepth 100000
namespace Go.Proofs.YtndegphojkiblaaGreatDoor
noncomputable section
section
open Go.RowKit AI
theorem Ia{P:List Nat->Prop}(h:P [0,1,2,3])(i:P [0,1,2,4])(j:P [0,1,2,5])(l:P [0,1,3,4])(m:P [0,1,3,5])(n:P [0,1,4,5])(o:P [0,2,3,4])(p:P [0,2,3,5])(r:P [0,2,4,5])(s:P [0,3,4,5])(b:P [1,2,3,4])(c:P [1,2,3,5])(d:P [1,2,4,5])(f:P [1,3,4,5])(g:P [2,3,4,5]):∀q∈kn,P q:=by
 intro q a;have e:kn=[[0,1,2,3],[0,1,2,4],[0,1,2,5],[0,1,3,4],[0,1,3,5],[0,1,4,5],[0,2,3,4],[0,2,3,5],[0,2,4,5],[0,3,4,5],[1,2,3,4],[1,2,3,5],[1,2,4,5],[1,3,4,5],[2,3,4,5]]:=rfl;rw[e]at a;simp only[dn,iS,or_false]at a;rcases a with rfl|rfl|rfl|rfl|rfl|rfl|rfl|rfl|rfl|rfl|rfl|rfl|rfl|rfl|rfl<;>assumption
theorem aiu:∀q∈kn,mP q=true:=Ia mP0 mP1 mP2 mP3 mP4 mP5 mP6 mP7 mP8 mP9 avw avH apT aoq apX
theorem adI:∀q∈kn,mM q=true:=Ia mM0 mM1 mM2 mM3 mM4 mM5 mM6 mM7 mM8 mM9 auR alD aoC agR aeP
theorem apE:∀q∈kn,mR q=true:=Ia mR0 mR1 mR2 mR3 mR4 mR5 mR6 mR7 mR8 mR9 ahs aou arN aru asm
theorem aim{q:List Nat}(h:q∈kn):C7 [.i 6,.i 4,.r (iJ.map b1),.r (q.map kR)]=some [.i 0,.i 4,.i 4,.r ((partOf q).map b1)]:=N7.h _ _ (mH (cj.1 aiU q h))
theorem aui{q:List Nat}(h:q∈kn):EO [.i 4,.i 4,.r ((partOf q).map b1)]=some [.i 0,.i 4,.r ((gK q).map b1)]:=KC.h _ _ (mH (aiu q h))
theorem aqt{q:List Nat}(h:q∈kn):B2 [.i 6,.i 4,.r (iJ.map b1),.i 4,.i 4,.r ((gK q).map b1)]=some [.i 0,.i 6,.i 4,.r ((jC q).map b1)]:=Hy.h _ _ (mH (adI q h))
theorem anC{p:List Nat}(h:p∈FI):IG [.i 6,.i 4,.r (iJ.map b1),.r (p.map kR),.i 0,.i 4]=some [.i 0,.i 4,.i 4,.r ((partOf (p.take 4)).map b1)]:=Sf.h _ _ (mH (cj.1 avc p h))
theorem arj{q:List Nat}(h:q∈kn):EP [.i 4,.i 4,.r ((partOf q).map b1)]=some [.i 0,.i 4,.r ((gK q).map b1)]:=HS.h _ _ (mH (apE q h))
theorem aer:vL.all (λc=>Nat.beq c 0||uk c)=true:=kr
theorem apY{c:Nat}(h:(Nat.beq c 0||uk c)=true):c=0\/uk c=true:=by
 rw[qu]at h;exact h.imp pg id
theorem YD:vL.all (Nat.blt · 256)=true:=kr
theorem amr:kn.all (λq=>Nat.beq (jC q).length 24&& (jC q).all vL.contains)=true:=kr
theorem amg:iJ.all vL.contains=true:=kr
end
section
open Go.RowKit AI
attribute [local irreducible] a8.wp
def fj(us:List Bool)(i:Nat):List Nat:=(List.range i).filter λk=>us.getD k false
def qL(us:List Bool)(i:Nat):List Nat:=(fj us i).take 4
def eO(ps:List (List Nat))(q:List Nat):List (List Nat):=q.map λk=>ps.getD k []
theorem HJ(us)(i):fj us (i+1)=if us.getD i false=true then fj us i++[i]else fj us i:=by
 unfold fj;rw[BB,List.filter_append];split
 .rename_i h;rw[List.filter_cons_of_pos (by simpa using h)];rfl
 .rename_i h;rw[List.filter_cons_of_neg (by simpa using h)];simp
theorem abF(us):∀i,(fj us i).length<=i
 |0=>dx _
 |i+1=>by
  have:=abF us i;rw[HJ];split
  .rw[ez,sC];omega
  .omega
theorem abf{us i k}(h:k∈fj us i):k<i/\us.getD k false=true:=by
 unfold fj at h;rw[ph,jZ]at h;exact h
theorem arn(us)(i):qL us (i+1)=if us.getD i false=true/\(qL us i).length<4 then qL us i++[i]else qL us i:=by
 unfold qL;rw[HJ];by_cases h:us.getD i false=true
 .rw[bF h,eA];by_cases b:(fj us i).length<4
  .rw[bF ⟨h,om⟩,gX (by rw[ez,sC];omega),gX om]
  .rw[bO om,List.take_append_of_le_length om]
 .rw[bO h,bO (λa=>h a.1)]
theorem afk(us)(i):(qL us i).length<=4:=by unfold qL;rw[eA];omega
theorem Q8{l:List (List Nat)}{a}(h:l.contains a=true):a∈l:=by simpa using h
theorem Mw{us}(i:us.length=6):(fj us 6).length=us.count true/\(4<=us.count true->fj us 6∈FI/\qL us 6∈kn):=by
 match us,i with
 |[a,b,c,d,e,f],_=>
  have key:∀a b c d e f:Bool,(Nat.beq (fj [a,b,c,d,e,f] 6).length ([a,b,c,d,e,f].count true)&& (!(Nat.ble 4 ([a,b,c,d,e,f].count true))|| (FI.contains (fj [a,b,c,d,e,f] 6)&&kn.contains (qL [a,b,c,d,e,f] 6))))=true:=by
   intro a b c d e f;cases a<;>cases b<;>cases c<;>cases d<;>cases e<;>cases f<;>kernel_rfl
  have h:=key a b c d e f;rw[cd]at h;refine⟨pg h.1,λj=>?_⟩;have g:=h.2;rw[show Nat.ble 4 ([a,b,c,d,e,f].count true)=true from Nat.ble_eq_true_of_le j,Bool.not_true,Bool.false_or,cd]at g;exact⟨Q8 g.1,Q8 g.2⟩
theorem Ro{q}(h:q∈kn):(jC q).length=24/\∀x∈jC q,x<256/\(x=0\/uk x=true):=by
 have a:=cj.1 amr q h;rw[cd,cj]at a;refine⟨pg a.1,λx c=>?_⟩;have b:x∈vL:=by simpa using a.2 x c
 exact⟨G6 (cj.1 YD x b),apY (cj.1 aer x b)⟩
theorem aqK{q}(h:q∈kn):(gK q).length=16/\∀x∈gK q,x<256:=by
 have a:=Ro h;exact⟨by unfold gK;rw[eA];omega,λx b=>(a.2 x (iR b)).1⟩
theorem Z4:iJ.length=24/\∀x∈iJ,x<256:=by
 refine⟨by kernel_rfl,λx a=>?_⟩;have b:x∈vL:=by simpa using cj.1 amg x a
 exact G6 (cj.1 YD x b)
theorem SO{c a d b z}:∀n,(∀k,k<n->c k=a k/\d k=b k)->gF c d z n=gF a b z n
 |0,_=>rfl
 |n+1,h=>by
  unfold gF;rw[SO n λk e=>h k om,(h n om).1,(h n om).2]
theorem agz{q ds m j}(a:j<4):iL (jC q) ds m j=iL (gK q) ds m j:=
 SO 4 λk b=>⟨by
  show(jC q).getD (j*4+k) 0=((jC q).take 16).getD (j*4+k) 0;rw[sE,sE,List.getElem?_take_of_lt om],rfl⟩
theorem mz{a b}(h:a.length=b.length)(c:B8 b):eP 0 a b=a:=by
 refine Ql (by rw[Ao h,h]) λi d e=>?_
 rw[xZ d e om,Ta (c _ (cT _)),Nat.xor_zero]
theorem C1{d m}(h:d.length=m)(a:B8 d):eP 1 (List.replicate m 0) d=d:=by
 have b:(List.replicate m 0).length=d.length:=by rw[mT,h]
 refine Ql (Ao b) λi c e=>?_
 rw[xZ c om e,List.getElem_replicate,apP (a _ (cT _)),Nat.zero_xor]
theorem ams{xs}(l:xs.length=4){m}(h:oz xs m){j}(n:j<4):iL iJ xs m j=xs[j]:=by
 match xs,l with
 |[a,b,c,d],_=>
  have e:=h a (by simp);have f:=h b (by simp);have g:=h c (by simp);have i:=h d (by simp);have o:(List.replicate m 0).length=m:=mT
  match j,n with
  |0,_=>
   show eP 0 (eP 0 (eP 0 (eP 1 (List.replicate m 0) a) b) c) d=a;rw[C1 e.2 e.1,mz om f.1,mz om g.1,mz om i.1]
  |1,_=>
   show eP 0 (eP 0 (eP 1 (eP 0 (List.replicate m 0) a) b) c) d=b;rw[mz om e.1,C1 f.2 f.1,mz om g.1,mz om i.1]
  |2,_=>
   show eP 0 (eP 1 (eP 0 (eP 0 (List.replicate m 0) a) b) c) d=c;rw[mz om e.1,mz om f.1,C1 g.2 g.1,mz om i.1]
  |3,_=>
   show eP 1 (eP 0 (eP 0 (eP 0 (List.replicate m 0) a) b) c) d=d;rw[mz om e.1,mz om f.1,mz om g.1,C1 i.2 i.1]
section
variable{ρ:List L}{Q:Lf×List L->Prop}{k:a8}
theorem UF{b:Type}{g}{l:List b}{xs}{i:At}{j:Nat}(c:xs.map (At.ev ρ)=l.map g)(d:(i.ev ρ).a_=j)(e)(f:k.wp (ρ++[g l[j]]) Q):(a8.op (.fw xs i) k).wp ρ Q:=by
 have a:(xs.map (At.ev ρ))[j]?=some (g l[j]):=by rw[c,cN,cW e];rfl
 rw[cN,bY]at a;obtain⟨x,h,m⟩:=a;exact vE (x:=x) (by rw[d,fM];exact h) (by rw[m];exact f)
end
def oy(us:List Bool)(ps:List (List Nat))(m:Nat):Prop:=∀k(h:k<ps.length),us.getD k false=true->B8 ps[k]/\ps[k].length=m
theorem EW{us ps}(hp:ps.length=6){m}(h:oy us ps m):oz (eO ps (qL us 6)) m:=λd a=>by
 obtain⟨k,b,rfl⟩:=eV.1 a;have c:=abf (iR b);rw[eK (show k<ps.length by omega)];exact h k om c.2
theorem Rb(l:List Nat):cf 1 (l.map kR)=true:=by
 unfold cf;rw[cj];intro x a;obtain⟨y,_,rfl⟩:=eV.1 a;rfl
def gR(ps:List (List Nat))(k:Nat):List PV:=fR (ps.getD k [])
theorem OZ(ps)(q):q.map (gR ps)=(eO ps q).map fR:=by unfold eO;rw[h_];rfl
theorem abE(ps)(l:List Nat):cf 1 (l.map (gR ps))=true:=by rw[OZ];exact AH _
theorem SQ(ps)(q){i}(h):q.map (gR ps)++[[.sl (ps[i].map b1)]]=(q++[i]).map (gR ps):=by
 rw[eB,List.map_singleton,gR,eK h];rfl
theorem CC{us}(a:us.length=6)(b:4<=us.count true):(qL us 6).length=4:=by
 have:=(Mw a).1;unfold qL;rw[eA];omega
theorem arW{a b c d e f}(h4:4<= [a,b,c,d,e,f].count true){ps}(hp:ps.length=6){m}(hm:m<=4294967296)(h:oy [a,b,c,d,e,f] ps m):NO [.r (ps.map fR),.b a,.b b,.b c,.b d,.b e,.b f]=some [.r ((hW (jC (qL [a,b,c,d,e,f] 6)) (eO ps (qL [a,b,c,d,e,f] 6)) m 6).map fR)]:=by
 have hq:=((Mw (us:=[a,b,c,d,e,f]) rfl).2 h4).2;have hl:=CC (us:=[a,b,c,d,e,f]) rfl h4;have hd:=EW hp h;obtain⟨us,gP⟩:∃us,[a,b,c,d,e,f]=us:=⟨_,rfl⟩
 have h6:us.length=6:=by rw[<-gP];rfl
 refine bN ?_;refine bE (λxs=>xs=[.r ((qL us 6).map kR),.r ((qL us 6).map (gR ps))]) ?_ ?_
 .refine wp_loop (I:=λx=>∃i:Nat,x=[.i i,.r ((qL us i).map kR),.r ((qL us i).map (gR ps))]/\i<=6) (mu:=λx=>match x with|[.i i,_,_]=>6-i.toNat|_=>0) ⟨0,rfl,om⟩ ?_;rintro x ⟨i,rfl,e1⟩;have hql:=afk us i;have hsu:=arn us i;refine uR ?_;refine bG rfl (λhc=>?_) (λhc=>?_);rotate_left
  .obtain rfl:i=6:=om;exact a7 rfl
  have hi:i<us.length:=om;refine bE (λxs=>xs=[.r ((qL us (i+1)).map kR),.r ((qL us (i+1)).map (gR ps))]) ?_ ?_
  .refine lD ⟨by show(0:Int)<=(i:Int);omega,by show(i:Int)<6;omega⟩ (nW ?_);refine UF (g:=L.b) (l:=us) (j:=i) (by rw[<-gP];rfl) rfl hi (nW ?_);refine bE (cI (us.getD i false=true/\(qL us i).length<4)) ?_ ?_
   .refine bZ (λhx=>?_) (λhx=>?_)
    .refine uR ?_;refine a7 (d' ?_);rw[eK hi,bC];exact⟨λh=>⟨hx,om⟩,λh=>by omega⟩
    .have hx:us[i]=false:=hx;exact a7 (d_ (by rw[eK hi,hx];simp))
   rintro _ ⟨t,rfl,ht⟩;refine nW ?_;refine bZ (λhx=>?_) (λhx=>?_)
   .rw[bF (ht.1 hx)]at hsu;refine uR ?_;refine fa (r:=(qL us (i+1)).map kR) (Rb _) rfl oO oO dc (by rw[hsu,eB];rfl) (nW ?_);refine bU (f:=fR) (j:=i) rfl rfl (show i<ps.length by omega) rfl (uR ?_);refine fa (r:=(qL us (i+1)).map (gR ps)) (abE _ _) rfl oO oO dc (by rw[hsu];exact SQ _ _ (show i<ps.length by omega)) (nW ?_);exact a7 rfl
   .rw[bO (λh=>by rw[ht.2 h]at hx;cases hx)]at hsu;refine a7 ?_;rw[hsu];rfl
  rintro _ rfl;refine nW ?_;refine cm (i:=i) rfl om (nW ?_);refine a7 ⟨⟨i+1,rfl,om⟩,?_⟩;show 6- ((i+1:Nat):Int).toNat<6-i;omega
 rintro _ rfl;rw[OZ];rw[gP]at hq hl hd⊢;have A9:=Ro hq;refine nW ?_;refine bu aji rfl rfl (nW ?_);refine mv (f:=b1) (m:=partOf (qL us 6)) (λ_=>rfl) (aim hq) rfl rfl (nW ?_);refine mv (f:=b1) (m:=gK (qL us 6)) (λ_=>rfl) (aui hq) rfl rfl (nW ?_);refine mv (f:=b1) (m:=jC (qL us 6)) (λ_=>rfl) (aqt hq) rfl rfl (nW ?_);refine bu (apB A9.1 A9.2 (ds:=eO ps (qL us 6)) (by unfold eO;rw[bC];exact hl) hm hd) rfl rfl (nW ?_);exact a7 rfl
theorem amP{us}(h6:us.length=6)(h4:4<=us.count true){ps}(hp:ps.length=6){m}(hm:m<=4294967296)(h:oy us ps m):K2 [.r (ps.map fR),.r (us.map hR)]=some [.i 0,.r ((hW (jC (qL us 6)) (eO ps (qL us 6)) m 6).map fR)]:=by
 match us,h6 with
 |[a,b,c,d,e,f],h6=>
  have hres:=arW h4 hp hm h;obtain⟨us,gP⟩:∃us,[a,b,c,d,e,f]=us:=⟨_,rfl⟩
  have hl6:us.length=6:=by rw[<-gP];exact h6
  refine bN ?_;refine bE (λxs=>xs=[.b false]) ?_ ?_
  .refine uR ?_;refine db rfl (by rw[bC,hp];decide) (uR ?_);refine a7 ?_;exact dF (λh=>h rfl)
  rintro _ rfl;refine nW ?_;refine cZ rfl ?_;refine zn (r:=[hR a,hR b,hR c,hR d,hR e,hR f]) ⟨show(0:Int)<=0 by decide,show(0:Int)<=6 by decide,show 6<=6 by decide,rfl⟩ rfl (nW ?_);refine lA (r:=hR a) rfl rfl rfl (nW ?_);refine lA (r:=hR b) rfl rfl rfl (nW ?_);refine lA (r:=hR c) rfl rfl rfl (nW ?_);refine lA (r:=hR d) rfl rfl rfl (nW ?_);refine lA (r:=hR e) rfl rfl rfl (nW ?_);refine lA (r:=hR f) rfl rfl rfl (uR ?_);refine wP (r:=[.sc (.bool a),.sc (.bool b),.sc (.bool c),.sc (.bool d),.sc (.bool e),.sc (.bool f)]) (show(0:Int)<=0 by decide) rfl rfl (uR ?_);refine bE (λxs=>xs=[.i (us.count true:Nat)]) ?_ ?_
  .refine wp_loop (I:=λx=>∃(i:Nat)(z:Int),x=[.i z,.i ((us.take i).count true:Nat),.i i]/\i<=6/\(0<=z->∃j:Nat,z=j/\j<6/\us.getD j false=true)) (mu:=λx=>match x with|[_,_,.i i]=>6-i.toNat|_=>0) ⟨0,-1,rfl,om,λh=>by omega⟩ ?_;rintro x ⟨i,z,rfl,e1,e2⟩;have hct:(us.take i).count true<=i:=Wu us i;refine uR ?_;refine bG rfl (λhc=>?_) (λhc=>?_);rotate_left
   .obtain rfl:i=6:=om;refine a7 ?_;show[L.i (((us.take 6).count true:Nat):Int)]=_;rw[gX om]
   have hi:i<us.length:=om;have fI:us.take (i+1)=us.take i++[us[i]]:=gW hi;refine bE (λxs=>∃z:Int,xs=[.i z,.i ((us.take (i+1)).count true:Nat)]/\(0<=z->∃j:Nat,z=j/\j<6/\us.getD j false=true)) ?_ ?_
   .refine lD ⟨by show(0:Int)<=(i:Int);omega,by show(i:Int)<6;omega⟩ (nW ?_);refine UF (g:=L.b) (l:=us) (j:=i) (by rw[<-gP];rfl) rfl hi (uR ?_);refine bZ (λhx=>?_) (λhx=>?_)
    .have hx:(!us[i])=true:=hx;refine a7 ⟨z,?_,e2⟩;rw[fI,Qo];rw[show us[i]=false by simpa using hx];rfl
    .have hx:us[i]=true:=by have hx:(!us[i])=false:=hx;simpa using hx
     have jd:us.getD i false=true:=by rw[eK hi];exact hx
     refine bE (λxs=>∃j:Nat,xs=[.i j]/\j<6/\us.getD j false=true) ?_ ?_
     .refine uR ?_;refine bG rfl (λhy=>?_) (λhy=>?_)
      .exact a7 ⟨i,rfl,om,jd⟩
      .obtain⟨j,rfl,h1,h2⟩:=e2 om;exact a7 ⟨j,rfl,h1,h2⟩
     rintro _ ⟨j,rfl,hj,mN⟩;refine nW ?_;rw[gP]at h;refine bU (f:=fR) (j:=i) rfl rfl (show i<ps.length by omega) rfl (uR ?_);refine bU (f:=fR) (j:=j) rfl rfl (show j<ps.length by omega) rfl (uR ?_);refine db rfl (by rw[bC,bC,(h i om jd).2,(h j om mN).2];exactλh=>h rfl) ?_;refine cm (i:=(us.take i).count true) rfl om (nW ?_);refine a7 ⟨j,?_,λ_=>⟨j,rfl,hj,mN⟩⟩;rw[fI,Qo,hx];rfl
   rintro _ ⟨z',rfl,hz⟩;refine nW ?_;refine cm (i:=i) rfl om (nW ?_);refine a7 ⟨⟨i+1,z',rfl,om,hz⟩,?_⟩;show 6- ((i+1:Nat):Int).toNat<6-i;omega
  rintro _ rfl;refine uR ?_;refine db rfl (by rw[gP]at h4;omega) ?_;refine bu hres rfl rfl (nW ?_);exact a7 rfl
theorem asi{us}(h6:us.length=6){ps}(hp:ps.length=6){m}(hm:m<=4294967296)(h:oy us ps m):
 (4<=us.count true->As [.r (ps.map fR),.r (us.map hR)]=some [.i 0,.r ((hW iJ (hW (gK (qL us 6)) (eO ps (qL us 6)) m 4) m 6).map fR)])/\(¬4<=us.count true->As [.r (ps.map fR),.r (us.map hR)]=some [.i 11,.r []]):=by
 have xy:=Mw h6;obtain⟨o,ho⟩:∃o:List L,o=if 4<=us.count true then[.i 0,.r ((hW iJ (hW (gK (qL us 6)) (eO ps (qL us 6)) m 4) m 6).map fR)]else[.i 11,.r []]:=⟨_,rfl⟩
 have key : As [.r (ps.map fR),.r (us.map hR)]=some o:=by
  refine bN ?_;refine bE (λxs=>xs=[.b false]) ?_ ?_
  .refine uR ?_;refine db rfl (by rw[bC,hp];decide) (uR ?_);refine a7 ?_;exact dF (by rw[bC,h6];decide)
  rintro _ rfl;refine nW ?_;refine cZ rfl ?_;refine bE (λxs=>xs=[.r ((fj us 6).map kR),.r ((fj us 6).map (gR ps))]) ?_ ?_
  .refine wp_loop (I:=λx=>∃i:Nat,x=[.i i,.r ((fj us i).map kR),.r ((fj us i).map (gR ps))]/\i<=6) (mu:=λx=>match x with|[.i i,_,_]=>6-i.toNat|_=>0) ⟨0,rfl,om⟩ ?_;rintro x ⟨i,rfl,e1⟩;have hql:=abF us i;have hsu:=HJ us i;refine uR ?_;refine bG rfl (λhc=>?_) (λhc=>?_);rotate_left
   .obtain rfl:i=6:=om;exact a7 rfl
   have hi:i<us.length:=om;refine bE (λxs=>xs=[.r ((fj us (i+1)).map kR),.r ((fj us (i+1)).map (gR ps))]) ?_ ?_
   .refine bU (f:=hR) (j:=i) rfl rfl hi rfl (nW ?_);refine eb (f:=hR) (j:=i) rfl rfl hi rfl rfl (uR ?_);refine bZ (λhx=>?_) (λhx=>?_)
    .have hx:us[i]=false:=by have hx:(!us[i])=true:=hx;simpa using hx
     rw[eK hi,hx,bO dc]at hsu;refine a7 ?_;rw[hsu];rfl
    .have hx:us[i]=true:=by have hx:(!us[i])=false:=hx;simpa using hx
     have jd:us.getD i false=true:=by rw[eK hi];exact hx
     rw[bF jd]at hsu;refine bE (λxs=>xs=[.b false]) ?_ ?_
     .refine uR ?_;refine bG rfl (λhy=>?_) (λhy=>?_)
      .rw[bC]at hy;have h0:0< (fj us i).length:=om;have PA:=abf (cT h0);refine bU (f:=fR) (j:=i) rfl rfl (show i<ps.length by omega) rfl (uR ?_);refine bU (f:=gR ps) (j:=0) rfl rfl h0 rfl (nW ?_);refine eb (f:=gR ps) (j:=0) rfl rfl h0 rfl rfl (uR ?_);refine a7 ?_;refine dF ?_;rw[bC,bC,(h i om jd).2,eK (show(fj us i)[0]<ps.length by omega),(h _ om PA.2).2];exactλh=>h rfl
      .exact a7 rfl
     rintro _ rfl;refine nW ?_;refine cZ rfl (uR ?_);refine fa (r:=(fj us (i+1)).map kR) (Rb _) rfl oO oO dc (by rw[hsu,eB];rfl) (nW ?_);refine bU (f:=fR) (j:=i) rfl rfl (show i<ps.length by omega) rfl (uR ?_);refine fa (r:=(fj us (i+1)).map (gR ps)) (abE _ _) rfl oO oO dc (by rw[hsu];exact SQ _ _ (show i<ps.length by omega)) (nW ?_);exact a7 rfl
   rintro _ rfl;refine nW ?_;refine cm (i:=i) rfl om (nW ?_);refine a7 ⟨⟨i+1,rfl,om⟩,?_⟩;show 6- ((i+1:Nat):Int).toNat<6-i;omega
  rintro _ rfl;rw[OZ];refine uR ?_;refine bG rfl (λhx=>?_) (λhx=>?_)
  .rw[bC,xy.1]at hx;rw[bO om]at ho;refine a7 ?_;exact ho.symm
  rw[bC,xy.1]at hx;have h4:4<=us.count true:=om;rw[bF h4]at ho;have PC:=xy.2 h4;have hl:=CC h6 h4;have hd:=EW hp h;have hiv:=aqK PC.2;refine bu IA rfl rfl (uR ?_);refine na ⟨show(0:Int)<=0 by decide,show(0:Int)<=4 by decide,by show 4<=((fj us 6).map kR).length;rw[bC];omega,by
   cases fj us 6<;>rfl⟩ ?_
  refine nW ?_;refine bu (anC PC.1) rfl rfl (nW ?_);refine mv (f:=b1) (m:=gK (qL us 6)) (λ_=>rfl) (arj PC.2) rfl rfl (uR ?_);have jU:(eO ps (fj us 6)).length=us.count true:=by unfold eO;rw[bC];exact xy.1
  have PD:(eO ps (fj us 6)).take 4=eO ps (qL us 6):=by unfold eO qL;rw[mW]
  have acH:(eO ps (qL us 6)).length=4:=by unfold eO;rw[bC];exact hl
  refine na ⟨show(0:Int)<=0 by decide,show(0:Int)<=4 by decide,by show 4<=((eO ps (fj us 6)).map fR).length;rw[bC];omega,by
   cases eO ps (fj us 6)<;>rfl⟩ ?_
  refine nW ?_;refine bu (ajq (E:=gK (qL us 6)) om hiv.2 (ds:=eO ps (qL us 6)) (ss:=eO ps (fj us 6)) acH hm hd om PD) rfl rfl (nW ?_);have ayw:F105 [.r ((hW (gK (qL us 6)) (eO ps (qL us 6)) m 4).map fR)]=some [.r ((hW iJ (hW (gK (qL us 6)) (eO ps (qL us 6)) m 4) m 6).map fR)]:=by
   refine bN ?_;refine bu IA rfl rfl (nW ?_);refine bu (aek (E:=iJ) Z4.1 Z4.2 (sX _ _ _ _) hm (Ug acH hd)) rfl rfl (nW ?_);exact a7 rfl
  refine bu ayw rfl rfl (nW ?_);refine a7 ?_;exact ho.symm
 exact⟨λh=>by rw[key,ho,bF h],λh=>by rw[key,ho,bO h]⟩
end
section
open Go.RowKit Pl AI
attribute [local irreducible] a8.wp
def lN(us:List Bool)(fs:List (List Nat))(a c:Nat):List (List Nat):=(List.range 6).map λk=>if us.getD k false=true then ca (fs.getD k []) a c else[]
theorem BM(us)(fs)(a c):(lN us fs a c).length=6:=by simp[lN]
theorem Ot{us fs a c k}(h):(lN us fs a c)[k]=if us.getD k false=true then ca (fs.getD k []) a c else[]:=by simp[lN]
theorem N6{us fs}(e:fs.length=6){sz}(h:oy us fs sz){a l}(f:a+l<=sz):oy us (lN us fs a (a+l)) l:=λk c b=>by
 rw[BM]at c;have d:=h k om b;rw[Ot,bF b,eK (show k<fs.length by omega)];exact⟨d.1.cut _ _,by rw[FC om];omega⟩
theorem set_nil{F:List (List Nat)}{i}(h)(a:F[i]=[]):F.set i []=F:=by
 rw[<-a];exact List.set_getElem_self h
theorem agJ{us}(h6:us.length=6)(h4:4<=us.count true){fs}(hf:fs.length=6){sz}(h:oy us fs sz)(gn:sz<=4294967296){a l j:Nat}(hc:a+l<=sz)(hj:j<4):
 K8 [.r (fs.map fR),.r (us.map hR),.i j,.i a,.i l]=some [.r ((iL (gK (qL us 6)) (eO (lN us fs a (a+l)) (qL us 6)) l j).map b1)]:=by
 have uM:=N6 hf h hc;have hlen:=BM us fs a (a+l);have xz:=λk h=>Ot (us:=us) (fs:=fs) (a:=a) (c:=a+l) (k:=k) h
 obtain⟨ps,Bc⟩:∃ps,lN us fs a (a+l)=ps:=⟨_,rfl⟩
 rw[Bc]at uM hlen xz⊢;refine bN ?_;refine nu (r:=(List.replicate 6 ([]:List Nat)).map fR) (by try dsimp only[At.ev,d1,d2,d3,d4,d5,d6,d7,d8,d9,e0,List.map,cH,Kd.pv];exact⟨dc,dc,dc⟩) rfl (nW ?_);refine bE (λxs=>xs=[.r (ps.map fR)]) ?_ ?_
 .refine uR ?_;refine wp_loop (I:=λx=>∃i:Nat,x=[.i i,.r ((fG [] ps 6 i).map fR)]/\i<=6) (mu:=λx=>match x with|[.i i,_]=>6-i.toNat|_=>0) ⟨0,rfl,om⟩ ?_;rintro x ⟨i,rfl,e1⟩;have uU:=Cs (d:=([]:List Nat)) hlen e1;refine uR ?_;refine bG rfl (λhx=>?_) (λhx=>?_);rotate_left
  .rw[bC,hf]at hx;obtain rfl:i=6:=om;refine a7 ?_;show[L.r ((fG [] ps 6 6).map fR)]=_;rw[E_ hlen]
  rw[bC,hf]at hx;have hi:i<6:=om;have hst:=B7 (d:=([]:List Nat)) hlen hi rfl;have hat:(fG [] ps 6 i)[i]'om=[]:=by
   unfold fG;rw[List.getElem_append_right (by rw[eA];omega),List.getElem_replicate]
  have qn:=xz i om;refine bE (λxs=>xs=[.r ((fG [] ps 6 (i+1)).map fR)]) ?_ ?_
  .refine bU (f:=fR) (j:=i) rfl rfl (show i<fs.length by omega) rfl (uR ?_);refine bU (f:=hR) (j:=i) rfl rfl (show i<us.length by omega) rfl (uR ?_);refine bZ (λhy=>?_) (λhy=>?_)
   .have jd:us.getD i false=true:=by rw[eK (show i<us.length by omega)];exact hy
    have h1:=h i om jd;rw[bF jd,eK (show i<fs.length by omega)]at qn;refine c_ (n:=((a+l:Nat):Int)) oO om om (uR ?_);refine dA (a:=a) (c:=a+l) rfl rfl rfl om om (nW ?_);refine bU (f:=fR) (j:=i) rfl rfl (show i< (fG [] ps 6 i).length by omega) rfl (nW ?_);refine lS (f:=fR) (j:=i) (v:=ps[i]'om) rfl rfl (show i< (fG [] ps 6 i).length by omega) rfl (by rw[qn];rfl) ?_;rw[hst];refine nW ?_;exact a7 rfl
   .have jd:us.getD i false=false:=by rw[eK (show i<us.length by omega)];exact hy
    rw[jd,bO dc]at qn;refine a7 ?_;show[L.r ((fG [] ps 6 i).map fR)]=_;rw[<-hst,qn,set_nil (show i< (fG [] ps 6 i).length by omega) hat]
  rintro _ rfl;refine nW ?_;refine cm (i:=i) rfl om (nW ?_);refine a7 ⟨⟨i+1,rfl,om⟩,?_⟩;show 6- ((i+1:Nat):Int).toNat<6-i;omega
 rintro _ rfl;refine nW ?_;refine bu (amP h6 h4 hlen (show l<=4294967296 by omega) uM) rfl rfl (nW ?_);have sg:=sX (jC (qL us 6)) (eO ps (qL us 6)) l 6;refine bU (f:=fR) (j:=j) rfl rfl (show j< (hW (jC (qL us 6)) (eO ps (qL us 6)) l 6).length by omega) rfl (nW ?_);refine eb (f:=fR) (j:=j) rfl rfl (show j< (hW (jC (qL us 6)) (eO ps (qL us 6)) l 6).length by omega) rfl rfl ?_;rw[xf,agz hj];refine nW ?_;exact a7 rfl
def qV(us:List Bool)(fs:List (List Nat))(e s:Int):Option (List Nat):=
 if us.getD (fA s).toNat false=true then some (ca (fs.getD (fA s).toNat []) (eE s).toNat ((eE s).toNat+(ew e s).toNat))
 else if 4<=us.count true then some (iL (gK (qL us 6)) (eO (lN us fs (eE s).toNat ((eE s).toNat+(ew e s).toNat)) (qL us 6)) (ew e s).toNat (fA s).toNat)else none
def jb(us:List Bool)(fs:List (List Nat))(off e:Int):Nat->Nat->List Nat->Option (List Nat)
 |0,_,acc=>some acc
 |n+1,k,acc=>match qV us fs e (cV off e k)with
  |some b=>jb us fs off e n (k+1) (acc++b)
  |none=>none
theorem I6{us}(g:us.length=6){fs}(i:fs.length=6){sz}(h:oy us fs sz){e s}(j:0<=s)(n:s<e)(d:∀a l:Nat,(a:Int)=eE s->(l:Int)=ew e s->a+l<=sz){b}(c:qV us fs e s=some b):B8 b/\(b.length:Int)=ew e s:=by
 have r:=Tf s;have t:=VO s j;have u:=CP e s n;have o:=d (eE s).toNat (ew e s).toNat om om;unfold qV at c;split at c
 .rename_i p;cases c;have q:=h (fA s).toNat om p;rw[eK (show(fA s).toNat<fs.length by omega)];exact⟨q.1.cut _ _,by rw[FC om];omega⟩
 .split at c
  .rename_i v f;cases c;have:=H5 (E:=gK (qL us 6)) (ds:=eO (lN us fs (eE s).toNat ((eE s).toNat+(ew e s).toNat)) (qL us 6)) (m:=(ew e s).toNat) (by unfold eO;rw[bC];exact CC g f) (EW (BM _ _ _ _) (N6 i h o)) (fA s).toNat;exact⟨this.2,om⟩
  .cases c
structure HN(us:List Bool)(fs:List (List Nat))(sz:Nat)(off e:Int)(K:Nat):Prop where
 h6:us.length=6
 hf:fs.length=6
 hu:oy us fs sz
 gn:sz<=1048576
 h0:0<=off
 hle:off<=e
 hK:Full off e K
 uI:∀s:Int,0<=s->s<e->∀a l:Nat,(a:Int)=eE s->(l:Int)=ew e s->a+l<=sz
theorem Tz{us:List Bool}{fs:List (List Nat)}{sz:Nat}{off e:Int}{K:Nat}(R:HN us fs sz off e K):∀n k acc o,n+k=K->B8 acc->(acc.length:Int)=cV off e k-off->jb us fs off e n k acc=some o->B8 o/\(o.length:Int)=e-off
 |0,k,acc,o,f,c,g,h=>by
  cases h;obtain rfl:k=K:=om;have:=R.hK.1;exact⟨c,om⟩
 |n +1,k,acc,o,f,c,g,h=>by
  unfold jb at h;have d:=R.hK.2 k om;have hR:=R.h0
  cases hp:qV us fs e (cV off e k)with
  |none=>rw[hp]at h;cases h
  |some b=>
   rw[hp]at h;have i:=I6 R.h6 R.hf R.hu (show 0<=cV off e k by omega) d (R.uI _ om d) hp;refine Tz R n (k+1) (acc++b) o om (λx a=>?_) ?_ h
   .rcases fo.1 a with a|a
    .exact c x a
    .exact i.1 x a
   .rw[ez];show _=cV off e k+ew e (cV off e k) -off;omega
theorem Zy{off e K k}(a:k<K):(g_ off e K)[k]?=some (wC e (cV off e k)):=by
 unfold g_;rw[cN,u9 a];rfl
theorem abQ{e s}(b:0<=s)(c:s<e):∃j a l,(fA s).toNat=j/\(eE s).toNat=a/\(ew e s).toNat=l/\(a:Int)=eE s/\(l:Int)=ew e s/\j<4/\wC e s=[.sc (.int .i64 (j:Nat)),.sc (.int .i64 (a:Nat)),.sc (.int .i64 (l:Nat))]:=by
 have d:=Tf s;have f:=VO s b;have g:=CP e s c;refine⟨_,_,_,rfl,rfl,rfl,om,om,om,?_⟩;unfold wC;rw[Br d.1,Br f.1,Br om]
def Xi(o:Option (List Nat)):List L:=match o with
 |some b=>[.b true,.r (b.map b1)]
 |none=>[.b false,.r []]
theorem LI{x}{b:List Nat}:(x.map b1)++(b.map b1)=(x++b).map b1:=by rw[eB]
theorem adV{fs}(e:fs.length=6)(c:∀f∈fs,B8 f)(d)(sk){n}(g:0<=n):oy (iy fs d sk n) fs (i_ n).toNat:=λk b a=>by
 rw[eK (by rw[Rw];omega),Jq]at a;unfold xJ at a;rw[dj,eK b]at a;exact⟨c _ (cT b),om⟩
theorem FK{fs}(b:fs.length=6)(d:∀f∈fs,B8 f)(c)(sk){n off s}(m:16<=n)(e:n<=524288)(g:0<=off)(o:0<=s)(p:off+s<=n){K}(h:Full off (off+s) K):HN (iy fs c sk n) fs (i_ n).toNat off (off+s) K:=
 ⟨Rw _ _ _ _,b,adV b d c sk om,by unfold i_;split<;>omega,g,om,h,λx q r a l i j=>by
  unfold eE at i;unfold ew at j;unfold i_;split<;>omega⟩
theorem awo(a g r n)(m4 m5 m6 m7 m8 m9){l}(hl:l.length<=4294967296)(hH:js a g r n l){fs}(hf:fs.length=6)(hB:∀f∈fs,B8 f){hv}(hh:hv.length=6){sk}(hs:sk.length<=6){off s}(h0:0<=off)(h1:0<=s)(h2:off+s<=n){K}(hK:Full off (off+s) K):OR [.i a,.i g,.i r,.i n,m4,m5,m6,m7,m8,m9,.r (l.map bw),.r (fs.map fR),.r (hv.map hR),.r (sk.map kR),.i off,.i s]=some (Xi (jb (iy fs hv sk n) fs off (off+s) K 0 [])):=by
 have xq:16<=n:=hH.2.1;have PF:n<=524288:=hH.2.2.1;have R:=FK hf hB hv sk xq PF h0 h1 h2 hK;have fW:¬lV off s:=by unfold lV;omega
 obtain⟨us,gP⟩:∃us,iy fs hv sk n=us:=⟨_,rfl⟩
 have Be:=alF a g r n m4 m5 m6 m7 m8 m9 (.r (l.map bw)) om om fs hf hv hh sk hs;rw[gP]at R Be⊢;obtain⟨o,ho⟩:∃o,jb us fs off (off+s) K 0 []=o:=⟨_,rfl⟩
 rw[ho];have hKn:=R.hK.le R.hle;have gn:=R.gn;obtain⟨e,PG⟩:∃e,off+s=e:=⟨_,rfl⟩
 have Bf:=anL fW hK;rw[PG]at R ho Bf h2 hKn hK;refine bN ?_;refine bE (λxs=>xs=[.b false]) ?_ ?_
 .refine bu (UL a g r n m4 m5 m6 m7 m8 m9 l hl fs hf hv hh (b:=true) (by simp[hH])) rfl rfl (uR ?_);refine cZ rfl (uR ?_);refine db rfl om (uR ?_);refine db rfl om (uR ?_);refine db rfl om ?_;refine dk (n:=n-off) rfl om om (uR ?_);refine a7 ?_;exact dF om
 rintro _ rfl;refine nW ?_;refine cZ rfl ?_;refine bu Be rfl rfl (nW ?_);refine bu Bf rfl rfl (nW ?_);refine bE (λxs=>∃b:List Nat,xs=[.r (b.map b1)]/\o=some b) ?_ ?_;rotate_left
 .rintro _ ⟨b,rfl,rfl⟩;refine nW ?_;exact a7 rfl
 refine Cr ?_;show a8.wp _ (_++[L.i ((g_ off e K).length:Nat)]) _;rw[LO];refine nW ?_;refine wp_loop (I:=λx=>∃(k:Nat)(acc:List Nat),x=[.i k,.r (acc.map b1)]/\k<=K/\jb us fs off e (K-k) k acc=o/\(acc.length:Int)=cV off e k-off) (mu:=λx=>match x with|[.i k,_]=>K-k.toNat|_=>0) ⟨0,[],rfl,om,ho,by show((0:Nat):Int)=off-off;omega⟩ ?_;rintro x ⟨k,acc,rfl,e1,e2,e3⟩;refine uR ?_;refine bG rfl (λhc=>?_) (λhc=>?_);rotate_left
 .obtain rfl:k=K:=om;rw[Bm]at e2;exact a7 ⟨acc,rfl,e2.symm⟩
 have hk:k<K:=om;have hlt:=hK.2 k hk;have jc:=Zy (off:=off) (e:=e) hk;have GK:=λb hb=>I6 (b:=b) R.h6 R.hf R.hu (show 0<=cV off e k by omega) hlt (R.uI _ om hlt) hb
 obtain⟨j,p,ln,hj,hp,PH,PI,PJ,PK,hrow⟩:=abQ (e:=e) (show 0<=cV off e k by omega) hlt;have hcs:=R.uI _ (show 0<=cV off e k by omega) hlt p ln PI PJ;rw[hrow]at jc;rw[show K-k=(K- (k+1))+1 by omega,jb]at e2;have jt:qV us fs e (cV off e k)=if us.getD j false=true then some (ca (fs.getD j []) p (p+ln))else if 4<=us.count true then some (iL (gK (qL us 6)) (eO (lN us fs p (p+ln)) (qL us 6)) ln j)else none:=by subst hj hp PH;rfl
 have e7:cV off e (k+1)=cV off e k+ln:=by show cV off e k+ew e (cV off e k)=_;omega
 have h64:=R.h6;refine bE (λxs=>∃b:List Nat,xs=[.r ((acc++b).map b1)]/\qV us fs e (cV off e k)=some b) ?_ ?_;rotate_left
 .rintro _ ⟨b,rfl,hb⟩;have hbl:=GK b hb;rw[hb]at e2;refine nW ?_;refine cm (i:=k) rfl om (nW ?_);refine a7 ⟨⟨k+1,acc++b,rfl,om,e2,by rw[ez];omega⟩,?_⟩;show K- ((k+1:Nat):Int).toNat<K-k;omega
 refine wP (by show(0:Int)<=(k:Int);omega) jc rfl (nW ?_);refine lA jc rfl rfl (nW ?_);refine lA jc rfl rfl (nW ?_);refine lA jc rfl rfl (nW ?_);refine bU (f:=hR) (j:=j) rfl rfl (show j<us.length by omega) rfl (uR ?_);refine bZ (λhy=>?_) (λhy=>?_)
 .have mN:us.getD j false=true:=by rw[eK (show j<us.length by omega)];exact hy
  rw[bF mN,eK (show j<fs.length by omega)]at jt;have hfj:=R.hu j om mN;refine bU (f:=fR) (j:=j) rfl rfl (show j<fs.length by omega) rfl (uR ?_);refine c_ (n:=((p+ln:Nat):Int)) oO om om (uR ?_);refine dA (a:=p) (c:=p+ln) rfl rfl rfl om om (nW ?_);refine fa (r:=(acc++ca (fs[j]'om) p (p+ln)).map b1) (lO _) (lO _) oO (by show((ca (fs[j]'om) p (p+ln)).map b1).length<=_;rw[bC,FC om];omega) dc LI (nW ?_);exact a7 ⟨_,rfl,jt⟩
 .have mN:us.getD j false=false:=by rw[eK (show j<us.length by omega)];exact hy
  rw[mN,bO dc]at jt;refine uR ?_;refine bG rfl (λhz=>?_) (λhz=>?_)
  .have h4:4<=us.count true:=om;rw[bF h4]at jt;have hbl:=GK _ jt;refine bu (agJ R.h6 h4 R.hf R.hu om (a:=p) (l:=ln) (j:=j) hcs PK) rfl rfl (nW ?_);refine fa (r:=(acc++iL (gK (qL us 6)) (eO (lN us fs p (p+ln)) (qL us 6)) ln j).map b1) (lO _) (lO _) oO (by try dsimp only[At.ev,d1,d2,d3,d4,d5,d6,d7,d8,d9,e0,List.map,cH,Kd.pv];rw[bC];omega) dc LI (nW ?_);exact a7 ⟨_,rfl,jt⟩
  .rw[bO om]at jt;rw[jt]at e2;refine a7 ?_;rw[<-e2];rfl
theorem adW(a g r n)(m4 m5 m6 m7 m8 m9){l}(hl:l.length<=4294967296)(hH:js a g r n l){fs}(hf:fs.length=6)(hB:∀f∈fs,B8 f){hv}(hh:hv.length=6){sk}(hs:sk.length<=6){off s}(h0:0<=off)(h1:0<=s)(h2:off+s<=n){K}(hK:Full off (off+s) K):JS [.i a,.i g,.i r,.i n,m4,m5,m6,m7,m8,m9,.r (l.map bw),.r (fs.map fR),.r (hv.map hR),.r (sk.map kR),.i off,.i s]=some (Xi (jb (iy fs hv sk n) fs off (off+s) K 0 [])):=by
 have xq:16<=n:=hH.2.1;have PF:n<=524288:=hH.2.2.1;have R:=FK hf hB hv sk xq PF h0 h1 h2 hK;have fW:¬lV off s:=by unfold lV;omega
 obtain⟨us,gP⟩:∃us,iy fs hv sk n=us:=⟨_,rfl⟩
 have Be:=asv a g r n m4 m5 m6 m7 m8 m9 (.r (l.map bw)) om om fs hf hv hh sk hs;rw[gP]at R Be⊢;obtain⟨o,ho⟩:∃o,jb us fs off (off+s) K 0 []=o:=⟨_,rfl⟩
 rw[ho];have hKn:=R.hK.le R.hle;have gn:=R.gn;obtain⟨e,PG⟩:∃e,off+s=e:=⟨_,rfl⟩
 have Bf:=ads fW hK;rw[PG]at R ho Bf h2 hKn hK;refine bN ?_;refine bE (λxs=>xs=[.b false]) ?_ ?_
 .refine bu (Zk a g r n m4 m5 m6 m7 m8 m9 l hl (b:=true) (by simp[hH])) rfl rfl (uR ?_);refine cZ rfl (uR ?_);refine db rfl (by rw[bC,hf];decide) (uR ?_);refine db rfl (by rw[bC,hh];decide) (uR ?_);refine db rfl om (uR ?_);refine db rfl om (uR ?_);refine db rfl om ?_;refine dk (n:=n-off) rfl om om (uR ?_);refine a7 ?_;exact dF om
 rintro _ rfl;refine nW ?_;refine cZ rfl ?_;refine bu Be rfl rfl (nW ?_);refine bu Bf rfl rfl (nW ?_);refine bE (λxs=>∃b:List Nat,xs=[.r (b.map b1)]/\o=some b) ?_ ?_;rotate_left
 .rintro _ ⟨b,rfl,rfl⟩;refine nW ?_;exact a7 rfl
 refine wp_loop (I:=λx=>∃(k:Nat)(acc:List Nat),x=[.i k,.r (acc.map b1)]/\k<=K/\jb us fs off e (K-k) k acc=o/\(acc.length:Int)=cV off e k-off) (mu:=λx=>match x with|[.i k,_]=>K-k.toNat|_=>0) ⟨0,[],rfl,om,ho,by show((0:Nat):Int)=off-off;omega⟩ ?_;rintro x ⟨k,acc,rfl,e1,e2,e3⟩;refine nW ?_;refine Cr ?_;show a8.wp _ (_++[L.i ((g_ off e K).length:Nat)]) _;rw[LO];refine uR ?_;refine bG rfl (λhc=>?_) (λhc=>?_);rotate_left
 .obtain rfl:k=K:=om;rw[Bm]at e2;exact a7 ⟨acc,rfl,e2.symm⟩
 have hk:k<K:=om;have hlt:=hK.2 k hk;have jc:=Zy (off:=off) (e:=e) hk;have GK:=λb hb=>I6 (b:=b) R.h6 R.hf R.hu (show 0<=cV off e k by omega) hlt (R.uI _ om hlt) hb
 obtain⟨j,p,ln,hj,hp,PH,PI,PJ,PK,hrow⟩:=abQ (e:=e) (show 0<=cV off e k by omega) hlt;have hcs:=R.uI _ (show 0<=cV off e k by omega) hlt p ln PI PJ;rw[hrow]at jc;rw[show K-k=(K- (k+1))+1 by omega,jb]at e2;have jt:qV us fs e (cV off e k)=if us.getD j false=true then some (ca (fs.getD j []) p (p+ln))else if 4<=us.count true then some (iL (gK (qL us 6)) (eO (lN us fs p (p+ln)) (qL us 6)) ln j)else none:=by subst hj hp PH;rfl
 have e7:cV off e (k+1)=cV off e k+ln:=by show cV off e k+ew e (cV off e k)=_;omega
 have h64:=R.h6;have uM:=N6 R.hf R.hu hcs;have hpl:=BM us fs p (p+ln);have xz:=λi h=>Ot (us:=us) (fs:=fs) (a:=p) (c:=p+ln) (k:=i) h
 obtain⟨ps,Bc⟩:∃ps,lN us fs p (p+ln)=ps:=⟨_,rfl⟩
 rw[Bc]at uM hpl xz jt;refine wP (by show(0:Int)<=(k:Int);omega) jc rfl (nW ?_);refine lA jc rfl rfl (nW ?_);refine lA jc rfl rfl (nW ?_);refine lA jc rfl rfl (nW ?_);refine bE (λxs=>xs=[.r (ps.map fR)]) ?_ ?_
 .refine wp_loop (I:=λx=>∃i:Nat,x=[.i i,.r ((ps.take i).map fR)]/\i<=6) (mu:=λx=>match x with|[.i i,_]=>6-i.toNat|_=>0) ⟨0,rfl,om⟩ ?_;rintro x ⟨i,rfl,f1⟩;refine uR ?_;refine bG rfl (λhx=>?_) (λhx=>?_);rotate_left
  .refine a7 ?_;show[L.r ((ps.take i).map fR)]=_;rw[gX om]
  have hi:i<ps.length:=om;have qn:=xz i om;refine bE (λxs=>xs=[.r (ps[i].map b1)]) ?_ ?_
  .refine bU (f:=hR) (j:=i) rfl rfl (show i<us.length by omega) rfl (nW ?_);refine eb (f:=hR) (j:=i) rfl rfl (show i<us.length by omega) rfl rfl (nW ?_);refine bZ (λhy=>?_) (λhy=>?_)
   .have jd:us.getD i false=true:=by rw[eK (show i<us.length by omega)];exact hy
    have o7:=R.hu i om jd;rw[bF jd,eK (show i<fs.length by omega)]at qn;refine bU (f:=fR) (j:=i) rfl rfl (show i<fs.length by omega) rfl (uR ?_);refine c_ (n:=((p+ln:Nat):Int)) oO om om (uR ?_);refine dA (a:=p) (c:=p+ln) rfl rfl rfl om om (nW ?_);refine a7 ?_;rw[qn];rfl
   .have jd:us.getD i false=false:=by rw[eK (show i<us.length by omega)];exact hy
    rw[jd,bO dc]at qn;refine a7 ?_;rw[qn];rfl
  rintro _ rfl;refine uR ?_;refine fa (r:=(ps.take (i+1)).map fR) (AH _) rfl oO oO dc (by rw[gW hi,eB];rfl) (nW ?_);refine cm (i:=i) rfl om (nW ?_);refine a7 ⟨⟨i+1,rfl,om⟩,?_⟩;show 6- ((i+1:Nat):Int).toNat<6-i;omega
 rintro _ rfl;refine nW ?_;have xn:=asi R.h6 hpl (show ln<=4294967296 by omega) uM;refine bE (λxs=>∃(rows:List (List Nat))(b:List Nat),xs=[.r (rows.map fR)]/\j<rows.length/\(∀h:j<rows.length,rows[j]=b)/\qV us fs e (cV off e k)=some b) ?_ ?_;rotate_left
 .rintro _ ⟨rows,b,rfl,PL,hrj,hb⟩;have hbl:=GK b hb;rw[hb]at e2;refine nW ?_;refine bU (f:=fR) (j:=j) rfl rfl PL rfl (nW ?_);refine eb (f:=fR) (j:=j) rfl rfl PL rfl rfl ?_;rw[hrj PL];refine nW ?_;refine fa (r:=(acc++b).map b1) (lO _) (lO _) oO (by try dsimp only[At.ev,d1,d2,d3,d4,d5,d6,d7,d8,d9,e0,List.map,cH,Kd.pv];rw[bC];omega) dc LI (nW ?_);refine cm (i:=k) rfl om (nW ?_);refine a7 ⟨⟨k+1,acc++b,rfl,om,e2,by rw[ez];omega⟩,?_⟩;show K- ((k+1:Nat):Int).toNat<K-k;omega
 refine bU (f:=hR) (j:=j) rfl rfl (show j<us.length by omega) rfl (nW ?_);refine eb (f:=hR) (j:=j) rfl rfl (show j<us.length by omega) rfl rfl (uR ?_);refine bZ (λhy=>?_) (λhy=>?_)
 .have hy:us[j]'om=false:=by have hy:(!(us[j]'om))=true:=hy;simpa using hy
  have mN:us.getD j false=false:=by rw[eK (show j<us.length by omega)];exact hy
  rw[mN,bO dc]at jt;by_cases h4:4<=us.count true
  .rw[bF h4]at jt;refine bu (xn.1 h4) rfl rfl (uR ?_);refine db rfl (λh=>h rfl) ?_;have PD:(eO ps (qL us 6)).length=4:=by unfold eO;rw[bC];exact CC R.h6 h4
   refine a7 ⟨_,_,rfl,by rw[sX];omega,λh=>?_,jt⟩;rw[xf,ams (sX _ _ _ _) (Ug PD (EW hpl uM)) PK,xf]
  .rw[bO h4]at jt;rw[jt]at e2;refine bu (xn.2 h4) rfl rfl (uR ?_);refine fD rfl dc ?_;refine a7 ?_;rw[<-e2];rfl
 .have hy:us[j]'om=true:=by have hy:(!(us[j]'om))=false:=hy;simpa using hy
  have mN:us.getD j false=true:=by rw[eK (show j<us.length by omega)];exact hy
  rw[bF mN]at jt;have hpj:=xz j om;rw[bF mN]at hpj;exact a7 ⟨ps,_,rfl,om,λh=>by exact hpj,jt⟩
end
section
open Go.RowKit Pl AI
open Classical
attribute [local irreducible] a8.wp
def tE:List L:=[.b false,.i 0,.i 0,.b false,.r []]
def wa(x:It)(len:Int)(b:List L):List L:=match b with
 |[.i n,.i e,.i key,.i cookie,.b a,.r data]=>if e≠0\/n≠len\/a=true\/key≠x.key\/cookie≠x.cookie\/(data.length:Int)≠x.size then tE else[.b true,.i key,.i cookie,.b a,.r data]
 |_=>tE
def JV(x:It)(o:Option (List Nat)):List L:=match o with
 |some b=>wa x (cJ x.size) (mK b)
 |none=>tE
theorem B6(b):∃(n e key cookie:Int)(a:Bool)(data:List Nat),mK b=[.i n,.i e,.i key,.i cookie,.b a,.r (data.map b1)]:=by
 have c:∀e:Int,∃(n d key cookie:Int)(a:Bool)(data:List Nat),vR e=[.i n,.i d,.i key,.i cookie,.b a,.r (data.map b1)]:=λe=>⟨0,e,0,0,false,[],rfl⟩
 unfold mK;split
 .exact c _
 .split
  .exact c _
  .split
   .exact c _
   .split
    .exact c _
    .split
     .exact c _
     .exact⟨_,_,_,_,_,_,rfl⟩
theorem KA{ρ Q k t F args n l}{m:List Nat}(h:F (args.map (At.ev ρ))=some l)(a:l.length=n)(b:l[5]?=some (.r (m.map b1)))(c:k.wp (ρ++l) Q):(a8.op (.call t F args n [5]) k).wp ρ Q:=mv (f:=b1) (λ_=>rfl) h a b c
theorem abL{us fs sz off e K}(R:HN us fs sz off e K){b}(h:jb us fs off e K 0 []=some b):B8 b/\(b.length:Int)=e-off:=
 Tz R K 0 [] b om (λx a=>by cases a) (by show((0:Nat):Int)=off-off;omega) h
theorem SX{a g r n l}(c:js a g r n l){x}(d:x∈l):16<=x.off/\0<=x.size/\x.size<=4096/\24<=cJ x.size/\cJ x.size<=4120/\x.off+cJ x.size<=n:=by
 have e:=c.2.2.2.1.2 x d;have b:=Cn e;have f:=Eb e;have h:=yP x.size;exact⟨b.1,b.2.2.1,b.2.2.2,f,h.2,c.2.2.2.2 x d⟩
theorem aeJ(a g r n)(z A B C D E){l}(N:l.length<=4294967296)(j:js a g r n l){fs}(F:fs.length=6)(G:∀f∈fs,B8 f){e}(O:e.length=6){sk}(P:sk.length<=6){x}(S:x∈l){K}(H:Full x.off (x.off+cJ x.size) K):lR [.i a,.i g,.i r,.i n,z,A,B,C,D,E,.r (l.map bw),.r (fs.map fR),.r (e.map hR),.r (sk.map kR),.i x.key,.i x.cookie,.i x.off,.i x.size]=some (JV x (jb (iy fs e sk n) fs x.off (x.off+cJ x.size) K 0 [])):=by
 have I:=SX j S;have c:=awo a g r n z A B C D E N j F G O P (off:=x.off) (s:=cJ x.size) om om I.2.2.2.2.2 H;have R:=FK F G e sk j.2.1 j.2.2.1 (off:=x.off) (s:=cJ x.size) om om I.2.2.2.2.2 H;obtain⟨o,J⟩:∃o,jb (iy fs e sk n) fs x.off (x.off+cJ x.size) K 0 []=o:=⟨_,rfl⟩
 rw[J]at c⊢;have hlen:∀b,o=some b->B8 b/\(b.length:Int)=cJ x.size:=λb T=>by
  have h:=abL R (J.trans T);exact⟨h.1,om⟩
 refine bN ?_;refine bu (qQ x.size) rfl rfl (nW ?_)
 cases o with
 |none=>
  refine bu (l:=[.b false,.r []]) c rfl rfl (nW ?_);refine bE (λxs=>xs=[.b true]) ?_ ?_
  .refine uR ?_;refine eL rfl ?_;exact a7 rfl
  rintro _ rfl;refine nW ?_;refine eL rfl ?_;exact a7 rfl
 |some b=>
  have u:=hlen b rfl;refine bu (l:=[.b true,.r (b.map b1)]) c rfl rfl (nW ?_);refine bE (λxs=>xs=[.b false]) ?_ ?_
  .refine uR ?_;refine cZ rfl (uR ?_);refine a7 ?_;exact dF om
  rintro _ rfl;refine nW ?_;refine cZ rfl ?_;have i:=abD b u.1 om;obtain⟨v,w,p,dc,dd,data,U⟩:=B6 b;show a8.wp _ _ (dX λy=>y=wa x (cJ x.size) (mK b));rw[U]at i⊢;obtain⟨y,d⟩:∃y,wa x (cJ x.size) [.i v,.i w,.i p,.i dc,.b dd,.r (data.map b1)]=y:=⟨_,rfl⟩
  rw[d];have d:(if w≠0\/v≠cJ x.size\/dd=true\/p≠x.key\/dc≠x.cookie\/((data.map b1).length:Int)≠x.size then tE else[.b true,.i p,.i dc,.b dd,.r (data.map b1)])=y:=d;refine KA (m:=data) i rfl rfl (nW ?_);refine bE (cI (w≠0\/v≠cJ x.size\/dd=true\/p≠x.key\/dc≠x.cookie\/((data.map b1).length:Int)≠x.size)) ?_ ?_
  .refine uR ?_;refine bG rfl (λc1=>?_) (λc1=>?_)
   .exact a7 (cC (.inl c1))
   refine uR ?_;refine bG rfl (λc2=>?_) (λc2=>?_)
   .exact a7 (cC (.inr (.inl c2)))
   refine bZ (λc3=>?_) (λc3=>?_)
   .exact a7 (cC (.inr (.inr (.inl c3))))
   have c3:dd=false:=c3;refine uR ?_;refine bG rfl (λc4=>?_) (λc4=>?_)
   .exact a7 (cC (.inr (.inr (.inr (.inl c4)))))
   refine uR ?_;refine bG rfl (λc5=>?_) (λc5=>?_)
   .exact a7 (cC (.inr (.inr (.inr (.inr (.inl c5))))))
   refine uR ?_;refine a7 (d' ?_);constructor
   .exact λh=>.inr (.inr (.inr (.inr (.inr h))))
   .rintro(h|h|h|h|h|h)
    .exact absurd h c1
    .exact absurd h c2
    .rw[c3]at h;cases h
    .exact absurd h c4
    .exact absurd h c5
    .exact h
  rintro _ ⟨t,rfl,M⟩;refine nW ?_;refine bZ (λq=>?_) (λq=>?_)
  .rw[bF (M.1 q)]at d;refine a7 ?_;exact d
  .rw[bO (λh=>by rw[M.2 h]at q;cases q)]at d;refine a7 ?_;exact d
theorem XJ{k}(h:k<22):(mZ.getD k []).length<=6:=by
 have:∀k,k<22->(mZ.getD k []).length<=6:=by decide
 exact this k h
theorem aiH(a g r n)(B C D E F G){l}(S:l.length<=4294967296)(q:js a g r n l){fs}(H:fs.length=6)(I:∀f∈fs,B8 f){i}(T:i.length=6){k:Nat}(J:k<22){x}(U:x∈l){K}(M:Full x.off (x.off+cJ x.size) K):O4 [.i a,.i g,.i r,.i n,B,C,D,E,F,G,.r (l.map bw),.r (fs.map fR),.r (i.map hR),.i k,.i x.key,.i x.cookie,.i x.off,.i x.size]=some (JV x (jb (iy fs i (mZ.getD k []) n) fs x.off (x.off+cJ x.size) K 0 [])):=by
 obtain⟨sk,c⟩:∃sk,mZ.getD k []=sk:=⟨_,rfl⟩
 have V:sk.length<=6:=by rw[<-c];exact XJ J
 have j:=arH J;rw[G',c]at j;rw[c];have N:=SX q U;have d:=adW a g r n B C D E F G S q H I T V (off:=x.off) (s:=cJ x.size) om om N.2.2.2.2.2 M;have R:=FK H I i sk q.2.1 q.2.2.1 (off:=x.off) (s:=cJ x.size) om om N.2.2.2.2.2 M;obtain⟨o,O⟩:∃o,jb (iy fs i sk n) fs x.off (x.off+cJ x.size) K 0 []=o:=⟨_,rfl⟩
 rw[O]at d⊢;have hlen:∀b,o=some b->B8 b/\(b.length:Int)=cJ x.size:=λb W=>by
  have h:=abL R (O.trans W);exact⟨h.1,om⟩
 refine bN ?_;refine bE (λxs=>xs=[.b false]) ?_ ?_
 .refine uR ?_;refine db rfl om (uR ?_);refine db rfl om (uR ?_);refine db rfl om (uR ?_);refine a7 ?_;exact dF om
 rintro _ rfl;refine nW ?_;refine cZ rfl ?_;refine bu j rfl rfl (nW ?_);refine bu (pH x.size) rfl rfl (nW ?_)
 cases o with
 |none=>
  refine bu (l:=[.b false,.r []]) d rfl rfl (uR ?_);refine eL rfl ?_;exact a7 rfl
 |some b=>
  have z:=hlen b rfl;refine bu (l:=[.b true,.r (b.map b1)]) d rfl rfl (uR ?_);refine cZ rfl ?_;have p:=UD b z.1 om;obtain⟨u,A,v,dc,dd,data,X⟩:=B6 b;show a8.wp _ _ (dX λy=>y=wa x (cJ x.size) (mK b));rw[X]at p⊢;obtain⟨y,e⟩:∃y,wa x (cJ x.size) [.i u,.i A,.i v,.i dc,.b dd,.r (data.map b1)]=y:=⟨_,rfl⟩
  rw[e];have e:(if A≠0\/u≠cJ x.size\/dd=true\/v≠x.key\/dc≠x.cookie\/((data.map b1).length:Int)≠x.size then tE else[.b true,.i v,.i dc,.b dd,.r (data.map b1)])=y:=e;refine KA (m:=data) p rfl rfl (nW ?_);refine bE (cI (A≠0\/u≠cJ x.size\/dd=true\/v≠x.key\/dc≠x.cookie\/((data.map b1).length:Int)≠x.size)) ?_ ?_
  .refine uR ?_;refine bG rfl (λc1=>?_) (λc1=>?_)
   .exact a7 (cC (.inl c1))
   refine uR ?_;refine bG rfl (λc2=>?_) (λc2=>?_)
   .exact a7 (cC (.inr (.inl (by rw[bC]at c2;omega))))
   have c2:¬u≠cJ x.size:=by rw[bC]at c2;omega
   refine bZ (λc3=>?_) (λc3=>?_)
   .exact a7 (cC (.inr (.inr (.inl c3))))
   have c3:dd=false:=c3;refine uR ?_;refine bG rfl (λc4=>?_) (λc4=>?_)
   .exact a7 (cC (.inr (.inr (.inr (.inl c4)))))
   refine uR ?_;refine bG rfl (λc5=>?_) (λc5=>?_)
   .exact a7 (cC (.inr (.inr (.inr (.inr (.inl c5))))))
   refine uR ?_;refine a7 (d' ?_);constructor
   .exact λh=>.inr (.inr (.inr (.inr (.inr h))))
   .rintro(h|h|h|h|h|h)
    .exact absurd h c1
    .exact absurd h c2
    .rw[c3]at h;cases h
    .exact absurd h c4
    .exact absurd h c5
    .exact h
  rintro _ ⟨t,rfl,P⟩;refine nW ?_;refine bZ (λw=>?_) (λw=>?_)
  .rw[bF (P.1 w)]at e;refine a7 ?_;exact e
  .rw[bO (λh=>by rw[P.2 h]at w;cases w)]at e;refine a7 ?_;exact e
theorem X7{F105 F106 F107 F108 ls}(a:ls.length=17){b c}(d:F105 (ls.take 13)=some [.b b])(e:F106 (((ls.drop 10).take 1).append (ls.drop 13))=some [.b c])(f:F107 []=some []):
 wm F105 F106 F107 F108 ls=if b=true then(if c=true then kP F108 ls 22 0 else some [.i 0,.i 0,.b false,.i 1,.r []])else some [.i 0,.i 0,.b false,.i 1,.r []]:=by
 unfold wm;rw[bF a,d]
 cases b with
 |false=>rfl
 |true=>
  rw[e]
  cases c with
  |false=>rfl
  |true=>
   rw[bF f];rfl
theorem XA(x)(o):∃(ok:Bool)(key cookie:Int)(a:Bool)(data:List Nat),JV x o=[.b ok,.i key,.i cookie,.b a,.r (data.map b1)]:=by
 have c:∃(ok:Bool)(key cookie:Int)(a:Bool)(data:List Nat),tE=[.b ok,.i key,.i cookie,.b a,.r (data.map b1)]:=⟨false,0,0,false,[],rfl⟩
 cases o with
 |none=>exact c
 |some b=>
  obtain⟨f,g,e,dc,dd,data,h⟩:=B6 b;show∃(ok:Bool)(key cookie:Int)(a:Bool)(data:List Nat),wa x (cJ x.size) (mK b)=_;rw[h];show∃(ok:Bool)(key cookie:Int)(a:Bool)(d:List Nat),(if g≠0\/f≠cJ x.size\/dd=true\/e≠x.key\/dc≠x.cookie\/((data.map b1).length:Int)≠x.size then tE else[.b true,.i e,.i dc,.b dd,.r (data.map b1)])=[.b ok,.i key,.i cookie,.b a,.r (d.map b1)]
  split
  .exact c
  .exact⟨_,_,_,_,_,rfl⟩
theorem aeA(a g r n)(m4 m5 m6 m7 m8 m9){l:List It}(hl:l.length<=4294967296){fs:List (List Nat)}(hf:fs.length=6){hv:List Bool}(hh:hv.length=6)(hB:∀f∈fs,B8 f)(x:It):∃(e key cookie:Int)(del:Bool)(data:List Nat),zO [.i a,.i g,.i r,.i n,m4,m5,m6,m7,m8,m9,.r (l.map bw),.r (fs.map fR),.r (hv.map hR),.i x.key,.i x.cookie,.i x.off,.i x.size]=some [.i key,.i cookie,.b del,.i e,.r (data.map b1)]/\Mn [.i a,.i g,.i r,.i n,m4,m5,m6,m7,m8,m9,.r (l.map bw),.r (fs.map fR),.r (hv.map hR),.i x.key,.i x.cookie,.i x.off,.i x.size]=some [.i e,.i key,.i cookie,.b del,.r (data.map b1)]:=by
 obtain⟨bh,Bg⟩:=dC (js a g r n l);obtain⟨bx,PM⟩:=dC (x∈l);have o4:=UL a g r n m4 m5 m6 m7 m8 m9 l hl fs hf hv hh Bg;have GL:=aka l hl x PM;have PN:=Zk a g r n m4 m5 m6 m7 m8 m9 l hl Bg;have acJ:vh []=some []:=rfl;have errP:∀(h:bh=false\/bx=false),zO [.i a,.i g,.i r,.i n,m4,m5,m6,m7,m8,m9,.r (l.map bw),.r (fs.map fR),.r (hv.map hR),.i x.key,.i x.cookie,.i x.off,.i x.size]=some [.i 0,.i 0,.b false,.i 1,.r []]:=by
  intro h;rw[show zO [.i a,.i g,.i r,.i n,m4,m5,m6,m7,m8,m9,.r (l.map bw),.r (fs.map fR),.r (hv.map hR),.i x.key,.i x.cookie,.i x.off,.i x.size]=_ from X7 (F105:=rH) (F106:=tg) (F107:=vh) (F108:=lR) (ls:=[.i a,.i g,.i r,.i n,m4,m5,m6,m7,m8,m9,.r (l.map bw),.r (fs.map fR),.r (hv.map hR),.i x.key,.i x.cookie,.i x.off,.i x.size]) rfl o4 GL acJ]
  cases bh with
  |false=>rfl
  |true=>cases bx with
   |false=>rfl
   |true=>rcases h with h|h<;>cases h
 by_cases hH:js a g r n l
 .by_cases hx :x∈l
  ·
   obtain⟨K,hK⟩:=aea x.off (x.off+cJ x.size) (by have:=yP x.size;omega);have hcP:=λk(hk:k<22)=>aeJ a g r n m4 m5 m6 m7 m8 m9 hl hH hf hB hh (sk:=mZ.getD k []) (XJ hk) hx hK
   have hcR:=λk(hk:k<22)=>aiH a g r n m4 m5 m6 m7 m8 m9 hl hH hf hB hh hk hx hK
   have uO:∀m k,m+k=22->∃(e key cookie:Int)(del:Bool)(data:List Nat),kP lR [.i a,.i g,.i r,.i n,m4,m5,m6,m7,m8,m9,.r (l.map bw),.r (fs.map fR),.r (hv.map hR),.i x.key,.i x.cookie,.i x.off,.i x.size] m k=some [.i key,.i cookie,.b del,.i e,.r (data.map b1)]:=by
    intro m
    induction m with
    |zero=>intro k _;exact⟨11,0,0,false,[],rfl⟩
    |succ m ih=>
     intro k hk;obtain⟨ok,key,cookie,del,data,hc⟩:=XA x (jb (iy fs hv (mZ.getD k []) n) fs x.off (x.off+cJ x.size) K 0 []);have h1:lR (y6 [.i a,.i g,.i r,.i n,m4,m5,m6,m7,m8,m9,.r (l.map bw),.r (fs.map fR),.r (hv.map hR),.i x.key,.i x.cookie,.i x.off,.i x.size] (kv k))=some [.b ok,.i key,.i cookie,.b del,.r (data.map b1)]:=by rw[<-hc,G'];exact hcP k om
     rw[kP,h1]
     cases ok with
     |true=>exact⟨0,key,cookie,del,data,rfl⟩
     |false=>exact ih (k+1) om
   obtain⟨e,key,cookie,del,data,hres⟩:=uO 22 0 rfl;have PO:bh=true:=Bg.2 hH;have hxt:bx=true:=PM.2 hx;subst PO hxt;refine⟨e,key,cookie,del,data,?_,?_⟩
   .rw[show zO [.i a,.i g,.i r,.i n,m4,m5,m6,m7,m8,m9,.r (l.map bw),.r (fs.map fR),.r (hv.map hR),.i x.key,.i x.cookie,.i x.off,.i x.size]=_ from X7 (F105:=rH) (F106:=tg) (F107:=vh) (F108:=lR) (ls:=[.i a,.i g,.i r,.i n,m4,m5,m6,m7,m8,m9,.r (l.map bw),.r (fs.map fR),.r (hv.map hR),.i x.key,.i x.cookie,.i x.off,.i x.size]) rfl o4 GL acJ];exact hres
   .refine bN ?_;refine bE (λxs=>xs=[.b false]) ?_ ?_
    .refine bu PN rfl rfl (uR ?_);refine cZ rfl (uR ?_);refine db rfl (by rw[bC,hf];decide) (uR ?_);refine a7 ?_;exact dF (by rw[bC,hh];decide)
    rintro _ rfl;refine nW ?_;refine cZ rfl ?_;refine bE (λxs=>xs=[.b true]) ?_ ?_
    .refine wp_loop (I:=λy=>∃(i:Nat)(b:Bool),y=[.b b,.i i]/\i<=l.length/\(b=true↔x∈l.take i)) (mu:=λy=>match y with|[_,.i i]=>l.length-i.toNat|_=>0) ⟨0,false,rfl,om,by simp⟩ ?_;rintro y ⟨i,b,rfl,e1,e2⟩;refine uR ?_;refine bG rfl (λhc=>?_) (λhc=>?_);rotate_left
     .rw[bC]at hc;refine a7 ?_;show[L.b b]=[L.b true]
      rw[show b=true by rw[gX om]at e2;exact e2.2 hx]
     rw[bC]at hc;have hi:i<l.length:=om;have fI:l.take (i+1)=l.take i++[l[i]]:=gW hi;refine bE (λxs=>∃b:Bool,xs=[.b b]/\(b=true↔x∈l.take (i+1))) ?_ ?_
     .refine bZ (λhy=>?_) (λhy=>?_)
      .exact a7 ⟨true,rfl,by rw[fI,fo];exact⟨λ_=>.inl (e2.1 hy),λ_=>rfl⟩⟩
      .refine bU (f:=bw) (j:=i) rfl rfl hi rfl (uR ?_);refine a7 ⟨(((decide (l[i].key=x.key)&&decide (l[i].cookie=x.cookie))&&decide (l[i].off=x.off))&&decide (l[i].size=x.size)),rfl,?_⟩;rw[fI,fo,fO];simp only[cd,dj];constructor
       .rintro⟨⟨⟨h1,h2⟩,h3⟩,h4⟩;right;cases x;cases h:l[i];simp only[h]at*;subst h1 h2 h3 h4;rfl
       .rintro(h|h)
        .rw[e2.2 h]at hy;cases hy
        .rw[h];exact⟨⟨⟨rfl,rfl⟩,rfl⟩,rfl⟩
     rintro _ ⟨b',rfl,hb'⟩;refine nW ?_;refine cm (i:=i) rfl om (nW ?_);refine a7 ⟨⟨i+1,b',rfl,om,hb'⟩,?_⟩;show l.length- ((i+1:Nat):Int).toNat<l.length-i;omega
    rintro _ rfl;refine uR ?_;refine cZ rfl ?_;refine bE (λxs=>xs=[]/\kP lR [.i a,.i g,.i r,.i n,m4,m5,m6,m7,m8,m9,.r (l.map bw),.r (fs.map fR),.r (hv.map hR),.i x.key,.i x.cookie,.i x.off,.i x.size] 0 22=some [.i key,.i cookie,.b del,.i e,.r (data.map b1)]) ?_ ?_;rotate_left
    .rintro _ ⟨rfl,h⟩;refine nW ?_;refine a7 ?_;have h:=pf h;injection h with h1 h
     injection h with h2 h
     injection h with h3 h
     injection h with h4 h
     injection h with h5 h
     show[L.i 11,L.i 0,L.i 0,L.b false,L.r []]=[L.i e,L.i key,L.i cookie,L.b del,L.r (data.map b1)]
     rw[<-h1,<-h2,<-h3,<-h4,<-h5]
    refine wp_loop (I:=λy=>∃k:Nat,y=[.i k]/\k<=22/\kP lR [.i a,.i g,.i r,.i n,m4,m5,m6,m7,m8,m9,.r (l.map bw),.r (fs.map fR),.r (hv.map hR),.i x.key,.i x.cookie,.i x.off,.i x.size] (22-k) k=some [.i key,.i cookie,.b del,.i e,.r (data.map b1)]) (mu:=λy=>match y with|[.i k]=>22-k.toNat|_=>0) ⟨0,rfl,om,hres⟩ ?_;rintro y ⟨k,rfl,e1,e2⟩;refine uR ?_;refine bG rfl (λhc=>?_) (λhc=>?_);rotate_left
    .obtain rfl:k=22:=om;exact a7 ⟨rfl,e2⟩
    obtain⟨ok,PQ,PR,PS,PT,hcc⟩:=XA x (jb (iy fs hv (mZ.getD k []) n) fs x.off (x.off+cJ x.size) K 0 []);have h1:lR (y6 [.i a,.i g,.i r,.i n,m4,m5,m6,m7,m8,m9,.r (l.map bw),.r (fs.map fR),.r (hv.map hR),.i x.key,.i x.cookie,.i x.off,.i x.size] (kv k))=some [.b ok,.i PQ,.i PR,.b PS,.r (PT.map b1)]:=by rw[<-hcc,G'];exact hcP k om
    have h2:=hcR k om;rw[hcc]at h2;rw[show 22-k=(22- (k+1))+1 by omega,kP,h1]at e2;have e2:(if ok=true then some [L.i PQ,.i PR,.b PS,.i 0,.r (PT.map b1)]else kP lR _ (22- (k+1)) (k+1))=_:=e2;refine bu h2 rfl rfl (nW ?_);refine bZ (λhz=>?_) (λhz=>?_)
    .have hz:ok=true:=hz;rw[bF hz]at e2;have h:=pf e2;injection h with h1 h
     injection h with h2 h
     injection h with h3 h
     injection h with h4 h
     injection h with h5 h
     refine a7 ?_;show[L.i 0,L.i PQ,L.i PR,L.b PS,L.r (PT.map b1)]=[L.i e,L.i key,L.i cookie,L.b del,L.r (data.map b1)]
     rw[h1,h2,h3,h5,h4]
    .have hz:ok=false:=hz;rw[bO (by rw[hz];decide)]at e2;refine cm (i:=k) rfl om (nW ?_);refine a7 ⟨⟨k+1,rfl,om,e2⟩,?_⟩;show 22- ((k+1:Nat):Int).toNat<22-k;omega
  .have hxf:bx=false:=by cases bx with|false=>rfl|true=>exact absurd (PM.1 rfl) hx
   have PO:bh=true:=Bg.2 hH;refine⟨1,0,0,false,[],errP (.inr hxf),?_⟩;subst PO;refine bN ?_;refine bE (λxs=>xs=[.b false]) ?_ ?_
   .refine bu PN rfl rfl (uR ?_);refine cZ rfl (uR ?_);refine db rfl (by rw[bC,hf];decide) (uR ?_);refine a7 ?_;exact dF (by rw[bC,hh];decide)
   rintro _ rfl;refine nW ?_;refine cZ rfl ?_;refine bE (λxs=>xs=[.b false]) ?_ ?_
   .refine wp_loop (I:=λy=>∃(i:Nat)(b:Bool),y=[.b b,.i i]/\i<=l.length/\(b=true↔x∈l.take i)) (mu:=λy=>match y with|[_,.i i]=>l.length-i.toNat|_=>0) ⟨0,false,rfl,om,by simp⟩ ?_;rintro y ⟨i,b,rfl,e1,e2⟩;refine uR ?_;refine bG rfl (λhc=>?_) (λhc=>?_);rotate_left
    .rw[bC]at hc;refine a7 ?_;show[L.b b]=[L.b false]
     rw[show b=false by rw[gX om]at e2;exact Qn.2 λh=>hx (e2.1 h)]
    rw[bC]at hc;have hi:i<l.length:=om;have fI:l.take (i+1)=l.take i++[l[i]]:=gW hi;refine bE (λxs=>∃b:Bool,xs=[.b b]/\(b=true↔x∈l.take (i+1))) ?_ ?_
    .refine bZ (λhy=>?_) (λhy=>?_)
     .exact a7 ⟨true,rfl,by rw[fI,fo];exact⟨λ_=>.inl (e2.1 hy),λ_=>rfl⟩⟩
     .refine bU (f:=bw) (j:=i) rfl rfl hi rfl (uR ?_);refine a7 ⟨(((decide (l[i].key=x.key)&&decide (l[i].cookie=x.cookie))&&decide (l[i].off=x.off))&&decide (l[i].size=x.size)),rfl,?_⟩;rw[fI,fo,fO];simp only[cd,dj];constructor
      .rintro⟨⟨⟨h1,h2⟩,h3⟩,h4⟩;right;cases x;cases h:l[i];simp only[h]at*;subst h1 h2 h3 h4;rfl
      .rintro(h|h)
       .rw[e2.2 h]at hy;cases hy
       .rw[h];exact⟨⟨⟨rfl,rfl⟩,rfl⟩,rfl⟩
    rintro _ ⟨b',rfl,hb'⟩;refine nW ?_;refine cm (i:=i) rfl om (nW ?_);refine a7 ⟨⟨i+1,b',rfl,om,hb'⟩,?_⟩;show l.length- ((i+1:Nat):Int).toNat<l.length-i;omega
   rintro _ rfl;refine uR ?_;refine eL rfl ?_;exact a7 rfl
 .have o8:bh=false:=by cases bh with|false=>rfl|true=>exact absurd (Bg.1 rfl) hH
  refine⟨1,0,0,false,[],errP (.inl o8),?_⟩;subst o8;refine bN ?_;refine bE (λxs=>xs=[.b true]) ?_ ?_
  .refine bu PN rfl rfl (uR ?_);refine eL rfl ?_;exact a7 rfl
  rintro _ rfl;refine nW ?_;refine eL rfl ?_;exact a7 rfl
end
section
open Go.RowKit AI
attribute [local irreducible] a8.wp
theorem Uu{b:By}{w}(hb:cf 1 b=true)(hw:wA w)(h0:0<=w.off)(h1:w.off<=1048576)(hl:b.length<=4294967296):qz [.r b,.i w.off,.r w.data,.b w.cut]=some [.r (gD b w)]:=by
 have hd:=hw.2;refine bN ?_;refine uR ?_;refine fa rfl hb oO oO om rfl (nW ?_);refine bZ (λhc=>?_) (λhc=>?_)
 .have hc:w.cut=true:=hc;refine uR ?_;refine Ce rfl (uR ?_);refine na ⟨by exact oO,by exact oO,by exact oO,lG hb⟩ (uR ?_);refine a7 ?_;show[L.r _]=_;unfold gD;rw[bF hc];congr 2;rw[show(((min (b.length:Int) w.off).toNat-Int.toNat 0:Nat):Int).toNat=min b.length w.off.toNat by omega,List.take_eq_take_iff];omega
 have hc:¬w.cut=true:=by rw[show w.cut=false from hc];decide
 refine Dt ?_;refine wp_loop (I:=λa=>∃m:Nat,a=[.r (b++List.replicate m ie)]/\m<=w.off.toNat-b.length) (mu:=λa=>match a with|[.r r]=>w.off.toNat-r.length|_=>0) ⟨0,by show[L.r b]=_;simp,om⟩ ?_;rintro a ⟨m,rfl,e1⟩;have hl2:(b++List.replicate m ie).length=b.length+m:=by simp
 have hR:cf 1 (b++List.replicate m ie)=true:=yu hb (C3 rfl);refine uR ?_;refine bZ (λhc=>?_) (λhc=>?_)
 .have hlt:((b++List.replicate m ie).length:Int)<w.off:=dZ hc;refine uR ?_;refine fa hR rfl oO oO om rfl (nW ?_);refine a7 ⟨⟨m+1,?_,om⟩,?_⟩
  .rw[List.replicate_succ',<-eU];rfl
  .show w.off.toNat- ((b++List.replicate m ie)++_).length<w.off.toNat- (b++List.replicate m ie).length;rw[ez];show w.off.toNat- ((b++List.replicate m ie).length+1)<_;omega
 have nP:¬((b++List.replicate m ie).length:Int)<w.off:=eR hc;have hm:m=w.off.toNat-b.length:=om;refine a7 ?_;obtain⟨g,hg⟩:∃g,b++List.replicate m ie=g:=⟨_,rfl⟩
 have acL:gD b w=g.take w.off.toNat++w.data++b.drop (w.off.toNat+w.data.length):=by
  unfold gD;rw[bO (by assumption),<-hm,hg]
 have hdr:g.drop (w.off.toNat+w.data.length)=b.drop (w.off.toNat+w.data.length):=by
  rw[<-hg,List.drop_append];rw[show(List.replicate m ie).drop (w.off.toNat+w.data.length-b.length)=[]from qv (by simp;omega),ju]
 rw[hg]at hl2 hR nP;rw[hg];refine uR ?_;refine c_ (n:=w.off+w.data.length) (by rfl) om om (uR ?_);refine bZ (λhc=>?_) (λhc=>?_)
 .have hgt:(g.length:Int)<w.off+w.data.length:=dZ hc;refine uR ?_;refine na ⟨by exact oO,h0,by exact oO,lG hR⟩ (uR ?_);refine fa (r:=g.take w.off.toNat++w.data) (FY hR) hw.1 oO oO om ?_ ?_
  .try dsimp only[At.ev,d1,d2,d3,d4,d5,d6,d7,d8,d9,e0,List.map,cH,Kd.pv]
   rw[show((w.off.toNat-Int.toNat 0:Nat):Int).toNat=w.off.toNat by omega]
  refine nW ?_;refine a7 ?_;show[L.r _]=_;rw[acL,<-hdr,qv om,ju]
 .have hle:¬(g.length:Int)<w.off+w.data.length:=eR hc;refine uR ?_;refine na ⟨h0,by exact oO,by exact oO,lG hR⟩ (nW ?_);refine abJ ⟨hw.1,by exact oO⟩ rfl (nW ?_);refine a7 ?_;show[L.r _]=_;rw[acL,<-hdr];have e:min w.data.length (((w.off+(w.data.length:Int)).toNat-w.off.toNat:Nat):Int).toNat=w.data.length:=om;rw[e,iT]
end
end
end Go.Proofs.YtndegphojkiblaaGreatDoor
