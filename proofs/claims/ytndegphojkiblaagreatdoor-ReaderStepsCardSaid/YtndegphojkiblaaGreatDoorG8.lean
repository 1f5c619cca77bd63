/- A part. -/
import Derived.Test.YtndegphojkiblaaGreatDoorG7
set_option linter.all false
set_option maxHeartbeats 4000000
set_option maxRecDepth 100000
namespace Go.Proofs.YtndegphojkiblaaGreatDoor
noncomputable section
section
open Go.RowKit
open Classical
structure bB where
 f:FuncId
 params:List bK
 H:List SB
 fF:Nat
 il:Nat
 res:SV
 out:dh
 F:List L->Option (List L)
 tag:Nat:=0
def bB.ok(P:cD)(s:bB):Prop:=∀ls o,ls.length=s.fF->s.F ls=some o->o.length=s.il->
 fg P s.f (s.params.map (bK.a6 ls)) (s.H.map (SB.a6 ls)) (s.res.a6 (ls++o)) (s.out.a6 (ls++o))
def At.sub(σ:List At):At->At
 |.v n=>(σ[n]?).getD (.b false)
 |x=>x
theorem At.D8{σ ρ}(x:At):(x.sub σ).ev ρ=x.ev (σ.map (At.ev ρ)):=by
 cases x with
 |v n=>
  simp only[At.sub,At.ev,cN]
  cases σ[n]? with
  |none=>rfl
  |some y=>rfl
 |_=>rfl
def SC.put(σ:List At)(ρ:Nat->Nat):SC->SC
 |.p k x=>.p k (x.sub σ)
 |.nil=>.nil
 |.own n=>.own (ρ n)
 |.sub n a ln=>.sub (ρ n) (a.sub σ) (ln.sub σ)
 |.ptr n off=>.ptr (ρ n) off
 |.gN n off c m i=>.gN (ρ n) off c m (i.sub σ)
 |.dy n i j=>.dy (ρ n) (i.sub σ) j
 |.ref x j=>.ref (x.sub σ) j
 |.fn f dE=>.fn f (dE.map ρ)
 |.mp n=>.mp (ρ n)
 |.dead=>.dead
def bK.fh(f:SC->SC):bK->bK
 |.c y=>.c (f y)
 |.agg ys=>.agg (ys.map f)
def SV.fh(f:SC->SC):SV->SV
 |.v x=>.v (x.fh f)
 |.bq xs=>.bq (xs.map (bK.fh f))
def SB.fh(f:SC->SC)(g:At->At):SB->SB
 |.box cs=>.box (cs.map f)
 |.row e x=>.row e (g x)
 |.map=>.map
theorem SC.HU{σ ρ a}(c:SC):(c.put σ a).a6 ρ=(c.a6 (σ.map (At.ev ρ))).dK a:=by
 cases c<;>simp only[SC.put,SC.a6,C.dK,At.D8]
theorem bK.vc{σ ρ a}(x:bK):(x.fh (SC.put σ a)).a6 ρ=(x.a6 (σ.map (At.ev ρ))).on (C.dK a):=by
 cases x with
 |c c=>simp only[bK.fh,bK.a6,V1.on,SC.HU]
 |agg cs=>simp only[bK.fh,bK.a6,V1.on,h_];congr 1;apply ia;intro c _;exact SC.HU c
theorem SV.vc{σ ρ a}(x:SV):(x.fh (SC.put σ a)).a6 ρ=(x.a6 (σ.map (At.ev ρ))).on (C.dK a):=by
 cases x with
 |v x=>simp only[SV.fh,SV.a6,V.on,bK.vc]
 |bq xs=>simp only[SV.fh,SV.a6,V.on,h_];congr 1;apply ia;intro c _;exact bK.vc c
theorem SB.vc{σ ρ a}(x:SB):(x.fh (SC.put σ a) (At.sub σ)).a6 ρ=(x.a6 (σ.map (At.ev ρ))).on (C.dK a):=by
 cases x with
 |box cs=>simp only[SB.fh,SB.a6,eD.on,h_];congr 1;apply ia;intro c _;exact SC.HU c
 |row e x=>simp only[SB.fh,SB.a6,eD.on,At.D8]
 |map=>rfl
def SC.bare:SC->Bool
 |.p .sl _=>false
 |.ref _ _=>false
 |_=>true
def bK.bare:bK->Bool
 |.c x=>x.bare
 |.agg xs=>xs.all SC.bare
def SV.bare:SV->Bool
 |.v x=>x.bare
 |.bq xs=>xs.all bK.bare
def SB.bare(T:b_):SB->Bool
 |.box cs=>cs.all SC.bare
 |.row _ _=>false
 |.map=>true
theorem SC.ye{ρ}{c:SC}(h:c.bare=true):(c.a6 ρ).bare=true:=by
 cases c with
 |p k x=>cases k<;>first|rfl|cases h
 |ref=>cases h
 |_=>rfl
structure Acc where
 σ:List (Option At)
 ι:List (Option Nat)
 dz:List Nat
def Acc.atom(a:Acc)(i:Nat)(x:At):Acc:={a with σ:=a.σ.set i (some x)}
def Acc.name(a:Acc)(m n:Nat):Acc:={a with ι:=a.ι.set m (some n)}
def Z5(S:bp)(a:Acc):SC->SC->Acc
 |.p _ (.v i),.p _ x=>a.atom i x
 |.p _ (.v i),.nil=>a.atom i .r0
 |.p _ (.v i),.own n=>match List.lookup n S.heap with
  |some (.row _ x)=> {a.atom i x with dz:=if a.dz.contains n then a.dz else n::a.dz}
  |_=>a
 |.own m,.own n=>a.name m n
 |.sub m (.v i) (.v j),.sub n c ln=>((a.name m n).atom i c).atom j ln
 |.ptr m _,.ptr n _=>a.name m n
 |.fn _ e,.fn _ f=>(e.zip f).foldl (λa x=>a.name x.1 x.2) a
 |.mp m,.mp n=>a.name m n
 |.ref (.v i) _,.ref x _=>a.atom i x
 |_,_=>a
def HA(S:bp):Acc->List SC->List SC->Acc
 |a,f::e,c::cs=>HA S (Z5 S a f c) e cs
 |a,_,_=>a
def aqS(S:bp)(a:Acc):bK->bK->Acc
 |.c f,.c c=>Z5 S a f c
 |.agg e,.agg cs=>HA S a e cs
 |_,_=>a
def Mf(S:bp):Acc->List bK->List bK->Acc
 |a,f::e,c::cs=>Mf S (aqS S a f c) e cs
 |a,_,_=>a
def vC(S:bp):Acc->Nat->List SB->Acc
 |a,_,[]=>a
 |a,m,b::bs=>match a.ι[m]? with
  |some (some n)=>match b,List.lookup n S.heap with
   |.box c,some (.box cs)=>vC S (HA S a c cs) (m+1) bs
   |.row _ (.v i),some (.row _ x)=>vC S (a.atom i x) (m+1) bs
   |_,_=>vC S a (m+1) bs
  |_=>vC S a (m+1) bs
def BY(S:bp)(σ:List At)(ι dz:List Nat):SC->SC->Bool
 |.dead,_=>true
 |.p k x,.p g y=>decide (k=g)&& (x.sub σ).same y
 |.p .sl x,.nil=>(x.sub σ).same .r0
 |.p .sl x,.own n=>match List.lookup n S.heap with
  |some (.row _ y)=>(x.sub σ).same y&&dz.contains n
  |_=>false
 |.nil,.nil=>true
 |.own m,.own n=>ι[m]?==some n
 |.sub m h ln,.sub n c e=>ι[m]?==some n&& (h.sub σ).same c&& (ln.sub σ).same e
 |.ptr m off,.ptr n a=>ι[m]?==some n&&off==a
 |.ref x j,.ref y i=>(x.sub σ).same y&&j==i
 |.fn f l,.fn o p=>f==o&&l.map (λm=>ι[m]?)==p.map some
 |.mp m,.mp n=>ι[m]?==some n
 |_,_=>false
def ya(S:bp)(σ:List At)(ι dz:List Nat):List SC->List SC->Bool
 |[],[]=>true
 |c'::a,c::cs=>BY S σ ι dz c' c&&ya S σ ι dz a cs
 |_,_=>false
def Rx(S:bp)(σ:List At)(ι dz:List Nat):bK->bK->Bool
 |.c e,.c c=>BY S σ ι dz e c
 |.agg a,.agg cs=>ya S σ ι dz a cs
 |_,_=>false
def Af(S:bp)(σ:List At)(ι dz:List Nat):List bK->List bK->Bool
 |[],[]=>true
 |c'::a,c::cs=>Rx S σ ι dz c' c&&Af S σ ι dz a cs
 |_,_=>false
def LJ(S:bp)(σ:List At)(ι dz:List Nat):SB->SB->Bool
 |.box a,.box cs=>ya S σ ι dz a cs
 |.row e x,.row c y=>e==c&& (x.sub σ).same y
 |.map,.map=>true
 |_,_=>false
def zG(S:bp)(σ:List At)(ι dz:List Nat):List Nat->List SB->Bool
 |[],[]=>true
 |n::a,c::bs=>(match List.lookup n S.heap with|some b=>LJ S σ ι dz c b|none=>false)&&zG S σ ι dz a bs
 |_,_=>false
section
variable{S:bp}{ρ:List L}{σ:List At}{ι dz:List Nat}
theorem EJ{m n}(h:(ι[m]?==some n)=true):(ι[m]?).getD 0=n/\m<ι.length:=by
 grind
theorem Xo{l c}(h:BY S σ ι dz l c=true):rR (S.a6 ρ) ι dz (l.a6 (σ.map (At.ev ρ))) (c.a6 ρ):=by
 have same:∀{x y:At},(x.sub σ).same y=true->x.ev (σ.map (At.ev ρ))=y.ev ρ:=λp=>by rw[<-At.D8,At.lJ p]
 unfold BY at h;split at h
 .trivial
 .simp only[cd,dj]at h;obtain⟨rfl,a⟩:=h;exact .inl (by grind[SC.a6])
 .exact .inr ⟨[],by simp only[Kd.pv,same h];rfl,rfl,λk o=>by simp[SC.a6,C.names]at o⟩
 .split at h
  .rename_i e y q;simp only[cd,Bv,dj]at h;refine .inr ⟨(y.ev ρ).bm,by grind[Kd.pv],by grind[SC.a6,bz.view,ep,SB.a6],λk o=>?_⟩;simp_all[SC.a6,C.names]
  .cases h
 .exact⟨rfl,by simp[SC.a6,C.names]⟩
 .obtain⟨j,a⟩:=EJ h;exact⟨by grind[SC.a6,C.dK],by grind[SC.a6,C.names]⟩
 .simp only[cd]at h;obtain⟨j,a⟩:=EJ h.1.1;exact⟨by grind[SC.a6,C.dK],by grind[SC.a6,C.names]⟩
 .simp only[cd,beq_iff_eq]at h;obtain⟨j,a⟩:=EJ (by simpa using h.1);exact⟨by simp_all[SC.a6,C.dK],by grind[SC.a6,C.names]⟩
 .simp only[cd,beq_iff_eq]at h;exact⟨by grind[SC.a6,C.dK],by simp[SC.a6,C.names]⟩
 .rename_i f g r i;simp only[cd,beq_iff_eq]at h;obtain⟨rfl,a⟩:=h;have s:i=g.map (λm=>(ι[m]?).getD 0)/\∀m∈g,m<ι.length:=by
   induction g generalizing i with
   |nil=>simp_all
   |cons m g ih=>
    cases i with
    |nil=>simp at a
    |cons n i=>
     grind
  exact⟨by simp_all[SC.a6,C.dK],by simp_all[SC.a6,C.names]⟩
 .obtain⟨j,a⟩:=EJ h;exact⟨by grind[SC.a6,C.dK],by grind[SC.a6,C.names]⟩
 .cases h
theorem Np:∀{a cs:List SC},ya S σ ι dz a cs=true->cs.length=a.length/\∀(i:Nat)(c':C),(a.map (SC.a6 (σ.map (At.ev ρ))))[i]?=some c'->∃c,(cs.map (SC.a6 ρ))[i]?=some c/\rR (S.a6 ρ) ι dz c' c
 |[],[],_=>⟨rfl,by simp⟩
 |c'::a,c::cs,h=>by
  simp only[ya,cd]at h;obtain⟨f,g⟩:=Np h.2;refine⟨by simp[f],λi d e=>?_⟩
  cases i with
  |zero=>simp at e;subst e;exact⟨_,rfl,Xo h.1⟩
  |succ i=>grind
 |[],_::_,h=>by cases h
 |_::_,[],h=>by cases h
theorem aoj{a x}(h:Rx S σ ι dz a x=true):vf (S.a6 ρ) ι dz (a.a6 (σ.map (At.ev ρ))) (x.a6 ρ):=by
 cases a with
 |c i=>
  cases x with
  |c c=>exact Xo h
  |agg=>cases h
 |agg e=>
  cases x with
  |c=>cases h
  |agg cs=>
   obtain⟨f,g⟩:=Np (ρ:=ρ) h;exact⟨by simpa using f,g⟩
theorem Sn:∀{a xs:List bK},Af S σ ι dz a xs=true->xs.length=a.length/\∀(i:Nat)(e:V1),(a.map (bK.a6 (σ.map (At.ev ρ))))[i]?=some e->∃x,(xs.map (bK.a6 ρ))[i]?=some x/\vf (S.a6 ρ) ι dz e x
 |[],[],_=>⟨rfl,by simp⟩
 |c'::g,c::cs,h=>by
  simp only[Af,cd]at h;obtain⟨j,k⟩:=Sn h.2;refine⟨by simp[j],λi d f=>?_⟩
  cases i with
  |zero=>simp at f;subst f;exact⟨_,rfl,aoj h.1⟩
  |succ i=>grind
 |[],_::_,h=>by cases h
 |_::_,[],h=>by cases h
theorem asy{a b}(h:LJ S σ ι dz a b=true):vz (S.a6 ρ) ι dz (a.a6 (σ.map (At.ev ρ))) (b.a6 ρ):=by
 cases a with
 |box c=>
  cases b with
  |box cs=>
   obtain⟨f,g⟩:=Np (ρ:=ρ) h;exact⟨by simpa using f,g⟩
  |_=>cases h
 |row e x=>
  cases b with
  |row i y=>
   simp only[LJ,cd,beq_iff_eq]at h;exact⟨h.1,by rw[<-At.D8,At.lJ h.2]⟩
  |_=>cases h
 |map=>
  cases b with
  |map=>rfl
  |_=>cases h
theorem VB:∀{a:List Nat}{bs:List SB},zG S σ ι dz a bs=true->a.length=bs.length/\∀(i:Nat)(f:eD),(bs.map (SB.a6 (σ.map (At.ev ρ))))[i]?=some f->∃n b,a[i]?=some n/\(S.a6 ρ).heap.lookup n=some b/\vz (S.a6 ρ) ι dz f b
 |[],[],_=>⟨rfl,by simp⟩
 |n ::a,b::bs,h=>by
  simp only[zG,cd]at h;obtain⟨j,l⟩:=VB h.2;refine⟨by simp[j],λi d g=>?_⟩
  cases i with
  |zero=>
   simp at g;subst g;have c:=h.1;split at c
   .rename_i k e;exact⟨n,k.a6 ρ,rfl,by rw[ep,e];rfl,asy c⟩
   .cases c
  |succ i=>grind
 |[],_::_,h=>by cases h
 |_::_,[],h=>by cases h
end
def Nh{α:Type}:List (Option α)->Option (List α)
 |[]=>some []
 |some x::l=>(Nh l).map (x:: ·)
 |none::_=>none
def bB.bare(T:b_)(s:bB):Bool:=s.res.bare&&s.out.all λx=>match x.2 with
 |.box cs=>cs.all SC.bare
 |.row e (.v i)=>decide (s.fF<=i)&&match(List.lookup e T).bind Ty.oQ with
  |some ks=>ks.all λk=>decide (k≠ .sl)
  |none=>false
 |.map=>true
 |_=>false
def bB.look(s:bB):List Nat:=s.out.filterMap λx=>match x.2 with
 |.row _ (.v i)=>some (i-s.fF)
 |_=>none
def wI(k:Nat)(o:dh)(a:List Nat):Bool:=a.all λn=>decide (n<k+8)&& (decide (k<=n)|| (List.lookup n o).isSome)
def Er(T:b_)(S:bp)(d:Nat)(xs:List bK)(s:bB):Option cE:=
 let a:=vC S (Mf S ⟨List.replicate s.fF none,List.replicate s.H.length none,[]⟩ s.params xs) 0 s.H
 match Nh a.σ,Nh a.ι with
 |some σ,some ι=>
  let dz:=a.dz
  let bare:=s.bare T&& !dz.isEmpty
  let bt:=(if bare then[]else dz)++(ι.zipIdx.filterMap λx=>if(List.lookup x.2 s.out).isNone then some x.1 else none)
  let e:=n_ ι d
  let c:=σ++(List.range s.il).map λi=>.v (S.nv+i)
  if σ.length=s.fF/\decide ι.Nodup=true/\Af S σ ι dz s.params xs=true/\zG S σ ι dz ι s.H=true/\(ι.all λn=> !S.bt.contains n&& !dz.contains n)=true/\(dz.all λn=> !S.bt.contains n)=true/\
   wI ι.length s.out s.res.names=true/\(s.out.all λx=>decide (x.1<ι.length+8)&&wI ι.length s.out x.2.names)=true/\(bt.all λn=>decide (n<d))=true
  then some ⟨[.call s.tag s.F σ s.il (if bare then s.look else[])],s.res.fh (SC.put c e),⟨s.out.map λx=>(e x.1,x.2.fh (SC.put c e) (At.sub c)),bt⟩,ι++dz⟩else none
 |_,_=>none
theorem SC.ZI(ρ)(b:SB):(b.a6 ρ).names=b.names:=by
 cases b with
 |box cs=>exact SC.VJ ρ cs
 |row=>rfl
 |map=>rfl
theorem z8{l:dh}{n b}(h:List.lookup n l=some b):(n,b)∈l:=by
 induction l with
 |nil=>cases h
 |cons x l ih=>
  grind
theorem adL{P T S ρ d xs s r}(hs:s.ok P)(h:Er T S d xs s=some r)(J:Sat ρ S.nv r.nds):
 AA P (S.a6 ρ) d s.f (xs.map (bK.a6 ρ)) (r.v.a6 ρ) (r.e.a6 ρ) r.rd:=by
 unfold Er at h;simp only at h;generalize vC S (Mf S ⟨List.replicate s.fF none,List.replicate s.H.length none,[]⟩ s.params xs) 0 s.H=a at h;split at h
 .rename_i σ ι aj ak;generalize U:a.dz=dz at h;generalize f:(s.bare T&& !dz.isEmpty)=bare at h;generalize D:(if bare=true then[]else dz)++(ι.zipIdx.filterMap λx=>if(List.lookup x.2 s.out).isNone then some x.1 else none)=bt at h;by_cases hc:σ.length=s.fF/\decide ι.Nodup=true/\Af S σ ι dz s.params xs=true/\zG S σ ι dz ι s.H=true/\(ι.all λn=> !S.bt.contains n&& !dz.contains n)=true/\(dz.all λn=> !S.bt.contains n)=true/\
   wI ι.length s.out s.res.names=true/\(s.out.all λx=>decide (x.1<ι.length+8)&&wI ι.length s.out x.2.names)=true/\(bt.all λn=>decide (n<d))=true
  .rw [bF hc]at h;simp only[iQ]at h;subst h;subst D;obtain⟨W,E,X,Y,F,K,Z,z,M⟩:=hc;simp only[dj]at E;simp only[cj,cd,o_,Bv,u6]at F K;simp only[cj,dj]at M;obtain⟨⟨o,g,al⟩,_⟩:=J;simp only[Nd.ev]at g;generalize N:(if bare=true then s.look else[])=us at g;split at g
   .rename_i l hF;split at g
    .rename_i q;cases g;obtain⟨aa,G⟩:=q;have ab:(σ.map (At.ev ρ)).length=s.fF:=by simp[W]
     have hA:=hs (σ.map (At.ev ρ)) o ab hF aa;have A:(σ++(List.range s.il).map λi=>At.v (S.nv+i)).map (At.ev ρ)=σ.map (At.ev ρ)++o:=by
      rw[eB];congr 1;apply sv;intro i;simp only[h_,cN];by_cases hi:i<s.il
      .simp_all[Nd.n,bS,Function.comp,At.ev,gS]
      simp_all
     obtain⟨ad,ae⟩:=Sn (ρ:=ρ) X;obtain⟨k,af⟩:=VB (ρ:=ρ) Y;have p:∀n,List.lookup n (dh.a6 (σ.map (At.ev ρ)++o) s.out)=(List.lookup n s.out).map (SB.a6 (σ.map (At.ev ρ)++o)):=dh.Cw _ s.out;have O:∀ns,wI ι.length s.out ns=true->∀n∈ns,n<ι.length+8/\(n<ι.length->List.lookup n s.out≠none):=by
      intro ns ag n q;simp only[wI,cj,cd,qu,dj]at ag;grind
     refine⟨_,_,_,_,ι,dz,hA,by simpa using k,E,by simpa using ad,ae,af,λn q=>⟨(F n q).1,(F n q).2⟩,K,?_,?_,?_,?_,?_,?_,?_,M,?_,?_,rfl⟩
     .grind[SV.mG]
     .intro n b t;rw[p]at t;simp only[bY]at t;obtain⟨b0,u,rfl⟩:=t;simp only[cj,cd,dj]at z;obtain⟨w,H⟩:=z _ (z8 u);grind[SC.ZI]
     .intro n q I;rw[SV.mG]at q;rw[p];have:=(O _ Z n q).2 I
      cases hx:List.lookup n s.out with
      |none=>grind
      |some _=>simp
     .intro n b t m hm I;rw[p]at t;simp only[bY]at t;obtain⟨b0,u,rfl⟩:=t;simp only[cj,cd,dj]at z;obtain⟨w,H⟩:=z _ (z8 u);rw[p];have:=(O _ H m (by grind[SC.ZI])).2 I
      cases hx:List.lookup m s.out with
      |none=>grind
      |some _=>simp
     ·
      cases ah:bare with
      |false=>grind[gY.a6]
      |true =>
       right;rw[ah]at f N;rw[<-N]at G;simp only[cd]at f;have R:=f.1;unfold bB.bare at R;simp only[cd,cj]at R;refine⟨?_,λn b t=>?_⟩
       .have k:=R.1;generalize s.res=ai at k
        cases ai with
        |v x=>
         cases x with
         |c c=>exact SC.ye k
         |agg cs=>
          simp only[SV.bare,bK.bare,cj]at k;simp only[SV.a6,bK.a6,V.bare,V1.bare,cj,eV];rintro _ ⟨c,Q,rfl⟩;grind[SC.ye]
        |bq ys=>
         simp only[SV.bare,cj]at k;simp only[SV.a6,V.bare,cj,eV];rintro _ ⟨y,hy,rfl⟩;have:=k y hy
         cases y with
         |c c=>exact SC.ye this
         |agg cs=>
          simp only[bK.bare,cj]at this;simp only[bK.a6,V1.bare,cj,eV];rintro _ ⟨c,Q,rfl⟩;grind[SC.ye]
       .rw [p]at t;simp only[bY]at t;obtain⟨b0,u,rfl⟩:=t;have B:=z8 u;have w:=R.2 _ B
        cases b0 with
        |box cs=>
         simp only[cj]at w;simp only[SB.a6,eD.bare,cj,eV];rintro _ ⟨c,Q,rfl⟩;grind[SC.ye]
        |row e x=>
         cases x with
         |v i=>
          simp only[cd,dj]at w;have am:i-s.fF∈s.look:=by
           exact sx.2 ⟨_,B,rfl⟩
          grind[SB.a6,eD.bare,At.ev]
         |_=>cases w
        |map=>rfl
     ·
      intro i n hi;rw[p];simp only[gY.a6,fo,sx];constructor
      .rintro(w| ⟨⟨m,j⟩,w,H⟩)
       .grind
       .split at H
        .rename_i h3;cases H;rw[List.mem_zipIdx_iff_getElem?]at w;have h4:=mU.1 E;have:i=j:=by
          grind
         subst this;simp only[Option.isNone_iff_eq_none]at h3;rw[h3];rfl
        .cases H
      .intro w;right;refine⟨(n,i),by grind,?_⟩;have:List.lookup i s.out=none:=by
        cases hx:List.lookup i s.out with
        |none=>rfl
        |some _=>grind
       rw[this];rfl
     .intro n q;simp only[gY.a6,fo,sx]at q;rcases q with w| ⟨⟨m,j⟩,w,H⟩
      .grind
      grind
     .rw[SV.vc,A]
     .simp only[gY.a6,dh.a6,Hp.dK,h_];apply ia;intro x _;simp only[Function.comp,SB.vc,A]
    .cases g
   .cases g
  grind
 .cases h
abbrev dt:=List bB
def dt.ok(P:cD)(C:dt):Prop:=∀s∈C,s.ok P
def bp.D6(S:bp):List cF->Option (List bK)
 |[]=>some []
 |x::l=>match S.fb x,S.D6 l with
  |some y,some ys=>some (y::ys)
  |_,_=>none
def bp.callee(S:bp):cF->Option (FuncId×List Nat)
 |.func f=>some (f,[])
 |x=>match S.arg x with
  |some (.v (.c (.fn f dE)))=>some (f,dE)
  |_=>none
def An(T:b_)(S:bp)(d:Nat)(f:FuncId)(xs:List bK):dt->Option cE
 |[]=>none
 |s::C=>if s.f=f then match Er T S d xs s with
  |some r=>some r
  |none=>An T S d f xs C
  else An T S d f xs C
def JD(T:b_)(C:dt)(S:bp)(d:Nat)(x:cF)(args:List cF):Option cE:=
 match S.callee x,S.D6 args with
 |some (f,dE),some xs=>An T S d f (xs++dE.map λn=>.c (.ptr n 0)) C
 |_,_=>none
def bp.dE(S:bp):List cF->Option (List Nat)
 |[]=>some []
 |x::l=>match S.arg x,S.dE l with
  |some (.v (.c (.ptr n 0))),some a=>some (n::a)
  |_,_=>none
def bp.AN:List SC->Option (List (List (Kd×At)))
 |[]=>some []
 |.p k x::l=>(bp.AN l).map ([(k,x)]:: ·)
 |.nil::l=>(bp.AN l).map ([(.sl,.r0)]:: ·)
 |_=>none
def Ie(T:b_)(S:bp)(t:cg)(m k x:cF):Option cE:=match S.arg m,S.arg k,S.arg x,List.lookup t T with
 |some (.v (.c (.mp n))),some (.v (.c (.p (.int .u64) _))),some _,some r=>match List.lookup n S.heap with
  |some .map=>if r.CQ then some ⟨[],.c1 .dead,⟨[(n,.map)],[]⟩,[]⟩else none
  |_=>none
 |_,_,_,_=>none
def KO(T:b_)(S:bp)(t:cg)(m k:cF):Option cE:=match S.arg m,S.arg k,List.lookup t T with
 |some (.v (.c (.mp n))),some (.v (.c (.p (.int .u64) _))),some r=>match List.lookup n S.heap with
  |some .map=>if r.CQ then some ⟨[],.bq [],⟨[(n,.map)],[]⟩,[]⟩else none
  |_=>none
 |_,_,_=>none
def NN(T:b_)(S:bp)(s d:cg)(x:cF):Option cE:=match S.arg x,List.lookup s T with
 |some (.v (.c (.own n))),some r=>match List.lookup n S.heap,r.sl with
  |some (.row e a),some c=>match List.lookup c T with
   |some f=>if f.int=some .u8/\s=d then some ⟨[.row a (.i 0) 1],.c1 (.own n),⟨[(n,.row e a)],[]⟩,[]⟩else none
   |none=>none
  |_,_=>none
 |_,_=>none
def Mt(T:b_)(S:bp)(t:cg)(x:cF):Option cE:=match S.arg x,List.lookup t T with
 |some (.v (.c (.ptr n off))),some r=>match List.lookup n S.heap,r.arr with
  |some (.box cs),some (cM,e)=>match List.lookup e T,bp.AN ((cs.drop off).take cM)with
   |some a,some c=>if a.size=1/\a.info=true/\0<cM/\cM<=4096/\c.length=cM then some ⟨[.lit c],.c1 (.p .sl (.v S.nv)),⟨[],[n]⟩,[]⟩else none
   |_,_=>none
  |_,_=>none
 |_,_=>none
def Lg(T:b_)(S:bp)(t:cg)(s x:cF):Option cE:=match S.arg s,S.arg x,(List.lookup t T).bind Ty.elem with
 |some (.v (.c (.sub m (.i 0) ln))),some (.v (.c c)),some e=>match List.lookup m S.heap,S.view S.nv c,List.lookup e T with
  |some (.row f a),some (nds,b),some g=>match g.app with
   |some (n,_)=>if f=e then some ⟨nds++[.xl a ln b n],.c1 (.sub m (.i 0) (.v (S.nv+gy nds+1))),⟨[(m,.row e (.v (S.nv+gy nds)))],[]⟩,[]⟩else none
   |none=>none
  |_,_,_=>none
 |_,_,_=>none
def M9(T:b_)(S:bp)(d:Nat)(t f:cg)(s x:cF):Option cE:=match S.arg s,S.arg x,List.lookup t T,List.lookup f T with
 |some (.v (.c .nil)),some (.v (.c (.p (.int .i64) a))),some r,some g=>match r.elem,g.int with
  |some e,some _=>match List.lookup e T with
   |some c=>match c.app,c.oQ.bind vm with
    |some (n,b),some ps=>some ⟨[.f_ a ps b,.row (.v S.nv) (.i 0) n,.app .r0 (.v S.nv) n b],.c1 (.own d),⟨[(d,.row e (.v (S.nv+2)))],[]⟩,[]⟩
    |_,_=>none
   |none=>none
  |_,_=>none
 |_,_,_,_=>none
def KU(T:b_)(S:bp)(d:Nat)(t f:cg)(s x:cF):Option cE:=match S.arg s,S.arg x,List.lookup t T,List.lookup f T with
 |some (.v (.c (.own m))),some (.v (.c (.p (.int .i64) a))),some r,some g=>match r.elem,g.int,List.lookup m S.heap with
  |some e,some _,some (.row h y)=>match List.lookup e T with
   |some c=>match c.app,c.oQ.bind vm with
    |some (n,b),some ps=>if h=e then some ⟨[.f_ a ps b,.row (.v S.nv) (.i 0) n,.app y (.v S.nv) n b],.c1 (.own d),⟨[(d,.row e (.v (S.nv+2)))],[m]⟩,[]⟩else none
    |_,_=>none
   |none=>none
  |_,_,_=>none
 |_,_,_,_=>none
def Hi(T:b_)(S:bp)(d:Nat)(b:Builtin)(args:List cF)(ts:List cg):Option cE:=
 match b,args,ts with
 |.len,[x],[t]=>eQ T S t x
 |.append,[s,x],[t,c]=>if t=c then(if(List.lookup 999999 T).isSome then match Lg T S t s x with
  |some r=>some r
  |none=>sJ T S d t s x
  else sJ T S d t s x)else(match M9 T S d t c s x with
  |some r=>some r
  |none=>KU T S d t c s x)
 |.copy,[x,y],[t,_]=>NP T S t x y
 |.min,[x,y],_=>match S.arg x,S.arg y with
  |some (.v (.c (.p (.int k) a))),some (.v (.c (.p (.int _) b)))=>some ⟨[.mn a b],.c1 (.p (.int k) (.v S.nv)),eF,[]⟩
  |_,_=>none
 |.max,[x,y],_=>match S.arg x,S.arg y with
  |some (.v (.c (.p (.int k) a))),some (.v (.c (.p (.int _) b)))=>some ⟨[.mx a b],.c1 (.p (.int k) (.v S.nv)),eF,[]⟩
  |_,_=>none
 |.cap,[x],[t]=>match S.arg x,List.lookup t T with
  |some (.v (.c .nil)),some r=>if r.sl.isSome then some (.pure (.c1 (.p (.int .i64) (.i 0))))else none
  |_,_=>none
 |.delete,[m,k],t::_=>KO T S t m k
 |_,_,_=>none
def ke(T:b_)(C:dt)(S:bp)(d:Nat)(op:Op):Option cE:=match op with
 |.move (.tmp t)=>(S.tmps[t]?).map .pure
 |.move x=>(S.arg x).map .pure
 |.assign (.tmp t)=>(S.tmps[t]?).map .pure
 |.assign x=>(S.arg x).map .pure
 |.pick c a b=>match S.arg c with
  |some (.v (.c (.p .bool (.b t))))=>(if t then S.arg a else S.arg b).map .pure
  |_=>none
 |.alloc e=>((List.lookup e T).bind Ty.oQ).map λks=>⟨[],.c1 (.ptr d 0),⟨[(d,.box (ks.map Kd.zero))],[]⟩,[]⟩
 |.box _ x=>(S.fb x).map λx=>⟨[],.c1 (.ptr d 0),⟨[(d,.box x.cells)],[]⟩,[]⟩
 |.build t parts=>IM T S t parts.toList
 |.buildSlice t len parts=>I7 T S d t len parts.toList
 |.load t x=>Nq T S t x
 |.store t x y=>KZ T S t x y
 |.nilCheck x=>match S.arg x with
  |some (.v (.c (.ptr n o)))=>some (.pure (.c1 (.ptr n o)))
  |some (.v (.c (.gN n o c m i)))=>some (.pure (.c1 (.gN n o c m i)))
  |some (.v (.c (.dy n i j)))=>some (.pure (.c1 (.dy n i j)))
  |some (.v (.c (.ref x j)))=>some (.pure (.c1 (.ref x j)))
  |some (.v (.c (.fn f dE)))=>some (.pure (.c1 (.fn f dE)))
  |_=>none
 |.binOp op t x y _=>OW T S op t x y
 |.unOp op _ x=>Ho S op x
 |.convert s t x=>match KW T S s t x with
  |some r=>some r
  |none=>NN T S s t x
 |.makeSlice t l c=>JP T S d t l c
 |.slice t x h p none=>match Ht T S t x h p with
  |some r=>some r
  |none=>match h,p with
   |none,none=>Mt T S t x
   |_,_=>none
 |.slice t x h (some p) (some mx)=>Ka T S t x h p mx
 |.sliceToArrayPointer t x=>Jl T S t x
 |.makeMap _ none=>some ⟨[],.c1 (.mp d),⟨[(d,.map)],[]⟩,[]⟩
 |.mapUpdate t m k x=>Ie T S t m k x
 |.fieldAddr t x f=>L1 T S t x f
 |.indexAddr t x i=>OL T S t x i
 |.index t x i=>match S.arg x,S.arg i,List.lookup t T with
  |some (.v (.c (.p .str a))),some (.v (.c (.p (.int _) b))),some r=>if r.tF then some ⟨[.rr a b],.c1 (.p (.int .u8) (.v S.nv)),eF,[]⟩else none
  |some (.v (.agg cs)),some (.v (.c (.p (.int _) b))),some r=>match r.arr with
   |some (n,e)=>match List.lookup e T with
    |some g=>match zi cs 0 n g.size b 0 (if g.agg then g.size else 1)with
     |some (ks,nds)=>if g.info then(rD g ks S.nv).map λv=>⟨.ed b n::nds,v,eF,[]⟩else none
     |none=>none
    |none=>none
   |none=>none
  |_,_,_=>none
 |.extract (.tmp t) i=>match S.tmps[t]? with
  |some (.bq xs)=>match xs[i]? with
   |some x=>some (.pure (.v x))
   |none=>none
  |_=>none
 |.makeFunc (.func f) first captured=>if first.size=0 then(S.dE captured.toList).map λq=>.pure (.c1 (.fn f q))else none
 |.panic _| .makeInterface _ _=>some ⟨[.ed (.i 0) 0],.c1 .dead,eF,[]⟩
 |.call c=>match c.callee with
  |.value x=>JD T C S d x c.args.toList
  |.builtin b=>Hi T S d b c.args.toList c.argTypes.toList
  |_=>none
 |_=>none
section
variable{P:cD}{T:b_}{C:dt}{S:bp}{ρ:List L}{d:Nat}
theorem Tg:∀{l:List cF}{xs:List bK},S.D6 l=some xs->l.mapM (S.a6 ρ).fb=some (xs.map (bK.a6 ρ))
 |[],_,h=>by cases h;rfl
 |x::l,xs,h=>by
  simp only[bp.D6]at h;split at h
  .rename_i y ys a c;cases h;simp only[nU,bp.Fv ρ a,Tg c];rfl
  .cases h
theorem aat:∀{l:List cF}{a:List Nat},S.dE l=some a->l.mapM (S.a6 ρ).cap=some a
 |[],_,h=>by cases h;rfl
 |x::l,a,h=>by
  simp only[bp.dE]at h;split at h
  .rename_i n c e f;cases h;have g:(S.a6 ρ).arg x=some (.v (.c (.ptr n 0))):=bp.cL ρ e;have i:(S.a6 ρ).cap x=some n:=by grind[bz.cap]
   simp only[nU,i,aat f];rfl
  .cases h
theorem atP{x y}(h:S.callee x=some y):(S.a6 ρ).callee x=some y:=by
 unfold bp.callee at h;split at h
 .cases h;rfl
 .split at h
  .rename_i f dE a;cases h;have c:(S.a6 ρ).arg x=some (.v (.c (.fn f dE))):=bp.cL ρ a;simp_all[bz.callee]
  .cases h
theorem N_{f:FuncId}{xs:List bK}:∀{C:dt}{r:cE},dt.ok P C->An T S d f xs C=some r->∃s,s.ok P/\s.f=f/\Er T S d xs s=some r
 |[],_,_,h=>by cases h
 |s::C,r,c,h=>by
  simp only[An]at h;split at h
  .rename_i g;split at h
   .rename_i j i;cases h;exact⟨s,c s (by simp),g,i⟩
   .exact N_ (λe a=>c e (by simp[a])) h
  .exact N_ (λe a=>c e (by simp[a])) h
theorem anx(g:dt.ok P C){x args r}(h:JD T C S d x args=some r)(i:Sat ρ S.nv r.nds):
 ∀Sp:Spec,Sp d=some (r.v.a6 ρ,r.e.a6 ρ,r.rd)->ur P Sp (S.a6 ρ) d x args=some (r.a6 ρ):=by
 intro Sp c;unfold JD at h;split at h
 .rename_i f dE xs j e;obtain⟨s,k,rfl,l⟩:=N_ g h;have a:=adL (ρ:=ρ) k l i;unfold ur;simp only[atP j,Tg e,c];rw[bF]
  .rfl
  .rw[eB,h_]at a;exact a
 .cases h
theorem aax{t}(h:(fc P t).CQ=true):∃a c,P.underlying t=some (.map a c)/\P.underlying a=some (.int .u64):=by
 grind[fc,T4]
theorem aog{t}(h:(fc P t).int=some .u8):P.underlying t=some (.int .u8):=by
 grind[fc,FN]
theorem Te:∀{cs}{a},bp.AN cs=some a->∃ps,oi (cs.map (SC.a6 ρ))=some ps/\a.map (cH ρ)=ps.map λq=>[q]
 |[],_,h=>by cases h;exact⟨[],rfl,rfl⟩
 |c::cs,a,h=>by
  have key:∀(k:Kd)(x:At),(bp.AN cs).map ([(k,x)]:: ·)=some a->(c.a6 ρ).pv=some (k.pv (x.ev ρ))->∃ps,oi ((c::cs).map (SC.a6 ρ))=some ps/\a.map (cH ρ)=ps.map λq=>[q]:=by
   intro k x h i;simp only[bY]at h;obtain⟨e,f,rfl⟩:=h;obtain⟨ps,j,g⟩:=Te f;refine⟨k.pv (x.ev ρ)::ps,?_,?_⟩
   .simp_all[oi]
   .simp only[ct,g];rfl
  cases c with
  |p k x=>exact key k x h rfl
  |nil=>exact key .sl .r0 h rfl
  |_=>cases h
theorem aoH(j:b_.ok P T){t m k x r}(h:Ie T S t m k x=some r):(vU P (S.a6 ρ) t m k x).map (λe=>(⟨.c .dead,e,[]⟩:cb))=some (r.a6 ρ):=by
 unfold Ie at h;split at h
 .rename_i n a v row l o p q;have:=j _ _ q;subst this;split at h
  .rename_i s;split at h
   .rename_i c;cases h;obtain⟨y,z,u,w⟩:=aax c;have f:(S.a6 ρ).arg m=some (.v (.c (.mp n))):=bp.cL ρ l;have g:(S.a6 ρ).arg k=some (.v (.c (.p (.sc (.int .u64 (a.ev ρ).a_))))):=bp.cL ρ o;have i:(S.a6 ρ).arg x=some (v.a6 ρ):=bp.cL ρ p;simp only[vU,f,g,i,u,w,ep,s,bS,SB.a6];rfl
   .cases h
  .cases h
 .cases h
theorem apK(i:b_.ok P T){t m k r}(h:KO T S t m k=some r):(wx P (S.a6 ρ) t m k).map (λe=>(⟨.bq [],e,[]⟩:cb))=some (r.a6 ρ):=by
 unfold KO at h;split at h
 .rename_i n a row j l o;have:=i _ _ o;subst this;split at h
  .rename_i p;split at h
   .rename_i c;cases h;obtain⟨u,v,q,s⟩:=aax c;have f:(S.a6 ρ).arg m=some (.v (.c (.mp n))):=bp.cL ρ j;have g:(S.a6 ρ).arg k=some (.v (.c (.p (.sc (.int .u64 (a.ev ρ).a_))))):=bp.cL ρ l;simp only[wx,f,g,q,s,ep,p,bS,SB.a6];rfl
   .cases h
  .cases h
 .cases h
theorem aue(j:b_.ok P T){s d x r}(h:NN T S s d x=some r)(k:Sat ρ S.nv r.nds):kT P (S.a6 ρ) s d x=none/\(qE P (S.a6 ρ) s d x).map cb.of=some (r.a6 ρ):=by
 unfold NN at h;split at h
 .rename_i n row l m;have:=j _ _ m;subst this;split at h
  .rename_i e a v o c;split at h
   .rename_i w p;have:=j _ _ p;subst this;split at h
    .rename_i q;cases h;obtain⟨t,rfl⟩:=q;obtain⟨⟨ls,y,_⟩,_⟩:=k;have f:(S.a6 ρ).arg x=some (.v (.c (.own n))):=bp.cL ρ l;have u:=yy c;have g:=aog t;have i:(a.ev ρ).bm≠ []:=by
      grind[Nd.ev]
     refine⟨?_,?_⟩
     .simp_all[kT]
     .simp only[qE,f,ep,o,bS,SB.a6,u,g];rw[bF ⟨trivial,i⟩];rfl
    .cases h
   .cases h
  .cases h
 .cases h
theorem apu(i:b_.ok P T){t x r}(h:Mt T S t x=some r)(j:Sat ρ S.nv r.nds):kZ P (S.a6 ρ) t x none none=none/\(qW P (S.a6 ρ) t x).map cb.of=some (r.a6 ρ):=by
 unfold Mt at h;split at h
 .rename_i n off row k m;have:=i _ _ m;subst this;split at h
  .rename_i cs cM e o p;split at h
   .rename_i y z q s;have:=i _ _ q;subst this;split at h
    .rename_i u;cases h;obtain⟨c1,c2,c3,c4,c5⟩:=u;obtain⟨l,v,w⟩:=j.eG rfl;cases v;have a:(S.a6 ρ).arg x=some (.v (.c (.ptr n off))):=bp.cL ρ k;have c:lj P t=some (cM,e):=p;obtain⟨ps,k1,k2⟩:=Te (ρ:=ρ) s;have g:dV P e=1:=c1;have f:mA P e=true:=c2;have hlen:ps.length=cM:=by
      have:=cO List.length k2;grind
     refine⟨?_,?_⟩
     .simp only[kZ,a];rfl
     .simp only[qW,a,ep,o,bS,SB.a6,c];rw[<-nX,<-mW,k1];simp only;rw[bF ⟨g,f,c3,c4,hlen⟩];simp only[bS,cb.of,cE.a6,SV.a6,bK.a6,SC.a6,Kd.pv,w,L.bm,k2];rfl
    .cases h
   .cases h
  .cases h
 .cases h
theorem alE(o:b_.ok P T){d t p s x r}(h:M9 T S d t p s x=some r)(D:Sat ρ S.nv r.nds):(oV P (S.a6 ρ) d t p s x).map cb.of=some (r.a6 ρ):=by
 unfold M9 at h;split at h
 .rename_i a K M q E u v;have:=o _ _ u;subst this;have:=o _ _ v;subst this;split at h
  .rename_i e k w F;split at h
   .rename_i N G;have:=o _ _ G;subst this;split at h
    .rename_i n b ps f g;cases h;have c:jE P e=some (n,b):=f;simp only[gV]at g;obtain⟨ks,y,H⟩:=g;obtain⟨⟨l1,l,i1⟩,⟨l2,O,Q⟩,⟨l3,m,I⟩,_⟩:=D;have i:fk P t=some e:=w;have z:=Ej (P:=P) (t:=p) F;have A:(S.a6 ρ).arg s=some (.v (.c .nil)):=bp.cL ρ q;have B:(S.a6 ρ).arg x=some (.v (.c (.p (.sc (.int .i64 (a.ev ρ).a_))))):=bp.cL ρ E;simp only[Nd.ev]at l;split at l
     .rename_i c1;cases l;have R:(At.v S.nv).ev ρ=.r (List.replicate (a.ev ρ).a_.toNat (cH ρ ps)):=by
       simp_all[Nd.n,At.ev,gS]
      have j:0< (a.ev ρ).a_:=by
       grind[Nd.ev,L.bm]
      simp only[Nd.ev,adb]at m;obtain⟨c3,m⟩:=m;cases m;have e3:(At.v (S.nv+2)).ev ρ=.r (List.replicate (a.ev ρ).a_.toNat (cH ρ ps)):=by
       have:=I 0 (by simp[Nd.n]);have e:S.nv+(Nd.f_ a ps b).n+(Nd.row (At.v S.nv) (At.i 0) n).n=S.nv+2:=rfl;simp_all[At.ev,gS,L.bm]
      have J:(a.ev ρ).a_.toNat*b<=140737488355328:=by
       simp_all[At.ev,L.bm]
      simp only[oV,i,A,B,z,c,Am (P:=P) y ρ,xP H];rw[bF ⟨j,c1.2.1,J⟩];simp only[bS,cb.of,cE.a6,gY.a6,dh.a6,ct,dp,SB.a6,e3,L.bm];rfl
     .cases l
    .cases h
   .cases h
  .cases h
 .cases h
theorem auQ(u:b_.ok P T){d t o s x r}(h:KU T S d t o s x=some r)(J:Sat ρ S.nv r.nds):(pn P (S.a6 ρ) d t o s x).map cb.of=some (r.a6 ρ):=by
 unfold KU at h;split at h
 .rename_i m a U V v K w z;have:=u _ _ w;subst this;have:=u _ _ z;subst this;split at h
  .rename_i e k A y B M N;split at h
   .rename_i W O;have:=u _ _ O;subst this;split at h
    .rename_i n b ps f g;split at h
     .rename_i D;subst D;cases h;have c:jE P A=some (n,b):=f;simp only[gV]at g;obtain⟨ks,E,Q⟩:=g;obtain⟨⟨l1,p,i1⟩,⟨l2,X,Y⟩,⟨l3,q,R⟩,_⟩:=J;have i:fk P t=some A:=B;have F:=Ej (P:=P) (t:=o) M;have G:(S.a6 ρ).arg s=some (.v (.c (.own m))):=bp.cL ρ v;have H:(S.a6 ρ).arg x=some (.v (.c (.p (.sc (.int .i64 (a.ev ρ).a_))))):=bp.cL ρ K;have j:(S.a6 ρ).gH A (.own m)=some ((y.ev ρ).bm,[m]):=by
       simp only[bz.gH,ep,N,bS,SB.a6,if_true]
      simp only[Nd.ev]at p;split at p
      .cases p;have Z:(At.v S.nv).ev ρ=.r (List.replicate (a.ev ρ).a_.toNat (cH ρ ps)):=by
        simp_all[Nd.n,At.ev,gS]
       have l:0< (a.ev ρ).a_:=by
        grind[Nd.ev,L.bm]
       simp only[Nd.ev,adb]at q;obtain⟨c3,q⟩:=q;cases q;have e3:(At.v (S.nv+2)).ev ρ=.r ((y.ev ρ).bm++List.replicate (a.ev ρ).a_.toNat (cH ρ ps)):=by
        have:=R 0 (by simp[Nd.n]);have e:S.nv+(Nd.f_ a ps b).n+(Nd.row (At.v S.nv) (At.i 0) n).n=S.nv+2:=rfl;simp_all[At.ev,gS,L.bm]
       have I:oV P (S.a6 ρ) d t o s x=none:=by
        simp_all[oV]
       simp only[pn,I,sH,i,G,H,F,c,Am (P:=P) E ρ,xP Q,j];rw[bF ⟨l,by simp_all[L.bm],by simp_all[L.bm],c3.2.2.1⟩];simp only[bS,cb.of,cE.a6,gY.a6,dh.a6,ct,dp,SB.a6,e3,L.bm];rfl
      .cases p
     .cases h
    .cases h
   .cases h
  .cases h
 .cases h
theorem ajk(y:b_.ok P T){t s x r}(h:Lg T S t s x=some r)(B:Sat ρ S.nv r.nds):(qK P (S.a6 ρ) t s x).map cb.of=some (r.a6 ρ)/\∃a b c,r.v.a6 ρ=.v (.c (.sub a b c)):=by
 unfold Lg at h;split at h
 .rename_i m ln D e k E l;split at h
  .rename_i F a nds b J G H I;have:=y _ _ I;subst this;split at h
   .rename_i n bb g;split at h
    .rename_i o;subst o;cases h;have f:jE P F=some (n,bb):=g;have p:(S.a6 ρ).arg s=some (.v (.c (.sub m 0 (ln.ev ρ).a_.toNat))):=bp.cL ρ k;have q:(S.a6 ρ).arg x=some (.v (.c (D.a6 ρ))):=bp.cL ρ E;obtain⟨u,v⟩:=Sat.app B;obtain⟨ls,j,z⟩:=v.one;simp only[Nd.ev,adb]at j;obtain⟨A,j⟩:=j;cases j;have i:=z 0 (by simp[Nd.n]);have w:=z 1 (by simp[Nd.n]);simp only[l_,sB,gS]at i;refine⟨?_,_,_,_,rfl⟩;simp only[qK,p,q,ep,G,bS,SB.a6,qy H u,yr y l,f];rw[bF ⟨trivial,A.1,A.2⟩];simp only[bS,cb.of,cE.a6,gY.a6,dh.a6,ct,dp,SB.a6,i,w,L.bm,SV.a6,bK.a6,SC.a6,L.a_,fM];rfl
    .cases h
   .cases h
  .cases h
 .cases h
theorem avL{t s x r}(h:sJ T S d t s x=some r):r.v.a6 ρ=.v (.c (.own d)):=by
 unfold sJ at h
 repeat' split at h
 all_goals first| (cases h;rfl)|cases h
theorem adF(j:b_.ok P T){b args ts r}(h:Hi T S d b args ts=some r)(m:Sat ρ S.nv r.nds){Sp}(q:Sp d=some (r.v.a6 ρ,r.e.a6 ρ,r.rd)):lT P Sp (S.a6 ρ) d b args ts=some (r.a6 ρ):=by
 unfold Hi at h;split at h
 .exact auW j h m
 .rename_i s x t B;split at h
  .rename_i g;have A:sJ T S d t s x=some r->lT P Sp (S.a6 ρ) d .append [s,x] [t,B]=some (r.a6 ρ):=λh=>by
    simp only[lT,bF g,q];rw[avL h];exact avq j h m
   split at h
   .split at h
    .rename_i F u;cases h;obtain⟨o,a,b,c,p⟩:=ajk j u m;simp_all[lT]
    .exact A h
   .exact A h
  .rename_i g;simp only[lT,bO g];grind[alE,Option.map_eq_some_iff,pn,auQ]
 .exact arx j h m
 .rename_i _ x y;split at h
  .rename_i k a v b n w;cases h;obtain⟨l,o,p⟩:=m.eG rfl;cases o;have f:(S.a6 ρ).arg x=some (.v (.c (.p (.sc (.int k (a.ev ρ).a_))))):=bp.cL ρ n;have i:(S.a6 ρ).arg y=some (.v (.c (.p (.sc (.int v (b.ev ρ).a_))))):=bp.cL ρ w;simp only[lT,f,i,Ke,bS,cb.pure,cE.a6,SV.a6,bK.a6,SC.a6,Kd.pv,p];rfl
  .cases h
 .rename_i _ x y;split at h
  .rename_i k a v b n w;cases h;obtain⟨l,o,p⟩:=m.eG rfl;cases o;have f:(S.a6 ρ).arg x=some (.v (.c (.p (.sc (.int k (a.ev ρ).a_))))):=bp.cL ρ n;have i:(S.a6 ρ).arg y=some (.v (.c (.p (.sc (.int v (b.ev ρ).a_))))):=bp.cL ρ w;simp only[lT,f,i,Jz,bS,cb.pure,cE.a6,SV.a6,bK.a6,SC.a6,Kd.pv,p];rfl
  .cases h
 .rename_i x t;split at h
  .rename_i row n D;have:=j _ _ D;subst this;split at h
   .rename_i z;cases h;obtain⟨e,E⟩:=xD.1 z;have f:(S.a6 ρ).arg x=some (.v (.c .nil)):=bp.cL ρ n;simp only[lT,f,yy E];rfl
   .cases h
  .cases h
 .exact apK j h
 .cases h
theorem yl(v):(cE.pure v).a6 ρ=cb.pure (v.a6 ρ):=rfl
theorem avn(g:b_.ok P T)(Q:dt.ok P C){op r}(h:ke T C S d op=some r)(j:Sat ρ S.nv r.nds):
 ∀Sp:Spec,Sp d=some (r.v.a6 ρ,r.e.a6 ρ,r.rd)->cn P Sp (S.a6 ρ) d op=some (r.a6 ρ):=by
 intro Sp D
 cases op with
 |move x=>
  cases x with
  |tmp t=>
   simp only[ke,bY]at h;obtain⟨v,A,rfl⟩:=h;simp_all[bp.a6,cn,bS,yl]
  |_=>
   simp only[ke,bY]at h;obtain⟨v,A,rfl⟩:=h;simp only[cn,bp.cL ρ A,bS,yl]
 |assign x=>
  cases x with
  |tmp t=>
   simp only[ke,bY]at h;obtain⟨v,A,rfl⟩:=h;simp_all[bp.a6,cn,bS,yl]
  |_=>
   simp only[ke,bY]at h;obtain⟨v,A,rfl⟩:=h;simp only[cn,bp.cL ρ A,bS,yl]
 |pick c a b=>
  simp only[ke]at h;split at h
  .rename_i t H;simp only[bY]at h;obtain⟨v,A,rfl⟩:=h;have R:(S.a6 ρ).arg c=some (.v (.c (.p (.sc (.bool t))))):=bp.cL ρ H;grind[cn,Bool.false_eq_true,bp.cL,yl]
  .cases h
 |alloc e=>
  simp only[ke,bY,gV]at h;obtain⟨ks,⟨row,E,U⟩,rfl⟩:=h;have:=g _ _ E;subst this;simp only[cn,Am (P:=P) U ρ];rfl
 |box e x=>
  simp only[ke,bY]at h;obtain⟨y,V,rfl⟩:=h;simp only[cn,bp.Fv ρ V,bS,bK.ym];rfl
 |build t parts=>exact ahu g h
 |buildSlice t len parts=>exact ahH g h j
 |load t x=>exact aoh g h j
 |store t x y=>exact agE g h j
 |nilCheck x=>
  simp only[ke]at h;split at h
  .rename_i o;cases h;have:=bp.cL ρ o;simp only[cn,this,SV.a6,bK.a6,SC.a6];rfl
  .rename_i o;cases h;have:=bp.cL ρ o;simp only[cn,this,SV.a6,bK.a6,SC.a6];rfl
  .rename_i o;cases h;have:=bp.cL ρ o;simp only[cn,this,SV.a6,bK.a6,SC.a6];rfl
  .rename_i o;cases h;have:=bp.cL ρ o;simp only[cn,this,SV.a6,bK.a6,SC.a6];rfl
  .rename_i o;cases h;have:=bp.cL ρ o;simp only[cn,this,SV.a6,bK.a6,SC.a6];rfl
  .cases h
 |binOp op t x y yt=>exact awm g h j
 |unOp op t x=>exact afN h j
 |convert s t x=>
  grind[ke,atg,Option.map_eq_some_iff,cn,aue]
 |makeSlice t l c=>exact aoc g h j
 |sliceToArrayPointer t x=>
  have:=ahx g h j;simp_all[bY,cn]
 |slice t x lo B mx=>
  cases mx with
  |some mx=>
   cases B with
   |none=>cases h
   |some B=>
    have:=ajC g h j;simp_all[bY,cn]
  |none=>
   grind[ke,afM,Option.map_eq_some_iff,cn,apu]
 |makeMap t r0=>
  cases r0 with
  |some _=>cases h
  |none=>cases h;rfl
 |mapUpdate t m k x=>exact aoH g h
 |fieldAddr t x f=>exact atw g h
 |indexAddr t x i=>exact atu g h j
 |index t x i =>
  simp only[ke]at h;split at h
  .rename_i a k b row o B E;have:=g _ _ E;subst this;split at h
   .rename_i W;cases h;obtain⟨l,p,F⟩:=j.eG rfl;simp only[Nd.ev]at p;split at p
    .rename_i X;split at p
     .rename_i bb G;cases p;have u:(S.a6 ρ).arg x=some (.v (.c (.p (.sc (.string (a.ev ρ).du))))):=bp.cL ρ o;have w:(S.a6 ρ).arg i=some (.v (.c (.p (.sc (.int k (b.ev ρ).a_))))):=bp.cL ρ B;simp only[cn,u,w,wN (P:=P) W,G];rw[jg X];simp only[cb.pure,cE.a6,SV.a6,bK.a6,SC.a6,Kd.pv,F,L.a_];rfl
     .cases p
    .cases p
   .cases h
  .rename_i cs k b row o B E;have:=g _ _ E;subst this;split at h
   .rename_i n e Y;split at h
    .rename_i re Z;have:=g _ _ Z;subst this;split at h
     .rename_i ks nds H;split at h
      .rename_i z;simp only[bY]at h;obtain⟨v,p,rfl⟩:=h;obtain⟨⟨ls,F,_⟩,I⟩:=j;simp only[Nd.ev]at F;split at F
       .rename_i G;have u:(S.a6 ρ).arg x=some (.v (.agg (cs.map (SC.a6 ρ)))):=bp.cL ρ o;have w:(S.a6 ρ).arg i=some (.v (.c (.p (.sc (.int k (b.ev ρ).a_))))):=bp.cL ρ B;obtain⟨hu,_⟩:=ED Y;have q:mA P e=true:=z;have J:Sat ρ S.nv nds:=I;obtain⟨h4,h5⟩:=M_ H J;have O:=Vm (t:=e) (off:=0) p h4 (λjj hj=>by
         obtain⟨k,a,k1,k2,k3⟩:=h5 jj om;exact⟨k,a,k1,by exact k2,k3⟩)
        have K:(fc P e).size=dV P e:=rfl;rw[mQ,K]at O;simp only[cn,u,w,hu];rw[jg ⟨G.1,G.2,q⟩,O];rfl
       .cases F
      .cases h
     .cases h
    .cases h
   .cases h
  .cases h
 |extract t i=>
  cases t with
  |tmp t=>
   simp only[ke]at h;split at h
   .rename_i xs o;split at h
    .rename_i x M;cases h;have p:(S.a6 ρ).tmps[t]?=some (.bq (xs.map (bK.a6 ρ))):=by simp only[bp.a6,cN,o];rfl
     simp only[cn,p,cN,M,bS];rfl
    .cases h
   .cases h
  |_=>cases h
 |makeFunc fn first captured=>
  cases fn with
  |func f=>
   simp only[ke]at h;split at h
   .rename_i hz;simp only[bY]at h;obtain⟨ns,N,rfl⟩:=h;simp only[cn,bF hz,aat N];rfl
   .cases h
  |_=>cases h
 |panic x=>
  cases h;obtain⟨⟨ls,p,_⟩,_⟩:=j;simp[Nd.ev,At.ev,L.a_]at p
 |makeInterface t x=>
  cases h;obtain⟨⟨ls,p,_⟩,_⟩:=j;simp[Nd.ev,At.ev,L.a_]at p
 |call c=>
  obtain⟨callee,args,ts⟩:=c
  cases callee with
  |builtin b=>exact adF g h j D
  |invoke=>cases h
  |value f=>exact anx Q h j Sp D
 |_=>cases h
end
theorem aix{P Sp Sp' st d op}(h:Sp d=Sp' d):cn P Sp st d op=cn P Sp' st d op:=by
 cases op with
 |call c=>
  obtain⟨callee,args,ts⟩:=c
  cases callee with
  |value f=>simp only[cn,ur,h]
  |builtin b=>simp only[cn,lT,h]
  |_=>rfl
 |slice t x e a mx=>cases mx<;>cases a<;>rfl
 |move x=>cases x<;>rfl
 |assign x=>cases x<;>rfl
 |extract t i=>cases t<;>rfl
 |makeFunc fn=>cases fn<;>rfl
 |makeMap t r=>cases r<;>rfl
 |_=>rfl
theorem Vg{P Sp Sp' b ops}:∀{l}{k}{st},(∀j,k<=j->Sp (b+8*j)=Sp' (b+8*j))->jK P Sp b ops l k st=jK P Sp' b ops l k st
 |[],_,_,_=>rfl
 |o::l,k,st,h=>by
  have a:kY P Sp b ops st k o=kY P Sp' b ops st k o:=by
   grind[kY,aix]
  simp only[jK,a]
  cases kY P Sp' b ops st k o with
  |none=>rfl
  |some r=>simp only[Vg (l:=l) (k:=k+1) (λj c=>h j om)]
inductive RT where
 |br (S:bp) (ts:jL)
 |ops (nds:List Nd) (k:RT)
 |ite (a:At) (x y:RT)
 |stuck
deriving Inhabited
def RT.a6:RT->List L->Option ((bp×jL)×List L)
 |.br S ts,ρ=>some ((S,ts),ρ)
 |.ops nds k,ρ=>match qa ρ nds with
  |some ρ'=>k.a6 ρ'
  |none=>none
 |.ite a x y,ρ=>if(a.ev ρ).ck then x.a6 ρ else y.a6 ρ
 |.stuck,_=>none
def bp.uJ(S:bp)(d:Option Nat)(v:SV):bp:=match d with
 |some d=> {S with tmps:=S.tmps.set d v}
 |none=>S
def bp.xO(S:bp)(e:gY):bp:={S with heap:=e.jl++S.heap,bt:=e.bt++S.bt}
def bp.more(S:bp)(n:Nat):bp:={S with nv:=S.nv+n}
def bp.raw(S:bp):cF->List Nat
 |.tmp t=>match S.tmps[t]? with
  |some v=>v.names
  |none=>[]
 |_=>[]
def bp.mo(S:bp):Op->List Nat
 |.extract _ _=>[]
 |.move (.tmp _)=>[]
 |.assign (.tmp _)=>[]
 |op=>op.operands.toList.flatMap S.raw
def Ed(ops:Array Oper)(S:bp)(o:Oper):Option Bool:=match o.guard with
 |none=>some true
 |some (j,want)=>match(ops[j]?).bind (·.dst)with
  |some d=>match S.tmps[d]? with
   |some (.v (.c (.p .bool (.b t))))=>some (t==want)
   |some (.bq [])=>some false
   |_=>none
  |none=>none
def bp.open(S:bp)(t:Nat):Option (Nat×Nat):=match S.tmps[t]? with
 |some (.v (.c (.p .bool (.v i))))=>some (i,t)
 |_=>none
def asks(ops:Array Oper)(S:bp)(o:Oper):Option (Nat×Nat):=
 match(match o.guard with
  |some (j,_)=>match(ops[j]?).bind (·.dst)with
   |some d=>S.open d
   |none=>none
  |none=>none),o.op with
 |some x,_=>some x
 |none,.pick (.tmp c) _ _=>S.open c
 |none,_=>none
def bp.FA(S:bp)(t:Nat)(x:Bool):bp:={S with tmps:=S.tmps.set t (.c1 (.p .bool (.b x)))}
def SV.fix(i:Nat)(j:Int):SV->SV
 |.v (.c (.p (.int k) (.v a)))=>if a=i then .v (.c (.p (.int k) (.i j)))else .v (.c (.p (.int k) (.v a)))
 |x=>x
def bp.fix(S:bp)(i:Nat)(j:Int):bp:={S with tmps:=S.tmps.map (SV.fix i j)}
def aht(T:b_)(ops:Array Oper)(S:bp)(o:Oper):Option (Nat×dH×Nat):=match o.op,Ed ops S o with
 |.indexAddr ty x (.tmp t),some true=>match S.arg x,S.tmps[t]?,(List.lookup ty T).bind Ty.arr with
  |some (.v (.c (.ptr n off))),some (.v (.c (.p (.int k) (.v i)))),some (cM,_)=>match List.lookup n S.heap with
   |some (.box cs)=>if decide (cM<=16)&& (((cs.drop off).take cM).any (λc=>match c with| .p _ _=>false|_=>true)||ops.any (λa=>match a.op with| .store _ (.tmp e) _=>o.dst==some e|_=>false))then some (i,k,cM)else none
   |_=>none
  |_,_,_=>none
 |_,_=>none
def ET(f:bp->Option RT)(i:Nat)(k:dH):Nat->Int->bp->Option RT
 |0,_,_=>some .stuck
 |c+1,j,S=>match f ((S.more 1).fix i j),ET f i k c (j+1) (S.more 1)with
  |some a,some b=>some (.ops [.bi .eql k (.v i) (.i j)] (.ite (.v S.nv) a b))
  |_,_=>none
def Dw(e:gY):List Nat:=e.jl.map (·.1)++e.bt
def rJ(T:b_)(C:dt)(b:Nat)(ops:Array Oper):Nat->List Oper->Nat->bp->jL->Option RT
 |0,_,_,_,_=>none
 |_+1,[],_,S,acc=>some (.br S acc.reverse)
 |n+1,o::l,k,S,acc=>match asks ops S o with
  |some (i,t)=>if i<S.nv then match rJ T C b ops n (o::l) k (S.FA t true) acc,rJ T C b ops n (o::l) k (S.FA t false) acc with
   |some t1,some t2=>some (.ite (.v i) t1 t2)
   |_,_=>none
   else none
  |none=>match aht T ops S o with
  |some (i,a,cM)=>if i<S.nv then ET (λS'=>rJ T C b ops n (o::l) k S' acc) i a cM 0 S else none
  |none=>match Ed ops S o with
   |some false=>rJ T C b ops n l (k+1) (S.uJ o.dst (.bq [])) (([],[])::acc)
   |some true=>match ke T C S (b+8*k) o.op with
    |some r=>if ti S.nv r.nds then(rJ T C b ops n l (k+1) (((S.xO r.e).uJ o.dst r.v).more (gy r.nds)) ((S.mo o.op++r.rd,Dw r.e)::acc)).map (.ops r.nds)else none
    |none=>if(List.lookup 999998 T).isSome then some .stuck else none
   |none=>none
section
variable{P:cD}{T:b_}{C:dt}{ρ:List L}{b:Nat}{ops:Array Oper}
theorem Zi{S:bp}{d v}:(S.uJ d v).a6 ρ=(S.a6 ρ).put d (v.a6 ρ):=by
 cases d with
 |none=>rfl
 |some d=>simp_all[bp.uJ,bp.a6,bz.put]
theorem akA{S:bp}{e}:(S.xO e).a6 ρ=(S.a6 ρ).dQ (e.a6 ρ):=by
 simp_all[bp.xO,bp.a6,bz.dQ,gY.a6,dh.a6]
theorem ahT{S:bp}{n}:(S.more n).a6 ρ=S.a6 ρ:=rfl
theorem auL{S:bp}{x}:(∀v,x=.const v->(FU v).isSome=true\/(ofValue v).names=[])->(S.a6 ρ).raw x=S.raw x:=by
 intro a
 cases x with
 |tmp t=>
  simp only[bz.raw,bp.raw,bp.a6,cN]
  cases S.tmps[t]? with
  |none=>rfl
  |some v=>simp only[bS,SV.mG]
 |const v=>
  simp only[bz.raw,bp.raw];unfold ofValue;split
  .split
   .rename_i us _;show(us.toList.map kL).flatMap C.names=[]
    rw[List.flatMap_eq_nil_iff];intro c a;obtain⟨u,_,rfl⟩:=eV.1 a;unfold kL;split
    .rfl
    .split<;>rfl
   .rfl
  .split<;>rfl
  .unfold kL;split
   .rfl
   .split<;>rfl
 |_=>rfl
theorem arE(v):(ofValue v).names=[]:=by
 unfold ofValue;split
 .split
  .rename_i us _;show(us.toList.map kL).flatMap C.names=[]
   rw[List.flatMap_eq_nil_iff];intro c a;obtain⟨u,_,rfl⟩:=eV.1 a;unfold kL;split
   .rfl
   .split<;>rfl
  .rfl
 .split<;>rfl
 .unfold kL;split
  .rfl
  .split<;>rfl
theorem awh{S:bp}{op}:(S.a6 ρ).mo op=S.mo op:=by
 have:∀l:List cF,l.flatMap (S.a6 ρ).raw=l.flatMap S.raw:=by
  intro l
  induction l with
  |nil=>rfl
  |cons x l ih=>simp_all[auL,arE]
 cases op with
 |move x=>cases x<;>first|rfl|exact this _
 |assign x=>cases x<;>first|rfl|exact this _
 |_=>first|rfl|exact this _
theorem awB(e):(e.a6 ρ).jl.map (·.1)++(e.a6 ρ).bt=Dw e:=by
 simp only[Dw,gY.a6,dh.a6,h_];rfl
theorem Y8{S:bp}{i t x}(h:S.open t=some (i,t))(f:((At.v i).ev ρ).ck=x):(S.FA t x).a6 ρ=S.a6 ρ:=by
 unfold bp.open at h;split at h
 .rename_i g e;cases h;simp only[bp.FA,bp.a6,List.map_set];congr 1;apply sv;intro j;rw[P1];split
  .rename_i a;subst a;have c:=(dW.1 e).1;rw[bF (by simpa using c),cN,e];simp only[bS,SV.a6,bK.a6,SC.a6,Kd.pv,f];rfl
  .rfl
 .cases h
theorem avV{S o i t}(h:asks ops S o=some (i,t)):S.open t=some (i,t):=by
 have key:∀d,S.open d=some (i,t)->S.open t=some (i,t):=by
  intro d a;have:d=t:=by
   unfold bp.open at a;grind
  simp_all
 grind[asks]
theorem Y3{S o t}(h:Ed ops S o=some t):r8 ops (S.a6 ρ) o=some t:=by
 unfold Ed at h;unfold r8
 cases c:o.guard with
 |none=>simp_all
 |some y=>
  obtain⟨j,want⟩:=y;rw[c]at h;simp only at h⊢
  cases e:(ops[j]?).bind (·.dst)with
  |none=>simp_all
  |some d=>
   rw[e]at h;simp only at h⊢;split at h
   .rename_i f a;cases h;have:(S.a6 ρ).tmps[d]?=some (.v (.c (.p (.sc (.bool f))))):=by simp only[bp.a6,cN,a];rfl
    rw[this]
   .rename_i a;cases h;have:(S.a6 ρ).tmps[d]?=some (.bq []):=by simp only[bp.a6,cN,a];rfl
    rw[this]
   .cases h
theorem anG{S:bp}{i j}(a:((At.v i).ev ρ).a_=j):(S.fix i j).a6 ρ=S.a6 ρ:=by
 simp only[bp.fix,bp.a6,h_];congr 1;apply ia;intro x _;simp only[Function.comp];unfold SV.fix;split
 .split
  .rename_i c;subst c;simp only[SV.a6,bK.a6,SC.a6,Kd.pv,a];rfl
  .rfl
 .rfl
theorem Rz{f:bp->Option RT}{i:Nat}{k:dH}:∀{c:Nat}{j:Int}{S:bp}{t:RT}{ρ:List L}{x:(bp×jL)×List L},ET f i k c j S=some t->ρ.length=S.nv->i<S.nv->t.a6 ρ=some x->
 ∃l a e,f l=some a/\a.a6 e=some x/\e.length=l.nv/\(∃ys,e=ρ++ys)/\∀n,l.a6 (e++n)=S.a6 (e++n)
 |0,j,S,t,ρ,x,h,o,p,g=>by cases h;cases g
 |c + 1,j,S,t,ρ,x,h,o,p,g=>by
  simp only[ET]at h;split at h
  .rename_i a A q r;cases h;simp only[RT.a6,qa,Nd.ev,cw,bS]at g;have B:((At.v S.nv).ev (ρ++[L.b (decide (((At.v i).ev ρ).a_=((At.i j).ev ρ).a_))])).ck=decide (((At.v i).ev ρ).a_=j):=by
    have e0:(ρ++[L.b (decide (((At.v i).ev ρ).a_=((At.i j).ev ρ).a_))])[S.nv]?=some (L.b (decide (((At.v i).ev ρ).a_=((At.i j).ev ρ).a_))):=by
     simp_all
    have s:(At.v S.nv).ev (ρ++[L.b (decide (((At.v i).ev ρ).a_=((At.i j).ev ρ).a_))])=L.b (decide (((At.v i).ev ρ).a_=((At.i j).ev ρ).a_)):=by
     show((ρ++[L.b (decide (((At.v i).ev ρ).a_=((At.i j).ev ρ).a_))])[S.nv]?).getD (L.b false)=_;rw[e0];rfl
    rw[s];rfl
   have u:∀ys,(At.v i).ev (ρ++ys)=(At.v i).ev ρ:=λys=>At.eY (m:=S.nv) (by grind[At.in]) om
   split at g
   .refine⟨(S.more 1).fix i j,a,_,q,g,by simp[bp.fix,bp.more,o],⟨_,rfl⟩,λn=>?_⟩;rw[anG (by simp_all)];rfl
   .obtain⟨l,v,e,k1,k2,w,⟨ys,y⟩,z⟩:=Rz r (by simp[bp.more,o]) (by grind[bp.more]) g;exact⟨l,v,e,k1,k2,w,⟨_,by rw[y,eU]⟩,z⟩
  .cases h
theorem ta(v:b_.ok P T)(w:dt.ok P C):∀{n:Nat}{l:List Oper}{k:Nat}{S S':bp}{acc e:jL}{t:RT}{ρ ρ':List L},rJ T C b ops n l k S acc=some t->ρ.length=S.nv->t.a6 ρ=some ((S',e),ρ')->
 S'.nv=ρ'.length/\(∃ys,ρ'=ρ++ys)/\∃rs ts Sp,jK P Sp b ops l k (S.a6 ρ')=some (rs,ts,S'.a6 ρ')/\e=acc.reverse++ts
 |0,_,_,_,_,_,_,_,_,_,h,_,_=>by cases h
 |n+1,[],k,S,S',acc,e,t,ρ,ρ',h,f,c=>by
  cases h;cases c;exact⟨f.symm,⟨[],by simp⟩,[],[],λ_=>none,rfl,by simp⟩
 |n+1,o::l,k,S,S',acc,e,t,ρ,ρ',h,f,c=>by
  simp only[rJ]at h;split at h
  .rename_i i U x;split at h
   .rename_i z;split at h
    .rename_i t1 t2 I J;cases h;have g:=avV x;simp only[RT.a6]at c;split at c
     .rename_i B;obtain⟨k1,⟨ys,k2⟩,rs,ts,Sp,p,q⟩:=ta v w I f c;have s:((At.v i).ev ρ').ck=true:=by rw[k2,At.eY (m:=S.nv) (by simpa[At.in]using z) om];exact B
      exact⟨k1,⟨ys,k2⟩,rs,ts,Sp,by rw[<-Y8 g s];exact p,q⟩
     .rename_i B;obtain⟨k1,⟨ys,k2⟩,rs,ts,Sp,p,q⟩:=ta v w J f c;have s:((At.v i).ev ρ').ck=false:=by rw[k2,At.eY (m:=S.nv) (by simpa[At.in]using z) om];simpa using B
      exact⟨k1,⟨ys,k2⟩,rs,ts,Sp,by rw[<-Y8 g s];exact p,q⟩
    .cases h
   .cases h
  .split at h
   .split at h
    .rename_i z;obtain⟨V,a,D,j1,K,M,⟨xs,N⟩,O⟩:=Rz h f z c;obtain⟨k1,⟨ys,k2⟩,rs,ts,Sp,p,q⟩:=ta v w j1 M K;refine⟨k1,⟨xs++ys,by rw[k2,N,eU]⟩,rs,ts,Sp,?_,q⟩;rw[k2,<-O ys,<-k2];exact p
    .cases h
   split at h
   .rename_i E;obtain⟨k1,k2,rs,ts,Sp,p,q⟩:=ta v w h (by cases o.dst<;>exact f) c;refine⟨k1,k2,none::rs,([],[])::ts,Sp,?_,by rw[q];simp⟩;have u:=Y3 (ρ:=ρ') E;simp only[jK,kY,u];have A:gE (S.a6 ρ') o none=(S.uJ o.dst (.bq [])).a6 ρ':=by rw[Zi];rfl
    rw[A,p];rfl
   .rename_i E;split at h
    .rename_i r Q;split at h
     .rename_i F;simp only[bY]at h;obtain⟨W,R,rfl⟩:=h;simp only[RT.a6]at c;split at c
      .rename_i D H;obtain⟨xs,A,e2⟩:=CA H;have G:(((S.xO r.e).uJ o.dst r.v).more (gy r.nds)).nv=S.nv+gy r.nds:=by cases o.dst<;>rfl
       obtain⟨k1,⟨ys,k2⟩,rs,ts,Sp,p,q⟩:=ta v w R (by rw[G,A,ez,f,e2]) c;have y:Sat ρ' S.nv r.nds:=by
        rw[k2,<-f];exact Nk (by rw[f];exact F) H
       let Sp':Spec:=λd=>if d=b+8*k then some (r.v.a6 ρ',r.e.a6 ρ',r.rd)else Sp d
       have g:=avn (ρ:=ρ') v w Q y Sp' (by simp[Sp']);refine⟨k1,⟨xs++ys,by rw[k2,A,eU]⟩,some (r.a6 ρ')::rs,(S.mo o.op++r.rd,Dw r.e)::ts,Sp',?_,by rw[q];simp⟩;have u:=Y3 (ρ:=ρ') E;simp only[jK,kY,u,g,bS];have e3:gE (S.a6 ρ') o (some (r.a6 ρ'))=(((S.xO r.e).uJ o.dst r.v).more (gy r.nds)).a6 ρ':=by rw[ahT,Zi,akA];rfl
       rw[e3,Vg (Sp':=Sp) (λj X=>by simp only[Sp'];rw[bO om]),p];simp only[ux,awh,iC,pU,cE.a6,awB]
      .cases c
     .cases h
    .split at h
     .cases h;cases c
     .cases h
   .cases h
end
end
end
end Go.Proofs.YtndegphojkiblaaGreatDoor
