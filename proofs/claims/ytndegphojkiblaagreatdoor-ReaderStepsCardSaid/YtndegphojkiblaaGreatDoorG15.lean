/- A part. -/
import Derived.Test.YtndegphojkiblaaGreatDoorG12
import Derived.Test.YtndegphojkiblaaGreatDoorG13
import Derived.WalkKit
import Derived.WalkSpells
import Derived.Deep.RegionHeld3
import Derived.Deep.AppendLies
import Derived.IntWalk
import Derived.StillTail
import Derived.StillTailTactics
import Derived.Laws.CopyOwn
import Derived.Lib.Hide
import Derived.WalkArith
import Derived.RangeFuncBox
import Derived.RangeFuncCalls
import Derived.RangeFuncLeaves
import Derived.Shelf.Abstract
import Derived.OwnWalkIn
import Derived.TacticsInMore
import Derived.LoopNIn
import Derived.LoopIn
set_option linter.all false
set_option maxHeartbeats 4000000
set_option maxRecDepth 100000
namespace Go.Proofs.YtndegphojkiblaaGreatDoor
noncomputable section
section
open Go.RowKit
open Classical
theorem fg.ajQ{P f args e rows}(h:fg P f args [] (.v (.c (.sub 0 0 0))) [(0,.row e rows)]):fg P f args [] (.v (.c (.own 0))) [(0,.row e [])]:=by
 refine⟨h.own,λw M N vals J K O R S T U=>(h.call w M N vals J K O R S T U).mono ?_⟩;rintro _ w' ⟨v,E',rfl,u,a,W,Y⟩;obtain⟨x,B,Z,k1,D,k2,k3,k4,k5,k6,k7,k8,k9,E,aa⟩:=W 0 _ rfl;obtain⟨y,j1,j2,A,F,j4⟩:=cS.get (show RC M E' w' (.sub 0 0 0) v from Y) (by rw[a.bt];simp);rw[k1]at j1;cases j1;have G:=j4 (.inr rfl);simp only[Nat.zero_mul,Nat.sub_zero]at G F;refine⟨v,⟨λn=>if n=0 then some {x with len:=0}else E'.N n,[]⟩,rfl,u,⟨rfl,?_,?_,λm hm=>absurd hm (sD m)⟩,?_,?_⟩
 .intro n z g k q;simp only at k;split at k
  .cases k;exact a.names 0 x g k1 q
  .exact a.names n z g k q
 .intro n m z H g k d q o;simp only at k d;split at k<;>split at d
  .omega
  .cases k;have:=a.inj 0 m x H g k1 d q o;omega
  .cases d;have:=a.inj n 0 z x g k k1 q o;omega
  .exact a.inj n m z H g k d q o
 .intro n b t;simp only[hX,nR]at t;split at t
  .rename_i I;simp at I;subst I;cases t;exact⟨{x with len:=0},B,Z,by simp,D,k2,rfl,gk _,k5,k6,k7,k8,λr hr=>by simp at hr,E,λi r j p hi=>by simp at hi⟩
  .cases t
 .exact .inr ⟨{x with len:=0},by simp,by rw[F,G]⟩
theorem aed{P T e}(a:P.underlying T=some (.slice e))(A)(n c)(w):(Op.equal T (.slice A n c) (.slice none 0 0)).run P w=.ok A.isNone w:=by
 have key:∀d,(Op.equalIn (d+1) T (.slice A n c) (.slice none 0 0)).run P w=.ok A.isNone w:=λd=>by
  cases A<;>simp[Op.equalIn,run_underlying a]
 exact key 9999
section
variable{X:Fx}{Q:Exit->bz->Prop}{st:bz}
theorem H_{id t3 t4 i T ty3 ty4 yT:Nat}{p3 p4 a3 a4 rows e}(hi:st.tmps[i]?=some (.v (.c (.p (.sl rows)))))(O':t3<st.tmps.length)(hT:X.P.underlying T=some (.slice e))
 (hQ:∀b,(b=true->rows=[])->Q .normal ((st.put (some t3) (.v (.c (.p (.sl rows))))).put (some t4) (.sc (.bool b)))):
 Aw X (.region id #[{dst:=some t3,op:=.move (.tmp i),type:=ty3,pos:=p3,after:=a3,guard:=none},{dst:=some t4,op:=.binOp .eql T (.tmp t3) (.const (.slice none 0 0)) yT,type:=ty4,pos:=p4,after:=a4,guard:=none}] false) Q st:=λa w ht=>by
 obtain⟨E,hR,hg⟩:=ht;obtain⟨u,h1,h2⟩:=hR.tmps i _ hi;have hlt:t3<a.tmps.size:=by rw[hR.size];exact O'
 refine wp_region ?_;have hu:∃A n c,u=.slice A n c/\(A=none->rows=[]):=by
  cases h2 with
  |nil=>exact⟨_,_,_,rfl,λ_=>rfl⟩
  |row=>exact⟨_,_,_,rfl,λh=>by cases h⟩
 obtain⟨A,n,c,rfl,hn⟩:=hu;have Gr:∀b,(b=true->rows=[])->∃st',Q .normal st'/\Told X st' ((a.put (some t3) (.slice A n c)).put (some t4) (.bool b)) w:=λb hb=>
  ⟨_,hQ b hb,E,(hR.put (some t3) (v:=.v (.c (.p (.sl rows)))) h2).put (some t4) (v:=.sc (.bool b)) (RP.sc rfl),hg⟩
 have e1:a.eval (.tmp i)=.slice A n c:=by simp[Act.eval,h1]
 have e2:(a.put (some t3) (.slice A n c)).eval (.tmp t3)=.slice A n c:=by simp[Act.eval,Act.put,u5,hlt]
 have e3:∀a':Act,a'.eval (.const (.slice none 0 0))=.slice none 0 0:=λ_=>rfl
 have hq:(Op.equal T (.slice A n c) (.slice none 0 0)).run X.P w=.ok A.isNone w:=aed hT A n c w;have hb:(binOp .eql T (.slice A n c) (.slice none 0 0)).run X.P w=.ok (.bool A.isNone) w:=by
  simp only[binOp];rw[Sem.run_bind,hq];rfl
 have hgd:(eqGuard .eql T (.tmp t3) (.const (.slice none 0 0)) (.slice A n c) (.slice none 0 0)).run X.P w=.ok () w:=by
  simp[eqGuard]
 rw[show(List.range (#[({dst:=some t3,op:=.move (.tmp i),type:=ty3,pos:=p3,after:=a3,guard:=none}:Oper),{dst:=some t4,op:=.binOp .eql T (.tmp t3) (.const (.slice none 0 0)) yT,type:=ty4,pos:=p4,after:=a4,guard:=none}]).size)=[0,1]from rfl];simp only[wpOps,Region.wanted,Bp,sB,Qb,if_true];refine .inl (jy (u:=.slice A n c) (w':=w) ?_ (.inl ?_))
 .simp only[execOp,e1];rfl
 .refine jy (u:=.bool A.isNone) (w':=w) ?_ ?_
  .simp only[execOp,e2,e3,Sem.run_bind,hgd,hb,Result.andThen_ok];rfl
  .exact Gr _ (λh=>hn (by simpa using h))
end
def zx(T:b_)(C:dt)(c:Code)(k0:Nat)(rs:List ResultVar)(S:bp):Option zN:=
 match exec T C k0 c (rE rs) [] (rE rs) S with
 |some t=>match(merge (rE rs) k0 S.nv t.rU).map (bp.order k0)with
  |some S'=>match t.bind (fin T k0 S.nv S') 0,DP T rs S' with
   |some u,some r=>some ⟨u,r,S'.heap.filter (λx=>(reach S'.heap 4 (List.range k0++r.names)).contains x.1),S'.nv-S.nv⟩
   |_,_=>none
  |none=>none
 |none=>none
theorem IN{P T C}(m:b_.ok P T)(D:dt.ok P C)(E:P.follows .mixedOrders=true){c k0 rs S o}(p:S.bt=[])(h:zx T C c k0 rs S=some o)
 {ls os} (q:ls.length=S.nv) (j:gu (o.Dx.a6 ls)=some os) {X} (y:X.P=P) (g:X.k0=k0):Aw X c (LS P rs (o.res.a6 (ls++os)) (o.out.a6 (ls++os))) (S.a6 ls):=by
 unfold zx at h;split at h
 .rename_i t z;split at h
  .rename_i S' F;split at h
   .rename_i u r G H;cases h;have i:=lQ m D E c (S:=S) p z;simp only[gu]at j;split at j
    .rename_i k I ρ' J;cases j;obtain⟨e,A,a,v,K,B,M⟩:=qX (λx a N=>(i ls x a q N).bare) (λe A a z d u1 O=>UW O) G J;obtain⟨e',R,U,V,⟨ys,W⟩,Y,Z⟩:=i ls _ _ q K;cases U;subst W;have key:(e=.normal\/e=.ret)/\∀X:Fx,X.P=P->X.k0=k0->Le X (A.a6 (ls++ys)) (S'.a6 (ls++I.map (At.ev ρ'))):=by
      cases e with
      |exit=>cases B
      |_=>
       obtain⟨aa,zs,j1,_,_,j4⟩:=kB m q V Y B M;cases j1;exact⟨by simp,j4⟩
     obtain⟨he,s⟩:=key;refine uw (Z X y g _ ⟨_,s X y g,?_⟩);refine⟨?_,ZN m H,λn b f=>?_⟩;rotate_left
     .rw[ep];rw[dh.Cw]at f;simp only[bY]at f;obtain⟨b0,w,rfl⟩:=f;rw[CR w];rfl
     rcases he with rfl|rfl<;>trivial
    .cases j
   .cases h
  .cases h
 .cases h
def C.eN(rows:List (List PV)):C->Option C
 |.own 0=>some (.p (.sl rows))
 |.p q=>some (.p q)
 |.nil=>some .nil
 |_=>none
def V1.eN(rows:List (List PV)):V1->Option V1
 |.c y=>(y.eN rows).map .c
 |.agg cs=>(cs.mapM (C.eN rows)).map .agg
def V.eN(rows:List (List PV)):V->Option V
 |.v x=>(x.eN rows).map .v
 |.bq xs=>(xs.mapM (V1.eN rows)).map .bq
theorem mapM_at{α g:Type}{f}:∀{l:List α}{m},l.mapM f=some m->m.length=l.length/\∀(i:Nat)(y:g),m[i]?=some y->∃x,l[i]?=some x/\f x=some y
 |[],m,h=>by simp at h;subst h;simp
 |a::l,m,h=>by
  cases c:f a with
  |none=>simp[c]at h
  |some b=>
   cases d:l.mapM f with
   |none=>simp[c,d]at h
   |some bs=>
    simp[c,d]at h;subst h;obtain⟨k1,k2⟩:=mapM_at d;refine⟨by simp[k1],λi y e=>?_⟩
    match i with
    |0=>simp at e;subst e;exact⟨a,rfl,c⟩
    |i+1=>simpa using k2 i y e
theorem fg.eN{P f args e rows r Z}(h:fg P f args [] r [(0,.row e rows)])(k:r.eN rows=some Z):fg P f args [] Z []:=by
 refine⟨h.own,λw M N vals h1 h2 h3 h4 h5 h6 h7=>(h.call w M N vals h1 h2 h3 h4 h5 h6 h7).mono ?_⟩;rintro _ w' ⟨v,E',rfl,J,F,hH,hv⟩;obtain⟨x,aa,fz,k1,ab,k2,k3,k4,k5,k6,k7,k8,k9,K,O⟩:=hH 0 _ rfl;have R:iP (bad M E') (bad M ⟨λ_=>none,[]⟩) w' w':=λg o u q1 q2=>⟨q1,λq3=>q2 (by
  rcases q3 with q3| ⟨n,z,q4,_⟩
  .exact .inl q3
  .cases q4)⟩
 have hC :∀c t u,RC M E' w' c u->c.eN rows=some t->RC M ⟨λ_=>none,[]⟩ w' t u:=λc t v E a=>by
  unfold C.eN at a;split at a
  .cases a;obtain⟨y,j1,j2⟩:=cS.get (show RC M E' w' (.own 0) v from E) (by rw[F.bt];simp);rw[k1]at j1;cases j1;rw[j2];by_cases h0:rows=[]
   .subst h0;rw[k3];exact .nil
   .cases S:x.g with
    |none=>
     have:=K S;have:rows.length=0:=om;exact absurd (jX this) h0
    |some g=>
     have hr:=Jw (M:=bad M E') (o:=0) (k2 g S) om k5 k9 (λi r j p G hj=>by simpa using O i r j p G hj);rw[k3];refine Rows.rp hr (λg' T=>by
      rcases T with q| ⟨n,z,q,_⟩
      .exact .inl q
      .cases q) ?_
     rintro g' o n c he H;obtain⟨⟨rfl,rfl⟩,_⟩:=he;rcases H with H| ⟨n,z,q,_⟩
     .have:=h1 g H;rcases(F.names 0 x g k1 S).2 with⟨m,z,q,_⟩|q
      .exact absurd (h2 m z q) (sD m)
      .omega
     .cases q
  .cases a;exact RP.trans E R
  .cases a;exact E
  .cases a
 have I:∀c t u,dR M E' w' c u->c.eN rows=some t->dR M ⟨λ_=>none,[]⟩ w' t u:=λc t v E a=>by
  cases c with
  |c c=>
   simp only[V1.eN,bY]at a;obtain⟨d,A,rfl⟩:=a;exact hC _ _ _ E A
  |agg cs=>
   simp only[V1.eN,bY]at a;obtain⟨d,A,rfl⟩:=a;obtain⟨us,rfl,B,D⟩:=E;obtain⟨U,W⟩:=mapM_at A;refine⟨us,rfl,by rw[U];exact B,λi c G=>?_⟩;obtain⟨c0,e0,Y⟩:=W i c G;obtain⟨u,q1,q2,q3⟩:=D i c0 e0;exact⟨u,q1,hC _ _ _ q2 Y,q3⟩
 refine⟨v,⟨λ_=>none,[]⟩,rfl,J,⟨rfl,λn z g k=>(by cases k),λn m z z' g k=>(by cases k),λm hm=>absurd hm (sD m)⟩,λn b H=>(by cases H),?_⟩
 cases r with
 |v c=>
  simp only[V.eN,bY]at k;obtain⟨d,A,rfl⟩:=k;exact I _ _ _ hv A
 |bq xs=>
  simp only[V.eN,bY]at k;obtain⟨d,A,rfl⟩:=k;obtain⟨us,rfl,B,D⟩:=hv;obtain⟨U,W⟩:=mapM_at A;refine⟨us,rfl,by rw[U];exact B,λi c G=>?_⟩;obtain⟨c0,e0,Y⟩:=W i c G;obtain⟨u,q1,q2⟩:=D i c0 e0;exact⟨u,q1,I _ _ _ q2 Y⟩
def SC.eN(x:At):SC->SC
 |.own 0=>.p .sl x
 |c=>c
def bK.eN(x:At):bK->bK
 |.c y=>.c (y.eN x)
 |.agg cs=>.agg (cs.map (SC.eN x))
def SV.eN(x:At):SV->SV
 |.v y=>.v (y.eN x)
 |.bq ys=>.bq (ys.map (bK.eN x))
def SC.nE:SC->Bool
 |.own 0=>true| .p _ _=>true| .nil=>true|_=>false
def bK.nE:bK->Bool
 |.c y=>y.nE| .agg cs=>cs.all SC.nE
def SV.nE:SV->Bool
 |.v y=>y.nE| .bq ys=>ys.all bK.nE
theorem mapM_map{α c e d:Type}{g g'}{F:e->Option d}{s:α->c}{l:List α}(h:∀a∈l,F (g a)=some (g' (s a))):(l.map g).mapM F=some ((l.map s).map g'):=by
 induction l with
 |nil=>rfl
 |cons a l ih=>simp[nU,h a eJ,ih λb f=>h b (fp _ f)]
theorem SC.sF{ρ x}{c:SC}(h:c.nE=true):(c.a6 ρ).eN (x.ev ρ).bm=some ((c.eN x).a6 ρ):=by
 unfold SC.nE at h;split at h<;>first|rfl|cases h
theorem bK.sF{ρ x}{c:bK}(h:c.nE=true):(c.a6 ρ).eN (x.ev ρ).bm=some ((c.eN x).a6 ρ):=by
 cases c with
 |c c=>show(C.eN _ _).map _=_;rw[SC.sF h];rfl
 |agg cs=>show Option.map _ (List.mapM _ (List.map _ _))=_;rw[mapM_map (s:=SC.eN x) (g':=SC.a6 ρ) λa d=>SC.sF (cj.1 h a d)];rfl
theorem SV.sF{ρ x}{c:SV}(h:c.nE=true):(c.a6 ρ).eN (x.ev ρ).bm=some ((c.eN x).a6 ρ):=by
 cases c with
 |v c=>show(V1.eN _ _).map _=_;rw[bK.sF h];rfl
 |bq cs=>show Option.map _ (List.mapM _ (List.map _ _))=_;rw[mapM_map (s:=bK.eN x) (g':=bK.a6 ρ) λa d=>bK.sF (cj.1 h a d)];rfl
theorem Da{P}{s:bB}(h:s.ok P)(b:s.H=[]){x e}(c:s.res.nE=true)(d:s.out=[(0,.row e x)])(tag):
 bB.ok P ⟨s.f,s.params,[],s.fF,s.il,s.res.eN x,[],s.F,tag⟩:=by
 intro ls os f g a;have:=h ls os f g a;rw[b,d]at this;exact fg.eN this (SV.sF c)
def ajP(b:Bool):bp:=⟨[.v (.c (.p .sl (.v 0))),.bq [],.v (.c .nil),.v (.c (.p .sl (.v 0))),.v (.c (.p .bool (.b b))),.bq [],.bq [],.bq []],[],[],8,1⟩
def afm : Code :=
          (Code.region 3
                #[{ dst :=some 5,op:=Op.buildSlice 89 0 #[],type:=89,pos:= "slices.go:362",after:= #[],
                    guard:=none},
                 { dst:=some 6,op:=Op.move (Operand.tmp 0),type:=89,pos:= "slices.go:362",after:= #[],
                   guard:=none},
                 { dst :=some 7,
                   op:=
                    Op.call
                     { callee:=Callee.builtin Builtin.append,args:= #[Operand.tmp 5,Operand.tmp 6],
                       argTypes:= #[89,89]},
                   type:=89,pos:= "slices.go:362",
                   after:= #[{on:=0,ground:=Ground.data},{on:=1,ground:=Ground.data}],guard:=none},
                 { dst :=some 2,op:=Op.assign (Operand.tmp 7),type:=89,pos:= "slices.go:362",
                   after:=
                    #[{on:=2,ground:=Ground.data},{on:=2,ground:=Ground.chain},
                     {on:=0,ground:=Ground.phase},{on:=1,ground:=Ground.phase},
                     {on:=2,ground:=Ground.phase}],
                   guard:=none}]
                false).seq
           Code.ret
def Kk:a8:=.op (.lit []) (.op (.app (.v 1) (.v 0) 4 32) (.br (.jump 0 [(.v 2)])))
theorem afy:zx TT [] afm 0 [.tmp 2] (ajP false)=some ⟨Kk,(.v (.c (.own 0))),[(0,(.row 25 (.v 1)))],1⟩:=kr
theorem aoa(rows)(hR:cf 4 rows=true)(i:rows.length*32<=140737488355328):
 fg Tryz.prog 246 [.c (.p (.sl rows))] [] (.v (.c (.own 0))) [(0,.row 25 rows)]:=by
 refine fg.intro Tryz.func246 kr rfl rfl rfl λX f a=>uw ?_
 refine gg ?_;refine te (Sp:=λ_=>none) rfl rfl ?_;refine gg ?_;refine gg ?_;refine H_ (rows:=rows) (e:=25) rfl (by show 3<8;decide) (by rw[f];exact Tryz.underlying89) ?_;intro b g;refine tp (t:=b) rfl (λh=>?_) (λh=>?_)
 .subst h;cases g rfl;refine gg (te (Sp:=λ_=>none) rfl rfl (tB ?_));refine⟨⟨[.v (.c .dead),.v (.c .dead),.v (.c (.own 0)),.v (.c .dead),.v (.c .dead),.v (.c .dead),.v (.c .dead),.v (.c .dead)],[(0,.row 25 [])],[],16⟩,mX.le (ι:=[]) (Z:=[0]) rfl ?_,trivial,rfl,λn b h=>h⟩;have c:X.k0=0:=a;rw[c,f];exact{
          bt:=rfl,old:=by simp[Ren.old],new:=by simp[Ren.new],zs:=λn d=>by
           simp at d;subst d;exact⟨by simp[Ren.new],gk _,by simp,25,rfl,dZ kr⟩
          lt:=λx j=>by simp at j
          k0:=gk _
          tmps:=by
           refine⟨trivial,trivial,?_,trivial,trivial,trivial,trivial,trivial,trivial⟩;exact fO.2 rfl
          heap:=λn b h=>.inl (by
           simp only[hX,nR]at h;split at h
           .rename_i d;simp at d;subst d;simp
           .cases h)}
 .subst h;refine Dc ?_;have k:gu (Kk.a6 [.r rows])=some [.r rows]:=by
   simp[Kk,a8.a6,Nd.ev,At.ev,L.bm,gu];rw[bF ⟨om,i,rfl,hR⟩];rfl
  refine lB (IN gf .nil zv rfl afy (ls:=[.r rows]) (os:=[.r rows]) rfl k f a) λe st h=>⟨st,λ_ _ h=>h,h⟩
def qC:List L->Option (List L):=λls=>match ls with
 |[.r rows]=>if cf 4 rows=true/\rows.length*32<=140737488355328 then some []else none
 |_=>none
def O5:bB:=⟨246,[.c (.p .sl U0)],[],1,0,.v (.c (.own 0)),[(0,.row 25 U0)],qC,2000⟩
theorem afC:O5.ok Tryz.prog:=by
 intro ls os d a c;have a:qC ls=some os:=a;unfold qC at a;split at a
 .split at a
  .rename_i b;cases a;exact aoa _ b.1 b.2
  .cases a
 .cases a
instance:Ok O5:=⟨afC⟩
theorem afO{s:bB}(h:s.ok Tryz.prog)(d:s.H=[])(e:s.res=.v (.c (.sub 0 (.i 0) (.i 0)))){x}(f:s.out=[(0,.row 25 x)])(tag):
 bB.ok Tryz.prog ⟨s.f,s.params,[],s.fF,0,.v (.c (.own 0)),[(0,.row 25 .r0)],λls=>match s.F ls with|some os=>if os.length=s.il then some []else none|none=>none,tag⟩:=by
 intro ls os g a i;have a:(match s.F ls with|some os=>if os.length=s.il then some []else none|none=>none)=some os:=a;split at a
 .rename_i b c;split at a
  .rename_i hlen;cases a;have:=h ls b g c hlen;rw[d,e,f]at this;exact fg.ajQ this
  .cases a
 .cases a
end
section
open Go.RowKit
namespace Sp
def tz(i j:Nat):Nat:=j/64*256+i*64+j%64
def kI(t:Nat):Nat:=t/64%4
def gZ(t:Nat):Nat:=t/64/4*64+t%64
def eu(L:Nat):Nat:=(L+255) /256*64
theorem XH(t):kI t<4:=by unfold kI;omega
theorem atB{i j t p}(a:i<4)(hp:t%64+p<=64):(t<=tz i j/\tz i j<t+p)↔(i=kI t/\gZ t<=j/\j<gZ t+p):=by
 unfold tz kI gZ;omega
theorem akj{j t p}(hp:t%64+p<=64)(h:gZ t<=j/\j<gZ t+p):tz (kI t) j=t+(j-gZ t):=by
 grind[tz,kI,gZ]
theorem aem{L t p}(hp:t%64+p<=64)(h:t+p<=L):gZ t+p<=eu L:=by
 unfold gZ eu;omega
def fill(f:Nat->Int)(t i j:Nat):Int:=if tz i j<t then f (tz i j)else 0
theorem apQ(f)(i j):fill f 0 i j=0:=by simp[fill]
theorem ajO(f){t p i j}(a:i<4)(hp:t%64+p<=64):
 fill f (t+p) i j=if i=kI t/\gZ t<=j/\j<gZ t+p then f (t+(j-gZ t))else fill f t i j:=by
 have d:=atB (j:=j) a hp;unfold fill;by_cases b:i=kI t/\gZ t<=j/\j<gZ t+p
 .obtain⟨rfl,c⟩:=b;have e:=akj hp c;simp_all
 omega
def V8(w:cp)(A:Option Addr)(len:Nat)(f:Nat->Int):Prop:=
 0<len->∃g o,A=some ⟨g,o,none⟩/\∀i,i<len->w.cell? ⟨g,o+i,none⟩=some (.int .u8 (f i))
def Row(w:cp)(g m:Nat)(c:Nat->Int):Prop:=
 ∃L:List cr,w.heap[g]?=some (.cells L.toArray 5 (0,0))/\L.length=m/\∀j,j<m->L[j]?=some (.int .u8 (c j))
theorem Row.lt{w g m c}(h:Row w g m c):g<w.heap.size:=by
 obtain⟨L,a,_⟩:=h;grind
theorem Row.ec{w w' g m c}(h:Row w g m c)(a:w'.heap[g]?=w.heap[g]?):Row w' g m c:=by
 obtain⟨L,d,k⟩:=h;exact⟨L,a.trans d,k⟩
theorem Row.congr{w g m c a}(h:Row w g m c)(o:∀j,j<m->c j=a j):Row w g m a:=by
 obtain⟨L,d,k,q⟩:=h;exact⟨L,d,k,λj t=>by simp_all⟩
theorem Row.cell{w g m c}(h:Row w g m c){j}(a:j<m):w.cell? ⟨g,j,none⟩=some (.int .u8 (c j)):=by
 obtain⟨L,d,o,k⟩:=h;rw[cell_of_row w g j _ _ _ d];simpa using k j a
theorem Row.frozen{w g m c}(h:Row w g m c)(j):w.frozen? ⟨g,j,none⟩=false:=by
 obtain⟨L,a,_⟩:=h;simp[World.frozen?,a]
theorem Row.made(w:cp)(m):Row (w.alloc (.cells (madeCells (Value.int .u8 0).cells (m*1)) 5)) w.heap.size m (λ_=>0):=by
 refine⟨(madeCells (Value.int .u8 0).cells (m*1)).toList,by simpa using heap_alloc_new w _,by simp[size_madeCells],λj a=>?_⟩;simp[madeCells,Value.cells,a,Nat.mod_one]
theorem Row.set{w g m c}(h:Row w g m c)(j)(x):Row (w.setCell ⟨g,j,none⟩ (.int .u8 x)) g m (λi=>if i=j then x else c i):=by
 obtain⟨L,a,d,k⟩:=h;rw[setCell_eq_setRow w g j _ 5 (0,0) _ a];refine⟨L.set j (.int .u8 x),by simpa using setRow_heap w g _ _ 5 (0,0) a,by simpa using d,λi o=>?_⟩;grind
theorem Row.copy{w:cp}{g m}{c:Nat->Int}(L:List cr)(h:w.heap[g]?=some (.cells L.toArray 5 (0,0)))(o:L.length=m)(q:∀j,j<m->L[j]?=some (.int .u8 (c j)))
 (off) (cs) (d:Nat->Int) (k:∀j,j<cs.length->cs[j]?=some (.int .u8 (d j))) (a:off+cs.length<=m):
 Row (w.setRow g (L.take off++(cs++L.drop (off+cs.length))).toArray) g m (λj=>if off<=j/\j<off+cs.length then d (j-off)else c j):=by
 refine⟨_,setRow_heap w g _ _ 5 (0,0) h,by simp;omega,λj t=>?_⟩;grind
theorem arO:(Tryz.prog.info? 5).map (λi=>(i.zero,i.size,i.bytes))=some (some (.int .u8 0),1,1):=kr
theorem aub:(Tryz.prog.info? 71).map (λi=>(i.zero,i.size,i.bytes))=some (some (.slice none 0 0),1,24):=kr
def wg(n:Int):Int:=if n<=0 then 0 else((n-1) /256+1)*64
theorem NW{k a b}(h:a=b):Ending.returned (.int k a)=.returned (.int k b):=by rw[h]
theorem anw(n)(w)(h0: -9223372036854775808<=n)(h1:n<=9223372036854775807):
 Calls Tryz.prog 177 #[.int .i64 n] w λe w'=>e=.returned (.int .i64 (wg n))/\w'=w:=by
 by_cases h:n<0
 .go_wp2
  go_ret
  exact⟨NW (by unfold wg;omega),rfl⟩
 .by_cases h2:0<n%256
  .go_wp2
   go_ret
   exact⟨NW (by unfold wg;omega),rfl⟩
  .go_wp2
   go_ret
   exact⟨NW (by grind[wg]),rfl⟩
theorem aeW(n)(w)(h0:0<=n)(h1:n<=9223372036854775807):
 Calls Tryz.prog 178 #[.int .i64 n] w λe w'=>e=.returned (.tuple #[.int .i64 (n/64%4),.int .i64 (n/64/4*64+n%64),.int .i64 0])/\w'=w:=by
 go_wp2
 go_ret3
 simp_all
theorem akD(L m)(w)(a:L<=1048576)(h:eu L=m):
 Calls Tryz.prog 177 #[.int .i64 (L:Int)] w λe w'=>e=.returned (.int .i64 (m:Int))/\w=w':=by
 refine(anw (L:Int) w om om).mono ?_;rintro e w' ⟨rfl,rfl⟩;rw[show wg (L:Int)=(eu L:Int)by grind[wg,eu],h];simp_all
theorem aoD(t)(w)(d:t<=1048576)(s a)(b:kI t=s)(c:gZ t=a):
 Calls Tryz.prog 178 #[.int .i64 (t:Int)] w λe w'=>e=.returned (.tuple #[.int .i64 (s:Int),.int .i64 (a:Int),.int .i64 0])/\w=w':=by
 refine(aeW (t:Int) w om om).mono ?_;rintro e w' ⟨rfl,rfl⟩;rw[show((t:Int) /64%4)=(kI t:Int)by unfold kI;omega,show((t:Int) /64/4*64+(t:Int)%64)=(gZ t:Int)by unfold gZ;omega,b,c];simp_all
theorem agx(m:Nat)(f:m<=1048576)(w):
 (Instr.makeSlice 71 (.int .i64 (m:Int)) (.int .i64 (m:Int))).run Tryz.prog w=.ok (.slice (some ⟨w.heap.size,0,none⟩) m m) (w.alloc (.cells (madeCells (Value.int .u8 0).cells (m*1)) 5)):=by
 obtain⟨c,d,a,e,b⟩:=info_parts arO;have h:=run_make (P:=Tryz.prog) w 71 5 c (.int .u8 0) Tryz.underlying71 d a .i64 .i64 (m:Int) (m:Int) om om (by rw[b];omega) om;simp_all
structure r7(w:cp)(base G cap:Nat)(h:Nat->Nat)(m:Nat)(c:Nat->Nat->Int):Prop where
 head:∃cur,w.heap[G]?=some (.cells cur 71 (0,0))/\cur.size=cap/\∀i,i<4->cur[i]?=some (.slice (some ⟨h i,0,none⟩) m m)
 low:base<=G/\G<w.heap.size
 rows:∀i,i<4->base<=h i/\h i≠G/\Row w (h i) m (c i)
 apart:∀i j,i<4->j<4->h i=h j->i=j
def arf(w:cp)(m:Nat)(c:Nat->Nat->Int)(e:Ending)(w':cp):Prop:=
 ∃G cap h,e=.returned (.slice (some ⟨G,0,none⟩) 4 cap)/\4<=cap/\cap<=9223372036854775807/\r7 w' w.heap.size G cap h m c/\Below w.heap.size w w'
theorem r7.cell{w base G cap h m c}(d:r7 w base G cap h m c){i}(k:i<4):w.cell? ⟨G,i,none⟩=some (.slice (some ⟨h i,0,none⟩) m m):=by
 obtain⟨a,o,_,q⟩:=d.head;rw[cell_of_row w G i a 71 (0,0) o];exact q i k
theorem Row.anW(w:cp)(m):Row (w.alloc (.cells (madeCells #[Value.int .u8 0] m) 5)) w.heap.size m (λ_=>0):=by
 have:=Row.made w m
 rwa [P7]at this
def oU(h:Nat->Nat)(m k:Nat):List cr:=(List.range k).map λi=>.slice (some ⟨h i,0,none⟩) m m
theorem atH(h)(m k g):oU (λi=>if i=k then g else h i) m (k+1)=oU h m k++[.slice (some ⟨g,0,none⟩) m m]:=by
 unfold oU;rw[BB,eB];congr 1
 .apply ia;grind
 .simp
theorem aob(h)(m k){i}(a:i<k):(oU h m k)[i]?=some (.slice (some ⟨h i,0,none⟩) m m):=by simp[oU,a]
theorem ash(W:cp)(C)(x):∀j u,[x][j]?=some u->((W.alloc (.cells C 5)).alloc (.cells #[x] 71)).cell? ((⟨W.heap.size+1,0,none⟩:Addr).add j)=some u:=by
 have:=World.news_of_block (w:=(W.alloc (.cells C 5)).alloc (.cells #[x] 71)) (heap_alloc_new _ _);simp_all
def Fe(w:cp)(m k:Nat)(v:cr)(W:cp):Prop:=
 ∃h:Nat->Nat,W.ownsRow w.heap.size 71 1 v k (oU h m k)/\(∀i,i<k->w.heap.size<=h i/\Row W (h i) m (λ_=>0))/\(∀i j,i<k->j<k->h i=h j->i=j)/\Below w.heap.size w W
theorem Fe.step{w W u m k v E X h}(hrow:W.ownsRow w.heap.size 71 1 v k (oU h m k))(B:∀i,i<k->w.heap.size<=h i/\Row W (h i) m (λ_=>0))
 (K:∀i j,i<k->j<k->h i=h j->i=j) (o:Below w.heap.size w W)
 (d:u.ownsRow w.heap.size 71 1 E (k+1) (oU h m k++[.slice (some ⟨W.heap.size,0,none⟩) m m]))
 (hgrow:((W.alloc (.cells (madeCells #[Value.int .u8 0] m) 5)).alloc X).grownBy u v.ownBlock):Fe w m (k+1) E u:=by
 have H:∀j,j<W.heap.size->((W.alloc (.cells (madeCells #[Value.int .u8 0] m) 5)).alloc X).heap[j]?=W.heap[j]?:=λj F=>
  (Below.heap_alloc _ _ _ (by simp;omega)).trans (Below.heap_alloc _ _ _ F)
 have D:∀j c,Row W j m c->some j≠v.ownBlock:=by
  rintro j c ⟨M,G,_⟩ e;rcases hrow.2 with⟨rfl,_⟩| ⟨g,cap,I,rfl,_,N,_⟩
  .simp[Value.ownBlock]at e
  .obtain rfl:j=g:=by simpa[Value.ownBlock]using e
   simp_all
 have q:Row ((W.alloc (.cells (madeCells #[Value.int .u8 0] m) 5)).alloc X) W.heap.size m (λ_=>0):=(Row.anW W m).ec (Below.heap_alloc _ _ _ (by simp));refine⟨λi=>if i=k then W.heap.size else h i,by rw[atH];exact d,λi J=>?_,λi j J F e=>?_,?_⟩
 .show w.heap.size<=(if i=k then W.heap.size else h i)/\Row u (if i=k then W.heap.size else h i) m _;by_cases a:i=k
  .rw[bF a];refine⟨o.size,q.ec (hgrow.block _ (by simp;omega) (λe=>?_))⟩;have:=hrow.lt _ e.symm;omega
  .rw[bO a];obtain⟨G,A⟩:=B i om;exact⟨G,A.ec ((hgrow.block _ (by have:=A.lt;simp;omega) (D _ _ A)).trans (H _ A.lt))⟩
 .simp only at e;by_cases a:i=k<;>by_cases t:j=k
  .omega
  .rw[bF a,bO t]at e;have:=(B j om).2.lt;omega
  .rw[bO a,bF t]at e;have:=(B i om).2.lt;omega
  grind
 .exact((o.alloc o.size _).alloc (by have:=o.size;simp;omega) _).grown hgrow (by have:=o.size;simp;omega) (λr e=>(hrow.lt r e).1)
theorem r7.step{W base G cap h m t s a f}(d:r7 W base G cap h m (fill f t))(E:kI t=s)(M:gZ t=a)(N):
 r7 ((W.drewN N).setCell ⟨h s,a,none⟩ (.int .u8 (f t))) base G cap h m (fill f (t+1)):=by
 have k:=XH t;rw[E]at k;have F:∀i j,i<4->fill f (t+1) i j=if i=s/\a<=j/\j<a+1 then f (t+(j-a))else fill f t i j:=λi j q=>by
  have:=ajO f (t:=t) (p:=1) (i:=i) (j:=j) q om;simp_all
 have H:G≠h s:=λe=>(d.rows s k).2.1 e.symm
 obtain⟨u,I,A,B⟩:=d.head;refine⟨⟨u,?_,A,B⟩,⟨d.low.1,by simpa[World.setCell]using d.low.2⟩,λi q=>?_,d.apart⟩
 .simp_all[Below.heap_setCell]
 .obtain⟨J,K,D⟩:=d.rows i q;refine⟨J,K,?_⟩;by_cases o:i=s
  .subst o;refine(Row.set (w:=W.drewN N) D a (f t)).congr λj _=>?_
   grind
  .refine(D.ec (Below.heap_setCell (W.drewN N) _ _ _ (λe=>o (d.apart i s q k e)))).congr λj _=>?_
   simp_all
set_option maxRecDepth 100000 in
set_option maxHeartbeats 1000000 in
theorem avJ(A)(L cap)(f)(w)(hL:L<=1048576)(hb:V8 w A L f):
 Calls Tryz.prog 127 #[.slice A L cap] w (arf w (eu L) (fill f L)):=by
 obtain⟨i0,hi,hz0,hz1,hz2⟩:=info_parts aub;obtain⟨m,hm⟩:∃m,eu L=m:=⟨_,rfl⟩
 have hm2:m<=1048576:=by grind[eu]
 have hmk:=agx m hm2;have Hm:=Lib.hid hm;rw[hm];clear hm
 go_enter Tryz.func127,Tryz.ntmps127
 go_wp2_with fail
 go_loopw [3,4] (λv i W=>∃k:Nat,k<=4/\i=.int .i64 k/\Fe w m k v W) (λ_ i _=>4- (intOf i).toNat)
 case atStart=>exact⟨0,om,rfl,λ_=>0,World.ownsRow_nil _ _ _ _,λi hi=>absurd hi om,λi j hi=>absurd hi om,Below.refl _ _⟩
 case round=>
  obtain⟨k,hk,rfl,h,hrow,hr,ha,hB⟩:=hrel;have hBs:=hB.size;by_cases hlt:k<4
  .go_wp2_with (first| (go_at_call 177;refine(akD L m _ hL Hm.out).mono ?_;rintro e w' ⟨rfl,rfl⟩)| (at_builtin;go_must (refine wpList_append_own _ rfl _ _ 149 rfl w.heap.size 71 i0 (.slice none 0 0) 1 24 Tryz.underlying149 hi hz0 hz1 hz2 rfl dc _ _ _ rfl ((hrow.alloc _).alloc _) ⟨wr.heap.size+1,0,none⟩ 1 1 [.slice (some ⟨wr.heap.size,0,none⟩) m m] rfl rfl (ash _ _ _) (by simp[Value.oneCell']) (by unfold maxLen;omega) om (by simp;omega) ?_);intro v' w1 hown' hgrow _))
   go_roundw
   case rel=>exact⟨k+1,om,by go_num,Fe.step hrow hr ha hB hown' hgrow⟩
   case measure=>simp[intOf];omega
  .obtain rfl:k=4:=om;obtain⟨G,c4,axl,rfl,hG1,Pa,hc4,acm,hG5,hG6⟩:=hrow.2.resolve_left (λh=>absurd h.2 om);have axp:c4<=9223372036854775807:=by simp only[maxLen]at acm;omega
   have hG2:=(fx.1 Pa).1;have hG4:True:=trivial;have hS0:r7 wr w.heap.size G c4 h m (fill f 0):=by
    refine⟨⟨axl,Pa,om,λi hi=>by
     have:=aob h m 4 hi;grind⟩,⟨hG1,hG2⟩,λi hi=>⟨(hr i hi).1,?_,(hr i hi).2.congr λj _=>(apQ f i j).symm⟩,ha⟩
    rintro rfl;obtain⟨Lj,h1,_⟩:=(hr i hi).2;simp_all
   clear hrow hr ha hG1 hG2 Pa hG4 hG5 hG6 acm hmk
   go_wp2_with fail
   simp only[adm]
   go_loopw [5] (λi W=>∃t:Nat,t<=L/\i=.int .i64 t/\r7 W w.heap.size G c4 h m (fill f t)/\Below w.heap.size w W) (λi _=>L- (intOf i).toNat)
   case atStart=>grind
   case round=>
    obtain⟨t,ht,rfl,hS,hB⟩:=hrel;by_cases uL:t<L
    .obtain⟨ga,oa,rfl,hfb⟩:=hb om;have o4:=XH t;have azE:gZ t+1<=m:=by have:=aem (L:=L) (t:=t) (p:=1) om om;have:=Hm.out;omega
     obtain⟨hr1,hr2,hr3⟩:=hS.rows (kI t) o4;have d0:=hS.cell o4;have d1:=hr3.cell (j:=gZ t) om;have d2:=hr3.frozen (gZ t);have d3:wr.cell? ⟨ga,oa+t,none⟩=some (.int .u8 (f t)):=(hB.cell (p:=⟨ga,oa+t,none⟩) (World.block_lt_of_cell? w _ (hfb t uL))).trans (hfb t uL);generalize Pb:kI t=sn at*;generalize han:gZ t=an at*;have Hsn:=Lib.hid Pb;have Han:=Lib.hid han;have i1:(sn:Int)<4:=om;have i3:(an:Int)< (m:Int):=om
     go_wp2_with (go_at_call 178;refine(aoD t _ om sn an Hsn.out Han.out).mono ?_;rintro e w' ⟨rfl,rfl⟩)
     go_still_tail 10,kr
     go_wp2
     go_roundw
     case rel=>exact⟨t+1,om,by go_num,hS.step Hsn.out Han.out 1,(hB.setCell (p:=⟨h sn,an,none⟩) (hS.rows sn o4).1 _).drew⟩
     case measure=>simp[intOf];omega
    .obtain rfl:t=L:=om
     go_wp2
     go_ret
     exact⟨G,c4,h,rfl,hc4,axp,hS,hB⟩
def Lh(b:List Int)(i:Nat):List PV:=[.sl (gl ((List.range (eu b.length)).map λj=>fill (λt=>(b[t]?).getD 0) b.length i j))]
def oF(b:List Int):List (List PV):=(List.range 4).map (Lh b)
theorem agw{M w b v}(h:RP M w (.sl (gl b)) v):∃A cap,v=.slice A b.length cap/\b.length<=cap+b.length/\(b.length=0\/b.length<=cap/\cap<=maxLen)/\V8 w A b.length (λt=>(b[t]?).getD 0):=by
 rcases RP.rows h with⟨c,A,cap,rfl⟩| ⟨g,o,cap,sz,f,rfl,c,d,k,hR,m⟩
 .have:b=[]:=by cases b with|nil=>rfl|cons=>simp[gl]at c
  subst this;exact⟨A,cap,rfl,by simp,.inl rfl,λh=>absurd h (by simp)⟩
 .rw[AE];rw[AE]at d;refine⟨_,cap,rfl,om,.inr ⟨d,k⟩,λhp=>⟨g,o,rfl,λi e=>?_⟩⟩;have a:sz=1:=by
   have j:=cW (l:=gl b) (i:=i) (by rw[AE];exact e);rw[<-hR _ (dB j),R7 b _ (dB j)]
  subst a;have p:b[i]?=some b[i]:=cW e;obtain⟨q,r⟩:=m i [.sc (.int .u8 b[i])] 0 (.sc (.int .u8 b[i])) (by rw[abK,p];rfl) rfl;rw[RP.ei r]at q;simp_all
theorem aoE{M w g m c}(h:Row w g m c)(q:¬M g)(s:m<=maxLen):RP M w (.sl (gl ((List.range m).map c))) (.slice (some ⟨g,0,none⟩) m m):=by
 by_cases t:m=0
 .subst t;exact .nil
 .have u:(gl ((List.range m).map c)).length=m:=by simp[gl]
  have k:∀(i:Nat)(r:List PV),(gl ((List.range m).map c))[i]?=some r->i<m/\r=[.sc (.int .u8 (c i))]:=by
   intro i r b;have d:i<m:=by grind
   rw[abK,cN,u9 d]at b;simp_all
  rw[show(Value.slice (some ⟨g,0,none⟩) m m)=.slice (some ⟨g,0,none⟩) (gl ((List.range m).map c)).length m by rw[u]];refine .row (sz:=1) (f:=λi _=>.int .u8 (c i)) (by grind) om s (R7 _) (λi r j p b e=>?_) (λi r j p b e=>?_)
  .obtain⟨o,rfl⟩:=k i r b;have a:j=0:=by grind
   subst a;refine⟨?_,q⟩;have:=h.cell o;simpa using this
  .obtain⟨o,rfl⟩:=k i r b;have a:j=0:=by grind
   subst a;simp at e;subst e;exact .sc rfl
theorem avg(b)(y:b.length<=1048576):fg Tryz.prog 127 [.c (.p (.sl (gl b)))] [] (.v (.c (.own 0))) [(0,.row 71 (oF b))]:={
 own:=⟨_,Tryz.func127,by kernel_rfl,rfl⟩
 call :=λw M N vals R S T U V W I=>by
  obtain⟨v,J,k⟩:=I 0 _ rfl;have c:vals= #[v]:=by
   grind
  subst c;obtain⟨A,cap,rfl,_,z,K⟩:=agw (show RP _ w (.sl (gl b)) v from k);refine(avJ A b.length cap _ w y K).mono ?_;rintro e w' ⟨G,c4,Y,rfl,k1,k2,o,d⟩;obtain⟨q,q1,q2,q3⟩:=o.head;have B:=o.low;have C:∀g,w.heap.size<=g->g≠G->¬bad M ⟨λn=>if n=0 then some ⟨some G,4,c4,1⟩else none,[]⟩ g:=by
   rintro g D O (y| ⟨n,x,s,Z⟩)
   .grind
   grind
  refine⟨_,⟨λn=>if n=0 then some ⟨some G,4,c4,1⟩else none,[]⟩,rfl,Frame.Ez d,⟨rfl,?_,?_,λm E=>absurd E (sD m)⟩,?_,?_⟩
  .grind
  .simp_all
  .intro n bl a;simp only[hX,nR]at a;split at a
   .rename_i s;simp at s;subst s;cases a;refine⟨⟨some G,4,c4,1⟩,q,(0,0),by simp,.inl rfl,λg D=>by cases D;exact q1,by simp[oF],k1,by simp only[maxLen];omega,by simp only;omega,by kernel_rfl,by simp only;omega,λr F=>?_,λh=>(by cases h),λi r j p H t=>?_⟩
    .simp only[oF,eV]at F;obtain⟨i,_,rfl⟩:=F;rfl
    .have f:i<4:=by
      grind[oF]
     simp only[oF,cN,u9 f,bS,iQ]at H;subst H;have u:j=0:=by cases j with|zero=>rfl|succ j=>simp[Lh]at t
     subst u;simp[Lh]at t;subst t;obtain⟨r1,r2,r3⟩:=o.rows i f;have E:eu b.length<=maxLen:=by simp only[maxLen];unfold eu;omega
     simp_all[aoE]
   .cases a
  .exact .inr ⟨⟨some G,4,c4,1⟩,by simp,rfl⟩}
end Sp
theorem aqn{rows}:∀{b},lh rows=some b->rows=gl b:=by
 induction rows with
 |nil=>intro b h;simp[lh]at h;subst h;rfl
 |cons r rows ih=>
  intro b h;simp only[lh,nU]at h
  cases a:tD r with
  |none=>simp[a]at h
  |some n=>
   cases c:rows.mapM tD with
   |none=>simp[a,c]at h
   |some d=>
    simp[a,c]at h;subst h;rw[ih (b:=d) c];unfold tD at a;split at a
    .cases a;rfl
    .cases a
def uf:List L->Option (List L):=λls=>match ls with
 |[l]=>match lh l.bm with
  |some b=>if b.length<=1048576 then some [.r (Sp.oF b)]else none
  |none=>none
 |_=>none
def G8:bB:=⟨127,[.c (.p .sl U0)],[],1,1,.v (.c (.own 0)),[(0,.row 71 U1)],uf,2003⟩
theorem arV:G8.ok Tryz.prog:=by
 intro ls os f a c;have a:uf ls=some os:=a;unfold uf at a;split at a
 .split at a
  .rename_i b d;split at a
   .rename_i e;cases a;have:=Sp.avg b e;rw[<-aqn d]at this;exact this
   .cases a
  .cases a
 .cases a
instance:Ok G8:=⟨arV⟩
end
section
open Go.RowKit Go.Shelf
attribute [local go_sem] Oper.semAt_some
set_option maxRecDepth 100000 in
set_option maxHeartbeats 1000000 in
theorem anU(m)(hm:1<=m)(l gB N)(hN:N<=4611686018427387904)(J:Nat->cp->Prop)
 (hJ:∀k W,J k W->k<=N->∃A cap,W.cell? ⟨gB,0,none⟩=some (.slice A N cap)/\(k<N->∃(g o:Nat)(f:Nat->cr),A=some ⟨g,o,none⟩/\(∀j,j<14->W.cell? ⟨g,o+(N-1-k)*14+j,none⟩=some (f j))/\
  YieldAt Fence.wide (m-1) Tryz.prog l #[.int .i64 ((N-1-k:Nat):Int),.agg #[f 0,f 1,f 2,f 3,f 4,f 5,f 6,f 7,f 8,f 9,f 10,f 11,f 12,f 13]] W (λe W'=>e=.returned (.bool true)/\J (k+1) W')))
 (W) (h0:J 0 W):
 CallsIn Fence.wide m Tryz.prog 169 #[.func (.yield l) #[] #[],.pointer (some ⟨gB,0,none⟩)] W λe W'=>(∃v,e=.returned v)/\J N W':=by
 obtain⟨A0,azF,hc0,_⟩:=hJ 0 W h0 (gk _);refine callsIn_of_wp Tryz.func169 rfl trivial ?_ rfl;simp only[Tryz.ntmps169,qt,kH,su,Nat.reduceAdd,Nat.reduceSub,Qg,Qh,Qi,Qj,gC,gA]
 gi_wp2
 gi_loopw [3] (λi wr=>∃(k:Nat)(q:Int),k<=N/\i=.int .i64 q/\Hid (q=(N:Int) -1-k)/\J k wr) (λi _=>(intOf i+1).toNat)
 case atStart=>exact⟨0,_,gk _,rfl,by show _=_;simp,h0⟩
 case round=>
  obtain⟨k,q,hk,rfl,hq,hJk⟩:=hrel;clear hc0 h0;obtain⟨A,cap,hc,hr⟩:=hJ k wr hJk hk;by_cases hlt:k<N
  .obtain⟨g,o,f,rfl,hf,hY⟩:=hr hlt;obtain⟨p,hp⟩:∃p,N-1-k=p:=⟨_,rfl⟩
   rw[hp]at hf hY;obtain rfl:q=(p:Int):=by have:=hq.out;omega
   obtain⟨fn,tmps,assign,body,hy,hR⟩:=hY;have d0:=hf 0 om;have d1:=hf 1 om;have d2:=hf 2 om;have d3:=hf 3 om;have d4:=hf 4 om;have d5:=hf 5 om;have d6:=hf 6 om;have d7:=hf 7 om;have d8:=hf 8 om;have d9:=hf 9 om;have d10:=hf 10 om;have d11:=hf 11 om;have d12:=hf 12 om;have d13:=hf 13 om;simp only[l_]at d0;generalize f 0=f0 at*;generalize f 1=f1 at*;generalize f 2=f2 at*;generalize f 3=f3 at*;generalize f 4=f4 at*;generalize f 5=f5 at*;generalize f 6=f6 at*;generalize f 7=f7 at*;generalize f 8=f8 at*;generalize f 9=f9 at*;generalize f 10=f10 at*;generalize f 11=f11 at*;generalize f 12=f12 at*;generalize f 13=f13 at*;have hp0:(0:Int)<=(p:Int):=om;have hpN:(p:Int)< (N:Int):=om;clear hf hJ
   gi_wp2
   refine hR.mono ?_;rintro e W3 ⟨rfl,hJ3⟩
   gi_wp2
   go_roundw
   case rel=>exact⟨k+1,_,om,rfl,by show _=_;omega,hJ3⟩
   case measure=>simp[intOf]
  .obtain rfl:k=N:=om;have hq0:q<0:=by have:=hq.out;omega
   gi_wp2
   go_end0
   exact⟨⟨_,rfl⟩,hJk⟩
end
section
open Go.RowKit
open Classical
section
variable{l n:Nat}{P:cD}{Q:Exit->Act->cp->Prop}
theorem akL{m row args w R}(h:Go.Rows P row args w R):RowsIn (Fence.wide.inRound l) m P row args w R:=λc cs _=>by
 obtain⟨v,w',r,s⟩:=h c cs;exact⟨v,w',r,stepsIn_wide.2 s⟩
theorem alK{o:Oper}{a w K}(b:∀c,o.op≠ .defer c)(h:o.wp P a w K Q):o.wpIn (Fence.wide.inRound l) n P a w K Q:=by
 unfold Oper.wp at h;refine⟨λ_ _=>trivial,?_⟩;rw[show(Fence.wide.inRound l).round=some l from rfl,Oper.semAt_eq _ _ _ b];generalize (execOp a.eval o).run P w=r at h
 cases r with
 |ok x w'=>
  cases x<;>simp only[Oper.upon,Oper.uponIn]at h⊢<;>
   first
    |exact h
    |exact⟨λe=>(by cases e),callsIn_wide.2 h⟩
    |exact⟨λe=>(by cases e),akL h⟩
 |halt x w'=>cases x<;>simp only[Oper.upon,Oper.uponIn]at h⊢<;>exact h
end
def xm(ops:Array Oper):Bool:=ops.toList.all λo=>match o.op with| .defer _=>false|_=>true
theorem ahW{ops}(h:xm ops=true)(j:Nat)(o)(c)(a:ops[j]?=some o):o.op≠ .defer c:=by
 simp only[xm,cj]at h;have b:o∈ops.toList:=Array.mem_toList_iff.2 (acW a);intro d;have:=h o b;rw[d]at this;cases this
theorem TL{l n X Sp b ops Q}(s:xm ops=true):∀(ls)(k){E}{st st'}{rs}{ts}{a}{w},
 (∀j,ls[j]?=ops[k+j]?)->Rel X E st a w->(∀j,k<=j->j<ops.size->pC X E st (b+8*j))->jK X.P Sp b ops ls k st=some (rs,ts,st')->oB b k ts=true->
 (∀t w' E',Rel X E' st' t w'->Q .normal t w')->wpOpsIn (Fence.wide.inRound l) n X.P ops Q (List.range' k ls.length) a w
 |[],k,E,st,st',rs,ts,a,w,_,h,_,d,_,f=>by
  cases d;exact f a w E h
 |o :: ls,k,E,st,st',rs,ts,a,w,u,h,x,d,e,f=>by
  have g:ops[k]?=some o:=by simpa using(u 0).symm
  have y:k<ops.size:=(fx.1 g).1;simp only[jK]at d;split at d
  .rename_i r z;split at d
   .rename_i A B C i;cases d;simp only[oB,cd,cj,dj]at e;simp only[kH,List.range'_succ,wpOpsIn,g];have:=Ku h (x k (dx _) y) (ops:=ops) z (next:=wpOpsIn (Fence.wide.inRound l) n X.P ops Q (List.range' (k+1) ls.length)) (Q:=Q) (λv w' E' k1 k2=>by
     refine TL s ls (k+1) (λj=>by have:=u (j+1);simpa[Bl,Nat.add_comm 1 j]using this) k2 ?_ i e.2 f;intro j K m n D F;obtain⟨G,H,I,J⟩:=x j om m n D F;refine⟨k1 n om G,?_,by rw[Fz];exact I,J⟩;rw[wk];rintro(p|p)
     .have:=e.1 n (qq _ p);omega
     .exact H p)
    split
    .rename_i q;rw[bF q]at this;exact alK (λc=>ahW s k o c g) this
    .rename_i q;rw[bO q]at this;exact⟨λ_ _=>trivial,this⟩
   .cases d
  .cases d
def iz(l n:Nat)(X:Fx)(c:Code)(Q:Exit->bz->Prop)(st:bz):Prop:=
 ∀a w,Told X st a w->c.wpIn (Fence.wide.inRound l) n X.P (λe b w'=>∃st',Q e st'/\Told X st' b w') a w
section
variable{l n:Nat}{X:Fx}{Sp:Spec}{Q:Exit->bz->Prop}{st:bz}
theorem ajE{id ops rs ts st'}(c:xm ops.toArray=true)(d:jK X.P Sp st.next ops.toArray ops 0 (st.bump ops.length)=some (rs,ts,st'))(f:oB st.next 0 ts=true)(h:Q .normal st'.settle):
 iz l n X (.region id ops.toArray false) Q st:=λa w g=>by
 obtain⟨E,hR,i⟩:=g;refine wpIn_region ?_;have:=TL (l:=l) (n:=n) (X:=X) (ops:=ops.toArray) (Q:=λe b w'=>∃st',Q e st'/\Told X st' b w') c ops 0 (λj=>by simp) (hR.bump ops.length) (λj _ k=>hR.free i (by simpa using k)) d f (λb w' E' k1=>by
  obtain⟨m,o,p⟩:=k1.settle;exact⟨_,h,m,o,p⟩)
 rw[<-List.range_eq_range']at this;simpa using this
theorem wK{x y}(h:iz l n X x (z6 (iz l n X y Q) Q) st):iz l n X (.seq x y) Q st:=λa w d=>by
 refine wpIn_seq (wpIn_mono (h a w d) ?_);rintro e f w' ⟨st',b,c⟩;cases e<;>first|exact b f w' c|exact⟨st',b,c⟩
theorem UA{c x y t}(d:st.arg c=some (.sc (.bool t)))(e:t=true->iz l n X x Q st)(f:t=false->iz l n X y Q st):iz l n X (.cond c x y) Q st:=λa w g=>by
 obtain⟨E,hR,b⟩:=g;have k1:=RP.ei (hR.cY d).1;exact wpIn_cond_split k1 (λh=>e h a w ⟨E,hR,b⟩) (λh=>f h a w ⟨E,hR,b⟩)
theorem Zx{id c}(h:iz l n X c (Au id Q) st):iz l n X (.block id c) Q st:=λa w g=>by
 refine wpIn_block (wpIn_mono (h a w g) ?_);rintro e j w' ⟨st',b,d⟩
 cases e with
 |exit i=>
  simp only[Au]at b;simp only[Exit.inBlock];split
  .rename_i f;rw[bF f]at b;exact⟨st',b,d⟩
  .rename_i f;rw[bO f]at b;exact⟨st',b,d⟩
 |_=>exact⟨st',b,d⟩
theorem abV(h:Q .normal st):iz l n X .skip Q st:=λ_ _ a=>wpIn_skip ⟨st,h,a⟩
end
theorem amN{P T C}{k0:Nat}(j:b_.ok P T)(k:dt.ok P C){id ops S u ρ ρ' x}(c:xm ops=true)
 (h:er T C ops false S=some u) (m:ρ.length=S.nv) (o:u.a6 ρ=some (x,ρ')) {l n}:
 ∃S',x=.st .normal S'/\S'.nv=ρ'.length/\(∃ys,ρ'=ρ++ys)/\S'.bt=[]/\∀X:Fx,X.P=P->∀Q:Exit->bz->Prop,Q .normal (S'.a6 ρ')->iz l n X (.region id ops false) Q (S.a6 ρ):=by
 unfold er at h;split at h
 .rename_i p;obtain⟨d,D,E⟩:=p;simp only[gV]at h;obtain⟨t,q,h⟩:=h;obtain⟨f,ts,r,v,k1,k2,s⟩:=AL h o;have a:(if false then oE ops ts&&tc S.next ops ts else oB S.next 0 ts)=true:=by
   apply lu;intro w;rw[bO w]at k2;cases k2
  rw[bF a]at k2
  .cases k2;cases s;obtain⟨y,⟨ys,e2⟩,rs,z,Sp,e3,A⟩:=ta j k q (by exact m) k1;subst A;refine⟨f.settle,rfl,by rw[WW];exact y,⟨ys,e2⟩,TU f,λX e Q g=>?_⟩;have b:S.a6 ρ'=S.a6 ρ:=by rw[e2];exact bp.kc d om
   have B:bp.a6 ρ' {S with next:=S.next+8*ops.size}=(S.a6 ρ).bump ops.toList.length:=by
    rw[<-b];simp[bp.a6,bz.bump]
   rw[B]at e3;rw[aad]at g;have i:ops.toList.toArray=ops:=by simp
   subst e;have:=ajE (l:=l) (n:=n) (X:=X) (Sp:=Sp) (Q:=Q) (id:=id) (ops:=ops.toList) (st:=S.a6 ρ) (rs:=rs) (ts:=ts) (by exact c) (by exact e3) a g;exact this
 .cases h
theorem Rel.other{X E st a w w'}(h:Rel X E st a w)(G:w'.os=w.os)(H:w'.tape=w.tape)(hout:w'.output=w.output)(I:w.heap.size<=w'.heap.size)
 (J:∀g o,w.heap[g]?=some o->(g<X.w0.heap.size\/o.isCells=true\/∃A c,o=.map A c)->w'.heap[g]?=w.heap[g]?):Rel X E st a w':=by
 have hcell:∀g o u,w.cell? ⟨g,o,none⟩=some u->w'.cell? ⟨g,o,none⟩=some u:=by
  intro g o u B;have K:=World.block_lt_of_cell? w ⟨g,o,none⟩ B;have d:w.heap[g]?=some w.heap[g]:=pd K;have k:(w.heap[g]).isCells=true:=by
   unfold World.cell? at B;rw[d]at B
   cases D:w.heap[g]with
   |cells=>rfl
   |_=>rw[D]at B;simp at B
  exact(World.cell?_of_block (w:=w) (a:=⟨g,o,none⟩) (J g _ d (.inr (.inl k)))).trans B
 have M:gL X.M E E w w':=⟨λg o u k1 k2=>⟨hcell g o u k1,k2⟩,λ_ _ h=>.inr h,λ_ h=>h⟩
 have hblk:∀n x g o,E.N n=some x->x.g=some g->w.heap[g]?=some o->(o.isCells=true\/∃A c,o=.map A c)->w'.heap[g]?=some o:=λn x g o _ _ D k=>(J g o D (.inr k)).trans D
 exact {
  defers:=h.defers
  bt:=h.bt
  frame:=h.frame.trans (K':=λg=>X.w0.heap.size<=g) ⟨G,H,hout,I,λg d U=>by
   have D:w.heap[g]?=some w.heap[g]:=pd d;exact J g _ D (.inl om)⟩ (λg d hK=>by omega)
  eW:=h.eW
  dD:=h.dD
  names:=λn x g W d=>by
   obtain⟨q,N,Y⟩:=h.names n x g W d;exact⟨om,N,Y⟩
  inj:=h.inj
  ec:=h.ec
  fQ:=h.fQ
  fK:=h.fK
  size:=h.size
  tmps:=λi v k=>let⟨u,q,N⟩:=h.tmps i v k; ⟨u,q,N.goes M⟩
  heap :=λm b Z=>by
   rcases h.heap m b Z with q|q
   .exact .inl q
   .by_cases U:m∈E.bt
    .exact .inl (by rw[<-h.bt];exact U)
    .right
     cases b with
     |box cs=>
      obtain⟨x,g,t,e,k1,k0,k2,F,O⟩:=q;exact⟨x,g,t,e,k1,k0,hblk m x g _ k1 k0 k2 (.inl rfl),F,λi c k=>let⟨u,h5,h6,h7⟩:=O i c k; ⟨u,h5,h6.goes M,h7⟩⟩
     |row e rows=>
      obtain⟨x,t,fz,k1,R,k2,F,O,k5,k6,S,k7,k8,T,k9⟩:=q;exact⟨x,t,fz,k1,R,λg d=>hblk m x g _ k1 d (k2 g d) (.inl rfl),F,O,k5,k6,S,k7,k8,T,λi r j p k hj=>let⟨u,q1,q2⟩:=k9 i r j p k hj; ⟨u,q1,q2.goes M⟩⟩
     |map es=>
      obtain⟨x,g,A,clock,k1,k0,k2,F⟩:=q;exact⟨x,g,A,clock,k1,k0,hblk m x g _ k1 k0 k2 (.inr ⟨A,clock,rfl⟩),F⟩}
end
section
open Go.RowKit
def dd:SV:=.v (.c .dead)
def dr(n:Nat):List SV:=List.replicate n dd
def di(n:Nat):SV:=.v (.c (.p (.int .i64) (.v n)))
def ds(n:Nat):SV:=.v (.c (.p .sl (.v n)))
def JQ:Array Oper:= #[⟨some 2,.box 64 (.tmp 0),0,"slot.go:97",#[],none⟩,⟨some 3,.box 22 (.tmp 1),0,"slot.go:97",#[],none⟩,⟨some 4,.assign (.const (.slice none 0 0)),162,"slot.go:97",#[],none⟩]
def aR1:Array Oper:= #[⟨some 10,.load 64 (.tmp 2),64,"slot.go:98",#[],none⟩,⟨some 11,.call {callee:=.value (.func 40),args:= #[.tmp 10],argTypes:= #[64]},4,"slot.go:98",#[⟨0,.data⟩],none⟩,⟨some 12,.unOp .not 4 (.tmp 11),4,"slot.go:98",#[⟨1,.data⟩],none⟩]
def aR2:Array Oper:= #[⟨some 4,.assign (.const (.slice none 0 0)),162,"slot.go:99",#[],none⟩]
def HC:Array Oper:= #[⟨some 5,.alloc 162,0,"slot.go:101",#[],none⟩]
def Ks:Array Oper:= #[⟨some 13,.fieldAddr 64 (.tmp 2) 3,0,"slot.go:102",#[],none⟩,⟨some 14,.load 62 (.tmp 13),62,"slot.go:102",#[⟨0,.data⟩],none⟩,⟨some 15,.call {callee:=.value (.func 112),args:= #[.tmp 14],argTypes:= #[62]},226,"slot.go:102",#[⟨1,.data⟩],none⟩]
def xX:Array Oper:= #[⟨some 6,.assign (.tmp 16),3,"slot.go:102",#[],none⟩]
def zq:Array Oper:= #[⟨some 7,.alloc 131,0,"slot.go:102",#[],none⟩,⟨none,.store 131 (.tmp 7) (.tmp 17),0,"slot.go:102",#[⟨0,.data⟩,⟨0,.phase⟩],none⟩]
def Ap:Array Oper:= #[⟨some 19,.fieldAddr 131 (.tmp 7) 4,0,"slot.go:103",#[],none⟩,⟨some 20,.load 129 (.tmp 19),129,"slot.go:103",#[⟨0,.data⟩],none⟩,⟨some 21,.load 22 (.tmp 3),22,"slot.go:103",#[],none⟩,⟨some 22,.call {callee:=.value (.func 113),args:= #[.tmp 20,.tmp 21],argTypes:= #[129,22]},119,"slot.go:103",#[⟨1,.data⟩,⟨2,.data⟩],none⟩,⟨some 18,.move (.tmp 22),119,"slot.go:103",#[⟨3,.data⟩],none⟩,⟨some 23,.extract (.tmp 18) 0,25,"slot.go:103",#[⟨4,.data⟩],none⟩,⟨some 24,.extract (.tmp 18) 1,4,"slot.go:103",#[⟨4,.data⟩,{on:=8,ground:=Ground.gcOnly Departure.lateStores}],none⟩,⟨some 8,.alloc 25,0,"slot.go:103",#[],none⟩,⟨none,.store 25 (.tmp 8) (.tmp 23),0,"slot.go:103",#[⟨7,.data⟩,⟨5,.data⟩,⟨3,.chain⟩,⟨0,.phase⟩,⟨1,.phase⟩,⟨2,.phase⟩,⟨3,.phase⟩,⟨4,.phase⟩,⟨5,.phase⟩,{on:=6,ground:=Ground.textOnly Departure.lateStores},⟨7,.phase⟩],none⟩,⟨some 9,.assign (.tmp 24),4,"slot.go:103",#[⟨6,.data⟩,⟨8,.chain⟩,⟨0,.phase⟩,⟨1,.phase⟩,⟨2,.phase⟩,⟨3,.phase⟩,⟨4,.phase⟩,⟨5,.phase⟩,⟨6,.phase⟩,⟨7,.phase⟩,⟨8,.phase⟩],none⟩]
def zy:Array Oper:= #[⟨some 25,.move (.tmp 9),4,"slot.go:103",#[],none⟩]
def yW:Array Oper:= #[⟨some 26,.load 162 (.tmp 5),162,"slot.go:104",#[],none⟩,⟨some 27,.fieldAddr 131 (.tmp 7) 0,0,"slot.go:104",#[],none⟩,⟨some 28,.load 3 (.tmp 27),3,"slot.go:104",#[⟨1,.data⟩],none⟩,⟨some 29,.fieldAddr 131 (.tmp 7) 2,0,"slot.go:104",#[],none⟩,⟨some 30,.load 3 (.tmp 29),3,"slot.go:104",#[⟨3,.data⟩],none⟩,⟨some 31,.fieldAddr 131 (.tmp 7) 1,0,"slot.go:104",#[],none⟩,⟨some 32,.load 2 (.tmp 31),2,"slot.go:104",#[⟨5,.data⟩],none⟩,⟨some 33,.load 25 (.tmp 8),25,"slot.go:104",#[],none⟩,⟨some 34,.build 51 #[(0,.tmp 28),(1,.tmp 30),(2,.tmp 32),(3,.tmp 33)],51,"slot.go:104",#[⟨2,.data⟩,⟨4,.data⟩,⟨6,.data⟩,⟨7,.data⟩],none⟩,⟨some 35,.move (.tmp 6),3,"slot.go:104",#[],none⟩,⟨some 36,.build 165 #[(0,.tmp 34),(1,.tmp 35)],165,"slot.go:104",#[⟨8,.data⟩,⟨9,.data⟩],none⟩,⟨some 37,.buildSlice 162 1 #[(0,.tmp 36)],162,"slot.go:104",#[⟨10,.data⟩],none⟩,⟨some 38,.call {callee:=.builtin .append,args:= #[.tmp 26,.tmp 37],argTypes:= #[162,162]},162,"slot.go:104",#[⟨0,.data⟩,⟨11,.data⟩],none⟩,⟨none,.store 162 (.tmp 5) (.tmp 38),0,"slot.go:104",#[⟨12,.data⟩,⟨12,.chain⟩,⟨0,.phase⟩,⟨1,.phase⟩,⟨2,.phase⟩,⟨3,.phase⟩,⟨4,.phase⟩,⟨5,.phase⟩,⟨6,.phase⟩,⟨7,.phase⟩,⟨8,.phase⟩,⟨9,.phase⟩,⟨10,.phase⟩,⟨11,.phase⟩,⟨12,.phase⟩],none⟩]
def B1:Array Oper:= #[⟨some 39,.load 162 (.tmp 5),162,"slot.go:107",#[],none⟩,⟨some 4,.assign (.tmp 39),162,"slot.go:107",#[⟨0,.data⟩,⟨0,.phase⟩],none⟩]
def ZA:Code:=((Code.region 1 aR1 false).seq (.cond (.tmp 12) ((Code.region 2 aR2 false).seq .ret) .skip))
def apV:Code:=.rangeFunc (.tmp 15) #[16,17] ((Code.region 5 xX false).seq (.region 6 zq false)) (.block 1 ((Code.region 7 Ap false).seq ((Code.region 8 zy false).seq (.cond (.tmp 25) (.region 9 yW false) .skip))))
def c58:Code:=(Code.region 0 JQ false).seq (ZA.seq ((Code.region 3 HC false).seq (((Code.region 4 Ks false).seq (.block 0 apV)).seq ((Code.region 10 B1 false).seq .ret))))
theorem afs:Tryz.f58.body=some c58:=kr
theorem ajI:Tryz.f58.ntmps=40:=kr
theorem atE:Tryz.f58.results= #[.tmp 4]:=kr
def Aa:List Kd:=[.int .i64,.int .i64,.int .i64,.int .i64,.sl,.sl,.sl,.sl,.sl,.sl,.sl,.sl,.int .i64,.int .i64]
def TR(n:Nat)(ks:List Kd):SV:=.v (.agg (ks.zipIdx.map λx=>.p x.1 (.v (n+x.2))))
def lq:bp:=⟨[dd,dd,dd,.v (.c (.ptr 0 0)),dd,.v (.c (.ptr 1 0)),dd,dd,dd,dd,dd,dd,dd,dd,dd,.v (.c (.fn 169 [2])),dd,dd,dd,dd,dd,dd,dd,dd,dd,dd,dd,dd,dd,dd,dd,dd,dd,dd,dd,dd,dd,dd,dd,dd],
 [(0,.box [.p (.int .u64) (.v 4)]),(1,.box [.own 3]),(2,.box [.p .sl (.v 3)]),(3,.row 165 (.v 7))],[],4,8⟩
def Ip:bp:={lq with tmps:=(lq.tmps.set 16 (.v (.c (.p (.int .i64) (.v 8))))).set 17 (TR 9 Aa),nv:=23}
def uA(F:List L->Option (List L))(t:Nat):bB:=⟨40,[.agg [.p (.int .i64) (.v 0),.p (.int .i64) (.v 1),.p .bool (.v 2),.p .sl (.v 3)]],[],4,1,.v (.c (.p .bool (.v 4))),[],F,t⟩
def uF(F:List L->Option (List L))(t:Nat):bB:=⟨112,[.c (.p .sl (.v 0))],[],1,0,.v (.c (.fn 169 [0])),[(0,(.box [.p .sl (.v 0)]))],F,t⟩
def iI(F:List L->Option (List L))(t:Nat):bB:=⟨113,[.agg [.p .sl (.v 0),.p .sl (.v 1),.p .sl (.v 2),.p .sl (.v 3),.p .sl (.v 4),.p .sl (.v 5),.p .sl (.v 6),.p .sl (.v 7),.p (.int .i64) (.v 8),.p (.int .i64) (.v 9)],.c (.p (.int .u64) (.v 10))],[],11,5,.bq [.agg [.p (.int .u64) (.v 12),.p (.int .u32) (.v 13),.p (.int .i64) (.v 14),.p (.int .i64) (.v 15)],.c (.p .bool (.v 11))],[],F,t⟩
section
variable(F40 F112 F113:List L->Option (List L))(t40 t112 t113:Nat)
def kg:dt:=[uA F40 t40,uF F112 t112,iI F113 t113]
def abm:bp:=rF 40 5 [.agg [.p (.int .i64) (.v 0),.p (.int .i64) (.v 1),.p .bool (.v 2),.p .sl (.v 3)],.c (.p (.int .u64) (.v 4))] []
def Ye:bp:=⟨[.v (.agg [.p (.int .i64) (.v 0),.p (.int .i64) (.v 1),.p .bool (.v 2),.p .sl (.v 3)]),.v (.c (.p (.int .u64) (.v 4))),.v (.c (.ptr 0 0)),.v (.c (.ptr 8 0)),.v (.c .nil),.bq [],.bq [],.bq [],.bq [],.bq [],.bq [],.bq [],.bq [],.bq [],.bq [],.bq [],.bq [],.bq [],.bq [],.bq [],.bq [],.bq [],.bq [],.bq [],.bq [],.bq [],.bq [],.bq [],.bq [],.bq [],.bq [],.bq [],.bq [],.bq [],.bq [],.bq [],.bq [],.bq [],.bq [],.bq []],[(8,(.box [.p (.int .u64) (.v 4)])),(0,(.box [.p (.int .i64) (.v 0),.p (.int .i64) (.v 1),.p .bool (.v 2),.p .sl (.v 3)]))],[],24,5⟩
theorem asA:er TT (kg F40 F112 F113 t40 t112 t113) JQ false abm=some (.br (.st .normal Ye)):=kr
def yO:bp:=⟨[.v (.agg [.p (.int .i64) (.v 0),.p (.int .i64) (.v 1),.p .bool (.v 2),.p .sl (.v 3)]),.v (.c (.p (.int .u64) (.v 4))),.v (.c (.ptr 0 0)),.v (.c (.ptr 8 0)),.v (.c .nil),.bq [],.bq [],.bq [],.bq [],.bq [],.v (.agg [.p (.int .i64) (.v 0),.p (.int .i64) (.v 1),.p .bool (.v 2),.p .sl (.v 3)]),.v (.c (.p .bool (.v 5))),.v (.c (.p .bool (.v 6))),.bq [],.bq [],.bq [],.bq [],.bq [],.bq [],.bq [],.bq [],.bq [],.bq [],.bq [],.bq [],.bq [],.bq [],.bq [],.bq [],.bq [],.bq [],.bq [],.bq [],.bq [],.bq [],.bq [],.bq [],.bq [],.bq [],.bq []],[(8,(.box [.p (.int .u64) (.v 4)])),(0,(.box [.p (.int .i64) (.v 0),.p (.int .i64) (.v 1),.p .bool (.v 2),.p .sl (.v 3)]))],[],48,7⟩
def Cg:bp:=⟨[.v (.agg [.p (.int .i64) (.v 0),.p (.int .i64) (.v 1),.p .bool (.v 2),.p .sl (.v 3)]),.v (.c (.p (.int .u64) (.v 4))),.v (.c (.ptr 0 0)),.v (.c (.ptr 8 0)),.v (.c .nil),.bq [],.bq [],.bq [],.bq [],.bq [],.v (.agg [.p (.int .i64) (.v 0),.p (.int .i64) (.v 1),.p .bool (.v 2),.p .sl (.v 3)]),.v (.c (.p .bool (.v 5))),.v (.c (.p .bool (.v 6))),.bq [],.bq [],.bq [],.bq [],.bq [],.bq [],.bq [],.bq [],.bq [],.bq [],.bq [],.bq [],.bq [],.bq [],.bq [],.bq [],.bq [],.bq [],.bq [],.bq [],.bq [],.bq [],.bq [],.bq [],.bq [],.bq [],.bq []],[(8,(.box [.p (.int .u64) (.v 4)])),(0,(.box [.p (.int .i64) (.v 0),.p (.int .i64) (.v 1),.p .bool (.v 2),.p .sl (.v 3)]))],[],56,7⟩
theorem Wm:exec TT (kg F40 F112 F113 t40 t112 t113) 0 ZA 0xFFFFFFFFFF [] 16 Ye=some (.op (.call t40 F40 [(.v 0),(.v 1),(.v 2),(.v 3)] 1 []) (.op (.not (.v 5)) (.ite (.v 6) (.br (.st .ret Cg)) (.br (.st .normal yO))))):=kr
def Jv:bp:=⟨[.v (.agg [.p (.int .i64) (.v 0),.p (.int .i64) (.v 1),.p .bool (.v 2),.p .sl (.v 3)]),.v (.c (.p (.int .u64) (.v 4))),.v (.c (.ptr 0 0)),.v (.c (.ptr 8 0)),.v (.c .nil),.v (.c (.ptr 48 0)),.bq [],.bq [],.bq [],.bq [],.v (.agg [.p (.int .i64) (.v 0),.p (.int .i64) (.v 1),.p .bool (.v 2),.p .sl (.v 3)]),.v (.c (.p .bool (.v 5))),.v (.c (.p .bool (.v 6))),.bq [],.bq [],.bq [],.bq [],.bq [],.bq [],.bq [],.bq [],.bq [],.bq [],.bq [],.bq [],.bq [],.bq [],.bq [],.bq [],.bq [],.bq [],.bq [],.bq [],.bq [],.bq [],.bq [],.bq [],.bq [],.bq [],.bq []],[(48,(.box [.nil])),(8,(.box [.p (.int .u64) (.v 4)])),(0,(.box [.p (.int .i64) (.v 0),.p (.int .i64) (.v 1),.p .bool (.v 2),.p .sl (.v 3)]))],[],56,7⟩
theorem ahN:er TT (kg F40 F112 F113 t40 t112 t113) HC false yO=some (.br (.st .normal Jv)):=kr
def DK:bp:=⟨[.v (.agg [.p (.int .i64) (.v 0),.p (.int .i64) (.v 1),.p .bool (.v 2),.p .sl (.v 3)]),.v (.c (.p (.int .u64) (.v 4))),.v (.c (.ptr 0 0)),.v (.c (.ptr 8 0)),.v (.c .nil),.v (.c (.ptr 48 0)),.bq [],.bq [],.bq [],.bq [],.v (.agg [.p (.int .i64) (.v 0),.p (.int .i64) (.v 1),.p .bool (.v 2),.p .sl (.v 3)]),.v (.c (.p .bool (.v 5))),.v (.c (.p .bool (.v 6))),.v (.c (.ptr 0 3)),ds 3,.v (.c (.fn 169 [72])),.bq [],.bq [],.bq [],.bq [],.bq [],.bq [],.bq [],.bq [],.bq [],.bq [],.bq [],.bq [],.bq [],.bq [],.bq [],.bq [],.bq [],.bq [],.bq [],.bq [],.bq [],.bq [],.bq [],.bq []],[(72,(.box [.p .sl (.v 3)])),(48,(.box [.nil])),(8,(.box [.p (.int .u64) (.v 4)])),(0,(.box [.p (.int .i64) (.v 0),.p (.int .i64) (.v 1),.p .bool (.v 2),.p .sl (.v 3)]))],[],80,7⟩
theorem amQ:er TT (kg F40 F112 F113 t40 t112 t113) Ks false Jv=some (.op (.call t112 F112 [(.v 3)] 0 []) (.br (.st .normal DK))):=kr
def Ze:bp:=⟨[dd,dd,dd,.v (.c (.ptr 0 0)),dd,.v (.c (.ptr 1 0)),di 8,dd,dd,dd,dd,dd,dd,dd,dd,.v (.c (.fn 169 [2])),di 8,.v (.agg [.p (.int .i64) (.v 9),.p (.int .i64) (.v 10),.p (.int .i64) (.v 11),.p (.int .i64) (.v 12),.p .sl (.v 13),.p .sl (.v 14),.p .sl (.v 15),.p .sl (.v 16),.p .sl (.v 17),.p .sl (.v 18),.p .sl (.v 19),.p .sl (.v 20),.p (.int .i64) (.v 21),.p (.int .i64) (.v 22)]),dd,dd,dd,dd,dd,dd,dd,dd,dd,dd,dd,dd,dd,dd,dd,dd,dd,dd,dd,dd,dd,dd],[(0,(.box [.p (.int .u64) (.v 4)])),(1,(.box [.own 3])),(2,(.box [.p .sl (.v 3)])),(3,(.row 165 (.v 7)))],[],12,23⟩
theorem aoJ:er TT (kg F40 F112 F113 t40 t112 t113) xX false Ip=some (.br (.st .normal Ze)):=kr
def Cq:bp:=⟨[dd,dd,dd,.v (.c (.ptr 0 0)),dd,.v (.c (.ptr 1 0)),di 8,.v (.c (.ptr 12 0)),dd,dd,dd,dd,dd,dd,dd,.v (.c (.fn 169 [2])),di 8,.v (.agg [.p (.int .i64) (.v 9),.p (.int .i64) (.v 10),.p (.int .i64) (.v 11),.p (.int .i64) (.v 12),.p .sl (.v 13),.p .sl (.v 14),.p .sl (.v 15),.p .sl (.v 16),.p .sl (.v 17),.p .sl (.v 18),.p .sl (.v 19),.p .sl (.v 20),.p (.int .i64) (.v 21),.p (.int .i64) (.v 22)]),dd,dd,dd,dd,dd,dd,dd,dd,dd,dd,dd,dd,dd,dd,dd,dd,dd,dd,dd,dd,dd,dd],[(12,(.box [.p (.int .i64) (.v 9),.p (.int .i64) (.v 10),.p (.int .i64) (.v 11),.p (.int .i64) (.v 12),.p .sl (.v 13),.p .sl (.v 14),.p .sl (.v 15),.p .sl (.v 16),.p .sl (.v 17),.p .sl (.v 18),.p .sl (.v 19),.p .sl (.v 20),.p (.int .i64) (.v 21),.p (.int .i64) (.v 22)])),(12,(.box [.p (.int .i64) (.i 0),.p (.int .i64) (.i 0),.p (.int .i64) (.i 0),.p (.int .i64) (.i 0),.nil,.nil,.nil,.nil,.nil,.nil,.nil,.nil,.p (.int .i64) (.i 0),.p (.int .i64) (.i 0)])),(0,(.box [.p (.int .u64) (.v 4)])),(1,(.box [.own 3])),(2,(.box [.p .sl (.v 3)])),(3,(.row 165 (.v 7)))],[],28,23⟩
theorem auJ:er TT (kg F40 F112 F113 t40 t112 t113) zq false Ze=some (.br (.st .normal Cq)):=kr
def BT:bp:=⟨[dd,dd,dd,.v (.c (.ptr 0 0)),dd,.v (.c (.ptr 1 0)),di 8,.v (.c (.ptr 12 0)),.v (.c (.ptr 84 0)),.v (.c (.p .bool (.v 23))),dd,dd,dd,dd,dd,.v (.c (.fn 169 [2])),di 8,.v (.agg [.p (.int .i64) (.v 9),.p (.int .i64) (.v 10),.p (.int .i64) (.v 11),.p (.int .i64) (.v 12),.p .sl (.v 13),.p .sl (.v 14),.p .sl (.v 15),.p .sl (.v 16),.p .sl (.v 17),.p .sl (.v 18),.p .sl (.v 19),.p .sl (.v 20),.p (.int .i64) (.v 21),.p (.int .i64) (.v 22)]),.bq [.agg [.p (.int .u64) (.v 24),.p (.int .u32) (.v 25),.p (.int .i64) (.v 26),.p (.int .i64) (.v 27)],.c (.p .bool (.v 23))],.v (.c (.ptr 12 4)),.v (.agg [.p .sl (.v 13),.p .sl (.v 14),.p .sl (.v 15),.p .sl (.v 16),.p .sl (.v 17),.p .sl (.v 18),.p .sl (.v 19),.p .sl (.v 20),.p (.int .i64) (.v 21),.p (.int .i64) (.v 22)]),.v (.c (.p (.int .u64) (.v 4))),.bq [.agg [.p (.int .u64) (.v 24),.p (.int .u32) (.v 25),.p (.int .i64) (.v 26),.p (.int .i64) (.v 27)],.c (.p .bool (.v 23))],.v (.agg [.p (.int .u64) (.v 24),.p (.int .u32) (.v 25),.p (.int .i64) (.v 26),.p (.int .i64) (.v 27)]),.v (.c (.p .bool (.v 23))),dd,dd,dd,dd,dd,dd,dd,dd,dd,dd,dd,dd,dd,dd,dd],[(84,(.box [.p (.int .u64) (.v 24),.p (.int .u32) (.v 25),.p (.int .i64) (.v 26),.p (.int .i64) (.v 27)])),(84,(.box [.p (.int .u64) (.i 0),.p (.int .u32) (.i 0),.p (.int .i64) (.i 0),.p (.int .i64) (.i 0)])),(12,(.box [.p (.int .i64) (.v 9),.p (.int .i64) (.v 10),.p (.int .i64) (.v 11),.p (.int .i64) (.v 12),.p .sl (.v 13),.p .sl (.v 14),.p .sl (.v 15),.p .sl (.v 16),.p .sl (.v 17),.p .sl (.v 18),.p .sl (.v 19),.p .sl (.v 20),.p (.int .i64) (.v 21),.p (.int .i64) (.v 22)])),(12,(.box [.p (.int .i64) (.i 0),.p (.int .i64) (.i 0),.p (.int .i64) (.i 0),.p (.int .i64) (.i 0),.nil,.nil,.nil,.nil,.nil,.nil,.nil,.nil,.p (.int .i64) (.i 0),.p (.int .i64) (.i 0)])),(0,(.box [.p (.int .u64) (.v 4)])),(1,(.box [.own 3])),(2,(.box [.p .sl (.v 3)])),(3,(.row 165 (.v 7)))],[],108,28⟩
theorem aum:er TT (kg F40 F112 F113 t40 t112 t113) Ap false Cq=some (.op (.call t113 F113 [(.v 13),(.v 14),(.v 15),(.v 16),(.v 17),(.v 18),(.v 19),(.v 20),(.v 21),(.v 22),(.v 4)] 5 []) (.br (.st .normal BT))):=kr
def L_:bp:=⟨[dd,dd,dd,.v (.c (.ptr 0 0)),dd,.v (.c (.ptr 1 0)),di 8,.v (.c (.ptr 12 0)),.v (.c (.ptr 84 0)),.v (.c (.p .bool (.v 23))),dd,dd,dd,dd,dd,.v (.c (.fn 169 [2])),di 8,.v (.agg [.p (.int .i64) (.v 9),.p (.int .i64) (.v 10),.p (.int .i64) (.v 11),.p (.int .i64) (.v 12),.p .sl (.v 13),.p .sl (.v 14),.p .sl (.v 15),.p .sl (.v 16),.p .sl (.v 17),.p .sl (.v 18),.p .sl (.v 19),.p .sl (.v 20),.p (.int .i64) (.v 21),.p (.int .i64) (.v 22)]),.bq [.agg [.p (.int .u64) (.v 24),.p (.int .u32) (.v 25),.p (.int .i64) (.v 26),.p (.int .i64) (.v 27)],.c (.p .bool (.v 23))],.v (.c (.ptr 12 4)),.v (.agg [.p .sl (.v 13),.p .sl (.v 14),.p .sl (.v 15),.p .sl (.v 16),.p .sl (.v 17),.p .sl (.v 18),.p .sl (.v 19),.p .sl (.v 20),.p (.int .i64) (.v 21),.p (.int .i64) (.v 22)]),.v (.c (.p (.int .u64) (.v 4))),.bq [.agg [.p (.int .u64) (.v 24),.p (.int .u32) (.v 25),.p (.int .i64) (.v 26),.p (.int .i64) (.v 27)],.c (.p .bool (.v 23))],.v (.agg [.p (.int .u64) (.v 24),.p (.int .u32) (.v 25),.p (.int .i64) (.v 26),.p (.int .i64) (.v 27)]),.v (.c (.p .bool (.v 23))),.v (.c (.p .bool (.v 23))),dd,dd,dd,dd,dd,dd,dd,dd,dd,dd,dd,dd,dd,dd],[(84,(.box [.p (.int .u64) (.v 24),.p (.int .u32) (.v 25),.p (.int .i64) (.v 26),.p (.int .i64) (.v 27)])),(84,(.box [.p (.int .u64) (.i 0),.p (.int .u32) (.i 0),.p (.int .i64) (.i 0),.p (.int .i64) (.i 0)])),(12,(.box [.p (.int .i64) (.v 9),.p (.int .i64) (.v 10),.p (.int .i64) (.v 11),.p (.int .i64) (.v 12),.p .sl (.v 13),.p .sl (.v 14),.p .sl (.v 15),.p .sl (.v 16),.p .sl (.v 17),.p .sl (.v 18),.p .sl (.v 19),.p .sl (.v 20),.p (.int .i64) (.v 21),.p (.int .i64) (.v 22)])),(12,(.box [.p (.int .i64) (.i 0),.p (.int .i64) (.i 0),.p (.int .i64) (.i 0),.p (.int .i64) (.i 0),.nil,.nil,.nil,.nil,.nil,.nil,.nil,.nil,.p (.int .i64) (.i 0),.p (.int .i64) (.i 0)])),(0,(.box [.p (.int .u64) (.v 4)])),(1,(.box [.own 3])),(2,(.box [.p .sl (.v 3)])),(3,(.row 165 (.v 7)))],[],116,28⟩
theorem amW:er TT (kg F40 F112 F113 t40 t112 t113) zy false BT=some (.br (.st .normal L_)):=kr
def NA:bp:=⟨[dd,dd,dd,.v (.c (.ptr 0 0)),dd,.v (.c (.ptr 1 0)),di 8,.v (.c (.ptr 12 0)),.v (.c (.ptr 84 0)),.v (.c (.p .bool (.v 23))),dd,dd,dd,dd,dd,.v (.c (.fn 169 [2])),di 8,.v (.agg [.p (.int .i64) (.v 9),.p (.int .i64) (.v 10),.p (.int .i64) (.v 11),.p (.int .i64) (.v 12),.p .sl (.v 13),.p .sl (.v 14),.p .sl (.v 15),.p .sl (.v 16),.p .sl (.v 17),.p .sl (.v 18),.p .sl (.v 19),.p .sl (.v 20),.p (.int .i64) (.v 21),.p (.int .i64) (.v 22)]),.bq [.agg [.p (.int .u64) (.v 24),.p (.int .u32) (.v 25),.p (.int .i64) (.v 26),.p (.int .i64) (.v 27)],.c (.p .bool (.v 23))],.v (.c (.ptr 12 4)),.v (.agg [.p .sl (.v 13),.p .sl (.v 14),.p .sl (.v 15),.p .sl (.v 16),.p .sl (.v 17),.p .sl (.v 18),.p .sl (.v 19),.p .sl (.v 20),.p (.int .i64) (.v 21),.p (.int .i64) (.v 22)]),.v (.c (.p (.int .u64) (.v 4))),.bq [.agg [.p (.int .u64) (.v 24),.p (.int .u32) (.v 25),.p (.int .i64) (.v 26),.p (.int .i64) (.v 27)],.c (.p .bool (.v 23))],.v (.agg [.p (.int .u64) (.v 24),.p (.int .u32) (.v 25),.p (.int .i64) (.v 26),.p (.int .i64) (.v 27)]),.v (.c (.p .bool (.v 23))),.v (.c (.p .bool (.v 23))),dd,.v (.c (.ptr 12 0)),di 9,.v (.c (.ptr 12 2)),di 11,.v (.c (.ptr 12 1)),di 10,.v (.agg [.p (.int .u64) (.v 24),.p (.int .u32) (.v 25),.p (.int .i64) (.v 26),.p (.int .i64) (.v 27)]),.v (.agg [.p (.int .i64) (.v 9),.p (.int .i64) (.v 11),.p (.int .i64) (.v 10),.p (.int .u64) (.v 24),.p (.int .u32) (.v 25),.p (.int .i64) (.v 26),.p (.int .i64) (.v 27)]),di 8,.v (.agg [.p (.int .i64) (.v 9),.p (.int .i64) (.v 11),.p (.int .i64) (.v 10),.p (.int .u64) (.v 24),.p (.int .u32) (.v 25),.p (.int .i64) (.v 26),.p (.int .i64) (.v 27),.p (.int .i64) (.v 8)]),.v (.c (.own 204)),.v (.c (.own 212)),dd],[(1,(.box [.own 212])),(212,(.row 165 (.v 29))),(204,(.row 165 (.v 28))),(84,(.box [.p (.int .u64) (.v 24),.p (.int .u32) (.v 25),.p (.int .i64) (.v 26),.p (.int .i64) (.v 27)])),(84,(.box [.p (.int .u64) (.i 0),.p (.int .u32) (.i 0),.p (.int .i64) (.i 0),.p (.int .i64) (.i 0)])),(12,(.box [.p (.int .i64) (.v 9),.p (.int .i64) (.v 10),.p (.int .i64) (.v 11),.p (.int .i64) (.v 12),.p .sl (.v 13),.p .sl (.v 14),.p .sl (.v 15),.p .sl (.v 16),.p .sl (.v 17),.p .sl (.v 18),.p .sl (.v 19),.p .sl (.v 20),.p (.int .i64) (.v 21),.p (.int .i64) (.v 22)])),(12,(.box [.p (.int .i64) (.i 0),.p (.int .i64) (.i 0),.p (.int .i64) (.i 0),.p (.int .i64) (.i 0),.nil,.nil,.nil,.nil,.nil,.nil,.nil,.nil,.p (.int .i64) (.i 0),.p (.int .i64) (.i 0)])),(0,(.box [.p (.int .u64) (.v 4)])),(1,(.box [.dead])),(2,(.box [.p .sl (.v 3)]))],[],228,30⟩
theorem atW:er TT (kg F40 F112 F113 t40 t112 t113) yW false L_=some (.op (.lit [[((.int .i64),(.v 9)),((.int .i64),(.v 11)),((.int .i64),(.v 10)),((.int .u64),(.v 24)),((.int .u32),(.v 25)),((.int .i64),(.v 26)),((.int .i64),(.v 27)),((.int .i64),(.v 8))]]) (.op (.app (.v 7) (.v 28) 8 64) (.br (.st .normal NA)))):=kr
def Jt:bp:=⟨[dd,dd,dd,.v (.c (.ptr 0 0)),.v (.c (.own 3)),.v (.c (.ptr 1 0)),dd,dd,dd,dd,dd,dd,dd,dd,dd,.v (.c (.fn 169 [2])),dd,dd,dd,dd,dd,dd,dd,dd,dd,dd,dd,dd,dd,dd,dd,dd,dd,dd,dd,dd,dd,dd,dd,.v (.c (.own 3))],[(0,(.box [.p (.int .u64) (.v 4)])),(1,(.box [.own 3])),(2,(.box [.p .sl (.v 3)])),(3,(.row 165 (.v 7)))],[],20,8⟩
theorem avO:er TT (kg F40 F112 F113 t40 t112 t113) B1 false lq=some (.br (.st .normal Jt)):=kr
def Gm:bp:=⟨(List.replicate 40 (.v (.c .dead))).set 4 (.v (.c (.own 0))),[(0,.row 165 (.v 5))],[],1,6⟩
theorem aup:jmp TT 0 7 lq 0 .normal DK=some (.br (.jump 0 [.r0])):=kr
theorem ajy:jmp TT 3 7 lq 0 .normal L_=some (.br (.jump 0 [.v 7])):=kr
theorem adz:jmp TT 3 7 lq 0 .normal NA=some (.br (.jump 0 [.v 29])):=kr
theorem alV:jmp TT 0 5 Gm 0 .normal Cg=some (.br (.jump 0 [.r0])):=kr
theorem afz:jmp TT 0 5 Gm 0 .normal Jt=some (.br (.jump 0 [.v 7])):=kr
end
end
end
end Go.Proofs.YtndegphojkiblaaGreatDoor
