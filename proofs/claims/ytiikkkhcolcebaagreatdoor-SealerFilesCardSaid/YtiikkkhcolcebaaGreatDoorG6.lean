/- A part. -/
import Derived.Test.YtiikkkhcolcebaaGreatDoorG5
import Derived.Test.YtiikkkhcolcebaaGreatDoorProg
import Derived.WalkKit
set_option linter.all false
set_option maxHeartbeats 4000000
set_option maxRecDepth 100000
namespace Go.Proofs.YtiikkkhcolcebaaGreatDoor
noncomputable section
section
open Go.RowKit
open Classical
def bp.sq:bp->List bt
 |.bq (.st .normal S)=>[S]
 |.bq _=>[]
 |.op _ k=>k.sq
 |.ite _ a b=>a.sq++b.sq
 |.join a b=>a.sq++b.sq
 |.loop _ b=>b.sq
def bp.inLoop:Bool->bp->Bool
 |u,.bq (.st .normal _)=>u
 |_,.bq _=>false
 |u,.op _ k=>k.inLoop u
 |u,.ite _ a b=>a.inLoop u||b.inLoop u
 |u,.join a b=>a.inLoop u||b.inLoop u
 |_,.loop _ b=>b.inLoop true
def uD(S:bt):Nat->List (SV×SV)->List Nd×kg
 |_,[]=>([],[])
 |m,(x,y)::r=>match x,y with
  |.v (.c (.sub n a b)),.v (.c (.p .sl _))=>match S.view m (.sub n a b)with
   |some (nds,z)=>match uD S (m+ib nds) r with
    |(us,D)=>(nds++us,(n,a,b,z)::D)
   |none=>uD S m r
  |_,_=>uD S m r
def Dz{S:bt}{ρ:List L}:∀{l:List (SV×SV)}{m:Nat},Sat ρ m (uD S m l).1->(uD S m l).2.ok S ρ
 |[],_,_=>λz b=>by cases b
 |(x,y)::r,m,h=>by
  unfold uD at h⊢;split at h
  .split at h
   .rename_i nds z c;obtain⟨d,e⟩:=Sat.app h;intro w a;rcases fh.1 a with rfl|a
    .exact r_ c d
    .exact Dz e w a
   simp_all[Dz]
  .exact Dz h
def qN(T:bY)(k0 a:Nat)(b:bt)(d:Nat)(e:Ex)(S:bt):Option bp:=match e with
 |.normal=>match uD S S.nv (S.tmps.zip b.tmps)with
  |(nds,D)=>match atW D k0 a b S with
   |(wj,ι,Z)=>if(vH D T k0 S b a wj ι Z&&uN S.nv nds&& (nds.isEmpty||S.in S.nv))=true then some (nds.foldr .op (.bq (.jump d wj)))else none
 |e=>some (.bq (.st e S))
def SC.cut(n:Nat)(b:At):SC->SC
 |.sub m (.i 0) a=>if m=n then(if a.same b then .own n else .dead)else .sub m (.i 0) a
 |c=>if c.names.contains n then .dead else c
def SB.cut(n:Nat)(b:At):SB->SB
 |.box cs=>.box (cs.map (SC.cut n b))
 |x=>x
def bt.cut(S:bt)(n:Nat)(b:At)(e:cf)(v:At):bt:={S with
 tmps:=S.tmps.map (SV.fW (SC.cut n b))
 heap:=S.heap.map λx=>(x.1,if x.1=n then .row e v else x.2.cut n b)}
def cutAt(k0:Nat)(h:dh):Nat->List (SV×SV)->Option (Nat×Nat×At×cf×At)
 |_,[]=>none
 |i,(x,y)::r=>match x,y with
  |.v (.c (.sub n (.i 0) b)),.v (.c (.own _))=>if k0<=n then match List.lookup n h with
   |some (.row e x)=>some (i,n,b,e,x)
   |_=>cutAt k0 h (i+1) r
   else cutAt k0 h (i+1) r
  |_,_=>cutAt k0 h (i+1) r
def Xo(k0:Nat)(S:bt)(i n:Nat)(b:At)(ty:cf)(x:At):Bool:=S.in S.nv&&uN S.nv [.tk x b]&& (match S.tmps[i]? with
 |some (.v (.c (.sub a (.i 0) c)))=>a==n&&c.same b
 |_=>false)&&decide (k0<=n)&& (match List.lookup n S.heap with
 |some (.row d e)=>d==ty&&e.same x
 |_=>false)
def rE(T:bY)(k0 a:Nat)(c:bt)(d:Nat)(e:Ex)(S:bt):Option bp:=match e with
 |.normal=>match cutAt k0 S.heap 0 (S.tmps.zip c.tmps)with
  |some (i,n,b,ty,x)=>if Xo k0 S i n b ty x=true then(qN T k0 a c d .normal ((S.cut n b ty (.v S.nv)).more 1)).map (.op (.tk x b))else none
  |none=>qN T k0 a c d .normal S
 |e=>qN T k0 a c d e S
def SC.sw(n m:Nat):SC->SC
 |.own k=>.own (if k=n then m else k)
 |.sub k a b=>.sub (if k=n then m else k) a b
 |.ptr k o=>.ptr (if k=n then m else k) o
 |.iZ k o c l i=>.iZ (if k=n then m else k) o c l i
 |.d' k i j=>.d' (if k=n then m else k) i j
 |.fn f d=>.fn f (d.map λk=>if k=n then m else k)
 |.mp k=>.mp (if k=n then m else k)
 |c=>c
def SB.sw(n m:Nat):SB->SB
 |.box cs=>.box (cs.map (SC.sw n m))
 |x=>x
def aoh(k0:Nat)(S a:bt):Option (bt×Ren):=match(S.tmps.zip a.tmps).findSome? (λx=>match x with
 |(.v (.c (.sub n (.i 0) _)),.v (.c (.own _)))=>if n<k0 then some n else none
 |_=>none)with
 |some n=>some ({S with tmps:=S.tmps.map (SV.fW (SC.sw n S.next)),heap:=S.heap.map (λx=>(if x.1=n then S.next else x.1,x.2.sw n S.next)),next:=S.next+1},
  ((S.heap.map (·.1)).eraseDups).map λk=>(k,if k=n then S.next else k))
 |none=>none
def jmp(T:bY)(k0 a:Nat)(b:bt)(d:Nat)(e:Ex)(S:bt):Option bp:=match e with
 |.normal=>match aoh k0 S b with
  |some (c,ι)=>if vH [] T k0 S c S.nv [] ι []=true then rE T k0 a b d .normal c else none
  |none=>rE T k0 a b d .normal S
 |e=>rE T k0 a b d e S
def inl(k:bt->Option bp)(_:Nat)(e:Ex)(S:bt):Option bp:=match e with
 |.normal=>k S
 |e=>some (.bq (.st e S))
def cont(T:bY)(k0 live a:Nat)(k:bt->Option bp)(t:bp):Option bp:=
 if decide (t.sq.length<=1)&& !t.inLoop false then t.bind (inl k) 0
 else match merge live k0 a t.sq with
  |some b=>match t.bind (jmp T k0 a b) 0,k b with
   |some u,some rest=>some (.join u rest)
   |_,_=>none
  |none=>none
def bp.ZE:bp->Bool
 |.bq _=>true
 |.op _ k=>ZE k
 |_=>false
def DX(T:bY)(k0 live:Nat)(body:bt->Option bp):Nat->bt->Option bp
 |0,_=>none
 |n+1,S=>match body S with
  |some t=>if t.ZE then cont T k0 live S.nv (DX T k0 live body n) t else none
  |none=>none
def Er(T:bY)(k0 live:Nat)(body:bt->Option bp)(S:bt):Nat->List bt->Option bp
 |0,_=>none
 |fuel+1,b=>match merge live k0 S.nv b with
  |some a=>match body a with
   |some t=>match jmp T k0 S.nv a 0 .normal S,t.bind (jmp T k0 S.nv a) 0 with
    |some (.bq (.jump _ wj)),some u=>if a.bx.isEmpty then some (.loop wj u)else none
    |_,_=>Er T k0 live body S fuel (S::t.sq)
   |none=>none
  |none=>none
def tR:Code->Nat
 |.region _ ops _=>ops.toList.foldl (λn o=>match o.dst with
  |some t=>n||| (1<<<t)
  |none=>n) 0
 |.seq a b=>tR a|||tR b
 |.cond _ a b=>tR a|||tR b
 |.block _ c=>tR c
 |.loop c=>tR c
 |.scope c=>tR c
 |_=>0
def SC.any(k:Nat):SC->SC
 |.p a _=>.p a (.v k)
 |c=>c
def SV.any(k:Nat):SV->SV
 |.v (.c c)=>.v (.c (c.any k))
 |.v (.agg cs)=>.v (.agg (cs.zipIdx.map λx=>x.1.any (k+x.2)))
 |x=>x
def qJ(T:bY)(c:Code)(S:bt):List bt:=match List.lookup 999997 T with
 |some _=>[S,{S with tmps:=S.tmps.zipIdx.map λx=>if(tR c).testBit x.2 then x.1.any (2000000+S.nv+1000*x.2)else x.1}]
 |none=>[S]
def exec(T:bY)(C:fr)(k0:Nat):Code->Nat->List (Nat×Nat)->Nat->bt->Option bp
 |.skip,_,_,_,S=>some (.bq (.st .normal S))
 |.region _ ops draw,_,_,_,S=>pd T C ops draw S
 |.seq a b,n,ex,r,S=>match exec T C k0 a (lv b n ex r) ex r S with
  |some t=>cont T k0 (lv b n ex r) S.nv (exec T C k0 b n ex r) t
  |none=>none
 |.cond c a b,n,ex,r,S=>match S.arg c with
  |some (.v (.c (.p .bool (.b true))))=>exec T C k0 a n ex r S
  |some (.v (.c (.p .bool (.b false))))=>exec T C k0 b n ex r S
  |some (.v (.c (.p .bool x)))=>match exec T C k0 a n ex r S,exec T C k0 b n ex r S with
   |some u,some v=>some (.ite x u v)
   |_,_=>none
  |_=>none
 |.block id c,n,ex,r,S=>match exec T C k0 c n ((id,n)::ex) r S with
  |some t=>t.bind (λ_ e S=>some (.bq (.st (if e=.exit id then .normal else e) S))) 0
  |none=>none
 |.loop c,_,ex,r,S=>match Er T k0 (lv c 0 ex r) (exec T C k0 c (lv c 0 ex r) ex r) S 5 (qJ T c S)with
  |some u=>some u
  |none=>DX T k0 (lv c 0 ex r) (exec T C k0 c (lv c 0 ex r) ex r) 600 S
 |.exit id,_,_,_,S=>some (.bq (.st (.exit id) S))
 |.ret,_,_,_,S=>some (.bq (.st .ret S))
 |.scope c,n,ex,r,S=>exec T C k0 c n ex r S
 |.label _,_,_,_,S=>some (.bq (.st .normal S))
 |.goto _,_,_,_,S=>some (.op (.dM (.i 0) 0) (.bq (.st .normal S)))
 |_,_,_,_,_=>none
def qu(P:cJ)(k0:Nat)(c:Code)(S:bt)(t:bp):Prop:=∀ρ x a,ρ.length=S.nv->t.a_ ρ=some (x,a)->Good P k0 c S ρ x a
def rb{f}{t u:bp}{ρ o}
 (i:∀x a,t.a_ ρ=some (x,a)->∃e S,x=.st e S)
 (H:∀e S a,t.a_ ρ=some (.st e S,a)->∀d g,f d e S=some g->g.a_ a=((f 0 e S).bind (·.a_ a)).map (lift d))
 (h:t.bind f 0=some u) (j:u.a_ ρ=some o):∃e S a v,t.a_ ρ=some (.st e S,a)/\f 0 e S=some v/\v.a_ a=some o:=by
 have b:=r9 (f:=f) (R:=λe S a=>(f 0 e S).bind (·.a_ a)) (t:=t) (u:=u) (d:=0) (ρ:=ρ) H h;rw[j]at b
 cases c:t.a_ ρ with
 |none=>rw[c]at b;cases b
 |some y=>
  obtain⟨x,a⟩:=y;obtain⟨e,S,rfl⟩:=i x a c;rw[c]at b;simp only[after]at b
  cases k:f 0 e S with
  |none=>simp_all
  |some v=>
   grind
def Good.bare{P k0 c S ρ a x}(h:Good P k0 c S ρ x a):∃e d,x=.st e d:=by
 obtain⟨e,d,k,_⟩:=h;simp_all
def ZS{d o}(h:∀x ρ,o=some (x,ρ)->∃e S,x=.st e S):o=o.map (lift d):=by
 cases o with
 |none=>rfl
 |some y=>
  obtain⟨x,ρ⟩:=y;obtain⟨e,S,rfl⟩:=h x ρ rfl;rfl
def LR{T k0 a c d e S f b}(h:qN T k0 a c d e S=some f):f.a_ b=((qN T k0 a c 0 e S).bind (·.a_ b)).map (lift d):=by
 cases e with
 |normal=>
  simp only[qN]at h⊢;split at h
  .rename_i g;cases h;rw[bB g];simp only[sH,DP];split
   .simp_all[bp.a_,cg,lift]
   .rfl
  .cases h
 |_=>cases h;rfl
def IM{T k0 a g d e S j f}(h:rE T k0 a g d e S=some j):j.a_ f=((rE T k0 a g 0 e S).bind (·.a_ f)).map (lift d):=by
 cases e with
 |normal=>
  simp only[rE]at h⊢;split at h
  .rename_i i n b ty x hcut;split at h
   .rename_i l;rw[bB l];simp only[b9]at h;obtain⟨u,m,rfl⟩:=h;have key:∀c,u.a_ c=((qN T k0 a g 0 .normal ((S.cut n b ty (.v S.nv)).more 1)).bind (·.a_ c)).map (lift d):=λc=>LR m
    cases k:qN T k0 a g 0 .normal ((S.cut n b ty (.v S.nv)).more 1)with
    |none=>
     simp only[k,Option.bind_none,acD]at key;simp only[bp.a_,key,acD,Option.bind_none];split<;>rfl
    |some o=>
     simp only[k,sH]at key;simp only[cg,sH,bp.a_,key];split<;>rfl
   .cases h
  .exact LR h
 |_=>simp only[rE]at h⊢;exact LR h
def zY{T k0 a c d e S f b}(h:jmp T k0 a c d e S=some f):f.a_ b=((jmp T k0 a c 0 e S).bind (·.a_ b)).map (lift d):=by
 cases e with
 |normal=>
  simp only[jmp]at h⊢;split at h
  .split at h
   .rename_i g;rw[bB g];exact IM h
   .cases h
  .exact IM h
 |_=>simp only[jmp]at h⊢;exact IM h
theorem XF{P T}(k:bY.ok P T){k0 S d ρ ys b}(l:ρ.length=b)(f:S.nv=(ρ++ys).length){v o}(m:S.bx=[])(h:qN T k0 b d 0 .normal S=some v)(e:v.a_ (ρ++ys)=some o):
 ∃wj c,o=(.jump 0 wj,ρ++ys++c)/\d.bx=[]/\d.nv=(ρ++wj.map (At.ev (ρ++ys++c))).length/\∀X:Fx,X.P=P->X.k0=k0->Le X (S.a_ (ρ++ys)) (d.a_ (ρ++wj.map (At.ev (ρ++ys++c)))):=by
 simp only[qN]at h;split at h
 .rename_i g;cases h;simp only[cF,pZ]at g;obtain⟨⟨n,s⟩,t⟩:=g;rw[DP]at e;split at e
  .rename_i p i;cases e;obtain⟨c,q,u⟩:=Gq i;subst q;have a:=JS (ys:=[]) gL i;rw[gd,<-f]at a;have r:S.a_ (ρ++ys++c)=S.a_ (ρ++ys):=by
    grind[ib,bt.mN]
   have j:=Dz (S:=S) a;rw[dr]at j;have:=AV k l j n m;grind
  .cases e
 .cases h
def SC.qv{ρ n b}(c:SC):uY n (b.ev ρ).br.toNat (c.a_ ρ) ((c.cut n b).a_ ρ):=by
 have a:∀c:SC,uY n (b.ev ρ).br.toNat (c.a_ ρ) ((if c.names.contains n then SC.dead else c).a_ ρ):=by
  intro c;split
  .exact .inl rfl
  .rename_i d;exact .inr (.inl ⟨rfl,by rw[SC.oX];simpa using d⟩)
 unfold SC.cut;split
 .split
  .rename_i h;subst h;split
   .rename_i k;rw[At.nT k];exact .inr (.inr ⟨rfl,rfl⟩)
   .exact .inl rfl
  .exact .inr (.inl ⟨rfl,by simp only[SC.a_,C.names,kY];omega⟩)
 .exact a _
def bN.qv{ρ n b}(x:bN):Al n (b.ev ρ).br.toNat (x.a_ ρ) ((x.fW (SC.cut n b)).a_ ρ):=by
 cases x with
 |c c=>
  have:=SC.qv (ρ:=ρ) (n:=n) (b:=b) c;simp only[bN.fW,bN.a_];revert this;generalize SC.a_ ρ (SC.cut n b c)=a;intro h;cases a<;>first|trivial|exact h
 |agg cs=>
  refine⟨by simp,λi a d=>?_⟩;simp only[cY,Iu,b9,Function.comp]at d;obtain⟨c,k,rfl⟩:=d;exact⟨c.a_ ρ,by simp[k],SC.qv c⟩
def SV.qv{ρ n b}(x:SV):Y7 n (b.ev ρ).br.toNat (x.a_ ρ) ((x.fW (SC.cut n b)).a_ ρ):=by
 cases x with
 |v x=>
  have:=bN.qv (ρ:=ρ) (n:=n) (b:=b) x;simp only[SV.fW,SV.a_];revert this;generalize bN.a_ ρ (bN.fW (SC.cut n b) x)=y;intro h
  cases y with
  |c c=>cases c<;>first|trivial|exact h
  |agg=>exact h
 |bM xs=>
  refine⟨by simp,λi k a=>?_⟩;simp only[cY,Iu,b9,Function.comp]at a;obtain⟨c,d,rfl⟩:=a;exact⟨c.a_ ρ,by simp[d],bN.qv c⟩
def SB.qv{ρ n b}(x:SB):Sc n (b.ev ρ).br.toNat (x.a_ ρ) ((x.cut n b).a_ ρ):=by
 cases x with
 |box cs=>
  refine⟨by simp,λi h a=>?_⟩;simp only[cY,Iu,b9,Function.comp]at a;obtain⟨c,d,rfl⟩:=a;exact⟨c.a_ ρ,by simp[d],SC.qv c⟩
 |row e x=>exact⟨rfl,rfl⟩
 |map=>rfl
def UE{f:Nat->SB->SB}{m}:∀{h:dh},List.lookup m (h.map λx=>(x.1,f x.1 x.2))=(List.lookup m h).map (f m)
 |[]=>rfl
 |(k,b)::h=>by
  simp only[dE,gb];split
  .simp_all
  .exact UE
def aim{ρ}{S:bt}{k0 n i:Nat}{b v x e}(hg:S.bx=[])(hk:k0<=n)(hi:S.tmps[i]?=some (.v (.c (.sub n (.i 0) b))))(hl:List.lookup n S.heap=some (.row e x))(hv:(v.ev ρ).bE=(x.ev ρ).bE.take (b.ev ρ).br.toNat):
 LF k0 (S.a_ ρ) ((S.cut n b e v).a_ ρ) n (b.ev ρ).br.toNat e (x.ev ρ).bE where
 k0:=hk
 bx:=hg
 next:=rfl
 row:=by rw[fk,hl];rfl
 told:=⟨i,by simp only[bt.a_,cY,hi];rfl⟩
 len:=by simp[bt.a_,bt.cut]
 tmps:=λj v' hj=>by
  simp only[bt.a_,bt.cut,cY,Iu,b9,Function.comp]at hj;obtain⟨y,hy,rfl⟩:=hj;simp_all[bt.a_,SV.qv]
 heap:=λm b' hb=>by
  rw[fk]at hb;simp only[b9]at hb;obtain⟨b0,hb0,rfl⟩:=hb;have hb0:List.lookup m (S.heap.map λx=>(x.1,(λm b1=>if m=n then SB.row e v else b1.cut n b) x.1 x.2))=some b0:=hb0;rw[UE (f:=λm b1=>if m=n then SB.row e v else b1.cut n b)]at hb0;simp only[b9]at hb0;obtain⟨b1,hb1,rfl⟩:=hb0;by_cases hm:m=n
  .left;subst hm;exact⟨rfl,by simp only[if_true,SB.a_,hv]⟩
  .right;refine⟨hm,b1.a_ ρ,by rw[fk,hb1];rfl,?_⟩;simp_all[SB.qv]
theorem RA{P T}(A:bY.ok P T){k0 S j ρ ys d}(B:ρ.length=d)(C:S.nv=(ρ++ys).length){v o}(k:S.bx=[])(h:rE T k0 d j 0 .normal S=some v)(D:v.a_ (ρ++ys)=some o):
 ∃wj c,o=(.jump 0 wj,ρ++ys++c)/\j.bx=[]/\j.nv=(ρ++wj.map (At.ev (ρ++ys++c))).length/\∀X:Fx,X.P=P->X.k0=k0->Le X (S.a_ (ρ++ys)) (j.a_ (ρ++wj.map (At.ev (ρ++ys++c)))):=by
 simp only[rE]at h;split at h
 .rename_i i n b ty x hcut;split at h
  .rename_i t;simp only[Xo,cF,e_]at t;obtain⟨⟨⟨⟨c1,c2⟩,c3⟩,c4⟩,c5⟩:=t;simp only[b9]at h;obtain⟨u,E,rfl⟩:=h;have F:S.tmps[i]?=some (.v (.c (.sub n (.i 0) b))):=by
    split at c3
    .rename_i O R l;simp only[cF,beq_iff_eq]at c3;obtain⟨rfl,m⟩:=c3;rw[l,At.nT m]
    .cases c3
   have p:List.lookup n S.heap=some (.row ty x):=by
    split at c5
    .rename_i U V l;simp only[cF,beq_iff_eq]at c5;obtain⟨rfl,m⟩:=c5;rw[l,At.nT m]
    .cases c5
   let r:L:=.r (((x.ev (ρ++ys)).bE).take (b.ev (ρ++ys)).br.toNat)
   have q:u.a_ (ρ++(ys++[r]))=some o:=by rw[<-dr];exact D
   obtain⟨wj,c,G,H,I,J⟩:=XF (S:=(S.cut n b ty (.v S.nv)).more 1) A B (by grind[bt.more,bt.cut]) k E q;simp only[uN,Nd.in,cF,Bool.and_true]at c2;have z:∀y:At,y.in S.nv=true->y.ev (ρ++(ys++[r]))=y.ev (ρ++ys):=λy W=>by
    grind[At.fX]
   have K:((At.v S.nv).ev (ρ++(ys++[r]))).bE=((x.ev (ρ++(ys++[r]))).bE).take (b.ev (ρ++(ys++[r]))).br.toNat:=by
    rw[z x c2.1,z b c2.2];have:(ρ++(ys++[r]))[S.nv]?=some r:=by
     simp_all
    show(((ρ++(ys++[r]))[S.nv]?).getD (.b false)).bE=_;rw[this];rfl
   have e:=aim (ρ:=ρ++(ys++[r])) (k0:=k0) (v:=.v S.nv) k c4 F p K;have f:S.a_ (ρ++(ys++[r]))=S.a_ (ρ++ys):=by grind[bt.mN]
   rw[f]at e;refine⟨wj,r::c,?_,H,?_,λX s g=>?_⟩
   .rw[G];simp
   .simpa using I
   .have:=J X s g;subst g;have M:ρ++ys++r::c=ρ++(ys++[r])++c:=by simp
    rw[M];exactλa w N=>this a w (e.le k a w N)
  .cases h
 grind[XF]
def ur{P T}(f:bY.ok P T){k0 S d ρ ys b}(l:ρ.length=b)(e:S.nv=(ρ++ys).length){v o}(m:S.bx=[])(h:jmp T k0 b d 0 .normal S=some v)(n:v.a_ (ρ++ys)=some o):
 ∃wj c,o=(.jump 0 wj,ρ++ys++c)/\d.bx=[]/\d.nv=(ρ++wj.map (At.ev (ρ++ys++c))).length/\∀X:Fx,X.P=P->X.k0=k0->Le X (S.a_ (ρ++ys)) (d.a_ (ρ++wj.map (At.ev (ρ++ys++c)))):=by
 simp only[jmp]at h;split at h
 .split at h
  .rename_i p;obtain⟨q,g,i⟩:=AV (D:=[]) (ρ:=ρ++ys) (ys:=[]) f e.symm (λz r=>by cases r) p m;simp only[iC,gd]at g i;obtain⟨wj,c,s,t,u,x⟩:=RA f l g q h n;exact⟨wj,c,s,t,u,λX j k a w y=>x X j k a w (i X j k a w y)⟩
  .cases h
 grind[RA]
def akL{P T}(Y:bY.ok P T){k0 live a b k S t u}(D:qu P k0 a S t)
 (I:∀r u,r.bx=[]->k r=some u->qu P k0 b r u) (h:cont T k0 live S.nv k t=some u):qu P k0 (.seq a b) S u:=by
 intro ρ x E B p;unfold cont at h;split at h
 .obtain⟨e,j,f,v,J,s,y⟩:=rb (λx f F=>(D ρ x f B F).bare) (λe j f O d R C=>by
   cases e with
   |normal=>
    simp only[inl]at C⊢;rw[C];obtain⟨U,G,H,l,z,m,q⟩:=D ρ _ _ B O;cases H;exact ZS λx K F=>(I j R m C f x K l.symm F).bare
   |_=>cases C;rfl) h p
  obtain⟨U,G,H,l,⟨ys,z⟩,m,q⟩:=D ρ _ _ B J;cases H
  cases e with
  |normal=>
   obtain⟨L,r,k1,k2,⟨V,W⟩,M,N⟩:=I j v m s f x E l.symm y;exact⟨L,r,k1,k2,⟨ys++V,by simp_all⟩,M,λX g c Q i=>eT (q X g c _ (N X g c Q i))⟩
  |exit id=>cases s;cases y;exact⟨.exit id,j,rfl,l,⟨ys,z⟩,m,λX g c Q i=>eT (q X g c _ i)⟩
  |ret=>cases s;cases y;exact⟨.ret,j,rfl,l,⟨ys,z⟩,m,λX g c Q i=>eT (q X g c _ i)⟩
 .split at h
  .rename_i Z aa;split at h
   .rename_i w rest hw A;cases h;simp only[bp.a_]at p
    cases n:w.a_ ρ with
    |none=>simp_all
    |some o=>
     obtain⟨e,j,f,v,J,s,y⟩:=rb (λx f F=>(D ρ x f B F).bare) (λe j f O d R C=>zY C) hw n;obtain⟨U,G,H,l,⟨ys,z⟩,m,q⟩:=D ρ _ _ B J;cases H
     cases e with
     |normal=>
      subst z;obtain⟨wj,ab,j1,j2,j3,j4⟩:=ur Y B l m s y;subst j1;rw[n]at p;obtain⟨L,r,k1,k2,⟨V,W⟩,M,N⟩:=I Z rest j2 A _ x E j3.symm p;exact⟨L,r,k1,k2,⟨_,by rw[W,dr]⟩,M,λX g c Q i=>eT (q X g c _ (WI (j4 X g c) (N X g c Q i)))⟩
     |exit id=>
      cases s;cases y;rw[n]at p;cases p;exact⟨.exit id,j,rfl,l,⟨ys,z⟩,m,λX g c Q i=>eT (q X g c _ i)⟩
     |ret=>
      cases s;cases y;rw[n]at p;cases p;exact⟨.ret,j,rfl,l,⟨ys,z⟩,m,λX g c Q i=>eT (q X g c _ i)⟩
   .cases h
  .cases h
def Kg(P:cJ)(k0:Nat)(A:Fx->(Exit->bC->Prop)->bC->Prop)(S:bt)(t:bp):Prop:=∀ρ x a,ρ.length=S.nv->t.a_ ρ=some (x,a)->
 ∃e b,x=.st e b/\b.nv=a.length/\(∃ys,a=ρ++ys)/\b.bx=[]/\∀X:Fx,X.P=P->X.k0=k0->∀Q:Exit->bC->Prop,Q e.to (b.a_ a)->A X Q (S.a_ ρ)
def akF{P T}(hT:bY.ok P T){k0 live a A}(J:∀X Q st st',Le X st st'->A X Q st'->A X Q st){k S t u}(E:qu P k0 a S t)
 (K:∀r u,r.bx=[]->k r=some u->Kg P k0 A r u) (h:cont T k0 live S.nv k t=some u):Kg P k0 (λX Q=>Aw X a (EM (A X Q) Q)) S u:=by
 intro ρ x F C n;unfold cont at h;split at h
 .obtain⟨e,i,c,v,L,s,y⟩:=rb (λx c G=>(E ρ x c C G).bare) (λe i c U d V D=>by
   cases e with
   |normal=>
    simp only[inl]at D⊢;rw[D];obtain⟨W,H,I,j,z,l,p⟩:=E ρ _ _ C U;cases I;exact ZS λx M G=>(by obtain⟨e,Y,q,_⟩:=K i V l D c x M j.symm G;simp_all)
   |_=>cases D;rfl) h n
  obtain⟨W,H,I,j,⟨ys,z⟩,l,p⟩:=E ρ _ _ C L;cases I
  cases e with
  |normal=>
   obtain⟨N,r,k1,k2,⟨Z,k3⟩,O,R⟩:=K i v l s c x F j.symm y;exact⟨N,r,k1,k2,⟨ys++Z,by simp_all⟩,O,λX f b Q g=>p X f b _ (R X f b Q g)⟩
  |exit id=>cases s;cases y;exact⟨.exit id,i,rfl,j,⟨ys,z⟩,l,λX f b Q g=>p X f b _ g⟩
  |ret=>cases s;cases y;exact⟨.ret,i,rfl,j,⟨ys,z⟩,l,λX f b Q g=>p X f b _ g⟩
 .split at h
  .rename_i Y aa;split at h
   .rename_i w rest hw B;cases h;simp only[bp.a_]at n
    cases m:w.a_ ρ with
    |none=>simp_all
    |some o=>
     obtain⟨e,i,c,v,L,s,y⟩:=rb (λx c G=>(E ρ x c C G).bare) (λe i c U d V D=>zY D) hw m;obtain⟨W,H,I,j,⟨ys,z⟩,l,p⟩:=E ρ _ _ C L;cases I
     cases e with
     |normal=>
      subst z;obtain⟨wj,ab,j1,j2,j3,j4⟩:=ur hT C j l s y;subst j1;rw[m]at n;obtain⟨N,r,k1,k2,⟨Z,k3⟩,O,R⟩:=K Y rest j2 B _ x F j3.symm n;exact⟨N,r,k1,k2,⟨_,by rw[k3,dr]⟩,O,λX f b Q g=>p X f b _ (J X _ _ _ (j4 X f b) (R X f b Q g))⟩
     |exit id=>
      cases s;cases y;rw[m]at n;cases n;exact⟨.exit id,i,rfl,j,⟨ys,z⟩,l,λX f b Q g=>p X f b _ g⟩
     |ret=>
      cases s;cases y;rw[m]at n;cases n;exact⟨.ret,i,rfl,j,⟨ys,z⟩,l,λX f b Q g=>p X f b _ g⟩
   .cases h
  .cases h
def Zt{P:cJ}{T:bY}(d:bY.ok P T){k0 live:Nat}{c:Code}{body:bt->Option bp}(e:∀a u,a.bx=[]->body a=some u->qu P k0 c a u):
 ∀(n:Nat){S:bt}{u:bp},S.bx=[]->DX T k0 live body n S=some u->Kg P k0 (λX Q=>tf X c n Q) S u
 |0,_,_,_,h=>by cases h
 |n+1,S,u,f,h=>by
  simp only[DX]at h;split at h
  .rename_i t g;split at h
   .exact akF d (A:=λX Q=>tf X c n Q) (λX Q st st' i h=>Q2 i h) (e S t f g) (λa u b j=>Zt d e n b j) h
   .cases h
  .cases h
def alZ{P T}(D:bY.ok P T){k0 c S j t u wj n}(K:S.bx=[])(E:qu P k0 c j t)
 (M:jmp T k0 S.nv j 0 .normal S=some (.bq (.jump n wj))) (O:t.bind (jmp T k0 S.nv j) 0=some u):qu P k0 (.loop c) S (.loop wj u):=by
 intro ρ x b F R;obtain⟨N,G⟩:=yB R;obtain⟨U,V,y,i2,s,i4⟩:=ur (ys:=[]) D F gL K M rfl;injection y with y z
 cases y;rw[<-z]at s i4;simp only[gd]at s i4;have step:∀(n:Nat)(a:List L),j.nv=(ρ++a).length->iv (λa=>oT (u.a_ (ρ++a))) (n+1) a=some (x,b)->
  ∃e f ys,f.nv=(ρ++a++ys).length/\f.bx=[]/\
   (∀X:Fx,X.P=P->X.k0=k0->∀Q:Exit->bC->Prop,Q e.to (f.a_ (ρ++a++ys))->Aw X c Q (j.a_ (ρ++a)))/\
   ((e=.normal/\∃a',j.nv=(ρ++a').length/\iv (λa=>oT (u.a_ (ρ++a))) n a'=some (x,b)/\∀X:Fx,X.P=P->X.k0=k0->Le X (f.a_ (ρ++a++ys)) (j.a_ (ρ++a')))\/
    (e≠ .normal/\x=.st e f/\b=ρ++a++ys)):=by
  intro n a m g;simp only[iv]at g
  cases i:u.a_ (ρ++a)with
  |none=>rw[i]at g;cases g
  |some o=>
   obtain⟨e,f,k,v,A,r,q⟩:=rb (λx k W=>(E (ρ++a) x k m.symm W).bare) (λe f k ht d u1 Y=>zY Y) O i;obtain⟨e',Z,g1,g2,⟨ys,g3⟩,H,g5⟩:=E (ρ++a) _ _ m.symm A;cases g1;subst g3;refine⟨e,f,ys,g2,H,g5,?_⟩
   cases e with
   |normal=>
    rw[dr]at q;obtain⟨wj,aa,j1,j2,j3,j4⟩:=ur D F gL H r q;subst j1;rw[i]at g;exact .inl ⟨rfl,_,j3,g,by simp_all⟩
   |exit id=>cases r;cases q;rw[i]at g;cases g;simp_all
   |ret=>cases r;cases q;rw[i]at g;cases g;simp_all
 have fin:∀(n:Nat)(a:List L),j.nv=(ρ++a).length->iv (λa=>oT (u.a_ (ρ++a))) n a=some (x,b)->
  ∃e f,x=.st e f/\f.nv=b.length/\(∃ys,b=ρ++ys)/\f.bx=[]/\e≠ .normal:=by
  intro n
  induction n with
  |zero=>intro a _ h;cases h
  |succ n ih=>
   intro a m g;obtain⟨e,f,ys,A,r,_,B⟩:=step n a m g;rcases B with⟨_,a',k1,k2,_⟩| ⟨k1,k2,w⟩
   .exact ih a' k1 k2
   grind
 obtain⟨e,f,I,f2,f3,f4,f5⟩:=fin N _ s G;refine⟨e,f,I,f2,f3,f4,λX C l Q J=>?_⟩;refine ajr (α:=Nat×List L) (λp st=>st=j.a_ (ρ++p.2)/\j.nv=(ρ++p.2).length/\iv (λa=>oT (u.a_ (ρ++a))) p.1 p.2=some (x,b)) (λp=>p.1)
  (x0:=(N,wj.map (At.ev ρ))) ⟨_,i4 X C l,rfl,s,G⟩ ?_
 rintro⟨n,a⟩ st ⟨rfl,m,g⟩
 cases n with
 |zero=>cases g
 |succ n=>
  obtain⟨e1,S2,ys,A,r,q,B⟩:=step n a m g;refine q X C l _ ?_;rcases B with⟨rfl,a',k1,k2,w⟩| ⟨k1,k2,w⟩
  .exact⟨(n,a'),_,w X C l,⟨rfl,k1,k2⟩,p0 n⟩
  .subst I;cases k2;subst w
   cases e with
   |normal=>simp_all
   |exit id=>exact J
   |ret=>exact J
def Z'{P:cJ}{T:bY}(d:bY.ok P T){k0 live:Nat}{c:Code}{body:bt->Option bp}{S:bt}(e:S.bx=[])(f:∀a u,a.bx=[]->body a=some u->qu P k0 c a u):
 ∀{fuel:Nat}{g:List bt}{u:bp},Er T k0 live body S fuel g=some u->qu P k0 (.loop c) S u
 |0,_,_,h=>by cases h
 |fuel + 1,g,u,h=>by
  simp only[Er]at h;split at h
  .rename_i i j;split at h
   .rename_i t k;split at h
    .rename_i n wj w l m;split at h
     .rename_i b;cases h;exact alZ d e (f i t (by simpa using b) k) l m
     .cases h
    .exact Z' d e f h
   .cases h
  .cases h
def mG{P:cJ}{T:bY}{C:fr}{k0:Nat}(o:bY.ok P T)(B:fr.ok P C)(D:P.follows .mixedOrders=true):∀(c:Code){n:Nat}{ex:List (Nat×Nat)}{r:Nat}{S:bt}{u:bp},
 S.bx=[]->exec T C k0 c n ex r S=some u->qu P k0 c S u
 |.skip,n,ex,r,S,u,m,h=>by
  cases h;intro ρ x f k i;cases i;exact⟨.normal,S,rfl,k.symm,⟨[],by simp⟩,m,λX _ _ Q j=>rn j⟩
 |.exit id,n,ex,r,S,u,m,h=>by
  cases h;intro ρ x f k i;cases i;exact⟨.exit id,S,rfl,k.symm,⟨[],by simp⟩,m,λX _ _ Q j=>arO j⟩
 |.ret,n,ex,r,S,u,m,h=>by
  cases h;intro ρ x f k i;cases i;exact⟨.ret,S,rfl,k.symm,⟨[],by simp⟩,m,λX _ _ Q j=>o7 j⟩
 |.region id ops draw,n,ex,r,S,u,m,h=>by
  intro ρ x f k i;exact aAM o B D h k i
 |.seq a b,n,ex,r,S,u,m,h=>by
  simp only[exec]at h;split at h
  .rename_i t G;exact akL o (mG o B D a m G) (λR u E K=>mG o B D b E K) h
  .cases h
 |.block id c,n,ex,r,S,u,m,h=>by
  simp only[exec]at h;split at h
  .rename_i t G;intro ρ x f k i;have F:=mG o B D c m G;obtain⟨e,J,H,v,M,N,U⟩:=rb (λx H V=>(F ρ x H k V).bare) (λe J H G d W Y=>by cases Y;rfl) h i;obtain⟨e',Z,p,q,s,w,z⟩:=F ρ _ _ k M;cases p;cases N;cases U;refine⟨_,J,rfl,q,s,w,λX A g Q j=>XS (z X A g _ ?_)⟩
   cases e with
   |normal=>exact j
   |ret=>exact j
   |exit O=>
    simp only[Ex.to,OI];by_cases hid:O=id
    .subst hid;rw[bB rfl];rw[bB rfl]at j;exact j
    .rw[bG hid];rw[bG gL]at j;exact j
  .cases h
 |.scope c,n,ex,r,S,u,m,h=>by
  intro ρ x f k i;obtain⟨e,J,p,q,s,w,z⟩:=mG o B D c m h ρ x f k i;refine⟨e,J,p,q,s,w,λX A g Q j=>atp (z X A g _ ?_)⟩;cases e<;>exact j
 |.label l,n,ex,r,S,u,m,h=>by
  cases h;intro ρ x f k i;cases i;exact⟨.normal,S,rfl,k.symm,⟨[],by simp⟩,m,λX _ _ Q j=>aoW j⟩
 |.loop c,n,ex,r,S,u,m,h=>by
  simp only[exec]at h;split at h
  .rename_i v hv;cases h;exact Z' o m (λR u E K=>mG o B D c E K) hv
  .intro ρ x f k i;obtain⟨e,J,p,q,s,w,z⟩:=Zt o (λR u E K=>mG o B D c E K) 600 m h ρ x f k i;exact⟨e,J,p,q,s,w,λX A g Q j=>Sh (z X A g Q j)⟩
 |.cond c a b,n,ex,r,S,u,m,h=>by
  simp only[exec]at h;have key:∀(y:At),S.arg c=some (.v (.c (.p .bool y)))->∀ρ,(S.a_ ρ).arg c=some (.sc (.bool (y.ev ρ).eF)):=λy hy ρ=>bt.cO ρ hy
  split at h
  .rename_i F;intro ρ x f k i;obtain⟨e,I,p,q,s,w,z⟩:=mG o B D a m h ρ x f k i;exact⟨e,I,p,q,s,w,λX A g Q j=>oI (t:=true) (key _ F ρ) (λ_=>z X A g Q j) (λh=>by cases h)⟩
  .rename_i F;intro ρ x f k i;obtain⟨e,I,p,q,s,w,z⟩:=mG o B D b m h ρ x f k i;exact⟨e,I,p,q,s,w,λX A g Q j=>oI (t:=false) (key _ F ρ) (λh=>by cases h) (λ_=>z X A g Q j)⟩
  .rename_i y _ _ F;split at h
   .rename_i W u2 M N;cases h;intro ρ x f k i;simp only[bp.a_]at i;split at i
    .rename_i G;obtain⟨e,I,p,q,s,w,z⟩:=mG o B D a m M ρ x f k i;exact⟨e,I,p,q,s,w,λX A g Q j=>oI (key _ F ρ) (λ_=>z X A g Q j) (λh=>by rw[G]at h;cases h)⟩
    .rename_i G;obtain⟨e,I,p,q,s,w,z⟩:=mG o B D b m N ρ x f k i;exact⟨e,I,p,q,s,w,λX A g Q j=>oI (key _ F ρ) (λh=>absurd h G) (λ_=>z X A g Q j)⟩
   .cases h
  .cases h
 |.rangeFunc ..,_,_,_,_,_,_,h=>by cases h
 |.goto l,n,ex,r,S,u,m,h=>by
  cases h;intro ρ x f k i;simp[bp.a_,Nd.ev,At.ev,L.br]at i
 |.refuse ..,_,_,_,_,_,_,h=>by cases h
def o9:List ResultVar->Nat
 |[]=>0
 |.tmp t::r=>(1<<<t)|||o9 r
 |.cell t _::r=>(1<<<t)|||o9 r
def bp.rk:bp->List bt
 |.bq (.st .normal S)=>[S]
 |.bq (.st .ret S)=>[S]
 |.bq _=>[]
 |.op _ k=>k.rk
 |.ite _ a b=>a.rk++b.rk
 |.join a b=>a.rk++b.rk
 |.loop _ b=>b.rk
def fin(T:bY)(k0 a:Nat)(b:bt)(d:Nat)(e:Ex)(S:bt):Option bp:=match e with
 |.exit _=>none
 |_=>jmp T k0 a b d .normal S
def SV.one:SV->Option bN
 |.v x=>some x
 |.bM _=>none
def vk(T:bY)(S:bt):ResultVar->Option bN
 |.tmp t=>(S.tmps[t]?).bind SV.one
 |.cell t ty=>match S.tmps[t]? with
  |some (.v (.c (.ptr n off)))=>match List.lookup n S.heap,List.lookup ty T with
   |some (.box cs),some r=>(GK r (cs.drop off)).bind SV.one
   |_,_=>none
  |_=>none
def ahm:List bN->SV
 |[x]=>.v x
 |xs=>.bM xs
def Az(T:bY)(rs:List ResultVar)(S:bt):Option SV:=(rs.mapM (vk T S)).map ahm
def one_den{ρ}{v:SV}{x}(h:v.one=some x):(v.a_ ρ).one=some (x.a_ ρ):=by
 cases v with
 |v y=>cases h;rfl
 |bM=>cases h
def azW{P T}(e:bY.ok P T){S ρ a x}(h:vk T S a=some x):ph P (S.a_ ρ) a=some (x.a_ ρ):=by
 have d:∀t:Nat,(S.a_ ρ).tmps[t]?=(S.tmps[t]?).map (SV.a_ ρ):=λt=>by simp[bt.a_]
 cases a with
 |tmp t=>
  simp only[vk,jq]at h;obtain⟨v,b,c⟩:=h;simp only[ph,d,b,cg,sH,one_den c]
 |cell t ty=>
  simp only[vk]at h;split at h
  .rename_i n off b;split at h
   .rename_i cs r c f;simp only[jq]at h;obtain⟨v,g,i⟩:=h;have:=e _ _ f;subst this;have j:=Ra ρ g;have k:(S.a_ ρ).heap.lookup n=some (.box (cs.map (SC.a_ ρ))):=by
     rw[fk,c];rfl
    simp only[ph,d,b,cg,SV.a_,bN.a_,SC.a_,k];rw[<-o2,j];exact one_den i
   .cases h
  .cases h
def L1{P T}(c:bY.ok P T){S ρ rs x}(h:Az T rs S=some x):vA P rs (S.a_ ρ)=some (x.a_ ρ):=by
 simp only[Az,b9]at h;obtain⟨xs,a,rfl⟩:=h;have key:∀{rs:List ResultVar}{xs:List bN},rs.mapM (vk T S)=some xs->rs.mapM (ph P (S.a_ ρ))=some (xs.map (bN.a_ ρ)):=by
  intro rs
  induction rs with
  |nil=>simp_all
  |cons r rs ih=>
   intro xs h;rw[pY]at h⊢
   cases a:vk T S r with
   |none=>simp_all
   |some y=>
    cases b:rs.mapM (vk T S)with
    |none=>simp_all
    |some ys=>
     rw[a,b]at h;cases h;rw[azW c a,ih b];rfl
 simp only[vA,key a,cg]
 cases xs with
 |nil=>rfl
 |cons x xs=>
  cases xs with
  |nil=>rfl
  |cons=>rfl
structure xn where
 AE:bp
 res:SV
 out:dh
 kF:Nat
def yj(n a:Nat)(params:List bN)(H:List SB):bt:=⟨params.map SV.v++List.replicate (n-params.length) (.bM []),H.zipIdx.map λx=>(x.2,x.1),[],H.length,a⟩
def SC.to(f:Nat->Nat):SC->SC
 |.own n=>.own (f n)
 |.sub n a b=>.sub (f n) a b
 |.ptr n o=>.ptr (f n) o
 |.iZ n o c m i=>.iZ (f n) o c m i
 |.d' n i j=>.d' (f n) i j
 |.fn g d=>.fn g (d.map f)
 |.mp n=>.mp (f n)
 |c=>c
def bt.order(k0:Nat)(S:bt):bt:=
 let a:=S.tmps.filterMap λx=>match x with
  |.v (.c (.ptr n _))=>if k0<=n then some n else none
  |_=>none
 let h:=(List.range (S.next-k0)).map (· +k0)
 let d:=h.filter (λn=> !a.contains n)++h.filter (λn=>a.contains n)
 let f:=λn=>if n<k0 then n else k0+(d.findIdx (· ==n))
 {S with tmps:=S.tmps.map (SV.fW (SC.to f)),heap:=S.heap.map λx=>(f x.1,x.2.fW (SC.to f) id)}
def reach(h:dh):Nat->List Nat->List Nat
 |0,a=>a
 |fuel+1,a=>reach h fuel (a++(a.flatMap λn=>match List.lookup n h with
  |some (.box cs)=>(cs.flatMap SC.names).filter λm=> !a.contains m
  |_=>[]).eraseDups)
def NY(T:bY)(C:fr)(c:Code)(n:Nat)(rs:List ResultVar)(a:Nat)(params:List bN)(H:List SB):Option xn:=
 match exec T C H.length c (o9 rs) [] (o9 rs) (yj n a params H)with
 |some t=>match(merge (o9 rs) H.length a t.rk).map (bt.order H.length)with
  |some b=>match t.bind (fin T H.length a b) 0,Az T rs b with
   |some u,some r=>some ⟨u,r,b.heap.filter (λx=>(reach b.heap 4 (List.range H.length++r.names)).contains x.1),b.nv-a⟩
   |_,_=>none
  |none=>none
 |none=>none
def gH(o:Out):Option (List L):=match o with
 |some (.jump _ wj,ρ)=>some (wj.map (At.ev ρ))
 |_=>none
def xn.sig(o:xn)(f:FuncId)(a:Nat)(params:List bN)(H:List SB)(F:List L->Option (List L))(d:Nat):bw:=⟨f,params,H,a,o.kF,o.res,o.out,F,d⟩
def nK{X c Q st}(h:Aw X c (λe st=>∃st',Le X st st'/\Q e st') st):Aw X c Q st:=λa w ht=>
 wp_mono (h a w ht) λ_ _ _⟨_,⟨st',h1,h2⟩,h3⟩=>⟨st',h2,h1 _ _ h3⟩
def ahz{n a params H ρ}:(yj n a params H).a_ ρ=jz n (params.map (bN.a_ ρ)) (H.map (SB.a_ ρ)):=by
 unfold yj jz bt.a_;congr 1
 .simp only[dU,gW,C5,bA];rfl
 .simp only[dh.a_,hp,gW,List.zipIdx_map];rfl
 .simp
def QV{T k0 a c d e S f b}(h:fin T k0 a c d e S=some f):f.a_ b=((fin T k0 a c 0 e S).bind (·.a_ b)).map (lift d):=by
 cases e with
 |exit=>cases h
 |_=>
  simp only[fin]at h⊢;exact zY h
def AW{g:Nat->Bool}{n b}:∀{h:dh},List.lookup n (h.filter λx=>g x.1)=some b->List.lookup n h=some b
 |[],a=>by cases a
 |(k,f)::h,a=>by
  rw[List.filter_cons]at a;rw[gb];split at a
  .rw[gb]at a;split
   .simp_all
   .rename_i c;rw[c]at a;exact AW a
  .rename_i d;split
   .rename_i c;simp at c;subst c;exfalso;have:∀{h:dh},List.lookup n (h.filter λx=>g x.1)=some b->g n=true:=by
     intro h e;have:=Iz.1 (B' e);exact this.2
    exact d (this a)
   .exact AW a
def ajd{P T C}(q:bY.ok P T)(K:fr.ok P C)(L:P.follows .mixedOrders=true){f fn c}(s:P.funcs[f]?=some fn) (hname:(fn.name== "runtime.NumGoroutine")=false)
 (M:fn.body=some c) {n} (N:fn.ntmps=n) {rs} (w:fn.results=rs.toArray) {g} {params} {H} {o} (h:NY T C c n rs g params H=some o)
 {F} (O:∀ls,F ls=gH (o.AE.a_ ls)) (y):(o.sig f g params H F y).ok P:=by
 intro ls os D a R;unfold NY at h;split at h
 .rename_i t E;split at h
  .rename_i U V;split at h
   .rename_i u r W Y;cases h;have m:=mG q K L c (S:=yj n g params H) rfl E;replace a:F ls=some os:=a;rw[O]at a;simp only[gH]at a;split at a
    .rename_i k wj z Z;cases a;have p:ls.length=(yj n g params H).nv:=D;obtain⟨e,G,i,v,h1,I,h3⟩:=rb (λx i hx=>(m ls x i p hx).bare) (λe G i E d u1 s=>QV s) W Z;obtain⟨e',aa,g1,g2,⟨ys,g3⟩,g4,g5⟩:=m ls _ _ p h1;cases g1;subst g3;have key:(e=.normal\/e=.ret)/\∀X:Fx,X.P=P->X.k0=H.length->Le X (G.a_ (ls++ys)) (U.a_ (ls++wj.map (At.ev z))):=by
      cases e with
      |exit=>cases I
      |_=>
       obtain⟨ab,zs,j1,_,_,j4⟩:=ur q D g2 g4 I h3;cases j1;exact⟨by simp,j4⟩
     obtain⟨he,A⟩:=key;refine eX.intro s hname M N w (λX J j=>?_);rw[bA]at j;rw[<-ahz];refine nK (g5 X J j _ ⟨_,A X J j,?_⟩);refine⟨?_,L1 q Y,λn b l=>?_⟩;rotate_left
     .rw[fk];rw[dh.rP]at l;simp only[b9]at l;obtain⟨b0,B,rfl⟩:=l;rw[AW B];rfl
     rcases he with rfl|rfl<;>trivial
    .cases a
   .cases h
  .cases h
 .cases h
def AO(T:bY)(C:fr)(fn:Func)(a:Nat)(params:List bN)(H:List SB):Option xn:=match fn.body with
 |some c=>NY T C c fn.ntmps fn.results.toList a params H
 |none=>none
def ayT{P T C}(d:bY.ok P T)(e:fr.ok P C)(g:P.follows .mixedOrders=true){f fn}(i:P.funcs[f]?=some fn) (hname:(fn.name== "runtime.NumGoroutine")=false)
 {a} {params} {H} {o} (h:AO T C fn a params H=some o) {F} (j:∀ls,F ls=gH (o.AE.a_ ls)) (b):(o.sig f a params H F b).ok P:=by
 unfold AO at h;split at h
 .rename_i c k;exact ajd d e g i hname k rfl ch h j b
 .cases h
def Fo(x:bp):List L->Option (List L):=λls=>gH (x.a_ ls)
def eX.aBZ{P f args e rows}(h:eX P f args [] (.v (.c (.sub 0 0 0))) [(0,.row e rows)]):eX P f args [] (.v (.c (.own 0))) [(0,.row e [])]:=by
 refine⟨h.own,λw M N vals K O R S T U W=>(h.call w M N vals K O R S T U W).mono ?_⟩;rintro _ w' ⟨v,E',rfl,B,a,Y,Z⟩;obtain⟨x,cur,fz,k1,D,k2,k3,k4,k5,k6,k7,k8,k9,E,aa⟩:=Y 0 _ rfl;obtain⟨y,F,j2,A,G,j4⟩:=dj.get (show RC M E' w' (.sub 0 0 0) v from Z) (by rw[a.bx];simp);rw[k1]at F;cases F;have H:=j4 (.inr rfl);simp only[C2,Qr]at H G;refine⟨v,⟨λn=>if n=0 then some {x with len:=0}else E'.N n,[]⟩,rfl,B,⟨rfl,?_,?_,λm hm=>absurd hm (sK m)⟩,?_,?_⟩
 .intro n z g k t;simp only at k;split at k
  .cases k;exact a.names 0 x g k1 t
  .exact a.names n z g k t
 .intro n m z I g k d t q;simp only at k d;split at k<;>split at d
  .omega
  .cases k;have:=a.inj 0 m x I g k1 d t q;omega
  .cases d;have:=a.inj n 0 z x g k k1 t q;omega
  .exact a.inj n m z I g k d t q
 .intro n b u;simp only[gb,kJ]at u;split at u
  .rename_i J;simp at J;subst J;cases u;exact⟨{x with len:=0},cur,fz,by simp,D,k2,rfl,fu _,k5,k6,k7,k8,λr hr=>by simp at hr,E,λi r j p hi=>by simp at hi⟩
  .cases u
 .exact .inr ⟨{x with len:=0},by simp,by rw[G,H]⟩
def auJ{P T e}(a:P.underlying T=some (.slice e))(A)(n c)(w):(Op.equal T (.slice A n c) (.slice none 0 0)).run P w=.ok A.isNone w:=by
 have key:∀d,(Op.equalIn (d+1) T (.slice A n c) (.slice none 0 0)).run P w=.ok A.isNone w:=λd=>by
  cases A<;>simp[Op.equalIn,run_underlying a]
 exact key 9999
section
variable{X:Fx}{Q:Exit->bC->Prop}{st:bC}
def sX{id t3 t4 i T ty3 ty4 yT:Nat}{p3 p4 a3 a4 rows e}(hi:st.tmps[i]?=some (.v (.c (.p (.sl rows)))))(ht3:t3<st.tmps.length)(hT:X.P.underlying T=some (.slice e))
 (hQ:∀b,(b=true->rows=[])->Q .normal ((st.put (some t3) (.v (.c (.p (.sl rows))))).put (some t4) (.sc (.bool b)))):
 Aw X (.region id #[{dst:=some t3,op:=.move (.tmp i),type:=ty3,pos:=p3,after:=a3,guard:=none},{dst:=some t4,op:=.binOp .eql T (.tmp t3) (.const (.slice none 0 0)) yT,type:=ty4,pos:=p4,after:=a4,guard:=none}] false) Q st:=λa w ht=>by
 obtain⟨E,hR,hg⟩:=ht;obtain⟨u,h1,h2⟩:=hR.tmps i _ hi;have hlt:t3<a.tmps.size:=by rw[hR.size];exact ht3
 refine wp_region ?_;have hu:∃A n c,u=.slice A n c/\(A=none->rows=[]):=by
  cases h2 with
  |nil=>exact⟨_,_,_,rfl,λ_=>rfl⟩
  |row=>exact⟨_,_,_,rfl,λh=>by cases h⟩
 obtain⟨A,n,c,rfl,hn⟩:=hu;have H0:∀b,(b=true->rows=[])->∃st',Q .normal st'/\Told X st' ((a.put (some t3) (.slice A n c)).put (some t4) (.bool b)) w:=λb hb=>
  ⟨_,hQ b hb,E,(hR.put (some t3) (v:=.v (.c (.p (.sl rows)))) h2).put (some t4) (v:=.sc (.bool b)) (RP.sc rfl),hg⟩
 have e1:a.eval (.tmp i)=.slice A n c:=by simp[Act.eval,h1]
 have e2:(a.put (some t3) (.slice A n c)).eval (.tmp t3)=.slice A n c:=by simp[Act.eval,Act.put,sB,hlt]
 have e3:∀a':Act,a'.eval (.const (.slice none 0 0))=.slice none 0 0:=λ_=>rfl
 have hq:(Op.equal T (.slice A n c) (.slice none 0 0)).run X.P w=.ok A.isNone w:=auJ hT A n c w;have hb:(binOp .eql T (.slice A n c) (.slice none 0 0)).run X.P w=.ok (.bool A.isNone) w:=by
  simp only[binOp];rw[Sem.run_bind,hq];rfl
 have hgd:(eqGuard .eql T (.tmp t3) (.const (.slice none 0 0)) (.slice A n c) (.slice none 0 0)).run X.P w=.ok () w:=by
  simp[eqGuard]
 rw[show(List.range (#[({dst:=some t3,op:=.move (.tmp i),type:=ty3,pos:=p3,after:=a3,guard:=none}:Oper),{dst:=some t4,op:=.binOp .eql T (.tmp t3) (.const (.slice none 0 0)) yT,type:=ty4,pos:=p4,after:=a4,guard:=none}]).size)=[0,1]from rfl];simp only[wpOps,Region.wanted,qV,p8,C4,if_true];refine .inl (jA (u:=.slice A n c) (w':=w) ?_ (.inl ?_))
 .simp only[execOp,e1];rfl
 .refine jA (u:=.bool A.isNone) (w':=w) ?_ ?_
  .simp only[execOp,e2,e3,Sem.run_bind,hgd,hb,Result.andThen_ok];rfl
  .exact H0 _ (λh=>hn (by simpa using h))
end
def rN(T:bY)(C:fr)(c:Code)(k0:Nat)(rs:List ResultVar)(S:bt):Option xn:=
 match exec T C k0 c (o9 rs) [] (o9 rs) S with
 |some t=>match(merge (o9 rs) k0 S.nv t.rk).map (bt.order k0)with
  |some a=>match t.bind (fin T k0 S.nv a) 0,Az T rs a with
   |some u,some r=>some ⟨u,r,a.heap.filter (λx=>(reach a.heap 4 (List.range k0++r.names)).contains x.1),a.nv-S.nv⟩
   |_,_=>none
  |none=>none
 |none=>none
def vT{P T C}(l:bY.ok P T)(D:fr.ok P C)(E:P.follows .mixedOrders=true){c k0 rs S o}(m:S.bx=[])(h:rN T C c k0 rs S=some o)
 {ls os} (p:ls.length=S.nv) (j:gH (o.AE.a_ ls)=some os) {X} (y:X.P=P) (g:X.k0=k0):Aw X c (oJ P rs (o.res.a_ (ls++os)) (o.out.a_ (ls++os))) (S.a_ ls):=by
 unfold rN at h;split at h
 .rename_i t z;split at h
  .rename_i F G;split at h
   .rename_i u r H I;cases h;have i:=mG l D E c (S:=S) m z;simp only[gH]at j;split at j
    .rename_i k J q K;cases j;obtain⟨e,A,a,v,L,B,M⟩:=rb (λx a N=>(i ls x a p N).bare) (λe A a z d u1 O=>QV O) H K;obtain⟨e',R,U,V,⟨ys,W⟩,Y,Z⟩:=i ls _ _ p L;cases U;subst W;have key:(e=.normal\/e=.ret)/\∀X:Fx,X.P=P->X.k0=k0->Le X (A.a_ (ls++ys)) (F.a_ (ls++J.map (At.ev q))):=by
      cases e with
      |exit=>cases B
      |_=>
       obtain⟨aa,zs,j1,_,_,j4⟩:=ur l p V Y B M;cases j1;exact⟨by simp,j4⟩
     obtain⟨he,s⟩:=key;refine nK (Z X y g _ ⟨_,s X y g,?_⟩);refine⟨?_,L1 l I,λn b f=>?_⟩;rotate_left
     .rw[fk];rw[dh.rP]at f;simp only[b9]at f;obtain⟨b0,w,rfl⟩:=f;rw[AW w];rfl
     rcases he with rfl|rfl<;>trivial
    .cases j
   .cases h
  .cases h
 .cases h
def C.fw(rows:List (List PV)):C->Option C
 |.own 0=>some (.p (.sl rows))
 |.p q=>some (.p q)
 |.nil=>some .nil
 |_=>none
def V1.fw(rows:List (List PV)):V1->Option V1
 |.c y=>(y.fw rows).map .c
 |.agg cs=>(cs.mapM (C.fw rows)).map .agg
def V.fw(rows:List (List PV)):V->Option V
 |.v x=>(x.fw rows).map .v
 |.bM xs=>(xs.mapM (V1.fw rows)).map .bM
def mapM_at{α g:Type}{f}:∀{l:List α}{m},l.mapM f=some m->m.length=l.length/\∀(i:Nat)(y:g),m[i]?=some y->∃x,l[i]?=some x/\f x=some y
 |[],m,h=>by simp at h;subst h;simp
 |a::l,m,h=>by
  cases c:f a with
  |none=>simp[c]at h
  |some b=>
   cases d:l.mapM f with
   |none=>simp[c,d]at h
   |some bs=>
    simp[c,d]at h;subst h;obtain⟨k1,k2⟩:=mapM_at d;refine⟨by simp[k1],λi y e=>?_⟩
    match i with
    |0=>simp at e;subst e;exact⟨a,rfl,c⟩
    |i+1=>simpa using k2 i y e
def eX.fw{P f args e rows r r'}(h:eX P f args [] r [(0,.row e rows)])(k:r.fw rows=some r'):eX P f args [] r' []:=by
 refine⟨h.own,λw M N vals h1 h2 h3 h4 h5 h6 h7=>(h.call w M N vals h1 h2 h3 h4 h5 h6 h7).mono ?_⟩;rintro _ w' ⟨v,E',rfl,K,G,hH,hv⟩;obtain⟨x,cur,fz,k1,aa,k2,k3,k4,k5,k6,k7,k8,k9,O,R⟩:=hH 0 _ rfl;have S:jo (bad M E') (bad M ⟨λ_=>none,[]⟩) w' w':=λg o u q1 q2=>⟨q1,λq3=>q2 (by
  rcases q3 with q3| ⟨n,z,q4,_⟩
  .exact .inl q3
  .cases q4)⟩
 have hC :∀c t u,RC M E' w' c u->c.fw rows=some t->RC M ⟨λ_=>none,[]⟩ w' t u:=λc t v F a=>by
  unfold C.fw at a;split at a
  .cases a;obtain⟨y,j1,j2⟩:=dj.get (show RC M E' w' (.own 0) v from F) (by rw[G.bx];simp);rw[k1]at j1;cases j1;rw[j2];by_cases h0:rows=[]
   .subst h0;rw[k3];exact .nil
   .cases T:x.g with
    |none=>
     have:=O T;have:rows.length=0:=om;exact absurd (nu this) h0
    |some g=>
     have hr:=NX (M:=bad M E') (o:=0) (k2 g T) om k5 k9 (λi r j p H hj=>by simpa using R i r j p H hj);rw[k3];refine Rows.rp hr (λg' U=>by
      rcases U with q| ⟨n,z,q,_⟩
      .exact .inl q
      .cases q) ?_
     rintro g' o n c he I;obtain⟨⟨rfl,rfl⟩,_⟩:=he;rcases I with I| ⟨n,z,q,_⟩
     .have:=h1 g I;rcases(G.names 0 x g k1 T).2 with⟨m,z,q,_⟩|q
      .exact absurd (h2 m z q) (sK m)
      .omega
     .cases q
  .cases a;exact RP.trans F S
  .cases a;exact F
  .cases a
 have J:∀c t u,e7 M E' w' c u->c.fw rows=some t->e7 M ⟨λ_=>none,[]⟩ w' t u:=λc t v F a=>by
  cases c with
  |c c=>
   simp only[V1.fw,b9]at a;obtain⟨d,B,rfl⟩:=a;exact hC _ _ _ F B
  |agg cs=>
   simp only[V1.fw,b9]at a;obtain⟨d,B,rfl⟩:=a;obtain⟨us,rfl,D,E⟩:=F;obtain⟨W,Y⟩:=mapM_at B;refine⟨us,rfl,by rw[W];exact D,λi c H=>?_⟩;obtain⟨c0,e0,Z⟩:=Y i c H;obtain⟨u,q1,q2,q3⟩:=E i c0 e0;exact⟨u,q1,hC _ _ _ q2 Z,q3⟩
 refine⟨v,⟨λ_=>none,[]⟩,rfl,K,⟨rfl,λn z g k=>(by cases k),λn m z z' g k=>(by cases k),λm hm=>absurd hm (sK m)⟩,λn b I=>(by cases I),?_⟩
 cases r with
 |v c=>
  simp only[V.fw,b9]at k;obtain⟨d,B,rfl⟩:=k;exact J _ _ _ hv B
 |bM xs=>
  simp only[V.fw,b9]at k;obtain⟨d,B,rfl⟩:=k;obtain⟨us,rfl,D,E⟩:=hv;obtain⟨W,Y⟩:=mapM_at B;refine⟨us,rfl,by rw[W];exact D,λi c H=>?_⟩;obtain⟨c0,e0,Z⟩:=Y i c H;obtain⟨u,q1,q2⟩:=E i c0 e0;exact⟨u,q1,J _ _ _ q2 Z⟩
def SC.fw(x:At):SC->SC
 |.own 0=>.p .sl x
 |c=>c
def bN.fw(x:At):bN->bN
 |.c y=>.c (y.fw x)
 |.agg cs=>.agg (cs.map (SC.fw x))
def SV.fw(x:At):SV->SV
 |.v y=>.v (y.fw x)
 |.bM ys=>.bM (ys.map (bN.fw x))
def SC.pf:SC->Bool
 |.own 0=>true| .p _ _=>true| .nil=>true|_=>false
def bN.pf:bN->Bool
 |.c y=>y.pf| .agg cs=>cs.all SC.pf
def SV.pf:SV->Bool
 |.v y=>y.pf| .bM ys=>ys.all bN.pf
def mapM_map{α c e d:Type}{g g'}{F:e->Option d}{s:α->c}{l:List α}(h:∀a∈l,F (g a)=some (g' (s a))):(l.map g).mapM F=some ((l.map s).map g'):=by
 induction l with
 |nil=>rfl
 |cons a l ih=>simp[pY,h a jg,ih λb f=>h b (je _ f)]
def SC.uS{ρ x}{c:SC}(h:c.pf=true):(c.a_ ρ).fw (x.ev ρ).bE=some ((c.fw x).a_ ρ):=by
 unfold SC.pf at h;split at h<;>first|rfl|cases h
def bN.uS{ρ x}{c:bN}(h:c.pf=true):(c.a_ ρ).fw (x.ev ρ).bE=some ((c.fw x).a_ ρ):=by
 cases c with
 |c c=>show(C.fw _ _).map _=_;rw[SC.uS h];rfl
 |agg cs=>show Option.map _ (List.mapM _ (List.map _ _))=_;rw[mapM_map (s:=SC.fw x) (g':=SC.a_ ρ) λa d=>SC.uS (cI.1 h a d)];rfl
def SV.uS{ρ x}{c:SV}(h:c.pf=true):(c.a_ ρ).fw (x.ev ρ).bE=some ((c.fw x).a_ ρ):=by
 cases c with
 |v c=>show(V1.fw _ _).map _=_;rw[bN.uS h];rfl
 |bM cs=>show Option.map _ (List.mapM _ (List.map _ _))=_;rw[mapM_map (s:=bN.fw x) (g':=bN.a_ ρ) λa d=>bN.uS (cI.1 h a d)];rfl
def nY{P}{s:bw}(h:s.ok P)(c:s.H=[]){x e}(d:s.res.pf=true)(f:s.out=[(0,.row e x)])(a):
 bw.ok P ⟨s.f,s.params,[],s.iM,s.kF,s.res.fw x,[],s.F,a⟩:=by
 intro ls os g i b;have:=h ls os g i b;rw[c,f]at this;exact eX.fw this (SV.uS d)
end
section
open Go.RowKit
def TT:bY:=[2,3,4,5,9,23,24,25,26,28,29,31,32,33,34,36,40,42,43,45,47,48,55,57,58,60,61,63,64,77,78,85,86,88,90,95,97,114,117,119,133,137,139,141,142,144,146,147,148,150,157,160,164,166,170,171,175,189,190,192,193,208,209,234,257,259,269,274,279,357,360,363,375,380,395,396,408,416,421,455,457,460,481,484,486].map λi=>(i,fG Tryz.prog i)
def js:bY.ok Tryz.prog TT:=bY.A6 kr
def TTx:bY:=(999999,fG Tryz.prog 999999)::TT
def Y8:bY.ok Tryz.prog TTx:=bY.A6 kr
def TTy:bY:=(999998,fG Tryz.prog 999998)::TT
def axf:bY.ok Tryz.prog TTy:=bY.A6 kr
def Te:bY:=(999996,fG Tryz.prog 999996)::TT
def BH:bY.ok Tryz.prog Te:=bY.A6 kr
def TTv:bY:=(999995,fG Tryz.prog 999995)::(999998,fG Tryz.prog 999998)::Te
def atV:bY.ok Tryz.prog TTv:=bY.A6 kr
def oM:Tryz.prog.follows .mixedOrders=true:=kr
def fr.ok.nil:fr.ok Tryz.prog []:=λs a=>by cases a
def fr.ok.cons{s:bw}{C:fr}(h:s.ok Tryz.prog)(d:fr.ok Tryz.prog C):fr.ok Tryz.prog (s::C):=λx a=>by
 rcases fh.1 a with rfl|a
 .exact h
 .exact d x a
def w(a n:Nat):List At:=(List.range n).map λi=>.v (a+i)
def pi(n:Nat):SC:=.p (.int .i64) (.v n)
def ps(n:Nat):SC:=.p .sl (.v n)
def ci(n:Nat):bN:=.c (pi n)
def cs(n:Nat):bN:=.c (ps n)
def cM(a n:Nat):List SC:=(List.range n).map λi=>pi (a+i)
def dL(a n:Nat):List SC:=(List.range n).map λi=>ps (a+i)
def xF(T:bY)(C:fr)(f:Func)(n:Nat)(p:List bN)(H:List SB):bp:=match AO T C f n p H with
 |some o=>o.AE
 |none=>default
def lr{s:bw}(x:bp){T:bY}{C:fr}{fn:Func}(a:bY.ok Tryz.prog T)(b:fr.ok Tryz.prog C)(c:Tryz.prog.funcs[s.f]?=some fn) (hname:(fn.name== "runtime.NumGoroutine")=false) (h:AO T C fn s.iM s.params s.H=some ⟨x,s.res,s.out,s.kF⟩) (d:s.F=Fo x):s.ok Tryz.prog:=
 ayT a b oM c hname h (F:=s.F) (λls=>by rw[d];rfl) s.tag
def ano:=Da
def W0:=NI
def aGg:=DR
def NU:=O0
def MH:=VW
def aqx:=Yg
def aaQ:=DY
def aAS:=XE
def oS{s:bw}{C:fr}{x:bp}(b:fr.ok Tryz.prog C)(c:s.F=Fo x:=by rfl)(d:(Tryz.prog.funcs[s.f]?).isSome=true:=by kernel_rfl) (hname:(((Tryz.prog.funcs[s.f]?).getD default).name== "runtime.NumGoroutine")=false:=by kernel_rfl) (h:AO TT C ((Tryz.prog.funcs[s.f]?).getD default) s.iM s.params s.H=some ⟨x,s.res,s.out,s.kF⟩:=by kernel_rfl):s.ok Tryz.prog:=by
 obtain⟨fn,a⟩:=sC.1 d;rw[a]at hname h;exact lr x js b a hname h c
def mS(C:fr)(f:FuncId)(p:List bN)(H:List SB)(a b:Nat)(c:SV)(d:List (Nat×SB))(e:Nat):bw:=⟨f,p,H,a,b,c,d,Fo (xF TT C ((Tryz.prog.funcs[f]?).getD default) a p H),e⟩
abbrev Ok(s:bw):Prop:=s.ok Tryz.prog
abbrev bp.j(l:List At):bp:=.bq (.jump 0 l)
abbrev bp.bI(o:BinOp)(a b:At)(k:bp):bp:=.op (.bi o .i64 a b) k
abbrev bp.ln(a:At)(k:bp):bp:=.op (.len a) k
abbrev bp.no(a:At)(k:bp):bp:=.op (.not a) k
abbrev bp.cA(t:Nat)(F:List L->Option (List L))(l:List At)(n:Nat)(k:bp):bp:=.op (.call t F l n []) k
abbrev bp.cl(a:At)(j:Nat)(d:Kd)(k:bp):bp:=.op (.cl a j d) k
abbrev bp.rw(a b:At)(n:Nat)(k:bp):bp:=.op (.row a b n) k
abbrev U0:At:=.v 0
abbrev U1:At:=.v 1
abbrev U2:At:=.v 2
abbrev U3:At:=.v 3
abbrev U4:At:=.v 4
abbrev U5:At:=.v 5
abbrev U6:At:=.v 6
abbrev U7:At:=.v 7
abbrev U8:At:=.v 8
abbrev U9:At:=.v 9
abbrev bD:At:=.v 10
abbrev bF:At:=.v 11
abbrev bH:At:=.v 12
abbrev bL:At:=.v 13
abbrev bP:At:=.v 14
abbrev bQ:At:=.v 15
abbrev bV:At:=.v 16
abbrev bX:At:=.v 17
abbrev bU:At:=.v 18
abbrev cd:At:=.v 19
abbrev cv:At:=.v 20
abbrev cR:At:=.v 21
abbrev cm:At:=.v 22
abbrev cn:At:=.v 23
abbrev ct:At:=.v 24
abbrev cH:At:=.v 25
abbrev ck:At:=.v 26
abbrev cK:At:=.v 27
abbrev cS:At:=.v 28
abbrev dZ:At:=.v 29
abbrev eJ:At:=.v 30
abbrev e8:At:=.v 31
abbrev ee:At:=.v 32
abbrev ig:At:=.v 33
abbrev iH:At:=.v 34
abbrev ke:At:=.v 35
abbrev jG:At:=.v 36
abbrev km:At:=.v 37
abbrev jn:At:=.v 38
abbrev jO:At:=.v 39
abbrev kE:At:=.v 40
abbrev mw:At:=.v 41
abbrev oB:At:=.v 42
abbrev uy:At:=.v 43
abbrev ql:At:=.v 44
abbrev ky:At:=.v 45
abbrev vW:At:=.v 46
abbrev uL:At:=.v 47
abbrev iR:At:=.v 48
abbrev nO:At:=.v 49
abbrev vu:At:=.v 50
abbrev qh:At:=.v 51
abbrev my:At:=.v 52
abbrev vp:At:=.v 53
abbrev vj:At:=.v 54
abbrev I0:At:=.v 55
abbrev Dl:At:=.v 56
abbrev WW:At:=.v 57
abbrev Ek:At:=.v 58
abbrev E7:At:=.v 59
abbrev AA:At:=.v 60
abbrev FD:At:=.v 61
abbrev v8:At:=.v 62
abbrev J_:At:=.v 63
abbrev KR:At:=.v 64
abbrev D3:At:=.v 65
abbrev DD:At:=.v 66
abbrev ux:At:=.v 67
abbrev ME:At:=.v 68
abbrev S4:At:=.v 69
abbrev Au:At:=.v 70
abbrev QT:At:=.v 71
abbrev MQ:At:=.v 72
abbrev MR:At:=.v 73
abbrev U74:At:=.v 74
abbrev U75:At:=.v 75
abbrev U76:At:=.v 76
abbrev U77:At:=.v 77
abbrev U78:At:=.v 78
abbrev U79:At:=.v 79
end
section
attribute [local irreducible] Fo
open Go.RowKit
def axJ:bp:=.bI .leq U0 (.i 0)<|.ite U1 (.j [.i 0]) (.bI .sub U0 (.i 1)<|.bI .quo U2 (.i 256)<|.bI .add U3 (.i 1)<|.bI .mul U4 (.i 64)<|.j [U5])
def O_:=Fo axJ
def aDx:bw:=⟨79,[ci 0],[],1,1,.v (ci 1),[],O_,314⟩
def aeg:Ok aDx:=oS .nil
def auX:bp:=.op (.str U0)<|.op (.str U1)<|.op (.bs .eql U2 U3)<|.j [U4]
def Nj:=Fo auX
def aqa:bw:=⟨83,[cs 0,cs 1],[],2,1,.v (.c (.p .bool U2)),[],Nj,780⟩
def akQ:Ok aqa:=oS .nil
def avP:bp:=.join (.ln U0<|.loop [.i 0,.i 0] (.bI .lss U3 U1<|.ite U4 (.rw U0 U3 1<|.cl U5 0 (.int .u8)<|.op (.bi .shl .u64 U2 (.i 8))<|.op (.conv .u64 U6)<|.op (.bi .or .u64 U7 U8)<|.bI .add U3 (.i 1)<|.j [U9,bD]) (.bq (.jump 1 [U2])))) (.j [U1])
def xS:=Fo avP
def afI:bw:=⟨156,[cs 0],[],1,1,.v (.c (.p (.int .u64) U1)),[],xS,326⟩
def ams:Ok afI:=oS .nil
def alg:bp:=.ln U0<|.ln U1<|.bI .neq U2 U3<|.ite U4 (.j [.b false]) (.join (.ln U0<|.loop [.i 0] (.bI .lss U6 U5<|.ite U7 (.rw U0 U6 1<|.cl U8 0 (.int .u8)<|.rw U1 U6 1<|.cl bD 0 (.int .u8)<|.op (.bi .neq .u8 U9 bF)<|.ite bH (.bq (.jump 2 [.b false])) (.bI .add U6 (.i 1)<|.j [bL])) (.bq (.jump 1 [])))) (.j [.b true]))
def Hv:=Fo alg
def apU:bw:=⟨74,[cs 0,cs 1],[],2,1,.v (.c (.p .bool U2)),[],Hv,334⟩
def V8:Ok apU:=oS .nil
def atE:bp:=.join (.ln U0<|.loop [.i 0,.i 0] (.bI .lss U3 U1<|.ite U4 (.rw U0 U3 1<|.cl U5 0 (.int .u8)<|.bI .shl U2 (.i 8)<|.op (.conv .i64 U6)<|.bI .or U7 U8<|.bI .add U3 (.i 1)<|.j [U9,bD]) (.bq (.jump 1 [U2])))) (.j [U1])
def tU:=Fo atE
def ass:bw:=⟨73,[cs 0],[],1,1,.v (ci 1),[],tU,335⟩
def aab:Ok ass:=oS .nil
def aoM:bp:=.j []
def Vr:=Fo aoM
def awr:bw:=⟨137,[.agg (dL 0 8++[pi 8,pi 9])],[],10,0,.v (.agg (dL 0 8++[pi 8,pi 9])),[],Vr,645⟩
def akv:Ok awr:=oS .nil
def aeY:bp:=.op (.call 645 Vr (w 4 10) 0 [])<|.j []
def JT:=Fo aeY
def ays:bw:=⟨61,[.agg (cM 0 4++dL 4 8++[pi 12,pi 13])],[],14,0,.v (.agg (cM 0 4++dL 4 8++[pi 12,pi 13])),[],JT,646⟩
def alV:Ok ays:=oS (.cons akv .nil)
def UN:bp:=.join (.ln U3<|.loop [.i 0,.r0] (.bI .lss U5 U4<|.ite U7 (.rw U3 U5 14<|.cl U8 0 (.int .i64)<|.cl U8 1 (.int .i64)<|.cl U8 2 (.int .i64)<|.cl U8 3 (.int .i64)<|.cl U8 4 .sl<|.cl U8 5 .sl<|.cl U8 6 .sl<|.cl U8 7 .sl<|.cl U8 8 .sl<|.cl U8 9 .sl<|.cl U8 10 .sl<|.cl U8 11 .sl<|.cl U8 12 (.int .i64)<|.cl U8 13 (.int .i64)<|.op (.call 646 JT (w 9 14) 0 [])<|.op (.lit [[((.int .i64),U9),((.int .i64),bD),((.int .i64),bF),((.int .i64),bH),(.sl,bL),(.sl,bP),(.sl,bQ),(.sl,bV),(.sl,bX),(.sl,bU),(.sl,cd),(.sl,cv),((.int .i64),cR),((.int .i64),cm)]])<|.op (.app U6 cn 14 240)<|.bI .add U5 (.i 1)<|.j [cH,ct]) (.bq (.jump 1 [U6])))) (.j [U4])
def Kc:=Fo UN
def Zp:bw:=⟨21,[.agg [pi 0,pi 1,.p .bool U2,ps 3]],[],4,1,.v (.agg [pi 0,pi 1,.p .bool U2,.own 0]),[(0,(.row 90 U4))],Kc,647⟩
def aaR:Ok Zp:=oS (.cons alV .nil)
def WG:List L->Option (List L):=Kc
def aCa:bw:=⟨21,[.agg [pi 0,pi 1,.p .bool U2,ps 3]],[],4,1,.v (.agg [pi 0,pi 1,.p .bool U2,ps 4]),[],Kc,2056⟩
def ahk:aCa.ok Tryz.prog:=nY (s:=Zp) aaR rfl (x:=(.v 4)) (e:=90) rfl rfl 2056
def Ld:bp:=.join (.ln U2<|.loop [.i 0,.r0] (.bI .lss U4 U3<|.ite U6 (.rw U2 U4 3<|.cl U7 0 .str<|.cl U7 1 .ie<|.cl U7 2 .ie<|.join (.ln bD<|.loop [.i 0,.r0] (.bI .lss bH bF<|.ite bP (.rw bD bH 3<|.cl bQ 0 (.int .i64)<|.cl bQ 1 .ie<|.cl bQ 2 .bool<|.op (.lit [[((.int .i64),bV),(.sl,bX),(.bool,bU)]])<|.op (.app bL cd 3 40)<|.bI .add bH (.i 1)<|.j [cR,cv]) (.bq (.jump 1 [bL])))) (.op (.lit [[(.str,U8),(.sl,U9),(.sl,bF)]])<|.op (.app U5 bH 3 64)<|.bI .add U4 (.i 1)<|.j [bP,bL])) (.bq (.jump 1 [U5])))) (.j [U3])
def Ob:=Fo Ld
def RG:bw:=⟨19,[.agg [pi 0,pi 1,ps 2]],[],3,1,.v (.agg [pi 0,pi 1,.own 0]),[(0,(.row 141 U3))],Ob,648⟩
def aaw:RG.ok Tryz.prog:=lr Ld BH .nil Tryz.func19 kr kr rfl
def uK:List L->Option (List L):=Ob
def aDK:bw:=⟨19,[.agg [pi 0,pi 1,ps 2]],[],3,1,.v (.agg [pi 0,pi 1,ps 3]),[],Ob,2055⟩
def arX:aDK.ok Tryz.prog:=nY (s:=RG) aaw rfl (x:=(.v 3)) (e:=141) rfl rfl 2055
end
section
open Go.RowKit
open Classical
def wh(b:Bool):bt:=⟨[.v (.c (.p .sl (.v 0))),.bM [],.v (.c .nil),.v (.c (.p .sl (.v 0))),.v (.c (.p .bool (.b b))),.bM [],.bM [],.bM []],[],[],8,1⟩
def u6(T : cf)(pos:String):Code:=
          (Code.region 3
                #[{ dst :=some 5,op:=Op.buildSlice T 0 #[],type:=T,pos:=pos,after:= #[],
                    guard:=none},
                 { dst:=some 6,op:=Op.move (Operand.tmp 0),type:=T,pos:=pos,after:= #[],
                   guard:=none},
                 { dst :=some 7,
                   op:=
                    Op.call
                     { callee:=Callee.builtin Builtin.append,args:= #[Operand.tmp 5,Operand.tmp 6],
                       argTypes:= #[T,T]},
                   type:=T,pos:=pos,
                   after:= #[{on:=0,ground:=Ground.data},{on:=1,ground:=Ground.data}],guard:=none},
                 { dst :=some 2,op:=Op.assign (Operand.tmp 7),type:=T,pos:=pos,
                   after:=
                    #[{on:=2,ground:=Ground.data},{on:=2,ground:=Ground.chain},
                     {on:=0,ground:=Ground.phase},{on:=1,ground:=Ground.phase},
                     {on:=2,ground:=Ground.phase}],
                   guard:=none}]
                false).seq
           Code.ret
def jx(n z:Nat):bp:=.op (.lit []) (.op (.app (.v 1) (.v 0) n z) (.bq (.jump 0 [(.v 2)])))
def jl(n z:Nat):List L->Option (List L):=λls=>match ls with
 |[.r rows]=>if cC n rows=true/\rows.length*z<=140737488355328 then some []else none
 |_=>none
def vz(f e n z t:Nat):bw:=⟨f,[.c (.p .sl (.v 0))],[],1,0,.v (.c (.own 0)),[(0,.row e (.v 0))],jl n z,t⟩
def aDz(rows)(hR:cC 4 rows=true)(k:rows.length*32<=140737488355328):
 eX Tryz.prog 124 [.c (.p (.sl rows))] [] (.v (.c (.own 0))) [(0,.row 164 rows)]:=by
 refine eX.intro Tryz.func124 kr rfl rfl rfl λX f a=>nK ?_
 refine eT ?_;refine lj (Sp:=λ_=>none) rfl rfl ?_;refine eT ?_;refine eT ?_;refine sX (rows:=rows) (e:=164) rfl (by show 3<8;decide) (by rw[f];exact Tryz.underlying26) ?_;intro b g;refine oI (t:=b) rfl (λh=>?_) (λh=>?_)
 .subst h;cases g rfl;refine eT (lj (Sp:=λ_=>none) rfl rfl (o7 ?_));refine⟨⟨[.v (.c .dead),.v (.c .dead),.v (.c (.own 0)),.v (.c .dead),.v (.c .dead),.v (.c .dead),.v (.c .dead),.v (.c .dead)],[(0,.row 164 [])],[],16⟩,lX.le (ι:=[]) (Z:=[0]) rfl ?_,trivial,rfl,λn b h=>h⟩;have c:X.k0=0:=a;rw[c,f];exact{
          bx:=rfl,old:=by simp[Ren.old],new:=by simp[Ren.new],zs:=λn d=>by
           simp at d;subst d;exact⟨by simp[Ren.new],fu _,by simp,164,rfl,fc kr⟩
          lt:=λx i=>by simp at i
          k0:=fu _
          tmps:=by
           refine⟨trivial,trivial,?_,trivial,trivial,trivial,trivial,trivial,trivial⟩;exact kY.2 rfl
          heap:=λn b h=>.inl (by
           simp only[gb,kJ]at h;split at h
           .rename_i d;simp at d;subst d;simp
           .cases h)}
 .subst h;refine rn ?_;have j:gH ((jx 4 32).a_ [.r rows])=some [.r rows]:=by
   simp[jx,bp.a_,Nd.ev,At.ev,L.bE,gH];rw[bB ⟨om,om,rfl,hR⟩];rfl
  refine lW (vT js .nil oM rfl (show rN TT [] (u6 26 "slices.go:362") 0 [.tmp 2] (wh false)=some ⟨jx 4 32,(.v (.c (.own 0))),[(0,(.row 164 (.v 1)))],1⟩by kernel_rfl) (ls:=[.r rows]) (os:=[.r rows]) rfl j f a) λe st h=>⟨st,λ_ _ h=>h,h⟩
def mc:=jl 4 32
def aoe:bw:=vz 124 164 4 32 2000
def B3:aoe.ok Tryz.prog:=by
 intro ls os d a c;have a:jl 4 32 ls=some os:=a;unfold jl at a;split at a
 .split at a
  .rename_i b;cases a;exact aDz _ b.1 b.2
  .cases a
 .cases a
def apg(rows)(hR:cC 1 rows=true)(k:rows.length*1<=140737488355328):
 eX Tryz.prog 285 [.c (.p (.sl rows))] [] (.v (.c (.own 0))) [(0,.row 5 rows)]:=by
 refine eX.intro Tryz.func285 kr rfl rfl rfl λX f a=>nK ?_
 refine eT ?_;refine lj (Sp:=λ_=>none) rfl rfl ?_;refine eT ?_;refine eT ?_;refine sX (rows:=rows) (e:=5) rfl (by show 3<8;decide) (by rw[f];exact Tryz.underlying95) ?_;intro b g;refine oI (t:=b) rfl (λh=>?_) (λh=>?_)
 .subst h;cases g rfl;refine eT (lj (Sp:=λ_=>none) rfl rfl (o7 ?_));refine⟨⟨[.v (.c .dead),.v (.c .dead),.v (.c (.own 0)),.v (.c .dead),.v (.c .dead),.v (.c .dead),.v (.c .dead),.v (.c .dead)],[(0,.row 5 [])],[],16⟩,lX.le (ι:=[]) (Z:=[0]) rfl ?_,trivial,rfl,λn b h=>h⟩;have c:X.k0=0:=a;rw[c,f];exact{
          bx:=rfl,old:=by simp[Ren.old],new:=by simp[Ren.new],zs:=λn d=>by
           simp at d;subst d;exact⟨by simp[Ren.new],fu _,by simp,5,rfl,fc kr⟩
          lt:=λx i=>by simp at i
          k0:=fu _
          tmps:=by
           refine⟨trivial,trivial,?_,trivial,trivial,trivial,trivial,trivial,trivial⟩;exact kY.2 rfl
          heap:=λn b h=>.inl (by
           simp only[gb,kJ]at h;split at h
           .rename_i d;simp at d;subst d;simp
           .cases h)}
 .subst h;refine rn ?_;have j:gH ((jx 1 1).a_ [.r rows])=some [.r rows]:=by
   simp[jx,bp.a_,Nd.ev,At.ev,L.bE,gH];rw[bB ⟨om,om,rfl,hR⟩];rfl
  refine lW (vT js .nil oM rfl (show rN TT [] (u6 95 "slices.go:362") 0 [.tmp 2] (wh false)=some ⟨jx 1 1,(.v (.c (.own 0))),[(0,(.row 5 (.v 1)))],1⟩by kernel_rfl) (ls:=[.r rows]) (os:=[.r rows]) rfl j f a) λe st h=>⟨st,λ_ _ h=>h,h⟩
def EN:=jl 1 1
def amu:bw:=vz 285 5 1 1 2010
def aeA:amu.ok Tryz.prog:=by
 intro ls os d a c;have a:jl 1 1 ls=some os:=a;unfold jl at a;split at a
 .split at a
  .rename_i b;cases a;exact apg _ b.1 b.2
  .cases a
 .cases a
def aik(rows)(hR:cC 1 rows=true)(k:rows.length*1<=140737488355328):
 eX Tryz.prog 121 [.c (.p (.sl rows))] [] (.v (.c (.own 0))) [(0,.row 5 rows)]:=by
 refine eX.intro Tryz.func121 kr rfl rfl rfl λX f a=>nK ?_
 refine eT ?_;refine lj (Sp:=λ_=>none) rfl rfl ?_;refine eT ?_;refine eT ?_;refine sX (rows:=rows) (e:=5) rfl (by show 3<8;decide) (by rw[f];exact Tryz.underlying95) ?_;intro b g;refine oI (t:=b) rfl (λh=>?_) (λh=>?_)
 .subst h;cases g rfl;refine eT (lj (Sp:=λ_=>none) rfl rfl (o7 ?_));refine⟨⟨[.v (.c .dead),.v (.c .dead),.v (.c (.own 0)),.v (.c .dead),.v (.c .dead),.v (.c .dead),.v (.c .dead),.v (.c .dead)],[(0,.row 5 [])],[],16⟩,lX.le (ι:=[]) (Z:=[0]) rfl ?_,trivial,rfl,λn b h=>h⟩;have c:X.k0=0:=a;rw[c,f];exact{
          bx:=rfl,old:=by simp[Ren.old],new:=by simp[Ren.new],zs:=λn d=>by
           simp at d;subst d;exact⟨by simp[Ren.new],fu _,by simp,5,rfl,fc kr⟩
          lt:=λx i=>by simp at i
          k0:=fu _
          tmps:=by
           refine⟨trivial,trivial,?_,trivial,trivial,trivial,trivial,trivial,trivial⟩;exact kY.2 rfl
          heap:=λn b h=>.inl (by
           simp only[gb,kJ]at h;split at h
           .rename_i d;simp at d;subst d;simp
           .cases h)}
 .subst h;refine rn ?_;have j:gH ((jx 1 1).a_ [.r rows])=some [.r rows]:=by
   simp[jx,bp.a_,Nd.ev,At.ev,L.bE,gH];rw[bB ⟨om,om,rfl,hR⟩];rfl
  refine lW (vT js .nil oM rfl (show rN TT [] (u6 95 "bytes.go:1395") 0 [.tmp 2] (wh false)=some ⟨jx 1 1,(.v (.c (.own 0))),[(0,(.row 5 (.v 1)))],1⟩by kernel_rfl) (ls:=[.r rows]) (os:=[.r rows]) rfl j f a) λe st h=>⟨st,λ_ _ h=>h,h⟩
def qp:=jl 1 1
def aCR:bw:=vz 121 5 1 1 2011
def wB:aCR.ok Tryz.prog:=by
 intro ls os d a c;have a:jl 1 1 ls=some os:=a;unfold jl at a;split at a
 .split at a
  .rename_i b;cases a;exact aik _ b.1 b.2
  .cases a
 .cases a
def ayG(rows)(hR:cC 3 rows=true)(k:rows.length*64<=140737488355328):
 eX Tryz.prog 120 [.c (.p (.sl rows))] [] (.v (.c (.own 0))) [(0,.row 144 rows)]:=by
 refine eX.intro Tryz.func120 kr rfl rfl rfl λX f a=>nK ?_
 refine eT ?_;refine lj (Sp:=λ_=>none) rfl rfl ?_;refine eT ?_;refine eT ?_;refine sX (rows:=rows) (e:=144) rfl (by show 3<8;decide) (by rw[f];exact Tryz.underlying55) ?_;intro b g;refine oI (t:=b) rfl (λh=>?_) (λh=>?_)
 .subst h;cases g rfl;refine eT (lj (Sp:=λ_=>none) rfl rfl (o7 ?_));refine⟨⟨[.v (.c .dead),.v (.c .dead),.v (.c (.own 0)),.v (.c .dead),.v (.c .dead),.v (.c .dead),.v (.c .dead),.v (.c .dead)],[(0,.row 144 [])],[],16⟩,lX.le (ι:=[]) (Z:=[0]) rfl ?_,trivial,rfl,λn b h=>h⟩;have c:X.k0=0:=a;rw[c,f];exact{
          bx:=rfl,old:=by simp[Ren.old],new:=by simp[Ren.new],zs:=λn d=>by
           simp at d;subst d;exact⟨by simp[Ren.new],fu _,by simp,144,rfl,fc kr⟩
          lt:=λx i=>by simp at i
          k0:=fu _
          tmps:=by
           refine⟨trivial,trivial,?_,trivial,trivial,trivial,trivial,trivial,trivial⟩;exact kY.2 rfl
          heap:=λn b h=>.inl (by
           simp only[gb,kJ]at h;split at h
           .rename_i d;simp at d;subst d;simp
           .cases h)}
 .subst h;refine rn ?_;have j:gH ((jx 3 64).a_ [.r rows])=some [.r rows]:=by
   simp[jx,bp.a_,Nd.ev,At.ev,L.bE,gH];rw[bB ⟨om,om,rfl,hR⟩];rfl
  refine lW (vT js .nil oM rfl (show rN TT [] (u6 55 "slices.go:362") 0 [.tmp 2] (wh false)=some ⟨jx 3 64,(.v (.c (.own 0))),[(0,(.row 144 (.v 1)))],1⟩by kernel_rfl) (ls:=[.r rows]) (os:=[.r rows]) rfl j f a) λe st h=>⟨st,λ_ _ h=>h,h⟩
def Hr:=jl 3 64
def aBY:bw:=vz 120 144 3 64 2070
def Mv:aBY.ok Tryz.prog:=by
 intro ls os d a c;have a:jl 3 64 ls=some os:=a;unfold jl at a;split at a
 .split at a
  .rename_i b;cases a;exact ayG _ b.1 b.2
  .cases a
 .cases a
def aAu(rows)(hR:cC 3 rows=true)(k:rows.length*40<=140737488355328):
 eX Tryz.prog 122 [.c (.p (.sl rows))] [] (.v (.c (.own 0))) [(0,.row 147 rows)]:=by
 refine eX.intro Tryz.func122 kr rfl rfl rfl λX f a=>nK ?_
 refine eT ?_;refine lj (Sp:=λ_=>none) rfl rfl ?_;refine eT ?_;refine eT ?_;refine sX (rows:=rows) (e:=147) rfl (by show 3<8;decide) (by rw[f];exact Tryz.underlying142) ?_;intro b g;refine oI (t:=b) rfl (λh=>?_) (λh=>?_)
 .subst h;cases g rfl;refine eT (lj (Sp:=λ_=>none) rfl rfl (o7 ?_));refine⟨⟨[.v (.c .dead),.v (.c .dead),.v (.c (.own 0)),.v (.c .dead),.v (.c .dead),.v (.c .dead),.v (.c .dead),.v (.c .dead)],[(0,.row 147 [])],[],16⟩,lX.le (ι:=[]) (Z:=[0]) rfl ?_,trivial,rfl,λn b h=>h⟩;have c:X.k0=0:=a;rw[c,f];exact{
          bx:=rfl,old:=by simp[Ren.old],new:=by simp[Ren.new],zs:=λn d=>by
           simp at d;subst d;exact⟨by simp[Ren.new],fu _,by simp,147,rfl,fc kr⟩
          lt:=λx i=>by simp at i
          k0:=fu _
          tmps:=by
           refine⟨trivial,trivial,?_,trivial,trivial,trivial,trivial,trivial,trivial⟩;exact kY.2 rfl
          heap:=λn b h=>.inl (by
           simp only[gb,kJ]at h;split at h
           .rename_i d;simp at d;subst d;simp
           .cases h)}
 .subst h;refine rn ?_;have j:gH ((jx 3 40).a_ [.r rows])=some [.r rows]:=by
   simp[jx,bp.a_,Nd.ev,At.ev,L.bE,gH];rw[bB ⟨om,om,rfl,hR⟩];rfl
  refine lW (vT js .nil oM rfl (show rN TT [] (u6 142 "slices.go:362") 0 [.tmp 2] (wh false)=some ⟨jx 3 40,(.v (.c (.own 0))),[(0,(.row 147 (.v 1)))],1⟩by kernel_rfl) (ls:=[.r rows]) (os:=[.r rows]) rfl j f a) λe st h=>⟨st,λ_ _ h=>h,h⟩
def LC:=jl 3 40
def amn:bw:=vz 122 147 3 40 2071
def XR:amn.ok Tryz.prog:=by
 intro ls os d a c;have a:jl 3 40 ls=some os:=a;unfold jl at a;split at a
 .split at a
  .rename_i b;cases a;exact aAu _ b.1 b.2
  .cases a
 .cases a
def afp(rows)(hR:cC 14 rows=true)(k:rows.length*240<=140737488355328):
 eX Tryz.prog 123 [.c (.p (.sl rows))] [] (.v (.c (.own 0))) [(0,.row 150 rows)]:=by
 refine eX.intro Tryz.func123 kr rfl rfl rfl λX f a=>nK ?_
 refine eT ?_;refine lj (Sp:=λ_=>none) rfl rfl ?_;refine eT ?_;refine eT ?_;refine sX (rows:=rows) (e:=150) rfl (by show 3<8;decide) (by rw[f];exact Tryz.underlying58) ?_;intro b g;refine oI (t:=b) rfl (λh=>?_) (λh=>?_)
 .subst h;cases g rfl;refine eT (lj (Sp:=λ_=>none) rfl rfl (o7 ?_));refine⟨⟨[.v (.c .dead),.v (.c .dead),.v (.c (.own 0)),.v (.c .dead),.v (.c .dead),.v (.c .dead),.v (.c .dead),.v (.c .dead)],[(0,.row 150 [])],[],16⟩,lX.le (ι:=[]) (Z:=[0]) rfl ?_,trivial,rfl,λn b h=>h⟩;have c:X.k0=0:=a;rw[c,f];exact{
          bx:=rfl,old:=by simp[Ren.old],new:=by simp[Ren.new],zs:=λn d=>by
           simp at d;subst d;exact⟨by simp[Ren.new],fu _,by simp,150,rfl,fc kr⟩
          lt:=λx i=>by simp at i
          k0:=fu _
          tmps:=by
           refine⟨trivial,trivial,?_,trivial,trivial,trivial,trivial,trivial,trivial⟩;exact kY.2 rfl
          heap:=λn b h=>.inl (by
           simp only[gb,kJ]at h;split at h
           .rename_i d;simp at d;subst d;simp
           .cases h)}
 .subst h;refine rn ?_;have j:gH ((jx 14 240).a_ [.r rows])=some [.r rows]:=by
   simp[jx,bp.a_,Nd.ev,At.ev,L.bE,gH];rw[bB ⟨om,om,rfl,hR⟩];rfl
  refine lW (vT js .nil oM rfl (show rN TT [] (u6 58 "slices.go:362") 0 [.tmp 2] (wh false)=some ⟨jx 14 240,(.v (.c (.own 0))),[(0,(.row 150 (.v 1)))],1⟩by kernel_rfl) (ls:=[.r rows]) (os:=[.r rows]) rfl j f a) λe st h=>⟨st,λ_ _ h=>h,h⟩
def D1:=jl 14 240
def aep:bw:=vz 123 150 14 240 2072
def aaG:aep.ok Tryz.prog:=by
 intro ls os d a c;have a:jl 14 240 ls=some os:=a;unfold jl at a;split at a
 .split at a
  .rename_i b;cases a;exact afp _ b.1 b.2
  .cases a
 .cases a
def amT(rows)(hR:cC 1 rows=true)(k:rows.length*24<=140737488355328):
 eX Tryz.prog 125 [.c (.p (.sl rows))] [] (.v (.c (.own 0))) [(0,.row 95 rows)]:=by
 refine eX.intro Tryz.func125 kr rfl rfl rfl λX f a=>nK ?_
 refine eT ?_;refine lj (Sp:=λ_=>none) rfl rfl ?_;refine eT ?_;refine eT ?_;refine sX (rows:=rows) (e:=95) rfl (by show 3<8;decide) (by rw[f];exact Tryz.underlying29) ?_;intro b g;refine oI (t:=b) rfl (λh=>?_) (λh=>?_)
 .subst h;cases g rfl;refine eT (lj (Sp:=λ_=>none) rfl rfl (o7 ?_));refine⟨⟨[.v (.c .dead),.v (.c .dead),.v (.c (.own 0)),.v (.c .dead),.v (.c .dead),.v (.c .dead),.v (.c .dead),.v (.c .dead)],[(0,.row 95 [])],[],16⟩,lX.le (ι:=[]) (Z:=[0]) rfl ?_,trivial,rfl,λn b h=>h⟩;have c:X.k0=0:=a;rw[c,f];exact{
          bx:=rfl,old:=by simp[Ren.old],new:=by simp[Ren.new],zs:=λn d=>by
           simp at d;subst d;exact⟨by simp[Ren.new],fu _,by simp,95,rfl,fc kr⟩
          lt:=λx i=>by simp at i
          k0:=fu _
          tmps:=by
           refine⟨trivial,trivial,?_,trivial,trivial,trivial,trivial,trivial,trivial⟩;exact kY.2 rfl
          heap:=λn b h=>.inl (by
           simp only[gb,kJ]at h;split at h
           .rename_i d;simp at d;subst d;simp
           .cases h)}
 .subst h;refine rn ?_;have j:gH ((jx 1 24).a_ [.r rows])=some [.r rows]:=by
   simp[jx,bp.a_,Nd.ev,At.ev,L.bE,gH];rw[bB ⟨om,om,rfl,hR⟩];rfl
  refine lW (vT js .nil oM rfl (show rN TT [] (u6 29 "slices.go:362") 0 [.tmp 2] (wh false)=some ⟨jx 1 24,(.v (.c (.own 0))),[(0,(.row 95 (.v 1)))],1⟩by kernel_rfl) (ls:=[.r rows]) (os:=[.r rows]) rfl j f a) λe st h=>⟨st,λ_ _ h=>h,h⟩
def R2:=jl 1 24
def ayQ:bw:=vz 125 95 1 24 2073
def aqR:ayQ.ok Tryz.prog:=by
 intro ls os d a c;have a:jl 1 24 ls=some os:=a;unfold jl at a;split at a
 .split at a
  .rename_i b;cases a;exact amT _ b.1 b.2
  .cases a
 .cases a
def aqS{s:bw}(h:s.ok Tryz.prog)(f:s.H=[])(g:s.res=.v (.c (.sub 0 (.i 0) (.i 0)))){e x}(i:s.out=[(0,.row e x)])(b):
 bw.ok Tryz.prog ⟨s.f,s.params,[],s.iM,0,.v (.c (.own 0)),[(0,.row e .r0)],λls=>match s.F ls with|some os=>if os.length=s.kF then some []else none|none=>none,b⟩:=by
 intro ls os j a k;have a:(match s.F ls with|some os=>if os.length=s.kF then some []else none|none=>none)=some os:=a;split at a
 .rename_i c d;split at a
  .rename_i hlen;cases a;have:=h ls c j d hlen;rw[f,g,i]at this;exact eX.aBZ this
  .cases a
 .cases a
end
end
end Go.Proofs.YtiikkkhcolcebaaGreatDoor
