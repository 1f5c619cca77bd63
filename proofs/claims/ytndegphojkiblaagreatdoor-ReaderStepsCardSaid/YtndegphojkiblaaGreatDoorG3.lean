/- A part. -/
import Derived.Test.YtndegphojkiblaaGreatDoorG2
import Derived.MapKept
set_option linter.all false
set_option maxHeartbeats 4000000
set_option maxRecDepth 100000
namespace Go.Proofs.YtndegphojkiblaaGreatDoor
noncomputable section
section
open Go.RowKit
open Classical
def gl(l:List Int):List (List PV):=l.map λn=>[.sc (.int .u8 n)]
def tD:List PV->Option Int
 |[.sc (.int .u8 n)]=>some n
 |_=>none
def lh(rows:List (List PV)):Option (List Int):=rows.mapM tD
theorem R1(l):lh (gl l)=some l:=by
 unfold lh gl
 induction l with
 |nil=>rfl
 |cons n l ih=>simp_all[tD]
theorem R7(l):ff 1 (gl l):=by intro r b;simp[gl]at b;obtain⟨n,_,rfl⟩:=b;rfl
theorem AE(l):(gl l).length=l.length:=by simp[gl]
theorem abK(l)(n:Nat):(gl l)[n]?=(l[n]?).map λn=>[.sc (.int .u8 n)]:=by simp[gl]
def kT(P:cD)(st:bz)(s d:cg)(x:cF):Option V:=
 match st.arg x with
 |some (.v (.c (.p (.sc (.int _ n)))))=>match P.underlying s,P.underlying d with
  |some _,some (.int k)=>some (.sc (.int k (k.wrap n)))
  |_,_=>none
 |some (.v (.c (.p (.sc (.string b)))))=>match P.underlying s,P.underlying d with
  |some .string,some .string=>some (.sc (.string b))
  |_,_=>none
 |some (.v (.c c))=>match st.view c,P.underlying s,P.underlying d with
  |some rows,some (.slice e),some .string=>match P.underlying e,lh rows with
   |some (.int .u8),some l=>some (.sc (.string (strOfNums l)))
   |_,_=>none
  |_,_,_=>none
 |_=>none
section
variable{X:Fx}{E:Env}{st:bz}{a:Act}{w:cp}
theorem Rel.D0(h:Rel X E st a w){x c rows}(d:st.arg x=some (.v (.c c)))(k:st.view c=some rows):Rows (bad X.M E) w rows (a.eval x):=
 h.view (h.cY d).1 (h.cY d).2.2 k
theorem apw(h:Rel X E st a w){s d x v}
 (j:kT X.P st s d x=some v):∃u,(convert s d (a.eval x)).run X.P w=.ok u w/\RV X.M E w v u:=by
 unfold kT at j;split at j
 .rename_i k n z;have H:=RP.ei (h.cY z).1;split at j
  .rename_i ds T m p;simp at j;subst j;refine⟨_,?_,.sc rfl⟩;rw[H];simp[convert,run_underlying m,run_underlying p,Conv.intToInt]
  .cases j
 .rename_i b z;have H:=RP.ei (h.cY z).1;split at j
  .rename_i m p;simp at j;subst j;refine⟨_,?_,.sc rfl⟩;rw[H];simp[convert,run_underlying m,run_underlying p]
  .cases j
 .rename_i c _ _ z;split at j
  .rename_i rows e hp m p;split at j
   .rename_i l q I;simp at j;subst j;refine⟨_,?_,.sc rfl⟩;have J:=h.D0 z hp;obtain⟨B,K⟩:=qg I;rcases J with⟨rfl,A,cap,t⟩| ⟨g,o,cap,sz,f,t,U,S,V,N,O⟩
    .rw[t];simp[lh]at I;subst I
     cases A with
     |none=>exact run_convert_bytes_nil w s e m q 0 cap d p
     |some A=>
      rw[run_convert_bytes_string w s d e _ 0 cap m q p];rfl
    .rw [t];have key:∀(i:Nat)(r:List PV),rows[i]?=some r->∃n,l[i]?=some n/\r=[.sc (.int .u8 n)]:=by
      intro i r D;have F:i<l.length:=by rw[B];exact(dW.1 D).1
      obtain⟨W,G,y⟩:=K i _ (cW F);rw[D]at G;cases G;refine⟨_,cW F,?_⟩;unfold tD at y;split at y
      .simp at y;rw[y]
      .cases y
     have P:sz=1:=by
      cases rows with
      |nil=>simp_all
      |cons r rs=>
       obtain⟨n,_,Y⟩:=key 0 r rfl;have:=N r (by simp);simp_all
     subst P;refine run_convert_bytes_arg w s e m q g o rows.length cap l B (λi D=>?_) d p;obtain⟨n,G,y⟩:=key i _ (cW D);obtain⟨Q,R⟩:=O i _ 0 (.sc (.int .u8 n)) (cW D) (by rw[y];rfl);have R:=RP.ei R;rw[R]at Q;simp only[P7,l_]at Q;rw[Q];simp[List.getD,G]
   .cases j
  .cases j
 .cases j
def oe(P:cD)(st:bz)(t:cg)(x:cF):Option V:=
 match st.arg x with
 |some (.v (.c (.p (.sc (.string b)))))=>match P.underlying t with
  |some .string=>some (.sc (.int .i64 b.size))
  |_=>none
 |some (.v (.c c))=>match st.view c,P.underlying t with
  |some rows,some (.slice _)=>some (.sc (.int .i64 rows.length))
  |_,_=>none
 |_=>none
theorem Rows.len{M w rows v}(h:Rows M w rows v):∃A cap,v=.slice A rows.length cap/\(rows≠ []->rows.length<=cap/\∃g o,A=some ⟨g,o,none⟩):=by
 rcases h with⟨rfl,A,cap,rfl⟩| ⟨g,o,cap,sz,f,rfl,k,d,_⟩
 .simp_all
 .exact⟨_,cap,rfl,λ_=>⟨d,g,o,rfl⟩⟩
theorem adH(h:Rel X E st a w){t ty x v}
 (d:oe X.P st t x=some v):∃u,(Builtin.len_ #[t] ty #[a.eval x]).run X.P w=.ok u w/\RV X.M E w v u:=by
 unfold oe at d;split at d
 .rename_i b g;have j:=RP.ei (h.cY g).1;split at d
  .rename_i i;simp at d;subst d;refine⟨_,?_,.sc rfl⟩;rw[j];simp[Builtin.len_,run_underlying i,goInt]
  .cases d
 .rename_i c _ g;split at d
  .rename_i rows e hp i;simp at d;subst d;refine⟨_,?_,.sc rfl⟩;obtain⟨A,cap,k,_⟩:=(h.D0 g hp).len;rw[k];simp[Builtin.len_,run_underlying i,goInt]
  .cases d
 .cases d
def vQ:UnOp->cr->Option cr
 |.not,.bool b=>some (.bool (!b))
 |.neg,.int k n=>some (.int k (k.wrap (0-n)))
 |.xor,.int k n=>some (bitsOf k (BitVec.ofInt k.bits (if k.signed then-1 else k.max) ^^^BitVec.ofInt k.bits n))
 |_,_=>none
theorem aiz{P op u v}(h:vQ op u=some v)(w):(Op.unary op u).run P w=.ok v w/\flat v=true:=by
 unfold vQ at h;split at h
 .simp at h;subst h;exact⟨rfl,rfl⟩
 .simp at h;subst h;exact⟨by simp[Op.unary,Op.intArith],rfl⟩
 .simp at h;subst h;exact⟨by rfl,rfl⟩
 .cases h
def C.pv:C->Option PV
 |.p q=>some q
 |.nil=>some (.sl [])
 |_=>none
theorem RC.pv{M E w c v p}(h:RC M E w c v)(hp:c.pv=some p):RP (bad M E) w p v:=by
 cases c with
 |p q=>simp[C.pv]at hp;subst hp;exact h
 |nil=>simp[C.pv]at hp;subst hp;cases h;exact .nil
 |_=>cases hp
def oi(cs:List C):Option (List PV):=cs.mapM C.pv
def v7(P:cD)(st:bz)(d:Nat)(t:cg)(l c:cF):Option (V×im):=
 match fk P t,st.arg l,st.arg c with
 |some e,some (.v (.c (.p (.sc (.int _ n))))),some (.v (.c (.p (.sc (.int _ m)))))=>match jE P e,qh P e with
  |some (_,b),some g=>match oi g with
   |some z=>if n=m/\0<=n/\n<=9223372036854775807/\b*n.toNat<=281474976710656 then some (.c (.own d),⟨[(d,.row e (List.replicate n.toNat z))],[]⟩)else none
   |none=>none
  |_,_=>none
 |_,_,_=>none
theorem alw(h:Rel X E st a w){d}(hd:E.N d=none)(H:X.k0<=d)(I:d<st.next){t l c v ef}
 (g:v7 X.P st d t l c=some (v,ef)):
 ∃u w' E',(Instr.makeSlice t (a.eval l) (a.eval c)).run X.P w=.ok u w'/\(∀n,n≠d->E.N n=none->E'.N n=none)/\Rel X E' (st.dQ ef) a w'/\RV X.M E' w' v u:=by
 unfold v7 at g;split at g
 .rename_i e k1 n k2 m ht hl hc;obtain⟨hu,ag⟩:=ow ht;have h3:=RP.ei (h.cY hl).1;have h4:=RP.ei (h.cY hc).1;split at g
  .rename_i k b zs s hz;obtain⟨i,z,hi,x,y,A,J,K,N⟩:=wF s;obtain⟨B,z',D,j,F⟩:=yH (M:=X.M) (E:=E) (w:=w) hz;rw[hi]at D;cases D;rw[x]at j;cases j;split at g
   .rename_i G O;split at g
    .rename_i o;obtain⟨rfl,h0,Q,hb⟩:=o;have hm:n.toNat<=maxLen:=by simp only[maxLen];omega
     cases g;obtain⟨R,S⟩:=qg O;have T:G.length=k:=by rw[R,<-F.1,y]
     have U:n<=9223372036854775807:=Q;have V:(i.bytes:Int)*n<=281474976710656:=by
      rw[K];have:((b*n.toNat:Nat):Int)<=281474976710656:=om
      rwa [Int.natCast_mul,Br h0]at this
     have W:=run_make (P:=X.P) w t e i z hu hi x k1 k2 n n h0 (GS _) V U;rw[J]at W;have hR:ff k (List.replicate n.toNat G):=λr W=>by simp_all
     have Y:=h.uE hd H I (e:=e) A N.symm (rows:=List.replicate n.toNat G) hR (cap:=n.toNat) (by simp) hm (us:=madeCells z.cells (n.toNat*k)) (by rw[size_madeCells]) (λB r q p h5 h6=>by
      have Z:r=G:=(GU.1 (dB h5)).2;subst Z;have aa:B<n.toNat:=by have:=(dW.1 h5).1;simpa using this
      have ab:q<k:=by rw[<-T];exact(dW.1 h6).1
      obtain⟨cc,h7,h8⟩:=S q p h6;obtain⟨u',h9,ad,_⟩:=F.2 q cc h7;have ae:B*k+q<n.toNat*k:=by
       have:(B+1)*k<=n.toNat*k:=fX _ aa;rw[nS]at this;omega
      refine⟨u',?_,RC.pv ad h8⟩;simp only[madeCells,Array.getElem?_map,Array.getElem?_range,ae,if_true,bS,iQ];rw[y,show(B*k+q)%k=q by rw[P6,acX,GW ab]];simp_all) (wd:=w) (.inl rfl)
     simp only[mT]at Y;exact⟨_,_,_,by rw[h3,h4];exact W,λk hk af=>by rw[Env.lp hk];exact af,Y.1,Y.2⟩
    .cases g
   .cases g
  .cases g
 .cases g
def p9(P:cD)(st:bz)(t:cg)(x y:cF):Option (V×im):=
 match fk P t,st.arg x,st.arg y with
 |some e,some (.v (.c d)),some (.v (.c g))=>match st.view d,st.view g with
  |some _,some src=>match d with
   |.own n=>match st.heap.lookup n with
    |some (.row b rows)=>let m:=min src.length rows.length
     if b=e/\cf (dV P e) src=true then some (.sc (.int .i64 m),⟨[(n,.row e (src.take m++rows.drop m))],[]⟩)else none
    |_=>none
   |.sub n c len=>match st.heap.lookup n with
    |some (.row b rows)=>let m:=min src.length len
     if b=e/\cf (dV P e) src=true/\c+len<=rows.length then some (.sc (.int .i64 m),⟨[(n,.row e (rows.take c++src.take m++rows.drop (c+m)))],[]⟩)else none
    |_=>none
   |_=>none
  |_,_=>none
 |_,_,_=>none
theorem auv(h:Rel X E st a w){t t2 ty x y v ef}(q:p9 X.P st t x y=some (v,ef)):
 ∃u w',(Builtin.copy_ #[t,t2] ty #[a.eval x,a.eval y]).run X.P w=.ok u w'/\Rel X E (st.dQ ef) a w'/\RV X.M E w' v u:=by
 unfold p9 at q;split at q
 .rename_i e cx cy ht hx hy;obtain⟨hu,aa⟩:=ow ht;split at q
  .rename_i ak src ay al;have ab:=h.D0 hy al;have key : ∀(n d len:Nat)(F:cg)(rows:List (List PV)),n∉st.bt->st.heap.lookup n=some (.row F rows)->F=e->cf (dV X.P e) src=true->d+len<=rows.length->
    (∃z A c,E.N n=some z/\a.eval x=.slice A len c/\(0<len->∃g,z.g=some g/\A=some ⟨g,d*z.sz,none⟩))->
    ∃u w',(Builtin.copy_ #[t,t2] ty #[a.eval x,a.eval y]).run X.P w=.ok u w'/\Rel X E (st.dQ ⟨[(n,.row e (rows.take d++src.take (min src.length len)++rows.drop (d+min src.length len)))],[]⟩) a w'/\RV X.M E w' (.sc (.int .i64 (min src.length len:Nat))) u:=by
    rintro n d len F rows s J rfl hR hlen ⟨z,A,c,hN,am,hA⟩;rw[nL]at hR;obtain⟨z',o,fz,k1,H,k2,k3,k4,k5,k6,k7,k8,k9,an,ao⟩:=h.row s J;rw[hN]at k1;cases k1;have ad:dV X.P F=z.sz:=k7.symm;rw[ad]at hR;have ap:(src.take (min src.length len)).length=min src.length len:=by simp
    have ae:ff z.sz (rows.take d++src.take (min src.length len)++rows.drop (d+min src.length len)):=((k9.take _).app (hR.take _)).app (λr hr=>k9 r (pa hr));rw[am];by_cases h0:min src.length len=0
    ·
     have hrow:rows.take d++src.take 0++rows.drop (d+0)=rows:=by simp
     have hres:(Builtin.copy_ #[t,t2] ty #[.slice A len c,a.eval y]).run X.P w=.ok (.int .i64 0) w:=by
      obtain⟨B,cap,hv,hB⟩:=ab.len;have aq:Nat.min src.length len=0:=h0;rw[hv];obtain⟨i,Q⟩:=xD.1 aa;cases A<;>cases B<;>simp[Builtin.copy_,run_underlying hu,Builtin.lenOf,Builtin.firstCells,sizeOf,typeInfo,Q,aq,loadCells,loadCellsFrom,storeCells,goInt]
     refine⟨_,w,hres,?_,?_⟩
     .have R:=h.step ⟨[(n,.row F rows)],[]⟩ (E':=E) (w':=w) (nx:=st.next) (dx _) ⟨λ_ _ _ h1 h2=>⟨h1,h2⟩,λ_ _ h=>.inr h,λ_ h=>h⟩ (by simp[h.bt]) h.frame h.dD h.names h.inj (λ_ _=>.inr rfl) (by simp) (λ_ _ _ _ _ _ _=>rfl) (λm b hb=>by
       simp only[hX,nR]at hb;split at hb
       .rename_i af;simp at af;subst af;cases hb;exact .inr (h.row s J)
       .cases hb)
      rw[h0,hrow];exact R
     .rw[h0];exact .sc rfl
    .have S:0<len:=om;obtain⟨g,K,hA⟩:=hA S;subst hA;have hblk:=k2 g K;have T:src≠ []:=by rintro rfl;simp at h0
     rcases ab.src hR with⟨h1,_⟩| ⟨gs,os,cap,news,ar,az,U,hcell,ag,hval⟩
     .exact absurd h1 T
     .have ax:d*z.sz+(min src.length len)*z.sz<=o.size:=by
       rw[k8,<-jY];exact fX _ om
      have hnews:(news.take (min src.length len*z.sz)).length=min src.length len*z.sz:=by
       rw[eA,U];exact u7 (fX _ (acY _ _))
      have G:=run_loadCells (P:=X.P) w ⟨gs,os,none⟩ (min src.length len*z.sz) (λj=>(news[j]?).getD undef) (λj N=>by
       have I:j<news.length:=by rw[U];exact mO N (fX _ (acY _ _))
       rw[hcell j _ (cW I)];simp[I])
      have V:(List.range (min src.length len*z.sz)).map (λj=>(news[j]?).getD undef)=news.take (min src.length len*z.sz):=by
       apply sv;intro j;rw[cN,sr];split
       .rename_i N;have I:j<news.length:=by rw[U];exact mO N (fX _ (acY _ _))
        simp[u9 N,I]
       .simp;omega
      have D:=z7 X.P g (d*z.sz) F fz (news.take (min src.length len*z.sz)) 0 o w H hblk om (λu hu=>ag u (iR hu));have hn:Nat.min src.length len=min src.length len:=rfl;have hw :=(h.write hN K hblk ((o.toList.take (d*z.sz)++news.take (min src.length len*z.sz)++o.toList.drop (d*z.sz+(news.take (min src.length len*z.sz)).length)).toArray) [] (by simp) (.row F (rows.take d++src.take (min src.length len)++rows.drop (d+min src.length len))) (λhG ah _=>by
       refine⟨z,_,fz,by exact hN,(by
        have e1:(o.toList.take (d*z.sz)++news.take (min src.length len*z.sz)++o.toList.drop (d*z.sz+(news.take (min src.length len*z.sz)).length)).toArray.size=o.size:=by simp[hnews];omega
        rw[e1];exact H),λg' ai=>by rw[K]at ai;cases ai;exact ah,by simp;omega,k4,k5,k6,k7,by simp;omega,ae,an,λi r j p Q N=>?_⟩
       have aA:j<z.sz:=by rw[<-ae r (dB Q)];exact(dW.1 N).1
       rw[hnews]at hG;rw[Bp,rl (by rw[hnews];omega),hnews];have aj:=rl (l:=rows) (ys:=src.take (min src.length len)) (off:=d) (k:=i) om;rw[ap]at aj;rw[aj]at Q;split at Q
       .have au:(i-d+1)*z.sz<=min src.length len*z.sz:=fX _ om;have e1:i*z.sz=d*z.sz+(i-d)*z.sz:=by rw[<-jY];congr 1;omega
        rw[nS]at au;rw[bF om,sr,bF om];obtain⟨u,q1,q2⟩:=hval _ r j p (CH Q).1 N;exact⟨u,by rw[<-q1];congr 1;omega,q2.goes hG⟩
       .rename_i O;have av:¬(d*z.sz<=i*z.sz+j/\i*z.sz+j<d*z.sz+min src.length len*z.sz):=by
         rintro⟨q1,q2⟩;apply O;rw[<-jY]at q2;refine⟨?_,?_⟩
         .rcases qs i d with Y|Y
          .have:(i+1)*z.sz<=d*z.sz:=fX _ Y;rw[nS]at this;omega
          .exact Y
         .rcases qs i (d+min src.length len)with Y|Y
          .exact Y
          .have:(d+min src.length len)*z.sz<=i*z.sz:=fX _ Y;omega
        rw[bO av];obtain⟨u,q1,q2⟩:=ao i r j p Q N;exact⟨u,by simpa using q1,q2.goes hG⟩)).2
      refine⟨.int .i64 (min src.length len:Nat),_,?_,hw,.sc rfl⟩;rw[ar];rw[V]at G;generalize w.setRow g _=W at D⊢;simp[Builtin.copy_,run_underlying hu,Builtin.lenOf,Builtin.firstCells,run_sizeOf w aa,ad,hn,G,goInt];rw[D];rfl
   split at q
   .rename_i n;have s:=(h.cY hx).2.2 n (by simp[C.names]);split at q
    .rename_i F rows J;split at q
     .rename_i O;cases q;obtain⟨z,k1,k2⟩:=cS.get (h.cY hx).1 (h.ig hx (n:=n) (by simp[C.names]));obtain⟨z',o,fz,j1,H,j2,j3,j4,j5,j6,j7,j8,j9,Z,aw⟩:=h.row s J;rw[k1]at j1;cases j1;have:=key n 0 rows.length F rows s J O.1 O.2 om ⟨z,_,_,k1,by rw[<-j3];exact k2,λh0=>by
       cases K:z.g with
       |none=>have:=Z K;omega
       |some g=>exact⟨g,rfl,by simp⟩⟩
      simpa using this
     .cases q
    .cases q
   .rename_i n d len;have s:=(h.cY hx).2.2 n (by simp[C.names]);split at q
    .rename_i F rows J;split at q
     .rename_i O;cases q;obtain⟨z,k1,k2,A,k3,k4⟩:=cS.get (h.cY hx).1 (h.ig hx (n:=n) (by simp[C.names]));obtain⟨z',o,fz,j1,H,j2,j3,j4,j5,j6,j7,j8,j9,Z,aw⟩:=h.row s J;rw[k1]at j1;cases j1;exact key n d len F rows s J O.1 O.2.1 O.2.2 ⟨z,_,_,k1,k3,λh0=>by
       cases K:z.g with
       |none=>have:=Z K;omega
       |some g=>exact⟨g,rfl,by rw[k4 (.inl om),K];rfl⟩⟩
     .cases q
    .cases q
   .cases q
  .cases q
 .cases q
end
structure Own(P:cD)(f:FuncId):Prop where
 fn:∃fn,P.funcs[f]?=some fn/\(fn.name== "runtime.NumGoroutine")=false/\fn.body.isNone=false
def hp(H:List eD):Hp:=H.zipIdx.map λx=>(x.2,x.1)
theorem aay:∀(H:List eD)(k n),List.lookup n ((H.zipIdx k).map λx=>(x.2,x.1))=if k<=n then H[n-k]? else none
 |[],k,n=>by simp
 |b::H,k,n=>by
  simp only[acT,ct,hX,aay H (k+1) n];by_cases h:n=k
  .subst h;simp
  .rw[beq_eq_false_iff_ne.2 h];by_cases c:k<=n
   .rw[bF c,bF om];obtain⟨m,rfl⟩:∃m,n=k+1+m:=⟨n- (k+1),om⟩
    simp[show k+1+m-k=m+1 by omega]
   .rw[bO c,bO om]
theorem Z'(H)(n):(hp H).lookup n=H[n]?:=by simp[hp,aay]
structure wG(N:Nat->Option Nm)(k:Nat)(w w':cp)(E':Env):Prop where
 bt:E'.bt=[]
 names:∀n x g,E'.N n=some x->x.g=some g->g<w'.heap.size/\((∃m y,N m=some y/\y.g=some g)\/w.heap.size<=g)
 inj:∀n m x y g,E'.N n=some x->E'.N m=some y->x.g=some g->y.g=some g->n=m
 ec:∀m,m<k->E'.N m=none\/E'.N m=N m
structure fg(P:cD)(f:FuncId)(args:List V1)(H:List eD)(r:V)(H':Hp):Prop where
 own:Own P f
 call:∀(w:cp)(M:fJ)(N:Nat->Option Nm)(vals:Array cr),(∀g,M g->g<w.heap.size)->(∀n x,N n=some x->n<H.length)->
  (∀n x g,N n=some x->x.g=some g->g<w.heap.size/\¬M g)->(∀n m x y g,N n=some x->N m=some y->x.g=some g->y.g=some g->n=m)->
  (∀n b,H[n]?=some b->RB P M ⟨N,[]⟩ w n b)->vals.size=args.length->
  (∀(i:Nat)(x:V1),args[i]?=some x->∃u,vals[i]?=some u/\dR M ⟨N,[]⟩ w x u)->
  Calls P f vals w λe w'=>∃v E',e=.returned v/\Frame (λg=>∃n x,N n=some x/\x.g=some g) w w'/\wG N H.length w w' E'/\
   (∀n b,H'.lookup n=some b->RB P M E' w' n b)/\RV M E' w' r v
def C.dK(ρ:Nat->Nat):C->C
 |.own n=>.own (ρ n)| .sub n d len=>.sub (ρ n) d len| .ptr n off=>.ptr (ρ n) off| .dy n i j=>.dy (ρ n) i j| .mp n=>.mp (ρ n)| .fn f dE=>.fn f (dE.map ρ)|c=>c
def V1.on(f:C->C):V1->V1
 |.c x=>.c (f x)
 |.agg xs=>.agg (xs.map f)
def V.on(f:C->C):V->V
 |.v x=>.v (x.on f)
 |.bq xs=>.bq (xs.map (V1.on f))
def eD.on(f:C->C):eD->eD
 |.box cs=>.box (cs.map f)
 |b=>b
def eD.names:eD->List Nat
 |.box cs=>cs.flatMap C.names
 |_=>[]
def Hp.dK(ρ:Nat->Nat)(H:Hp):Hp:=H.map λx=>(ρ x.1,x.2.on (C.dK ρ))
def PV.bare:PV->Bool
 |.sc _=>true
 |.sl rows=>rows.isEmpty
def C.bare:C->Bool
 |.p q=>q.bare
 |.ref _=>false
 |_=>true
def V1.bare:V1->Bool
 |.c x=>x.bare
 |.agg xs=>xs.all C.bare
def V.bare:V->Bool
 |.v x=>x.bare
 |.bq xs=>xs.all V1.bare
def eD.bare:eD->Bool
 |.box cs=>cs.all C.bare
 |.row _ rows=>rows.all (·.all PV.bare)
 |.map d=>d.all (·.2.all PV.bare)
theorem RP.bare{M M' w q v}(d:q.bare=true)(h:RP M w q v):RP M' w q v:=by
 cases h with
 |sc h=>exact .sc h
 |nil=>exact .nil
 |row k=>simp[PV.bare]at d;exact absurd d k
section
variable{M M':fJ}{E E':Env}{w:cp}{f:C->C}
theorem dR.on(k:∀c v,RC M E w c v->RC M' E' w (f c) v){x v}(h:dR M E w x v):dR M' E' w (x.on f) v:=by
 cases x with
 |c c=>exact k c v h
 |agg cs=>
  obtain⟨us,q,t,A⟩:=h;refine⟨us,q,by simp[t],λi c m=>?_⟩;simp only[cN,bY]at m;obtain⟨o,d,rfl⟩:=m;obtain⟨u,B,D,F⟩:=A i o d;exact⟨u,B,k o u D,F⟩
theorem RV.on(k:∀c v,RC M E w c v->RC M' E' w (f c) v){x v}(h:RV M E w x v):RV M' E' w (x.on f) v:=by
 cases x with
 |v x=>exact dR.on k h
 |bq xs=>
  obtain⟨us,o,q,t⟩:=h;refine⟨us,o,by simp[q],λi c m=>?_⟩;simp only[cN,bY]at m;obtain⟨A,d,rfl⟩:=m;obtain⟨u,B,D⟩:=t i A d;exact⟨u,B,dR.on k D⟩
theorem RC.dK{ρ c v}(d:iP (bad M E) (bad M' E') w w\/c.bare=true)(F:∀n∈c.names,n∉E.bt/\∀x,E.N n=some x->E'.N (ρ n)=some x)(h:RC M E w c v):RC M' E' w (c.dK ρ) v:=by
 have nm:∀n(Q:Nm->Prop),n∈c.names->cS E n Q->cS E' (ρ n) Q:=by
  intro n Q G J;obtain⟨x,k,t⟩:=cS.get J (F n G).1;exact .inr ⟨x,(F n G).2 x k,t⟩
 cases c with
 |p q=>exact d.elim (λd=>RP.trans h d) (λK=>RP.bare K h)
 |nil=>exact h
 |own n=>exact nm n _ (by simp[C.names]) h
 |sub n O len=>exact nm n _ (by simp[C.names]) h
 |ptr n off=>exact nm n _ (by simp[C.names]) h
 |dy n i j=>exact nm n _ (by simp[C.names]) h
 |ref cells=>
  rcases d with d|d
  .obtain⟨g,o,k,t⟩:=h;refine⟨g,o,k,λj p N=>?_⟩;obtain⟨u,A,B,D⟩:=t j p N;exact⟨u,A,(d _ _ _ A B).2,D.trans d⟩
  .cases d
 |fn f dE=>
  obtain⟨us,k,t,A⟩:=h;refine⟨us,k,by simp[t],λi n H=>?_⟩;simp only[cN,bY]at H;obtain⟨m,I,rfl⟩:=H;obtain⟨u,B,D⟩:=A i m I;exact⟨u,B,nm m _ (by exact dB I) D⟩
 |mp n=>exact nm n _ (by simp[C.names]) h
 |dead=>trivial
theorem RB.dK{P ρ n b}(F:iP (bad M E) (bad M' E') w w\/b.bare=true)(G:∀x,E.N n=some x->E'.N (ρ n)=some x)(Z:∀n∈b.names,n∉E.bt/\∀x,E.N n=some x->E'.N (ρ n)=some x)(h:RB P M E w n b):
 RB P M' E' w (ρ n) (b.on (C.dK ρ)):=by
 have rp:∀{q:PV}{v:cr},(b.bare=true->q.bare=true)->RP (bad M E) w q v->RP (bad M' E') w q v:=λd U=>F.elim (λF=>U.trans F) (λh=>RP.bare (d h) U)
 cases b with
 |box cs=>
  obtain⟨x,g,k,e,o,H,t,A,I⟩:=h;refine⟨x,g,k,e,G x o,H,t,by simp[A],λi c B=>?_⟩;simp only[cN,bY]at B;obtain⟨J,D,rfl⟩:=B;obtain⟨u,K,N,O⟩:=I i J D;have W:=dB D;refine⟨u,K,RC.dK (F.imp id λd=>?_) (λm Q=>Z m (so.2 ⟨J,W,Q⟩)) N,O⟩;simp only[eD.bare,cj]at d;exact d J W
 |row e rows=>
  obtain⟨x,k,fz,o,R,t,A,I,K,N,S,O,h8,T,h9⟩:=h;refine⟨x,k,fz,G x o,R,t,A,I,K,N,S,O,h8,T,λi r j p B Y=>?_⟩;obtain⟨u,k1,k2⟩:=h9 i r j p B Y;refine⟨u,k1,rp (λd=>?_) k2⟩;simp only[eD.bare,cj]at d;exact d r (dB B) p (dB Y)
 |map es=>
  obtain⟨x,g,en,clock,o,H,t,A⟩:=h;exact⟨x,g,en,clock,G x o,H,t,A⟩
end
theorem XV{ρ}:∀{H}{n}{d},(Hp.dK ρ H).lookup n=some d->∃m b,H.lookup m=some b/\ρ m=n/\d=b.on (C.dK ρ)
 |[],n,d,h=>by simp[Hp.dK]at h
 |(e,i)::H,n,d,h=>by
  simp only[Hp.dK,ct,hX]at h;split at h
  .rename_i c;simp at c;cases h;exact⟨e,i,by simp,c.symm,rfl⟩
  .rename_i c;obtain⟨m,b,j,g,k⟩:=XV (H:=H) h;refine⟨m,b,?_,g,k⟩;rw[hX];have:(m==e)=false:=by
    rw[beq_eq_false_iff_ne];rintro rfl;simp[g]at c
   rw[this];exact j
theorem UY{ρ}:∀{H}{m}{b},H.lookup m=some b->(Hp.dK ρ H).lookup (ρ m)≠none
 |[],m,b,h=>by simp at h
 |(e,g)::H,m,b,h=>by
  simp only[Hp.dK,ct,hX];split
  .simp
  .rename_i c;rw[hX]at h;split at h
   .rename_i d;simp at d;subst d;simp at c
   .exact UY h
def rR(st:bz)(ι:List Nat)(L:List Nat):C->C->Prop
 |.dead,_=>True
 |.p q,c=>c=.p q\/∃rows,q=.sl rows/\st.view c=some rows/\∀n∈c.names,n∈L
 |c',c=>c=c'.dK (λm=>(ι[m]?).getD 0)/\∀m∈c'.names,m<ι.length
def vf(st:bz)(ι:List Nat)(L:List Nat):V1->V1->Prop
 |.c d,.c c=>rR st ι L d c
 |.agg b,.agg cs=>cs.length=b.length/\∀(i:Nat)(d:C),b[i]?=some d->∃c,cs[i]?=some c/\rR st ι L d c
 |_,_=>False
def vz(st:bz)(ι:List Nat)(L:List Nat):eD->eD->Prop
 |.box d,.box cs=>cs.length=d.length/\∀(i:Nat)(h:C),d[i]?=some h->∃c,cs[i]?=some c/\rR st ι L h c
 |.row j b,.row e rows=>j=e/\b=rows
 |.map g,.map k=>g=k
 |_,_=>False
def n_(ι:List Nat)(d:Nat)(m:Nat):Nat:=if m<ι.length then(ι[m]?).getD 0 else d+(m-ι.length)
structure AA(P:cD)(st:bz)(d:Nat)(f:FuncId)(xs:List V1)(v:V)(ef:im)(rd:List Nat):Prop where
 ex:∃(cargs:List V1)(H:List eD)(r:V)(H':Hp)(ι L:List Nat),fg P f cargs H r H'/\ι.length=H.length/\ι.Nodup/\
  xs.length=cargs.length/\(∀(i:Nat)(x':V1),cargs[i]?=some x'->∃x,xs[i]?=some x/\vf st ι L x' x)/\
  (∀(i:Nat)(b':eD),H[i]?=some b'->∃n b,ι[i]?=some n/\st.heap.lookup n=some b/\vz st ι L b' b)/\
  (∀n∈ι,n∉st.bt/\n∉L)/\(∀n∈L,n∉st.bt)/\
  (∀n∈r.names,n<ι.length+8)/\(∀n b,H'.lookup n=some b->n<ι.length+8/\∀m∈b.names,m<ι.length+8)/\
  (∀n∈r.names,n<ι.length->H'.lookup n≠none)/\(∀n b,H'.lookup n=some b->∀m∈b.names,m<ι.length->H'.lookup m≠none)/\
  ((∀n∈L,n∈ef.bt)\/(r.bare=true/\∀n b,H'.lookup n=some b->b.bare=true))/\
  (∀(i n:Nat),ι[i]?=some n->(n∈ef.bt↔H'.lookup i=none))/\(∀n∈ef.bt,n∈ι\/n∈L)/\
  (∀n∈ef.bt,n<d)/\v=r.on (C.dK (n_ ι d))/\ef.jl=Hp.dK (n_ ι d) H'/\rd=ι++L
theorem R4{st:bz}{c rows}(h:st.view c=some rows):∃b,st.sink c=some (.sl rows,b)/\∀n∈b,n∈c.names:=by
 cases c with
 |p q=>
  cases q with
  |sc=>cases h
  |sl=>cases h;exact⟨_,rfl,by simp⟩
 |nil=>cases h;exact⟨_,rfl,by simp⟩
 |own n=>
  simp only[bz.view]at h;split at h
  .simp_all[bz.sink,C.names]
  .cases h
 |sub n d len=>
  simp only[bz.view]at h;split at h
  .simp_all[bz.sink,C.names]
  .cases h
 |_=>cases h
def iY(E:Env)(ι:List Nat):Nat->Option Nm:=λm=>match ι[m]? with|some n=>E.N n|none=>none
def oD(M:fJ)(E:Env)(ι L:List Nat):fJ:=λg=>M g\/∃n x,E.N n=some x/\x.g=some g/\n∉ι/\n∉L
section
variable{X:Fx}{E:Env}{st:bz}{a:Act}{w:cp}{ι L:List Nat}
theorem mq{m x}(h:iY E ι m=some x):∃n,ι[m]?=some n/\E.N n=some x:=by
 unfold iY at h;split at h
 .exact⟨_,by assumption,h⟩
 .cases h
theorem aaP{M g}(h:bad (oD M E ι L) ⟨iY E ι,[]⟩ g):bad M E g:=by
 rcases h with(h| ⟨n,x,b,c,_⟩)| ⟨m,x,b,c⟩
 .exact .inl h
 .exact .inr ⟨n,x,b,c⟩
 .obtain⟨n,e,d⟩:=mq b;exact .inr ⟨n,x,d,c⟩
theorem OH(h:Rel X E st a w)(y:∀n∈ι,n∉st.bt/\n∉L)(N:∀n∈L,n∉st.bt){z c v}(k:rR st ι L z c)(d:RC X.M E w c v):RC (oD X.M E ι L) ⟨iY E ι,[]⟩ w z v:=by
 have r:iP (bad X.M E) (bad (oD X.M E ι L) ⟨iY E ι,[]⟩) w w:=λg o u l e=>⟨l,λh=>e (aaP h)⟩
 have nm:∀m(Q:Nm->Prop),m<ι.length->cS E ((ι[m]?).getD 0) Q->cS ⟨iY E ι,[]⟩ m Q:=by
  intro m Q T O;obtain⟨x,l,e⟩:=cS.get O (by rw[h.bt];simp_all);exact .inr ⟨x,by simp_all[iY],e⟩
 cases z with
 |dead=>trivial
 |p q=>
  rcases k with rfl| ⟨rows,rfl,P,b⟩
  .exact RP.trans d r
  .obtain⟨R,l,e⟩:=R4 P;obtain⟨_,_,t⟩:=h.sink d (λn A=>N n (b n A)) l;refine RP.trans (t R (λ_ h=>h)) (λg o u k1 k2=>⟨k1,λB=>k2 ?_⟩);rcases B with(B| ⟨n,x,D,F,J,G⟩)| ⟨m,x,D,F⟩
   .exact .inl B
   .refine .inr ⟨n,x,?_,F⟩;simp only[Env.drop];rw[bO λs=>G (b n (e n s))];exact D
   .obtain⟨n,J,G⟩:=mq D;refine .inr ⟨n,x,?_,F⟩;simp only[Env.drop];rw[bO λs=>(y n (dB J)).2 (b n (e n s))];exact G
 |nil=>obtain⟨rfl,_⟩:=k;exact d
 |own n=>obtain⟨rfl,b⟩:=k;exact nm n _ (b n (by simp[C.names])) d
 |sub n U len=>obtain⟨rfl,b⟩:=k;exact nm n _ (b n (by simp[C.names])) d
 |ptr n off=>obtain⟨rfl,b⟩:=k;exact nm n _ (b n (by simp[C.names])) d
 |dy n i j=>obtain⟨rfl,b⟩:=k;exact nm n _ (b n (by simp[C.names])) d
 |mp n=>obtain⟨rfl,b⟩:=k;exact nm n _ (b n (by simp[C.names])) d
 |ref cells=>
  obtain⟨rfl,_⟩:=k;obtain⟨g,o,l,e⟩:=d;refine⟨g,o,l,λj p S=>?_⟩;obtain⟨u,t,H,I⟩:=e j p S;exact⟨u,t,(r _ _ _ t H).2,I.trans r⟩
 |fn f dE=>
  obtain⟨rfl,b⟩:=k;obtain⟨us,l,e,t⟩:=d;refine⟨us,l,by simpa using e,λi n K=>?_⟩;obtain⟨u,H,I⟩:=t i _ (by rw[cN,K];rfl);exact⟨u,H,nm n _ (b n (by exact dB K)) I⟩
theorem auH(h:Rel X E st a w)(b:∀n∈ι,n∉st.bt/\n∉L)(g:∀n∈L,n∉st.bt){e x v}(d:vf st ι L e x)(j:dR X.M E w x v):dR (oD X.M E ι L) ⟨iY E ι,[]⟩ w e v:=by
 cases e with
 |c k=>
  cases x with
  |c c=>exact OH h b g d j
  |agg=>exact d.elim
 |agg l=>
  cases x with
  |c=>exact d.elim
  |agg cs=>
   obtain⟨us,m,o,p⟩:=j;refine⟨us,m,by rw[o,d.1],λi k q=>?_⟩;obtain⟨c,r,s⟩:=d.2 i k q;obtain⟨u,t,y,z⟩:=p i c r;exact⟨u,t,OH h b g s y,z⟩
theorem ahk(h:Rel X E st a w)(q:∀n∈ι,n∉st.bt/\n∉L)(K:∀n∈L,n∉st.bt){i n t b}(v:ι[i]?=some n)(N:st.heap.lookup n=some b)(d:vz st ι L t b):
 RB X.P (oD X.M E ι L) ⟨iY E ι,[]⟩ w i t:=by
 have y:iP (bad X.M E) (bad (oD X.M E ι L) ⟨iY E ι,[]⟩) w w:=λg o u k l=>⟨k,λh=>l (aaP h)⟩
 have z:=h.row (q n (dB v)).1 N;have A:∀x,E.N n=some x->(⟨iY E ι,[]⟩:Env).N i=some x:=λx hx=>by simp_all[iY]
 cases t with
 |box O=>
  cases b with
  |box cs=>
   obtain⟨x,g,m,e,k,B,l,s,D⟩:=z;refine⟨x,g,m,e,A x k,B,l,by rw[s,d.1],λj P F=>?_⟩;obtain⟨c,k1,k2⟩:=d.2 j P F;obtain⟨u,Q,R,S⟩:=D j c k1;exact⟨u,Q,OH h q K k2 R,S⟩
  |_=>exact d.elim
 |row e' G=>
  cases b with
  |row e rows=>
   obtain⟨rfl,rfl⟩:=d;obtain⟨x,m,T,k,H,l,s,D,U,V,I,W,Y,J,Z⟩:=z;exact⟨x,m,T,A x k,H,l,s,D,U,V,I,W,Y,J,λi r j p v F=>let⟨u,k1,k2⟩:=Z i r j p v F; ⟨u,k1,k2.trans y⟩⟩
  |_=>exact d.elim
 |map aa=>
  cases b with
  |map es=>
   cases d;obtain⟨x,g,en,clock,k,B,l,s⟩:=z;exact⟨x,g,en,clock,A x k,B,l,s⟩
  |_=>exact d.elim
end
def pC(X:Fx)(E:Env)(st:bz)(d:Nat):Prop:=∀n,d<=n->n<d+8->E.N n=none/\n∉st.bt/\n<st.next/\X.k0<=n
section
variable{X:Fx}{E:Env}{st:bz}{a:Act}{w:cp}
theorem alY(h:Rel X E st a w){d}(hF:pC X E st d){f vals xs}(aI:vals.size=xs.length)(aJ:∀(i:Nat)(x),xs[i]?=some x->∃u,vals[i]?=some u/\dR X.M E w x u){v K rd}(hc:AA X.P st d f xs v K rd):
 Own X.P f/\Calls X.P f vals w λe w'=>∃u E',e=.returned u/\(∀n,¬(d<=n/\n<d+8)->E.N n=none->E'.N n=none)/\Rel X E' (st.dQ K) a w'/\RV X.M E' w' v u:=by
 obtain⟨aK,H,r,H',ι,L,hA,hlen,aL,aM,aw,Y,ar,hL,aN,aO,aP,aQ,Z,aa,bc,ax,rfl,ap,_⟩:=hc;refine⟨hA.own,?_⟩;have ah:∀i,i<ι.length->∃n x,ι[i]?=some n/\E.N n=some x:=by
  intro i J;have aR:i<H.length:=om;obtain⟨n,b,l,p,s⟩:=Y i _ (cW aR);have D:=h.row (ar n (dB l)).1 p
  cases b with
  |box cs=>obtain⟨x,_,_,_,q,_⟩:=D;exact⟨n,x,l,q⟩
  |row e rows=>obtain⟨x,_,_,q,_⟩:=D;exact⟨n,x,l,q⟩
  |map es=>obtain⟨x,_,_,_,q,_⟩:=D;exact⟨n,x,l,q⟩
 have ai:∀(i j n:Nat),ι[i]?=some n->ι[j]?=some n->i=j:=by
  intro i j n l p;have J:=(dW.1 l)
  have hj:=(dW.1 p)
  obtain⟨ay,az⟩:=J;obtain⟨aA,aB⟩:=hj;have hp:=mU.1 aL;rcases GX i j with R|aS|R
  .exact absurd (az.trans aB.symm) (hp i j ay aA R)
  .exact aS
  .exact absurd (aB.trans az.symm) (hp j i aA ay R)
 have au:=hA.call w (oD X.M E ι L) (iY E ι) vals ?_ ?_ ?_ ?_ ?_ ?_ ?_
 .refine au.mono ?_;rintro e w' ⟨u,E',rfl,aj,N,aC,aD⟩
  let Q:Env:=⟨λn=>if n∈K.bt then none else if d<=n/\n<d+8 then E'.N (ι.length+(n-d))else E.N n,K.bt++E.bt⟩
  have S:∀n y,Q.N n=some y->n∉K.bt/\((d<=n/\n<d+8/\E'.N (ι.length+(n-d))=some y)\/(¬(d<=n/\n<d+8)/\E.N n=some y)):=by
   intro n y O;simp only[Q]at O;split at O
   .cases O
   .rename_i B;split at O
    .rename_i hd;exact⟨B,.inl ⟨hd.1,hd.2,O⟩⟩
    .rename_i hd;exact⟨B,.inr ⟨hd,O⟩⟩
  have ab:∀n y,E.N n=some y->¬(d<=n/\n<d+8):=λn y O hd=>by rw[(hF n hd.1 hd.2).1]at O;cases O
  have ad:∀n,n∉K.bt->¬(d<=n/\n<d+8)->Q.N n=E.N n:=λn l p=>by simp only[Q,bO l,bO p]
  have R:∀n y g,E.N n=some y->y.g=some g->g<w.heap.size:=λn y g O B=>(h.names n y g O B).1
  have F:∀(i n:Nat)(x:Nm),ι[i]?=some n->n∉K.bt->E.N n=some x->E'.N i=some x:=by
   intro i n x J G A;have l:H'.lookup i≠none:=λl=>G ((aa i n J).2 l)
   obtain⟨b,D⟩:=Option.ne_none_iff_exists'.1 l;have av:=aC i b D;have aT:E'.N i≠none:=by
    cases b with
    |box cs=>obtain⟨y,_,_,_,q,_⟩:=av;rw[q];simp
    |row e rows=>obtain⟨y,_,_,q,_⟩:=av;rw[q];simp
    |map es=>obtain⟨y,_,_,_,q,_⟩:=av;rw[q];simp
   have aU:i<H.length:=by rw[<-hlen];exact(dW.1 J).1
   rcases N.ec i aU with p|p
   .exact absurd p aT
   .rw[p];simp only[iY,J];exact A
  have ae:∀m x,m<ι.length+8->(m<ι.length->H'.lookup m≠none)->E'.N m=some x->Q.N (n_ ι d m)=some x:=by
   intro m x hm hl A;unfold n_;split
   .rename_i ak;obtain⟨n,y,l,p⟩:=ah m ak;have al:n∉K.bt:=λB=>hl ak ((aa m n l).1 B)
    rw[l,gS,ad n al (ab n y p)];have:=F m n y l al p;rw[A]at this;rw[p,this]
   .have l:d<=d+(m-ι.length)/\d+(m-ι.length)<d+8:=om;simp only[Q];rw[bO (λB=>by have:=ax _ B;omega),bF l,show ι.length+(d+(m-ι.length) -d)=m by omega];exact A
  have aE:(∀n∈L,n∈K.bt)->iP (bad (oD X.M E ι L) E') (bad X.M Q) w' w':=by
   intro aV g o u l p;refine⟨l,λs=>p ?_⟩;rcases s with s| ⟨n,x,q,t⟩
   .exact .inl (.inl s)
   .obtain⟨P,I⟩:=S n x q;rcases I with⟨_,_,I⟩| ⟨_,I⟩
    .exact .inr ⟨_,x,I,t⟩
    .by_cases G:n∈ι
     .obtain⟨i,J,aW⟩:=iE G;exact .inr ⟨i,x,F i n x (by rw[<-aW];exact cW J) P I,t⟩
     .exact .inl (.inr ⟨n,x,I,t,G,λhl=>P (aV n hl)⟩)
  have hG : gL X.M E Q w w':={
   cell :=λg o u l p=>by
    have B:=World.block_lt_of_cell? w ⟨g,o,none⟩ l;have D:=aj.block g B (λ⟨m,x,s,q⟩=>by
     obtain⟨n,t,P⟩:=mq s;exact p (.inr ⟨n,x,P,q⟩))
    refine⟨(World.cell?_of_block (w:=w) (a:=⟨g,o,none⟩) D).trans l,λs=>p ?_⟩;rcases s with s| ⟨n,x,q,t⟩
    .exact .inl s
    .obtain⟨_,I⟩:=S n x q;rcases I with⟨_,_,I⟩| ⟨_,I⟩
     .rcases(N.names _ x g I t).2 with⟨m,y,h8,h9⟩|h8
      .obtain⟨k,am,aX⟩:=mq h8;exact .inr ⟨k,y,aX,h9⟩
      .have bd:g<w.heap.size:=B;omega
     .exact .inr ⟨n,x,I,t⟩
   name:=λn x A=>by
    by_cases B:n∈K.bt
    .exact .inl (sq _ B)
    .exact .inr (by rw[ad n B (ab n x A)];exact A)
   bt:=λn G=>qq _ G}
  have an:∀n∈K.bt,n<st.next:=λn G=>by have:=ax n G;have:=(hF d (dx _) om).2.2.1;omega
  refine⟨u,Q,rfl,λn G aY=>?_,?_,?_⟩
  .simp only[Q,bO G];split
   .rfl
   .exact aY
  .refine h.step K (nx:=st.next) (dx _) hG (by simp[Q,h.bt]) ?_ ?_ ?_ ?_ ?_ an ?_ ?_
   .refine h.frame.trans aj ?_;rintro g B ⟨m,x,l,p⟩;obtain⟨n,s,q⟩:=mq l;rcases(h.names n x g q p).2.1 with t|t
    .exact t
    .omega
   .intro n x A;rcases(S n x A).2 with⟨l,p,_⟩| ⟨_,l⟩
    .exact(hF n l p).2.2.1
    .exact h.dD n x l
   .intro n x g A B;rcases(S n x A).2 with⟨_,_,l⟩| ⟨_,l⟩
    .obtain⟨p,s⟩:=N.names _ x g l B;refine⟨p,?_⟩;rcases s with⟨m,y,q,t⟩|s
     .obtain⟨k,P,I⟩:=mq q;exact(h.names k y g I t).2
     .have:=h.frame.size;exact⟨.inr om,λhM=>by have:=h.eW g hM;omega⟩
    .obtain⟨p,s⟩:=h.names n x g l B;exact⟨mO p aj.size,s⟩
   .intro n m x y g A O T U;have af:∀n m x y,d<=n->n<d+8->E'.N (ι.length+(n-d))=some x->m∉K.bt->E.N m=some y->x.g=some g->y.g=some g->n=m:=by
     intro n m x y l p s aZ q t P;rcases(N.names _ x g s t).2 with⟨k,z,I,h8⟩|I
     .obtain⟨j,h9,am⟩:=mq I;have:=h.inj j m z y g am q h8 P;subst this;rw[am]at q;cases q;have:=N.inj _ k x y g s (F k j y h9 aZ am) t h8;have:=(dW.1 h9).1;omega
     .have:=R m y g q P;omega
    obtain⟨ha,l⟩:=S n x A;obtain⟨D,p⟩:=S m y O;rcases l with⟨s,q,t⟩| ⟨_,t⟩<;>rcases p with⟨k3,k4,k5⟩| ⟨_,k5⟩
    .have:=N.inj _ _ x y g t k5 T U;omega
    .exact af n m x y s q t D k5 T U
    .exact(af m n y x k3 k4 k5 ha t U T).symm
    .exact h.inj n m x y g t k5 T U
   .intro m hm;simp only[Q];split
    .exact .inl rfl
    .rw[bO (λhd=>by have:=(hF m hd.1 hd.2).2.2.2;omega)];exact .inr rfl
   .intro n x g A B al ba;refine aj.block g (R n x g A B) ?_;rintro⟨m,y,l,p⟩;obtain⟨k,s,q⟩:=mq l;have:=h.inj k n y x g q A p B;subst this;have aF:k∉K.bt:=λhk=>al (sq _ hk)
    have t:H'.lookup m≠none:=λt=>aF ((aa m k s).2 t)
    obtain⟨b,D⟩:=Option.ne_none_iff_exists'.1 t;have P:=UY (ρ:=n_ ι d) D;have ak:=(dW.1 s).1;rw[show n_ ι d m=k by unfold n_;rw[bF ak,s];rfl,<-ap]at P;exact P ba
   .intro n b hl;rw[ap]at hl;obtain⟨m,b',l,rfl,rfl⟩:=XV hl;obtain⟨p,s⟩:=aO m b' l;refine .inr (RB.dK (Z.imp aE λD=>D.2 m b' l) (λx A=>ae m x p (λ_=>by rw[l];simp) A) (λk hk=>⟨by rw[N.bt];simp,λx A=>ae k x (s k hk) (aQ m b' l k hk) A⟩) (aC m b' l))
  ·
   have key:∀c v,c.bare=true\/(∀n∈L,n∈K.bt)->(∀n∈c.names,n<ι.length+8/\(n<ι.length->H'.lookup n≠none))->RC (oD X.M E ι L) E' w' c v->RC X.M Q w' (c.dK (n_ ι d)) v:=by
    intro c v D G ao;exact RC.dK (D.symm.imp aE id) (λn W=>⟨by rw[N.bt];simp,λx A=>ae n x (G n W).1 (G n W).2 A⟩) ao
   have aq:∀(x:V1)v,x.bare=true\/(∀n∈L,n∈K.bt)->(∀n∈x.names,n<ι.length+8/\(n<ι.length->H'.lookup n≠none))->dR (oD X.M E ι L) E' w' x v->dR X.M Q w' (x.on (C.dK (n_ ι d))) v:=by
    intro x v D G ao
    cases x with
    |c c=>exact key c v D G ao
    |agg cs=>
     obtain⟨us,l,p,s⟩:=ao;refine⟨us,l,by simp[p],λi c J=>?_⟩;simp only[cN,bY]at J;obtain⟨c',ag,rfl⟩:=J;obtain⟨u,q,t,P⟩:=s i c' ag;have hm:=dB ag;refine⟨u,q,key c' u (D.imp (λD=>?_) id) (λn W=>G n (so.2 ⟨c',hm,W⟩)) t,P⟩;simp only[V1.bare,cj]at D;exact D c' hm
   have aG:r.bare=true\/(∀n∈L,n∈K.bt):=Z.symm.imp (·.1) id;have aH:∀n∈r.names,n<ι.length+8/\(n<ι.length->H'.lookup n≠none):=λn G=>⟨aN n G,aP n G⟩
   cases r with
   |v x=>exact aq x u aG aH aD
   |bq xs=>
    obtain⟨us,l,p,s⟩:=aD;refine⟨us,l,by simp[p],λi c J=>?_⟩;simp only[cN,bY]at J;obtain⟨c',ag,rfl⟩:=J;obtain⟨u',q,t⟩:=s i c' ag;have hm:=dB ag;refine⟨u',q,aq c' u' (aG.imp (λD=>?_) id) (λn W=>aH n (so.2 ⟨c',hm,W⟩)) t⟩;simp only[V.bare,cj]at D;exact D c' hm
 .rintro g (B| ⟨n,x,l,p,_⟩)
  .have:=h.eW g B;have:=h.frame.size;omega
  .exact(h.names n x g l p).1
 .intro n x A;obtain⟨k,l,_⟩:=mq A;have:=(dW.1 l).1;omega
 .intro n x g A B;obtain⟨k,l,p⟩:=mq A;obtain⟨s,_,q⟩:=h.names k x g p B;refine⟨s,?_⟩;rintro(t| ⟨m,y,t,P,I,_⟩)
  .exact q t
  .have:=h.inj k m x y g p t B P;subst this;exact I (dB l)
 .intro n m x y g A O T U;obtain⟨k,l,p⟩:=mq A;obtain⟨j,s,q⟩:=mq O;have:=h.inj k j x y g p q T U;subst this;exact ai n m k l s
 .intro i b' J;obtain⟨n,b,l,p,s⟩:=Y i b' J;exact ahk h ar hL l p s
 .rw[aI,aM]
 .intro i x' J;obtain⟨x,l,p⟩:=aw i x' J;obtain⟨u,s,q⟩:=aJ i x l;exact⟨u,s,auH h ar hL p q⟩
end
theorem Vf(k)(z):∀(b)(i),(∀m∈b,∃y,m.key=.int k y)->
 ∃r,Instr.findNow (.int k) (.int k z) b i=some r/\∀j v,r=some (j,v)->i<=j/\∃m,b[j-i]?=some m/\m.key=.int k z
 |[],i,_=>⟨none,rfl,by simp⟩
 |e::b,i,h=>by
  obtain⟨y,d⟩:=h e (by simp);simp only[Instr.findNow,d,Instr.sameNow,if_true];by_cases g:z=y
  .subst g;refine⟨some (i,e.val),by simp,λj v c=>?_⟩;cases c;exact⟨dx _,e,by simp,d⟩
  .obtain⟨r,l,n⟩:=Vf k z b (i+1) (λm o=>h m (by simp[o]));have:(z==y)=false:=by simpa using g
   rw[this];refine⟨r,l,λj v c=>?_⟩;obtain⟨s,m,p,q⟩:=n j v c;refine⟨om,m,?_,q⟩;rw[show j-i=(j- (i+1))+1 by omega];simpa using p
def xM(b:Array MapEntry):Prop:=∀m∈b.toList,∃z,m.key=.int .u64 z
theorem Q5{P d}(e:P.underlying d=some (.int .u64)){c}(b:xM c)(z)(w):
 ∃r,(Instr.findKey d (.int .u64 z) c.toList).run P w=.ok r w/\∀j v,r=some (j,v)->∃m,c[j]?=some m/\m.key=.int .u64 z:=by
 obtain⟨r,g,h⟩:=Vf .u64 z c.toList 0 b;refine⟨r,?_,λj v i=>?_⟩
 .simp[Instr.findKey,run_underlying e,g]
 simp_all
def World.k_(w:cp)(g:Nat)(o:Obj):cp:={w with heap:=w.heap.setIfInBounds g o}
theorem akQ{P t o y}(p:P.underlying t=some (.map o y))(q:P.underlying o=some (.int .u64)){w g k clock}(n:w.heap[g]?=some (.map k clock))(b:xM k)(z)(v):
 ∃l c,(Instr.mapUpdate t (.map (some g)) (.int .u64 z) v).run P w=.ok () (World.k_ w g (.map l c))/\xM l:=by
 obtain⟨r,s,A⟩:=Q5 q b z w;have u:(Instr.checkKey false 10000 o (.int .u64 z)).run P w=.ok () w:=by
  unfold Instr.checkKey;simp[run_underlying q]
 cases r with
 |none=>
  refine⟨k.push {key:=.int .u64 z,val:=v,born:=clock},clock+1,?_,?_⟩
  .simp[Instr.mapUpdate,run_underlying p,MapKept.run_getObj_map n,u,s,MapKept.run_setObj_map _ n,World.k_]
  .intro m h;simp at h;rcases h with h|rfl
   .exact b m (by simpa using h)
   simp_all
 |some r=>
  obtain⟨i,old⟩:=r;obtain⟨F,B,D⟩:=A i old rfl;have d:(Instr.keyThatStays (((k[i]?).map (·.key)).getD (.int .u64 z)) (.int .u64 z)).run P w=.ok (.int .u64 z) w:=by
   rw[B];simp[Instr.keyThatStays,D,Instr.sameBits]
  refine⟨k.modify i λe=> {e with key:=.int .u64 z,val:=v},clock,?_,?_⟩
  .simp only[Instr.mapUpdate,Sem.run_bind,run_underlying p,Result.andThen_ok,MapKept.run_getObj_map n,u,s,d,MapKept.run_setObj_map _ n,World.k_]
  .intro m h;obtain⟨j,x,rfl⟩:=iE h;simp only[Array.toList_modify,List.getElem_modify];split
   .simp_all
   .simp only[Array.toList_modify,List.length_modify]at x;exact b _ (cT x)
theorem aos{P t j p}(k:P.underlying t=some (.map j p))(l:P.underlying j=some (.int .u64)){w g d clock}(h:w.heap[g]?=some (.map d clock))(b:xM d)(z)(ts)(ty):
 ∃e c,(Builtin.delete_ (t::ts).toArray ty #[.map (some g),.int .u64 z]).run P w=.ok (.tuple #[]) (World.k_ w g (.map e c))/\xM e:=by
 obtain⟨r,n,q⟩:=Q5 l b z w;have o:(Instr.checkKey d.isEmpty 10000 j (.int .u64 z)).run P w=.ok () w:=by
  unfold Instr.checkKey;simp[run_underlying l]
 cases r with
 |none=>
  refine⟨d,clock,?_,b⟩;simp[Builtin.delete_,run_underlying k,MapKept.run_getObj_map h,o,n,MapKept.run_setObj_map _ h,World.k_]
 |some r=>
  obtain⟨i,old⟩:=r;refine⟨d.eraseIdxIfInBounds i,clock,?_,?_⟩
  .simp[Builtin.delete_,run_underlying k,MapKept.run_getObj_map h,o,n,MapKept.run_setObj_map _ h,World.k_]
  .intro m s;refine b m ?_;grind
section
variable{X:Fx}{E:Env}{st:bz}{a:Act}{w:cp}
theorem QT{w g k o}(h:k≠g):(World.k_ w g o).heap[k]?=w.heap[k]?:=by
 simp only[World.k_,acS];grind
theorem abg{w g o b}(h:w.heap[g]?=some b):(World.k_ w g o).heap[g]?=some o:=by
 grind[World.k_]
theorem Rel.OO(h:Rel X E st a w){n x}(t:E.N n=some x){g}(d:x.g=some g){w'}(A:w'.os=w.os)(B:w'.tape=w.tape)(hout:w'.output=w.output)
 (q:∀k,k≠g->w'.heap[k]?=w.heap[k]?) (D:w'.heap.size=w.heap.size) (b) (P:gL X.M E E w w'->RB X.P X.M E w' n b):
 gL X.M E E w w'/\Rel X E (st.dQ ⟨[(n,b)],[]⟩) a w':=by
 obtain⟨H,I,J⟩:=h.names n x g t d;have G:gL X.M E E w w':={
  cell:=λk o u k1 k2=>by
   have:k≠g:=by rintro rfl;exact k2 (.inr ⟨n,x,t,d⟩)
   exact⟨(World.cell?_of_block (w:=w) (a:=⟨k,o,none⟩) (q k this)).trans k1,k2⟩
  name:=λ_ _ h=>.inr h
  bt:=λ_ h=>h}
 refine⟨G,h.step ⟨[(n,b)],[]⟩ (nx:=st.next) (dx _) G (by simp[h.bt]) ?_ h.dD (λn x g K=>by rw[D];exact h.names n x g K) h.inj (λ_ _=>.inr rfl) (by simp) ?_ ?_⟩
 .refine h.frame.trans (K':=λk=>k=g) ⟨A,B,hout,om,λk _ F=>q k F⟩ ?_;grind
 .intro m y k N F _ Q;refine q _ λO=>?_
  subst O;have:=h.inj m n y x k N t F d;simp_all
 grind
def vU(P:cD)(st:bz)(t:cg)(m k x:cF):Option im:=
 match st.arg m with
 |some (.v (.c (.mp n)))=>match P.underlying t,st.heap.lookup n,st.arg k,st.arg x with
  |some (.map b _),some (.map _),some (.v (.c (.p (.sc (.int .u64 _))))),some _=>match P.underlying b with
   |some (.int .u64)=>some ⟨[(n,.map [])],[]⟩
   |_=>none
  |_,_,_,_=>none
 |_=>none
theorem ama(h:Rel X E st a w){t m k x p}(c:vU X.P st t m k x=some p):
 ∃w',(Instr.mapUpdate t (a.eval m) (a.eval k) (a.eval x)).run X.P w=.ok () w'/\Rel X E (st.dQ p) a w':=by
 unfold vU at c;split at c
 .rename_i n q;have r:=h.ig q (n:=n) (by simp[C.names]);obtain⟨y,e,g,i,F⟩:=cS.get (h.cY q).1 r;split at c
  .rename_i G H I z v A B j J;have k1:=RP.ei (h.cY j).1;split at c
   .rename_i l;cases c;obtain⟨K,g',N,clock,j1,s,u,D⟩:=h.row (by rw[<-h.bt];exact r) B;rw[e]at j1;cases j1;rw[i]at s;cases s;obtain⟨d,b,O,o⟩:=akQ A l u D z (a.eval x);refine⟨_,by simp_all,(h.OO e i (w':=World.k_ w g (.map d b)) rfl rfl rfl (λk j=>QT j) (by simp[World.k_]) (.map []) (λ_=>?_)).2⟩;exact⟨y,g,d,b,e,i,abg u,o⟩
   .cases c
  .cases c
 .cases c
def wx(P:cD)(st:bz)(t:cg)(m k:cF):Option im:=
 match st.arg m with
 |some (.v (.c (.mp n)))=>match P.underlying t,st.heap.lookup n,st.arg k with
  |some (.map b _),some (.map _),some (.v (.c (.p (.sc (.int .u64 _)))))=>match P.underlying b with
   |some (.int .u64)=>some ⟨[(n,.map [])],[]⟩
   |_=>none
  |_,_,_=>none
 |_=>none
theorem aoW(h:Rel X E st a w){t ts ty m k p}(c:wx X.P st t m k=some p):
 ∃w',(Builtin.delete_ (t::ts).toArray ty #[a.eval m,a.eval k]).run X.P w=.ok (.tuple #[]) w'/\Rel X E (st.dQ p) a w':=by
 unfold wx at c;split at c
 .rename_i n q;have r:=h.ig q (n:=n) (by simp[C.names]);obtain⟨y,e,g,i,B⟩:=cS.get (h.cY q).1 r;split at c
  .rename_i D F G z v x j;have k1:=RP.ei (h.cY j).1;split at c
   .rename_i l;cases c;obtain⟨H,g',I,clock,j1,s,u,A⟩:=h.row (by rw[<-h.bt];exact r) x;rw[e]at j1;cases j1;rw[i]at s;cases s;obtain⟨d,b,J,o⟩:=aos v l u A z ts ty;refine⟨_,by simp_all,(h.OO e i (w':=World.k_ w g (.map d b)) rfl rfl rfl (λk j=>QT j) (by simp[World.k_]) (.map []) (λ_=>?_)).2⟩;exact⟨y,g,d,b,e,i,abg u,o⟩
   .cases c
  .cases c
 .cases c
def qE(P:cD)(st:bz)(s d:cg)(x:cF):Option (V×im):=
 match st.arg x with
 |some (.v (.c (.own n)))=>match st.heap.lookup n,P.underlying s with
  |some (.row e rows),some (.slice b)=>match P.underlying b with
   |some (.int .u8)=>if s=d/\rows≠ []then some (.c (.own n),⟨[(n,.row e rows)],[]⟩)else none
   |_=>none
  |_,_=>none
 |_=>none
theorem asN{w:cp}{g b e d}(k:w.heap[g]?=some (.cells b e d))(l:mr b.size d):
 ∃c,(w.freeze ⟨g,b.size,none⟩ 1).heap[g]?=some (.cells b e c)/\mr b.size c:=by
 obtain⟨i,j⟩:=d;refine⟨if i==j then(b.size,b.size+1)else(min i b.size,max j (b.size+1)),?_,?_⟩
 .simp only[World.freeze,Nat.one_ne_zero,if_false,P8,k];simp
 .split
  .exact .inr (dx _)
  .rename_i m;rcases l with h|h
   .simp_all
   .exact .inr om
theorem agv{w:cp}{g k o}(h:k≠g):(w.freeze ⟨g,o,none⟩ 1).heap[k]?=w.heap[k]?:=by
 simp only[World.freeze,Nat.one_ne_zero,if_false,P8];grind
theorem aqy(h:Rel X E st a w){s d x v D}(b:qE X.P st s d x=some (v,D)):
 ∃u w',(convert s d (a.eval x)).run X.P w=.ok u w'/\Rel X E (st.dQ D) a w'/\RV X.M E w' v u:=by
 unfold qE at b;split at b
 .rename_i n F;have G:=h.ig F (n:=n) (by simp[C.names]);have I:=(h.cY F).1;obtain⟨y,l,H⟩:=cS.get I G;split at b
  .rename_i e rows e' J K;split at b
   .rename_i m;split at b
    .rename_i N;cases b;obtain⟨rfl,h0⟩:=N;obtain⟨x',c,fz,j1,o,O,P,Q,R,S,T,U,V,q,t⟩:=h.row (by rw[<-h.bt];exact G) J;rw[l]at j1;cases j1
     cases z:y.g with
     |none=>
      simp_all
     |some g=>
      have hblk:=O g z;obtain⟨A,k1,k2⟩:=asN hblk o;have W:=h.OO l z (w':=w.freeze ⟨g,c.size,none⟩ 1) (by rfl) (by rfl) (by rfl) (λk Y=>agv Y) (by simp[World.freeze]) (.row e rows) (λZ=>by
       refine⟨y,c,A,l,k2,λg' aa=>?_,P,Q,R,S,T,U,V,q,λi r j p hi hj=>?_⟩
       .simp_all
       .obtain⟨u,q1,q2⟩:=t i r j p hi hj;exact⟨u,q1,q2.goes Z⟩)
      refine⟨a.eval x,_,?_,W.2,.inr ⟨y,l,H⟩⟩;rw[H,z];have B:w.shape? g=some (e,c.size):=by simp[World.shape?,hblk]
      simp[convert,run_underlying K,run_underlying m,markStringish,B]
    .cases b
   .cases b
  .cases b
 .cases b
def qK(P:cD)(st:bz)(t:cg)(s x:cF):Option (V×im):=
 match st.arg s,st.arg x with
 |some (.v (.c (.sub m 0 len))),some (.v (.c c))=>match st.heap.lookup m,st.view c,fk P t with
  |some (.row d rows),some b,some e=>match jE P e with
   |some (n,_)=>if d=e/\cf n b=true/\len+b.length<=rows.length then some (.c (.sub m 0 (len+b.length)),⟨[(m,.row e (rows.take len++b++rows.drop (len+b.length)))],[]⟩)else none
   |none=>none
  |_,_,_=>none
 |_,_=>none
theorem amx(h:Rel X E st a w){t ty s x v ef}(y:qK X.P st t s x=some (v,ef)):
 ∃u w',(Builtin.append_ #[t,t] ty #[a.eval s,a.eval x]).run X.P w=.ok u w'/\Rel X E (st.dQ ef) a w'/\RV X.M E w' v u:=by
 unfold qK at y;split at y
 .rename_i m len cx hs hx;have Z:=h.ig hs (n:=m) (by simp[C.names]);obtain⟨z0,o,aa,A,J,I⟩:=cS.get (h.cY hs).1 Z;have I:=I (.inr rfl);simp only[Nat.zero_mul,Nat.sub_zero]at I J;split at y
  .rename_i e' rows c e hl hv ht;obtain⟨hu,ak⟩:=ow ht;split at y
   .rename_i n b K;obtain⟨i,zz,D,al,am,ah,ab,an,ad⟩:=wF K;split at y
    .rename_i hc;cases y;obtain⟨rfl,hR,hroom⟩:=hc;rw[nL]at hR;obtain⟨z,d,fz,k1,N,k2,k3,k4,k5,k6,k7,k8,k9,ae,af⟩:=h.row (by rw[<-h.bt];exact Z) hl;rw[o]at k1;cases k1;have q:z0.sz=n:=by rw[k7,ad]
     have O:=h.dD m z0 o;rcases(h.D0 hx hv).src hR with⟨rfl,B,cap,Q⟩| ⟨gs,os,cap,news,Q,ao,F,hcell,R,hval⟩
     ·
      have G:=h.step ⟨[(m,.row e' rows)],[]⟩ (E':=E) (w':=w) (nx:=st.next) (dx _) ⟨λ_ _ _ h1 h2=>⟨h1,h2⟩,λ_ _ h=>.inr h,λ_ h=>h⟩ (by simp[h.bt]) h.frame h.dD h.names h.inj (λ_ _=>.inr rfl) (by simp) (λ_ _ _ _ _ _ _=>rfl) (λk b W=>by
       simp only[hX,nR]at W;split at W
       .rename_i S;simp at S;subst S;cases W;exact .inr (h.row (by rw[<-h.bt];exact Z) hl)
       .cases W)
      refine⟨.slice A len z0.cap,w,?_,?_,?_⟩
      .rw[J,Q];have T:len<=z0.cap:=om
       cases A with
       |none=>cases B<;>simp[Builtin.append_,run_underlying hu,sizeOf,typeInfo,D,Builtin.lenOf,Builtin.firstCells,loadCells,loadCellsFrom,T]
       |some A=>cases B<;>simp[Builtin.append_,run_underlying hu,sizeOf,typeInfo,D,Builtin.lenOf,Builtin.firstCells,loadCells,loadCellsFrom,T,storeCells]
      .have e1:rows.take len++[]++rows.drop (len+([]:List (List PV)).length)=rows:=by simp
       rw[e1];exact G
      .refine .inr ⟨z0,o,by simpa using aa,A,by simp,λ_=>by simpa using I⟩
     .cases Y : z0.g with
      |none=>simp_all
      |some g =>
       rw[Y]at I;subst I;have hblk:=k2 g Y;have ai:len*n+c.length*n<=d.size:=by
        rw[k8,q,<-jY];exact fX _ om
       have hrun:=R_ (P:=X.P) w t ty e' i hu D g len z0.cap d N hblk ⟨gs,os,none⟩ c.length cap news (by simp_all) hcell R om (by simp_all);rw[ab]at hrun;have U:(d.toList.take (len*n)++news++d.toList.drop (len*n+news.length)).toArray.size=d.size:=by simp[F];omega
       have V:ff z0.sz (rows.take len++c++rows.drop (len+c.length)):=((k9.take _).app (by rw[q];exact hR)).app (λr hr=>k9 r (pa hr));have hw:=(h.write o Y hblk ((d.toList.take (len*n)++news++d.toList.drop (len*n+news.length)).toArray) [] (by simp) (.row e' (rows.take len++c++rows.drop (len+c.length))) (λhG aj _=>by
        refine⟨z0,_,fz,by exact o,by rw[U];exact N,λg' ap=>by simp_all,by simp;omega,k4,k5,k6,k7,by rw[U,k8],V,ae,λi r j p D hj=>?_⟩;rw[F]at hG;have aq:j<n:=by rw[<-q,<-V r (dB D)];grind
        rw[Bp,rl (by simp;omega),F,q];rw[rl (l:=rows) (ys:=c) (off:=len) (k:=i) hroom]at D;split at D
        .have O:(i-len+1)*n<=c.length*n:=fX _ om;have e1:i*n=len*n+(i-len)*n:=by rw[<-jY];congr 1;omega
         rw[nS]at O;rw[bF om];obtain⟨u,q1,q2⟩:=hval _ r j p D hj;exact⟨u,by grind,q2.goes hG⟩
        .rename_i hc;have ag:¬(len*n<=i*n+j/\i*n+j<len*n+c.length*n):=by
          rintro⟨q1,q2⟩;apply hc;rw[<-jY]at q2;refine⟨?_,?_⟩
          .rcases qs i len with H|H
           .have:(i+1)*n<=len*n:=fX _ H;grind
           .exact H
          .rcases qs i (len+c.length)with H|H
           .exact H
           .have:(len+c.length)*n<=i*n:=fX _ H;omega
         rw[bO ag];obtain⟨u,q1,q2⟩:=af i r j p D hj;rw[q]at q1;exact⟨u,by simpa using q1,q2.goes hG⟩)).2
       exact⟨_,_,by simp_all,hw,.inr ⟨z0,o,om,some ⟨g,0,none⟩,rfl,λ_=>by rw[Y];simp⟩⟩
    .cases y
   .cases y
  .cases y
 .cases y
def oV(P:cD)(st:bz)(d:Nat)(t c:cg)(s x:cF):Option (V×im):=
 match fk P t,st.arg s,st.arg x,P.underlying c with
 |some e,some (.v (.c .nil)),some (.v (.c (.p (.sc (.int .i64 n))))),some (.int _)=>match jE P e,qh P e with
  |some (_,b),some g=>match oi g with
   |some z=>if 0<n/\n<=9223372036854775807/\n.toNat*b<=140737488355328 then some (.c (.own d),⟨[(d,.row e (List.replicate n.toNat z))],[]⟩)else none
   |none=>none
  |_,_=>none
 |_,_,_,_=>none
theorem ahb(h:Rel X E st a w){d}(hd:E.N d=none)(H:X.k0<=d)(I:d<st.next){t Z ty s x v ef}
 (c:oV X.P st d t Z s x=some (v,ef)):
 ∃u w' E',(Builtin.append_ #[t,Z] ty #[a.eval s,a.eval x]).run X.P w=.ok u w'/\(∀n,n≠d->E.N n=none->E'.N n=none)/\Rel X E' (st.dQ ef) a w'/\RV X.M E' w' v u:=by
 unfold oV at c;split at c
 .rename_i e n k ht hs hx hk;obtain⟨hu,aa⟩:=ow ht;have h3:a.eval s=.slice none 0 0:=(h.cY hs).1;have h4:=RP.ei (h.cY hx).1;split at c
  .rename_i sz b zs q hz;obtain⟨i,z,hi,y,g,j,J,K,O⟩:=wF q;obtain⟨A,z',B,l,D⟩:=yH (M:=X.M) (E:=E) (w:=w) hz;rw[hi]at B;cases B;rw[y]at l;cases l;split at c
   .rename_i G P;split at c
    .rename_i m;obtain⟨h0,ab,hb⟩:=m;cases c;obtain⟨Q,R⟩:=qg P;have ad:G.length=sz:=by rw[Q,<-D.1,g]
     obtain⟨N,rfl⟩:∃N:Nat,n=(N:Int):=⟨n.toNat,om⟩
     simp only[fM]at hb⊢;have hm:N<=maxLen:=by simp only[maxLen];omega
     have S:=grownCap_ge w N 0 e;have T:=grownCap_le_maxLen w N 0 e hm;have hR:ff sz (List.replicate N G):=λr hr=>by simp_all
     have hf:=h.uE hd H I (e:=e) j O.symm (rows:=List.replicate N G) hR (cap:=grownCap w N 0 e) (by simpa using S) T
      (us:=Builtin.zeroCells z.cells N++Builtin.zeroCells z.cells (grownCap w N 0 e-N)) (by
       simp only[Bq,size_zeroCells,g,<-jY];congr 1;omega) (λA r o p h5 h6=>by
       have U:r=G:=(GU.1 (dB h5)).2;subst U;have V:A<N:=by grind
       have W:o<sz:=by grind
       obtain⟨cc,h7,h8⟩:=R o p h6;obtain⟨u',h9,Y,_⟩:=D.2 o cc h7;have F:A*sz+o<N*sz:=by
        have:(A+1)*sz<=N*sz:=fX _ V;grind
       refine⟨u',?_,RC.pv Y h8⟩;rw[Bs,bF (by rw[size_zeroCells,g];exact F)];simp only[Builtin.zeroCells,Array.getElem?_map,g,Array.getElem?_range,F,if_true,bS,iQ];rw[show(A*sz+o)%sz=o by rw[P6,acX,GW W]];simp_all) (wd:=w.drew) (.inr rfl)
     refine⟨_,_,_,?_,λk hk ae=>by grind[Env.lp],hf.1,hf.2⟩;rw[h3,h4];have hN:0<N:=om;have hw:IntKind.i64.wrap (N:Int)=(N:Int):=by
      rw[IntKind.wrap_i64];omega
     have e1:¬((N:Int)<0):=om;have e2:¬(281474976710656< (N:Int)*(i.bytes:Int)):=by
      grind
     have e3:¬(9223372036854775807< (N:Int)):=om;have e4:¬(281474976710656<Builtin.nextslicecap N 0*i.bytes):=by rw[nextslicecap_zero hN,K];omega
     have e5:N*sz≠0:=P9 (P_ hN j);have e6:¬N=0:=om;have e9:max (N:Int) 0=N:=om;simp[Builtin.append_,run_underlying hu,run_underlying hk,sizeOf,typeInfo,zeroValue,hi,y,J,asInt,asIntOf,hw,e1,e2,e3,e4,e5,e6,e9,Question.forced,Builtin.firstCells,newRow,grownCap]
    .cases c
   .cases c
  .cases c
 .cases c
def qW(P:cD)(st:bz)(t:cg)(x:cF):Option (V×im):=
 match st.arg x with
 |some (.v (.c (.ptr n off)))=>match lj P t,st.heap.lookup n with
  |some (cM,e),some (.box cs)=>match oi ((cs.drop off).take cM)with
   |some b=>if dV P e=1/\mA P e=true/\0<cM/\cM<=4096/\b.length=cM then some (.c (.p (.sl (b.map λq=>[q]))),⟨[],[n]⟩)else none
   |none=>none
  |_,_=>none
 |_=>none
theorem aly(h:Rel X E st a w){t x v R}(b:qW X.P st t x=some (v,R)):
 ∃u E',(Instr.sliceAt t (a.eval x) none none none).run X.P w=.ok u w/\(∀n,E.N n=none->E'.N n=none)/\Rel X E' (st.dQ R) a w/\RV X.M E' w v u:=by
 unfold qW at b;split at b
 .rename_i n off S;have T:=h.ig S (n:=n) (by simp[C.names]);obtain⟨y,s,g,B,D⟩:=cS.get (h.cY S).1 T;split at b
  .rename_i cM e cs F Z;split at b
   .rename_i G hq;split at b
    .rename_i hc;cases b;obtain⟨aa,A,U,V,hlen⟩:=hc;obtain⟨H,ab⟩:=ED F;obtain⟨x',g',d,e',j1,W,j3,j4,j5⟩:=h.row (by rw[<-h.bt];exact T) Z;rw[s]at j1;cases j1;rw[B]at W;cases W;have I:=h.dD n y s;obtain⟨q1,q2⟩:=qg hq;have J:iP (bad X.M E) (bad X.M (E.drop [n])) w w:=λk o u s D=>⟨s,λh=>D (qM h)⟩
     have K:¬bad X.M (E.drop [n]) g:=by
      rintro(hb| ⟨m,z,k1,k2⟩)
      .exact(h.names n y g s B).2.2 hb
      .obtain⟨N,Y⟩:=me k1;have:=h.inj m n z y g N s k2 B;simp_all
     have hval:∀(i:Nat)(q:PV),G[i]?=some q->∃u,d[off+i]?=some u/\RP (bad X.M (E.drop [n])) w q u:=by
      intro i q l;obtain⟨c,k1,k2⟩:=q2 i q l;rw[sr]at k1;split at k1
      .rw[pb]at k1;obtain⟨u,N,Y,_⟩:=j5 _ c k1;exact⟨u,N,RP.trans (RC.pv Y k2) J⟩
      .cases k1
     refine⟨.slice (some ⟨g,off,none⟩) cM cM,E.drop [n],?_,λm hm=>Env.kE hm,h.drop [n] (by simpa using I),?_⟩
     .rw[D];have O:¬cM=0:=om;simp[Instr.sliceAt,run_underlying H,Instr.sliceBounds,run_sizeOf w A,Instr.sureAddr,O];rfl
     .have P:(G.map λq=>[q]).length=cM:=by simpa using hlen
      rw[show(Value.slice (some ⟨g,off,none⟩) cM cM)=.slice (some ⟨g,off,none⟩) (G.map λq=>[q]).length cM by rw[P]];refine .row (sz:=1) (f:=λi _=>(d[off+i]?).getD undef) (by grind) om (by simp only[maxLen];omega) (λr hr=>?_) (λi r j p l hj=>?_) (λi r j p l hj=>?_)
      .grind
      .simp only[cN,bY]at l;obtain⟨q,l,rfl⟩:=l;obtain⟨u,k1,k2⟩:=hval i q l;have Q:j=0:=by grind
       subst Q;refine⟨?_,K⟩;rw[cell_of_row w g _ d e' (0,0) j3,P7,l_,k1];rfl
      grind
    .cases b
   .cases b
  .cases b
 .cases b
end
end
end
end Go.Proofs.YtndegphojkiblaaGreatDoor
