/- A part. -/
import Derived.Test.YtiikkkhcolcebaaGreatDoorG1
import Derived.MapKept
set_option linter.all false
set_option maxHeartbeats 4000000
set_option maxRecDepth 100000
namespace Go.Proofs.YtiikkkhcolcebaaGreatDoor
noncomputable section
section
open Go.RowKit
open Classical
def fy(l:List Int):List (List PV):=l.map λn=>[.sc (.int .u8 n)]
def xU:List PV->Option Int
 |[.sc (.int .u8 n)]=>some n
 |_=>none
def mD(rows:List (List PV)):Option (List Int):=rows.mapM xU
def azA(l):mD (fy l)=some l:=by
 unfold mD fy
 induction l with
 |nil=>rfl
 |cons n l ih=>simp_all[xU]
def GI(l):dS 1 (fy l):=by intro r b;simp[fy]at b;obtain⟨n,_,rfl⟩:=b;rfl
def Fe(l):(fy l).length=l.length:=by simp[fy]
def Lc(l)(n:Nat):(fy l)[n]?=(l[n]?).map λn=>[.sc (.int .u8 n)]:=by simp[fy]
def lD(P:cJ)(st:bC)(s d:cf)(x:cL):Option V:=
 match st.arg x with
 |some (.v (.c (.p (.sc (.int _ n)))))=>match P.underlying s,P.underlying d with
  |some _,some (.int k)=>some (.sc (.int k (k.wrap n)))
  |some _,some (.float k)=>some (.sc (.float k (k.nearest n)))
  |_,_=>none
 |some (.v (.c (.p (.sc (.float k0 b)))))=>match P.underlying s,P.underlying d with
  |some _,some (.int k)=>(floatToIntVal k0 b k).map λn=>.sc (.int k n)
  |_,_=>none
 |some (.v (.c (.p (.sc (.string b)))))=>match P.underlying s,P.underlying d with
  |some .string,some .string=>some (.sc (.string b))
  |_,_=>none
 |some (.v (.c c))=>match st.view c,P.underlying s,P.underlying d with
  |some rows,some (.slice e),some .string=>match P.underlying e,mD rows with
   |some (.int .u8),some l=>some (.sc (.string (strOfNums l)))
   |_,_=>none
  |_,_,_=>none
 |_=>none
section
variable{X:Fx}{E:Env}{st:bC}{a:Act}{w:bW}
def Rel.Gf(h:Rel X E st a w){x c rows}(d:st.arg x=some (.v (.c c)))(k:st.view c=some rows):Rows (bad X.M E) w rows (a.eval x):=
 h.view (h.cX d).1 (h.cX d).2.2 k
def ajH(h:Rel X E st a w){s d x v}
 (j:lD X.P st s d x=some v):∃u,(convert s d (a.eval x)).run X.P w=.ok u w/\RV X.M E w v u:=by
 unfold lD at j;split at j
 .rename_i k n q;have B:=RP.eM (h.cX q).1;split at j
  .rename_i ds S m p;simp at j;subst j;refine⟨_,?_,.sc rfl⟩;rw[B];simp[convert,run_underlying m,run_underlying p,Conv.intToInt]
  .rename_i ds S m p;simp at j;subst j;refine⟨_,?_,.sc rfl⟩;rw[B];cases ds<;>simp[convert,run_underlying m,run_underlying p,Conv.intToFloat]
  .cases j
 .rename_i k0 b q;have B:=RP.eM (h.cX q).1;split at j
  .rename_i ds k m p;obtain⟨n,T,rfl⟩:=b9.1 j;refine⟨_,?_,.sc rfl⟩;rw[B];exact run_convert_float_int w s d k0 k b n (by rw[m];rfl) p T
  .cases j
 .rename_i b q;have B:=RP.eM (h.cX q).1;split at j
  .rename_i m p;simp at j;subst j;refine⟨_,?_,.sc rfl⟩;rw[B];simp[convert,run_underlying m,run_underlying p]
  .cases j
 .rename_i c _ _ _ q;split at j
  .rename_i rows e hp m p;split at j
   .rename_i l t I;simp at j;subst j;refine⟨_,?_,.sc rfl⟩;have J:=h.Gf q hp;obtain⟨D,K⟩:=oU I;rcases J with⟨rfl,A,cap,y⟩| ⟨g,o,cap,sz,f,y,V,U,W,N,O⟩
    .rw[y];simp[mD]at I;subst I
     cases A with
     |none=>exact run_convert_bytes_nil w s e m t 0 cap d p
     |some A=>
      rw[run_convert_bytes_string w s d e _ 0 cap m t p];rfl
    .rw [y];have key:∀(i:Nat)(r:List PV),rows[i]?=some r->∃n,l[i]?=some n/\r=[.sc (.int .u8 n)]:=by
      intro i r F;have G:i<l.length:=by rw[D];exact(ek.1 F).1
      obtain⟨r',H,z⟩:=K i _ (db G);rw[F]at H;cases H;refine⟨_,db G,?_⟩;unfold xU at z;split at z
      .simp at z;rw[z]
      .cases z
     have P:sz=1:=by
      cases rows with
      |nil=>simp_all
      |cons r rs=>
       obtain⟨n,_,Y⟩:=key 0 r rfl;have:=N r ch;simp_all
     subst P;refine run_convert_bytes_arg w s e m t g o rows.length cap l D (λi F=>?_) d p;obtain⟨n,H,z⟩:=key i _ (db F);obtain⟨Q,R⟩:=O i _ 0 (.sc (.int .u8 n)) (db F) (by rw[z];rfl);have R:=RP.eM R;rw[R]at Q;simp only[sF,lL]at Q;rw[Q];simp[List.getD,H]
   .cases j
  .cases j
 .cases j
def pt(P:cJ)(st:bC)(t:cf)(x:cL):Option V:=
 match st.arg x with
 |some (.v (.c (.p (.sc (.string b)))))=>match P.underlying t with
  |some .string=>some (.sc (.int .i64 b.size))
  |_=>none
 |some (.v (.c (.p .nl)))=>match P.underlying t with
  |some (.slice _)=>some (.sc (.int .i64 0))
  |_=>none
 |some (.v (.c c))=>match st.view c,P.underlying t with
  |some rows,some (.slice _)=>some (.sc (.int .i64 rows.length))
  |_,_=>none
 |_=>none
def Rows.len{M w rows v}(h:Rows M w rows v):∃A cap,v=.slice A rows.length cap/\(rows≠ []->rows.length<=cap/\∃g o,A=some ⟨g,o,none⟩):=by
 rcases h with⟨rfl,A,cap,rfl⟩| ⟨g,o,cap,sz,f,rfl,k,d,_⟩
 .simp_all
 .exact⟨_,cap,rfl,λ_=>⟨d,g,o,rfl⟩⟩
def afN(h:Rel X E st a w){t ty x v}
 (d:pt X.P st t x=some v):∃u,(Builtin.len_ #[t] ty #[a.eval x]).run X.P w=.ok u w/\RV X.M E w v u:=by
 unfold pt at d;split at d
 .rename_i b g;have j:=RP.eM (h.cX g).1;split at d
  .rename_i i;simp at d;subst d;refine⟨_,?_,.sc rfl⟩;rw[j];simp[Builtin.len_,run_underlying i,goInt]
  .cases d
 .rename_i g;have j:=(h.cX g).1;split at d
  .rename_i e i;simp at d;subst d;obtain⟨A,k⟩:=RP.Sz j;refine⟨_,?_,.sc rfl⟩;rw[k];simp[Builtin.len_,run_underlying i,goInt]
  .cases d
 .rename_i c _ _ g;split at d
  .rename_i rows e hp i;simp at d;subst d;refine⟨_,?_,.sc rfl⟩;obtain⟨A,cap,l,_⟩:=(h.Gf g hp).len;rw[l];simp[Builtin.len_,run_underlying i,goInt]
  .cases d
 .cases d
def yW:UnOp->b8->Option b8
 |.not,.bool b=>some (.bool (!b))
 |.neg,.int k n=>some (.int k (k.wrap (0-n)))
 |.xor,.int k n=>some (bitsOf k (BitVec.ofInt k.bits (if k.signed then-1 else k.max) ^^^BitVec.ofInt k.bits n))
 |_,_=>none
def ahE{P op u v}(h:yW op u=some v)(w):(Op.unary op u).run P w=.ok v w/\flat v=true:=by
 unfold yW at h;split at h
 .simp at h;subst h;exact⟨rfl,rfl⟩
 .simp at h;subst h;exact⟨by simp[Op.unary,Op.intArith],rfl⟩
 .simp at h;subst h;exact⟨by rfl,rfl⟩
 .cases h
def C.pv:C->Option PV
 |.p q=>some q
 |.nil=>some (.sl [])
 |_=>none
def RC.pv{M E w c v p}(h:RC M E w c v)(hp:c.pv=some p):RP (bad M E) w p v:=by
 cases c with
 |p q=>simp[C.pv]at hp;subst hp;exact h
 |nil=>simp[C.pv]at hp;subst hp;cases h;exact .nil
 |_=>cases hp
def nC(cs:List C):Option (List PV):=cs.mapM C.pv
def yR(P:cJ)(st:bC)(d:Nat)(t:cf)(l c:cL):Option (V×iI):=
 match f_ P t,st.arg l,st.arg c with
 |some e,some (.v (.c (.p (.sc (.int _ n))))),some (.v (.c (.p (.sc (.int _ m)))))=>match jH P e,qO P e with
  |some (_,b),some g=>match nC g with
   |some z=>if n=m/\0<=n/\n<=9223372036854775807/\b*n.toNat<=281474976710656 then some (.c (.own d),⟨[(d,.row e (List.replicate n.toNat z))],[]⟩)else none
   |none=>none
  |_,_=>none
 |_,_,_=>none
def alC(h:Rel X E st a w){d}(hd:E.N d=none)(H:X.k0<=d)(I:d<st.next){t l c v ef}
 (g:yR X.P st d t l c=some (v,ef)):
 ∃u w' E',(Instr.makeSlice t (a.eval l) (a.eval c)).run X.P w=.ok u w'/\(∀n,n≠d->E.N n=none->E'.N n=none)/\Rel X E' (st.ez ef) a w'/\RV X.M E' w' v u:=by
 unfold yR at g;split at g
 .rename_i e k1 n k2 m ht hl hc;obtain⟨hu,af⟩:=oH ht;have h3:=RP.eM (h.cX hl).1;have h4:=RP.eM (h.cX hc).1;split at g
  .rename_i k b zs s hz;obtain⟨i,z,hi,x,y,A,J,K,N⟩:=sS s;obtain⟨B,z',D,j,F⟩:=xW (M:=X.M) (E:=E) (w:=w) hz;rw[hi]at D;cases D;rw[x]at j;cases j;split at g
   .rename_i G O;split at g
    .rename_i o;obtain⟨rfl,h0,Q,hb⟩:=o;have hm:n.toNat<=maxLen:=by simp only[maxLen];omega
     cases g;obtain⟨R,S⟩:=oU O;have T:G.length=k:=by rw[R,<-F.1,y]
     have U:n<=9223372036854775807:=Q;have V:(i.bytes:Int)*n<=281474976710656:=by
      rw[K];have:((b*n.toNat:Nat):Int)<=281474976710656:=om
      rwa [Qo,zG h0]at this
     have W:=run_make (P:=X.P) w t e i z hu hi x k1 k2 n n h0 (Int.le_refl _) V U;rw[J]at W;have hR:dS k (List.replicate n.toNat G):=λr W=>by simp_all
     have Y:=h.qM hd H I (e:=e) A N.symm (rows:=List.replicate n.toNat G) hR (cap:=n.toNat) ch hm (us:=madeCells z.cells (n.toNat*k)) (by rw[size_madeCells]) (λB r q p h5 h6=>by
      have Z:r=G:=(C0.1 (eN h5)).2;subst Z;have aa:B<n.toNat:=by have:=(ek.1 h5).1;simpa using this
      have ab:q<k:=by rw[<-T];exact(ek.1 h6).1
      obtain⟨cc,h7,h8⟩:=S q p h6;obtain⟨u',h9,ac,_⟩:=F.2 q cc h7;have ad:B*k+q<n.toNat*k:=by
       have:(B+1)*k<=n.toNat*k:=gV _ aa;rw[pX]at this;omega
      refine⟨u',?_,RC.pv ac h8⟩;simp only[madeCells,acq,acr,ad,if_true,cg,ko];rw[y,show(B*k+q)%k=q by rw[Qm,acs,zH ab]];simp_all) (wd:=w) (.inl rfl)
     simp only[qW]at Y;exact⟨_,_,_,by rw[h3,h4];exact W,λk hk ae=>by rw[Env.lT hk];exact ae,Y.1,Y.2⟩
    .cases g
   .cases g
  .cases g
 .cases g
def rF(P:cJ)(st:bC)(t:cf)(x y:cL):Option (V×iI):=
 match f_ P t,st.arg x,st.arg y with
 |some e,some (.v (.c c)),some (.v (.c d))=>match st.view c,st.view d with
  |some _,some src=>match c with
   |.own n=>match st.heap.lookup n with
    |some (.row b rows)=>let m:=min src.length rows.length
     if b=e/\cC (eG P e) src=true then some (.sc (.int .i64 m),⟨[(n,.row e (src.take m++rows.drop m))],[]⟩)else none
    |_=>none
   |.sub n lo len=>match st.heap.lookup n with
    |some (.row b rows)=>let m:=min src.length len
     if b=e/\cC (eG P e) src=true/\lo+len<=rows.length then some (.sc (.int .i64 m),⟨[(n,.row e (rows.take lo++src.take m++rows.drop (lo+m)))],[]⟩)else none
    |_=>none
   |_=>none
  |_,_=>none
 |_,_,_=>none
def apN(h:Rel X E st a w){t t2 ty x y v ef}(d:rF X.P st t x y=some (v,ef)):
 ∃u w',(Builtin.copy_ #[t,t2] ty #[a.eval x,a.eval y]).run X.P w=.ok u w'/\Rel X E (st.ez ef) a w'/\RV X.M E w' v u:=by
 unfold rF at d;split at d
 .rename_i e cx cy ht Y hy;obtain⟨hu,aa⟩:=oH ht;split at d
  .rename_i aj src ax ak;have ab:=h.Gf hy ak;have key : ∀(n lo len:Nat)(s:cf)(rows:List (List PV)),n∉st.bx->st.heap.lookup n=some (.row s rows)->s=e->cC (eG X.P e) src=true->lo+len<=rows.length->
    (∃z A c,E.N n=some z/\a.eval x=.slice A len c/\(0<len->∃g,z.g=some g/\A=some ⟨g,lo*z.sz,none⟩))->
    ∃u w',(Builtin.copy_ #[t,t2] ty #[a.eval x,a.eval y]).run X.P w=.ok u w'/\Rel X E (st.ez ⟨[(n,.row e (rows.take lo++src.take (min src.length len)++rows.drop (lo+min src.length len)))],[]⟩) a w'/\RV X.M E w' (.sc (.int .i64 (min src.length len:Nat))) u:=by
    rintro n lo len s rows o H rfl hR hlen ⟨z,A,c,hN,al,hA⟩;rw[kf]at hR;obtain⟨z',cur,fz,k1,F,k2,k3,k4,k5,k6,k7,k8,k9,am,an⟩:=h.row o H;rw[hN]at k1;cases k1;have ac:eG X.P s=z.sz:=k7.symm;rw[ac]at hR;have ao:(src.take (min src.length len)).length=min src.length len:=by simp
    have ad:dS z.sz (rows.take lo++src.take (min src.length len)++rows.drop (lo+min src.length len)):=((k9.take _).app (hR.take _)).app (λr hr=>k9 r (oZ hr));rw[al];by_cases Z:min src.length len=0
    ·
     have hrow:rows.take lo++src.take 0++rows.drop (lo+0)=rows:=by simp
     have hres:(Builtin.copy_ #[t,t2] ty #[.slice A len c,a.eval y]).run X.P w=.ok (.int .i64 0) w:=by
      obtain⟨B,cap,hv,hB⟩:=ab.len;have ap:Nat.min src.length len=0:=Z;rw[hv];obtain⟨i,N⟩:=sC.1 aa;cases A<;>cases B<;>simp[Builtin.copy_,run_underlying hu,Builtin.lenOf,Builtin.firstCells,sizeOf,typeInfo,N,ap,loadCells,loadCellsFrom,storeCells,goInt]
     refine⟨_,w,hres,?_,?_⟩
     .have O:=h.step ⟨[(n,.row s rows)],[]⟩ (E':=E) (w':=w) (nx:=st.next) (dz _) ⟨λ_ _ _ h1 h2=>⟨h1,h2⟩,λ_ _ h=>.inr h,λ_ h=>h⟩ (by simp[h.bx]) h.frame h.fj h.names h.inj (λ_ _=>.inr rfl) ch (λ_ _ _ _ _ _ _=>rfl) (λm b hb=>by
       simp only[gb,kJ]at hb;split at hb
       .rename_i ae;simp at ae;subst ae;cases hb;exact .inr (h.row o H)
       .cases hb)
      rw[Z,hrow];exact O
     .rw[Z];exact .sc rfl
    .have Q:0<len:=om;obtain⟨g,I,hA⟩:=hA Q;subst hA;have hblk:=k2 g I;have R:src≠ []:=by rintro rfl;simp at Z
     rcases ab.src hR with⟨h1,_⟩| ⟨gs,os,cap,news,aq,ay,S,hcell,af,hval⟩
     .exact absurd h1 R
     .have aw:lo*z.sz+(min src.length len)*z.sz<=cur.size:=by
       rw[k8,<-kV];exact gV _ om
      have hnews:(news.take (min src.length len*z.sz)).length=min src.length len*z.sz:=by
       rw[dH,S];exact o0 (gV _ (acu _ _))
      have D:=run_loadCells (P:=X.P) w ⟨gs,os,none⟩ (min src.length len*z.sz) (λj=>(news[j]?).getD undef) (λj J=>by
       have G:j<news.length:=by rw[S];exact nt J (gV _ (acu _ _))
       rw[hcell j _ (db G)];simp[G])
      have T:(List.range (min src.length len*z.sz)).map (λj=>(news[j]?).getD undef)=news.take (min src.length len*z.sz):=by
       apply sE;intro j;rw[cY,jD];split
       .rename_i J;have G:j<news.length:=by rw[S];exact nt J (gV _ (acu _ _))
        simp[sG J,G]
       .simp;omega
      have q:=wz X.P g (lo*z.sz) s fz (news.take (min src.length len*z.sz)) 0 cur w F hblk om (λu hu=>af u (ob hu));have hn:Nat.min src.length len=min src.length len:=rfl;have hw :=(h.write hN I hblk ((cur.toList.take (lo*z.sz)++news.take (min src.length len*z.sz)++cur.toList.drop (lo*z.sz+(news.take (min src.length len*z.sz)).length)).toArray) [] ch (.row s (rows.take lo++src.take (min src.length len)++rows.drop (lo+min src.length len))) (λhG ag _=>by
       refine⟨z,_,fz,by exact hN,(by
        have e1:(cur.toList.take (lo*z.sz)++news.take (min src.length len*z.sz)++cur.toList.drop (lo*z.sz+(news.take (min src.length len*z.sz)).length)).toArray.size=cur.size:=by simp[hnews];omega
        rw[e1];exact F),λg' ah=>by rw[I]at ah;cases ah;exact ag,by simp;omega,k4,k5,k6,k7,by simp;omega,ad,am,λi r j p N J=>?_⟩
       have az:j<z.sz:=by rw[<-ad r (eN N)];exact(ek.1 J).1
       rw[hnews]at hG;rw[qV,tN (by rw[hnews];omega),hnews];have ai:=tN (l:=rows) (ys:=src.take (min src.length len)) (off:=lo) (k:=i) om;rw[ao]at ai;rw[ai]at N;split at N
       .have ar:(i-lo+1)*z.sz<=min src.length len*z.sz:=gV _ om;have e1:i*z.sz=lo*z.sz+(i-lo)*z.sz:=by rw[<-kV];congr 1;omega
        rw[pX]at ar;rw[bB om,jD,bB om];obtain⟨u,q1,q2⟩:=hval _ r j p (DT N).1 J;exact⟨u,by rw[<-q1];congr 1;omega,q2.goes hG⟩
       .rename_i K;have au:¬(lo*z.sz<=i*z.sz+j/\i*z.sz+j<lo*z.sz+min src.length len*z.sz):=by
         rintro⟨q1,q2⟩;apply K;rw[<-kV]at q2;refine⟨?_,?_⟩
         .rcases nw i lo with U|U
          .have:(i+1)*z.sz<=lo*z.sz:=gV _ U;rw[pX]at this;omega
          .exact U
         .rcases nw i (lo+min src.length len)with U|U
          .exact U
          .have:(lo+min src.length len)*z.sz<=i*z.sz:=gV _ U;omega
        rw[bG au];obtain⟨u,q1,q2⟩:=an i r j p N J;exact⟨u,by simpa using q1,q2.goes hG⟩)).2
      refine⟨.int .i64 (min src.length len:Nat),_,?_,hw,.sc rfl⟩;rw[aq];rw[T]at D;generalize w.setRow g _=W at q⊢;simp[Builtin.copy_,run_underlying hu,Builtin.lenOf,Builtin.firstCells,run_sizeOf w aa,ac,hn,D,goInt];rw[q];rfl
   split at d
   .rename_i n;have o:=(h.cX Y).2.2 n eH;split at d
    .rename_i s rows H;split at d
     .rename_i K;cases d;obtain⟨z,k1,k2⟩:=dj.get (h.cX Y).1 (h.ji Y (n:=n) eH);obtain⟨z',cur,fz,j1,F,j2,j3,j4,j5,j6,j7,j8,j9,V,av⟩:=h.row o H;rw[k1]at j1;cases j1;have:=key n 0 rows.length s rows o H K.1 K.2 om ⟨z,_,_,k1,by rw[<-j3];exact k2,λZ=>by
       cases I:z.g with
       |none=>have:=V I;omega
       |some g=>exact⟨g,rfl,by simp⟩⟩
      simpa using this
     .cases d
    .cases d
   .rename_i n lo len;have o:=(h.cX Y).2.2 n eH;split at d
    .rename_i s rows H;split at d
     .rename_i K;cases d;obtain⟨z,k1,k2,A,k3,k4⟩:=dj.get (h.cX Y).1 (h.ji Y (n:=n) eH);obtain⟨z',cur,fz,j1,F,j2,j3,j4,j5,j6,j7,j8,j9,V,av⟩:=h.row o H;rw[k1]at j1;cases j1;exact key n lo len s rows o H K.1 K.2.1 K.2.2 ⟨z,_,_,k1,k3,λZ=>by
       cases I:z.g with
       |none=>have:=V I;omega
       |some g=>exact⟨g,rfl,by rw[k4 (.inl om),I];rfl⟩⟩
     .cases d
    .cases d
   .cases d
  .cases d
 .cases d
end
structure Own(P:cJ)(f:FuncId):Prop where
 fn:∃fn,P.funcs[f]?=some fn/\(fn.name== "runtime.NumGoroutine")=false/\fn.body.isNone=false
def hp(H:List fv):Hp:=H.zipIdx.map λx=>(x.2,x.1)
def Tf:∀(H:List fv)(k n),List.lookup n ((H.zipIdx k).map λx=>(x.2,x.1))=if k<=n then H[n-k]? else none
 |[],k,n=>by simp
 |b::H,k,n=>by
  simp only[acp,dE,gb,Tf H (k+1) n];by_cases h:n=k
  .subst h;simp
  .rw[beq_eq_false_iff_ne.2 h];by_cases c:k<=n
   .rw[bB c,bB om];obtain⟨m,rfl⟩:∃m,n=k+1+m:=⟨n- (k+1),om⟩
    simp[show k+1+m-k=m+1 by omega]
   .rw[bG c,bG om]
def aqZ(H)(n):(hp H).lookup n=H[n]?:=by simp[hp,Tf]
structure LZ(N:Nat->Option Nm)(k:Nat)(w w':bW)(E':Env):Prop where
 bx:E'.bx=[]
 names:∀n x g,E'.N n=some x->x.g=some g->g<w'.heap.size/\((∃m y,N m=some y/\y.g=some g)\/w.heap.size<=g)
 inj:∀n m x y g,E'.N n=some x->E'.N m=some y->x.g=some g->y.g=some g->n=m
 gl:∀m,m<k->E'.N m=none\/E'.N m=N m
structure eX(P:cJ)(f:FuncId)(args:List V1)(H:List fv)(r:V)(H':Hp):Prop where
 own:Own P f
 call:∀(w:bW)(M:gE)(N:Nat->Option Nm)(vals:Array b8),(∀g,M g->g<w.heap.size)->(∀n x,N n=some x->n<H.length)->
  (∀n x g,N n=some x->x.g=some g->g<w.heap.size/\¬M g)->(∀n m x y g,N n=some x->N m=some y->x.g=some g->y.g=some g->n=m)->
  (∀n b,H[n]?=some b->RB P M ⟨N,[]⟩ w n b)->vals.size=args.length->
  (∀(i:Nat)(x:V1),args[i]?=some x->∃u,vals[i]?=some u/\e7 M ⟨N,[]⟩ w x u)->
  Calls P f vals w λe w'=>∃v E',e=.returned v/\Frame (λg=>∃n x,N n=some x/\x.g=some g) w w'/\LZ N H.length w w' E'/\
   (∀n b,H'.lookup n=some b->RB P M E' w' n b)/\RV M E' w' r v
def C.eh(ρ:Nat->Nat):C->C
 |.own n=>.own (ρ n)| .sub n lo len=>.sub (ρ n) lo len| .ptr n off=>.ptr (ρ n) off| .d' n i j=>.d' (ρ n) i j| .mp n=>.mp (ρ n)| .fn f eS=>.fn f (eS.map ρ)|c=>c
def V1.on(f:C->C):V1->V1
 |.c x=>.c (f x)
 |.agg xs=>.agg (xs.map f)
def V.on(f:C->C):V->V
 |.v x=>.v (x.on f)
 |.bM xs=>.bM (xs.map (V1.on f))
def fv.on(f:C->C):fv->fv
 |.box cs=>.box (cs.map f)
 |b=>b
def fv.names:fv->List Nat
 |.box cs=>cs.flatMap C.names
 |_=>[]
def Hp.eh(ρ:Nat->Nat)(H:Hp):Hp:=H.map λx=>(ρ x.1,x.2.on (C.eh ρ))
def PV.bare:PV->Bool
 |.sc _=>true
 |.sl rows=>rows.isEmpty
 |.nl=>true
 |.any=>true
def C.bare:C->Bool
 |.p q=>q.bare
 |.ref _=>false
 |_=>true
def V1.bare:V1->Bool
 |.c x=>x.bare
 |.agg xs=>xs.all C.bare
def V.bare:V->Bool
 |.v x=>x.bare
 |.bM xs=>xs.all V1.bare
def fv.bare:fv->Bool
 |.box cs=>cs.all C.bare
 |.row _ rows=>rows.all (·.all PV.bare)
 |.map d=>d.all (·.all PV.bare)
def RP.bare{M M' w q v}(d:q.bare=true)(h:RP M w q v):RP M' w q v:=by
 cases h with
 |sc h=>exact .sc h
 |nil=>exact .nil
 |nl=>exact .nl
 |any h=>exact .any h
 |row k=>simp[PV.bare]at d;exact absurd d k
def jt.bare{B t w}:∀{k h},jt B w k h->h.all (·.all PV.bare)=true->jt t w k h
 |[],[],_,_=>trivial
 |m::_,r::_,⟨x,y⟩,d=>by
  simp only[Iv,cF]at d;refine⟨?_,y.bare d.2⟩
  match r,x,d.1 with
  |.sc (.int .u64 _)::ps,⟨k1,us,k2,z,D⟩,d=>
   simp only[Iv,cF,cI]at d;exact⟨k1,us,k2,z,λj p q=>let⟨u,q1,q2,q3⟩:=D j p q; ⟨u,q1,q2.bare (d.2 p (eN q)),q3⟩⟩
section
variable{M M':gE}{E E':Env}{w:bW}{f:C->C}
def e7.on(k:∀c v,RC M E w c v->RC M' E' w (f c) v){x v}(h:e7 M E w x v):e7 M' E' w (x.on f) v:=by
 cases x with
 |c c=>exact k c v h
 |agg cs=>
  obtain⟨us,t,y,z⟩:=h;refine⟨us,t,by simp[y],λi c m=>?_⟩;simp only[cY,b9]at m;obtain⟨q,d,rfl⟩:=m;obtain⟨u,B,D,F⟩:=z i q d;exact⟨u,B,k q u D,F⟩
def RV.on(k:∀c v,RC M E w c v->RC M' E' w (f c) v){x v}(h:RV M E w x v):RV M' E' w (x.on f) v:=by
 cases x with
 |v x=>exact e7.on k h
 |bM xs=>
  obtain⟨us,q,t,y⟩:=h;refine⟨us,q,by simp[t],λi c m=>?_⟩;simp only[cY,b9]at m;obtain⟨z,d,rfl⟩:=m;obtain⟨u,B,D⟩:=y i z d;exact⟨u,B,e7.on k D⟩
def RC.eh{ρ c v}(d:jo (bad M E) (bad M' E') w w\/c.bare=true)(D:∀n∈c.names,n∉E.bx/\∀x,E.N n=some x->E'.N (ρ n)=some x)(h:RC M E w c v):RC M' E' w (c.eh ρ) v:=by
 have nm:∀n(Q:Nm->Prop),n∈c.names->dj E n Q->dj E' (ρ n) Q:=by
  intro n Q F I;obtain⟨x,k,t⟩:=dj.get I (D n F).1;exact .inr ⟨x,(D n F).2 x k,t⟩
 cases c with
 |p q=>exact d.elim (λd=>RP.trans h d) (λJ=>RP.bare J h)
 |nil=>exact h
 |own n=>exact nm n _ eH h
 |sub n lo len=>exact nm n _ eH h
 |ptr n off=>exact nm n _ eH h
 |d' n i j=>exact nm n _ eH h
 |ref cells=>
  rcases d with d|d
  .obtain⟨g,o,k,t⟩:=h;refine⟨g,o,k,λj p K=>?_⟩;obtain⟨u,y,z,B⟩:=t j p K;exact⟨u,y,(d _ _ _ y z).2,B.trans d⟩
  .cases d
 |fn f eS=>
  obtain⟨us,k,t,y⟩:=h;refine⟨us,k,by simp[t],λi n G=>?_⟩;simp only[cY,b9]at G;obtain⟨m,H,rfl⟩:=G;obtain⟨u,z,B⟩:=y i m H;exact⟨u,z,nm m _ (by exact eN H) B⟩
 |mp n=>exact nm n _ eH h
 |dead=>trivial
def RB.eh{P ρ n b}(t:jo (bad M E) (bad M' E') w w\/b.bare=true)(F:∀x,E.N n=some x->E'.N (ρ n)=some x)(Y:∀n∈b.names,n∉E.bx/\∀x,E.N n=some x->E'.N (ρ n)=some x)(h:RB P M E w n b):
 RB P M' E' w (ρ n) (b.on (C.eh ρ)):=by
 have rp:∀{q:PV}{v:b8},(b.bare=true->q.bare=true)->RP (bad M E) w q v->RP (bad M' E') w q v:=λd T=>t.elim (λt=>T.trans t) (λh=>RP.bare (d h) T)
 cases b with
 |box cs=>
  obtain⟨x,g,cur,e,y,G,z,k,H⟩:=h;refine⟨x,g,cur,e,F x y,G,z,by simp[k],λi c B=>?_⟩;simp only[cY,b9]at B;obtain⟨I,D,rfl⟩:=B;obtain⟨u,J,K,N⟩:=H i I D;have U:=eN D;refine⟨u,J,RC.eh (t.imp id λd=>?_) (λm O=>Y m (ug.2 ⟨I,U,O⟩)) K,N⟩;simp only[fv.bare,cI]at d;exact d I U
 |row e rows=>
  obtain⟨x,cur,fz,y,Q,z,k,H,J,K,R,N,Z,S,h9⟩:=h;refine⟨x,cur,fz,F x y,Q,z,k,H,J,K,R,N,Z,S,λi r j p B W=>?_⟩;obtain⟨u,k1,k2⟩:=h9 i r j p B W;refine⟨u,k1,rp (λd=>?_) k2⟩;simp only[fv.bare,cI]at d;exact d r (eN B) p (eN W)
 |map es=>
  obtain⟨x,g,en,clock,y,G,z,k⟩:=h;exact⟨x,g,en,clock,F x y,G,z,t.elim k.trans k.bare⟩
end
def RH{ρ}:∀{H}{n}{d},(Hp.eh ρ H).lookup n=some d->∃m b,H.lookup m=some b/\ρ m=n/\d=b.on (C.eh ρ)
 |[],n,d,h=>by simp[Hp.eh]at h
 |(e,i)::H,n,d,h=>by
  simp only[Hp.eh,dE,gb]at h;split at h
  .rename_i c;simp at c;cases h;exact⟨e,i,by simp,c.symm,rfl⟩
  .rename_i c;obtain⟨m,b,j,g,k⟩:=RH (H:=H) h;refine⟨m,b,?_,g,k⟩;rw[gb];have:(m==e)=false:=by
    rw[beq_eq_false_iff_ne];rintro rfl;simp[g]at c
   rw[this];exact j
def WZ{ρ}:∀{H}{m}{b},H.lookup m=some b->(Hp.eh ρ H).lookup (ρ m)≠none
 |[],m,b,h=>by simp at h
 |(e,g)::H,m,b,h=>by
  simp only[Hp.eh,dE,gb];split
  .simp
  .rename_i c;rw[gb]at h;split at h
   .rename_i d;simp at d;subst d;simp at c
   .exact WZ h
def tb(st:bC)(ι:List Nat)(L:List Nat):C->C->Prop
 |.dead,_=>True
 |.p q,c=>c=.p q\/∃rows,q=.sl rows/\st.view c=some rows/\∀n∈c.names,n∈L
 |c',c=>c=c'.eh (λm=>(ι[m]?).getD 0)/\∀m∈c'.names,m<ι.length
def zf(st:bC)(ι:List Nat)(L:List Nat):V1->V1->Prop
 |.c d,.c c=>tb st ι L d c
 |.agg b,.agg cs=>cs.length=b.length/\∀(i:Nat)(d:C),b[i]?=some d->∃c,cs[i]?=some c/\tb st ι L d c
 |_,_=>False
def yL(st:bC)(ι:List Nat)(L:List Nat):fv->fv->Prop
 |.box d,.box cs=>cs.length=d.length/\∀(i:Nat)(h:C),d[i]?=some h->∃c,cs[i]?=some c/\tb st ι L h c
 |.row j b,.row e rows=>j=e/\b=rows
 |.map g,.map k=>g=k
 |_,_=>False
def ly(ι:List Nat)(d:Nat)(m:Nat):Nat:=if m<ι.length then(ι[m]?).getD 0 else d+(m-ι.length)
structure AT(P:cJ)(st:bC)(d:Nat)(f:FuncId)(xs:List V1)(v:V)(ef:iI)(rd:List Nat):Prop where
 ex:∃(cargs:List V1)(H:List fv)(r:V)(H':Hp)(ι L:List Nat),eX P f cargs H r H'/\ι.length=H.length/\ι.Nodup/\
  xs.length=cargs.length/\(∀(i:Nat)(x':V1),cargs[i]?=some x'->∃x,xs[i]?=some x/\zf st ι L x' x)/\
  (∀(i:Nat)(b':fv),H[i]?=some b'->∃n b,ι[i]?=some n/\st.heap.lookup n=some b/\yL st ι L b' b)/\
  (∀n∈ι,n∉st.bx/\n∉L)/\(∀n∈L,n∉st.bx)/\
  (∀n∈r.names,n<ι.length+8)/\(∀n b,H'.lookup n=some b->n<ι.length+8/\∀m∈b.names,m<ι.length+8)/\
  (∀n∈r.names,n<ι.length->H'.lookup n≠none)/\(∀n b,H'.lookup n=some b->∀m∈b.names,m<ι.length->H'.lookup m≠none)/\
  ((∀n∈L,n∈ef.bx)\/(r.bare=true/\∀n b,H'.lookup n=some b->b.bare=true))/\
  (∀(i n:Nat),ι[i]?=some n->(n∈ef.bx↔H'.lookup i=none))/\(∀n∈ef.bx,n∈ι\/n∈L)/\
  (∀n∈ef.bx,n<d)/\v=r.on (C.eh (ly ι d))/\((∀n b,ef.cq.lookup n=some b->(Hp.eh (ly ι d) H').lookup n=some b)/\∀n b,(Hp.eh (ly ι d) H').lookup n=some b->ef.cq.lookup n=some b\/n∈ι/\ef.cq.lookup n=none/\st.heap.lookup n=some b)/\rd=ι++L
def X_{st:bC}{c rows}(h:st.view c=some rows):∃b,st.sink c=some (.sl rows,b)/\∀n∈b,n∈c.names:=by
 cases c with
 |p q=>
  cases q with
  |sc=>cases h
  |sl=>cases h;exact⟨_,rfl,by simp⟩
  |nl=>cases h
  |any=>cases h
 |nil=>cases h;exact⟨_,rfl,by simp⟩
 |own n=>
  simp only[bC.view]at h;split at h
  .simp_all[bC.sink,C.names]
  .cases h
 |sub n lo len=>
  simp only[bC.view]at h;split at h
  .simp_all[bC.sink,C.names]
  .cases h
 |_=>cases h
def lQ(E:Env)(ι:List Nat):Nat->Option Nm:=λm=>match ι[m]? with|some n=>E.N n|none=>none
def qK(M:gE)(E:Env)(ι L:List Nat):gE:=λg=>M g\/∃n x,E.N n=some x/\x.g=some g/\n∉ι/\n∉L
section
variable{X:Fx}{E:Env}{st:bC}{a:Act}{w:bW}{ι L:List Nat}
def oE{m x}(h:lQ E ι m=some x):∃n,ι[m]?=some n/\E.N n=some x:=by
 unfold lQ at h;split at h
 .exact⟨_,by assumption,h⟩
 .cases h
def YH{M g}(h:bad (qK M E ι L) ⟨lQ E ι,[]⟩ g):bad M E g:=by
 rcases h with(h| ⟨n,x,b,c,_⟩)| ⟨m,x,b,c⟩
 .exact .inl h
 .exact .inr ⟨n,x,b,c⟩
 .obtain⟨n,e,d⟩:=oE b;exact .inr ⟨n,x,d,c⟩
def KQ(h:Rel X E st a w)(y:∀n∈ι,n∉st.bx/\n∉L)(N:∀n∈L,n∉st.bx){z c v}(k:tb st ι L z c)(d:RC X.M E w c v):RC (qK X.M E ι L) ⟨lQ E ι,[]⟩ w z v:=by
 have r:jo (bad X.M E) (bad (qK X.M E ι L) ⟨lQ E ι,[]⟩) w w:=λg o u l e=>⟨l,λh=>e (YH h)⟩
 have nm:∀m(Q:Nm->Prop),m<ι.length->dj E ((ι[m]?).getD 0) Q->dj ⟨lQ E ι,[]⟩ m Q:=by
  intro m Q T O;obtain⟨x,l,e⟩:=dj.get O (by rw[h.bx];simp_all);exact .inr ⟨x,by simp_all[lQ],e⟩
 cases z with
 |dead=>trivial
 |p q=>
  rcases k with rfl| ⟨rows,rfl,P,b⟩
  .exact RP.trans d r
  .obtain⟨R,l,e⟩:=X_ P;obtain⟨_,_,t⟩:=h.sink d (λn A=>N n (b n A)) l;refine RP.trans (t R (λ_ h=>h)) (λg o u k1 k2=>⟨k1,λB=>k2 ?_⟩);rcases B with(B| ⟨n,x,D,F,J,G⟩)| ⟨m,x,D,F⟩
   .exact .inl B
   .refine .inr ⟨n,x,?_,F⟩;simp only[Env.drop];rw[bG λs=>G (b n (e n s))];exact D
   .obtain⟨n,J,G⟩:=oE D;refine .inr ⟨n,x,?_,F⟩;simp only[Env.drop];rw[bG λs=>(y n (eN J)).2 (b n (e n s))];exact G
 |nil=>obtain⟨rfl,_⟩:=k;exact d
 |own n=>obtain⟨rfl,b⟩:=k;exact nm n _ (b n eH) d
 |sub n lo len=>obtain⟨rfl,b⟩:=k;exact nm n _ (b n eH) d
 |ptr n off=>obtain⟨rfl,b⟩:=k;exact nm n _ (b n eH) d
 |d' n i j=>obtain⟨rfl,b⟩:=k;exact nm n _ (b n eH) d
 |mp n=>obtain⟨rfl,b⟩:=k;exact nm n _ (b n eH) d
 |ref cells=>
  obtain⟨rfl,_⟩:=k;obtain⟨g,o,l,e⟩:=d;refine⟨g,o,l,λj p S=>?_⟩;obtain⟨u,t,H,I⟩:=e j p S;exact⟨u,t,(r _ _ _ t H).2,I.trans r⟩
 |fn f eS=>
  obtain⟨rfl,b⟩:=k;obtain⟨us,l,e,t⟩:=d;refine⟨us,l,by simpa using e,λi n K=>?_⟩;obtain⟨u,H,I⟩:=t i _ (by rw[cY,K];rfl);exact⟨u,H,nm n _ (b n (by exact eN K)) I⟩
def alG(h:Rel X E st a w)(b:∀n∈ι,n∉st.bx/\n∉L)(g:∀n∈L,n∉st.bx){e x v}(d:zf st ι L e x)(j:e7 X.M E w x v):e7 (qK X.M E ι L) ⟨lQ E ι,[]⟩ w e v:=by
 cases e with
 |c k=>
  cases x with
  |c c=>exact KQ h b g d j
  |agg=>exact d.elim
 |agg l=>
  cases x with
  |c=>exact d.elim
  |agg cs=>
   obtain⟨us,m,o,p⟩:=j;refine⟨us,m,by rw[o,d.1],λi k q=>?_⟩;obtain⟨c,r,s⟩:=d.2 i k q;obtain⟨u,t,y,z⟩:=p i c r;exact⟨u,t,KQ h b g s y,z⟩
def adx(h:Rel X E st a w)(m:∀n∈ι,n∉st.bx/\n∉L)(J:∀n∈L,n∉st.bx){i n t b}(v:ι[i]?=some n)(K:st.heap.lookup n=some b)(d:yL st ι L t b):
 RB X.P (qK X.M E ι L) ⟨lQ E ι,[]⟩ w i t:=by
 have q:jo (bad X.M E) (bad (qK X.M E ι L) ⟨lQ E ι,[]⟩) w w:=λg o u k l=>⟨k,λh=>l (YH h)⟩
 have y:=h.row (m n (eN v)).1 K;have z:∀x,E.N n=some x->(⟨lQ E ι,[]⟩:Env).N i=some x:=λx hx=>by simp_all[lQ]
 cases t with
 |box N=>
  cases b with
  |box cs=>
   obtain⟨x,g,cur,e,k,A,l,s,B⟩:=y;refine⟨x,g,cur,e,z x k,A,l,by rw[s,d.1],λj O D=>?_⟩;obtain⟨c,k1,k2⟩:=d.2 j O D;obtain⟨u,P,Q,R⟩:=B j c k1;exact⟨u,P,KQ h m J k2 Q,R⟩
  |_=>exact d.elim
 |row e' F=>
  cases b with
  |row e rows=>
   obtain⟨rfl,rfl⟩:=d;obtain⟨x,cur,fz,k,G,l,s,B,S,T,H,U,V,I,W⟩:=y;exact⟨x,cur,fz,z x k,G,l,s,B,S,T,H,U,V,I,λi r j p v D=>let⟨u,k1,k2⟩:=W i r j p v D; ⟨u,k1,k2.trans q⟩⟩
  |_=>exact d.elim
 |map Y=>
  cases b with
  |map es=>
   cases d;obtain⟨x,g,Z,clock,k,A,l,s⟩:=y;exact⟨x,g,Z,clock,z x k,A,l,s.trans q⟩
  |_=>exact d.elim
end
def tp(X:Fx)(E:Env)(st:bC)(d:Nat):Prop:=∀n,d<=n->n<d+8->E.N n=none/\n∉st.bx/\n<st.next/\X.k0<=n
section
variable{X:Fx}{E:Env}{st:bC}{a:Act}{w:bW}
def art(h:Rel X E st a w){d}(hF:tp X E st d){f vals xs}(aI:vals.size=xs.length)(aJ:∀(i:Nat)(x),xs[i]?=some x->∃u,vals[i]?=some u/\e7 X.M E w x u){v K rd}(hc:AT X.P st d f xs v K rd):
 Own X.P f/\Calls X.P f vals w λe w'=>∃u E',e=.returned u/\(∀n,¬(d<=n/\n<d+8)->E.N n=none->E'.N n=none)/\Rel X E' (st.ez K) a w'/\RV X.M E' w' v u:=by
 obtain⟨aK,H,r,H',ι,L,hA,hlen,aL,aM,av,Y,aq,hL,aN,aO,aP,aQ,Z,aa,be,aw,rfl,ao,_⟩:=hc;refine⟨hA.own,?_⟩;have ag:∀i,i<ι.length->∃n x,ι[i]?=some n/\E.N n=some x:=by
  intro i J;have aR:i<H.length:=om;obtain⟨n,b,l,p,s⟩:=Y i _ (db aR);have B:=h.row (aq n (eN l)).1 p
  cases b with
  |box cs=>obtain⟨x,_,_,_,q,_⟩:=B;exact⟨n,x,l,q⟩
  |row e rows=>obtain⟨x,_,_,q,_⟩:=B;exact⟨n,x,l,q⟩
  |map es=>obtain⟨x,_,_,_,q,_⟩:=B;exact⟨n,x,l,q⟩
 have ah:∀(i j n:Nat),ι[i]?=some n->ι[j]?=some n->i=j:=by
  intro i j n l p;have J:=(ek.1 l)
  have hj:=(ek.1 p)
  obtain⟨ax,ay⟩:=J;obtain⟨az,aA⟩:=hj;have hp:=lM.1 aL;rcases C1 i j with R|aS|R
  .exact absurd (ay.trans aA.symm) (hp i j ax az R)
  .exact aS
  .exact absurd (aA.trans ay.symm) (hp j i az ax R)
 have ar:=hA.call w (qK X.M E ι L) (lQ E ι) vals ?_ ?_ ?_ ?_ ?_ ?_ ?_
 .refine ar.mono ?_;rintro e w' ⟨u,E',rfl,ai,N,aB,aC⟩
  let O:Env:=⟨λn=>if n∈K.bx then none else if d<=n/\n<d+8 then E'.N (ι.length+(n-d))else E.N n,K.bx++E.bx⟩
  have S:∀n y,O.N n=some y->n∉K.bx/\((d<=n/\n<d+8/\E'.N (ι.length+(n-d))=some y)\/(¬(d<=n/\n<d+8)/\E.N n=some y)):=by
   intro n y P;simp only[O]at P;split at P
   .cases P
   .rename_i D;split at P
    .rename_i hd;exact⟨D,.inl ⟨hd.1,hd.2,P⟩⟩
    .rename_i hd;exact⟨D,.inr ⟨hd,P⟩⟩
  have ab:∀n y,E.N n=some y->¬(d<=n/\n<d+8):=λn y P hd=>by rw[(hF n hd.1 hd.2).1]at P;cases P
  have ac:∀n,n∉K.bx->¬(d<=n/\n<d+8)->O.N n=E.N n:=λn l p=>by simp only[O,bG l,bG p]
  have R:∀n y g,E.N n=some y->y.g=some g->g<w.heap.size:=λn y g P D=>(h.names n y g P D).1
  have F:∀(i n:Nat)(x:Nm),ι[i]?=some n->n∉K.bx->E.N n=some x->E'.N i=some x:=by
   intro i n x J G A;have l:H'.lookup i≠none:=λl=>G ((aa i n J).2 l)
   obtain⟨b,B⟩:=acv.1 l;have au:=aB i b B;have aT:E'.N i≠none:=by
    cases b with
    |box cs=>obtain⟨y,_,_,_,q,_⟩:=au;rw[q];simp
    |row e rows=>obtain⟨y,_,_,q,_⟩:=au;rw[q];simp
    |map es=>obtain⟨y,_,_,_,q,_⟩:=au;rw[q];simp
   have aU:i<H.length:=by rw[<-hlen];exact(ek.1 J).1
   rcases N.gl i aU with p|p
   .exact absurd p aT
   .rw[p];simp only[lQ,J];exact A
  have ad:∀m x,m<ι.length+8->(m<ι.length->H'.lookup m≠none)->E'.N m=some x->O.N (ly ι d m)=some x:=by
   intro m x hm hl A;unfold ly;split
   .rename_i aj;obtain⟨n,y,l,p⟩:=ag m aj;have ak:n∉K.bx:=λD=>hl aj ((aa m n l).1 D)
    rw[l,ik,ac n ak (ab n y p)];have:=F m n y l ak p;rw[A]at this;rw[p,this]
   .have l:d<=d+(m-ι.length)/\d+(m-ι.length)<d+8:=om;simp only[O];rw[bG (λD=>by have:=aw _ D;omega),bB l,show ι.length+(d+(m-ι.length) -d)=m by omega];exact A
  have aD:(∀n∈L,n∈K.bx)->jo (bad (qK X.M E ι L) E') (bad X.M O) w' w':=by
   intro aV g o u l p;refine⟨l,λs=>p ?_⟩;rcases s with s| ⟨n,x,q,t⟩
   .exact .inl (.inl s)
   .obtain⟨Q,I⟩:=S n x q;rcases I with⟨_,_,I⟩| ⟨_,I⟩
    .exact .inr ⟨_,x,I,t⟩
    .by_cases G:n∈ι
     .obtain⟨i,J,aW⟩:=kL G;exact .inr ⟨i,x,F i n x (by rw[<-aW];exact db J) Q I,t⟩
     .exact .inl (.inr ⟨n,x,I,t,G,λhl=>Q (aV n hl)⟩)
  have hG : iX X.M E O w w':={
   cell :=λg o u l p=>by
    have D:=World.block_lt_of_cell? w ⟨g,o,none⟩ l;have B:=ai.block g D (λ⟨m,x,s,q⟩=>by
     obtain⟨n,t,Q⟩:=oE s;exact p (.inr ⟨n,x,Q,q⟩))
    refine⟨(World.cell?_of_block (w:=w) (a:=⟨g,o,none⟩) B).trans l,λs=>p ?_⟩;rcases s with s| ⟨n,x,q,t⟩
    .exact .inl s
    .obtain⟨_,I⟩:=S n x q;rcases I with⟨_,_,I⟩| ⟨_,I⟩
     .rcases(N.names _ x g I t).2 with⟨m,y,h8,h9⟩|h8
      .obtain⟨k,al,aX⟩:=oE h8;exact .inr ⟨k,y,aX,h9⟩
      .have bf:g<w.heap.size:=D;omega
     .exact .inr ⟨n,x,I,t⟩
   name:=λn x A=>by
    by_cases D:n∈K.bx
    .exact .inl (zE _ D)
    .exact .inr (by rw[ac n D (ab n x A)];exact A)
   bx:=λn G=>wX _ G}
  have am:∀n∈K.bx,n<st.next:=λn G=>by have:=aw n G;have:=(hF d (dz _) om).2.2.1;omega
  refine⟨u,O,rfl,λn G aY=>?_,?_,?_⟩
  .simp only[O,bG G];split
   .rfl
   .exact aY
  .have hall:∀n b,(Hp.eh (ly ι d) H').lookup n=some b->RB X.P X.M O w' n b:=by
    intro n b hl;obtain⟨m,b',l,rfl,rfl⟩:=RH hl;obtain⟨p,s⟩:=aO m b' l;exact RB.eh (Z.imp aD λB=>B.2 m b' l) (λx A=>ad m x p (λ_=>by rw[l];simp) A) (λk hk=>⟨by rw[N.bx];simp,λx A=>ad k x (s k hk) (aQ m b' l k hk) A⟩) (aB m b' l)
   refine h.Yh K (nx:=st.next) (dz _) hG (by simp[O,h.bx]) ?_ ?_ ?_ ?_ ?_ am ?_ λn b hl=>.inr (hall n b (ao.1 n b hl))
   .refine h.frame.trans ai ?_;rintro g D ⟨m,x,l,p⟩;obtain⟨n,s,q⟩:=oE l;rcases(h.names n x g q p).2.1 with t|t
    .exact t
    .omega
   .intro n x A;rcases(S n x A).2 with⟨l,p,_⟩| ⟨_,l⟩
    .exact(hF n l p).2.2.1
    .exact h.fj n x l
   .intro n x g A D;rcases(S n x A).2 with⟨_,_,l⟩| ⟨_,l⟩
    .obtain⟨p,s⟩:=N.names _ x g l D;refine⟨p,?_⟩;rcases s with⟨m,y,q,t⟩|s
     .obtain⟨k,Q,I⟩:=oE q;exact(h.names k y g I t).2
     .have:=h.frame.size;exact⟨.inr om,λhM=>by have:=h.jJ g hM;omega⟩
    .obtain⟨p,s⟩:=h.names n x g l D;exact⟨nt p ai.size,s⟩
   .intro n m x y g A P T U;have ae:∀n m x y,d<=n->n<d+8->E'.N (ι.length+(n-d))=some x->m∉K.bx->E.N m=some y->x.g=some g->y.g=some g->n=m:=by
     intro n m x y l p s aZ q t Q;rcases(N.names _ x g s t).2 with⟨k,z,I,h8⟩|I
     .obtain⟨j,h9,al⟩:=oE I;have:=h.inj j m z y g al q h8 Q;subst this;rw[al]at q;cases q;have:=N.inj _ k x y g s (F k j y h9 aZ al) t h8;have:=(ek.1 h9).1;omega
     .have:=R m y g q Q;omega
    obtain⟨ha,l⟩:=S n x A;obtain⟨B,p⟩:=S m y P;rcases l with⟨s,q,t⟩| ⟨_,t⟩<;>rcases p with⟨k3,k4,k5⟩| ⟨_,k5⟩
    .have:=N.inj _ _ x y g t k5 T U;omega
    .exact ae n m x y s q t B k5 T U
    .exact(ae m n y x k3 k4 k5 ha t U T).symm
    .exact h.inj n m x y g t k5 T U
   .intro m hm;simp only[O];split
    .exact .inl rfl
    .rw[bG (λhd=>by have:=(hF m hd.1 hd.2).2.2.2;omega)];exact .inr rfl
   .intro n ak ba;by_cases hc:∃b,(Hp.eh (ly ι d) H').lookup n=some b
    .obtain⟨b,B⟩:=hc;rcases ao.2 n b B with l| ⟨_,_,l⟩
     .rw[ba]at l;cases l
     .exact .inr λb' aE=>by rw[l]at aE;cases aE;exact hall n b B
    .refine .inl λx g A D=>ai.block g (R n x g A D) ?_
     rintro⟨m,y,l,p⟩;obtain⟨k,s,q⟩:=oE l;have:=h.inj k n y x g q A p D;subst this;have aF:k∉K.bx:=λhk=>ak (zE _ hk)
     have t:H'.lookup m≠none:=λt=>aF ((aa m k s).2 t)
     obtain⟨b,B⟩:=acv.1 t;have Q:=WZ (ρ:=ly ι d) B;have aj:=(ek.1 s).1;rw[show ly ι d m=k by unfold ly;rw[bB aj,s];rfl]at Q;obtain⟨b2,bc⟩:=acv.1 Q;exact hc ⟨b2,bc⟩
  ·
   have key:∀c v,c.bare=true\/(∀n∈L,n∈K.bx)->(∀n∈c.names,n<ι.length+8/\(n<ι.length->H'.lookup n≠none))->RC (qK X.M E ι L) E' w' c v->RC X.M O w' (c.eh (ly ι d)) v:=by
    intro c v B G an;exact RC.eh (B.symm.imp aD id) (λn W=>⟨by rw[N.bx];simp,λx A=>ad n x (G n W).1 (G n W).2 A⟩) an
   have ap:∀(x:V1)v,x.bare=true\/(∀n∈L,n∈K.bx)->(∀n∈x.names,n<ι.length+8/\(n<ι.length->H'.lookup n≠none))->e7 (qK X.M E ι L) E' w' x v->e7 X.M O w' (x.on (C.eh (ly ι d))) v:=by
    intro x v B G an
    cases x with
    |c c=>exact key c v B G an
    |agg cs=>
     obtain⟨us,l,p,s⟩:=an;refine⟨us,l,by simp[p],λi c J=>?_⟩;simp only[cY,b9]at J;obtain⟨c',af,rfl⟩:=J;obtain⟨u,q,t,Q⟩:=s i c' af;have hm:=eN af;refine⟨u,q,key c' u (B.imp (λB=>?_) id) (λn W=>G n (ug.2 ⟨c',hm,W⟩)) t,Q⟩;simp only[V1.bare,cI]at B;exact B c' hm
   have aG:r.bare=true\/(∀n∈L,n∈K.bx):=Z.symm.imp (·.1) id;have aH:∀n∈r.names,n<ι.length+8/\(n<ι.length->H'.lookup n≠none):=λn G=>⟨aN n G,aP n G⟩
   cases r with
   |v x=>exact ap x u aG aH aC
   |bM xs=>
    obtain⟨us,l,p,s⟩:=aC;refine⟨us,l,by simp[p],λi c J=>?_⟩;simp only[cY,b9]at J;obtain⟨c',af,rfl⟩:=J;obtain⟨u',q,t⟩:=s i c' af;have hm:=eN af;refine⟨u',q,ap c' u' (aG.imp (λB=>?_) id) (λn W=>aH n (ug.2 ⟨c',hm,W⟩)) t⟩;simp only[V.bare,cI]at B;exact B c' hm
 .rintro g (D| ⟨n,x,l,p,_⟩)
  .have:=h.jJ g D;have:=h.frame.size;omega
  .exact(h.names n x g l p).1
 .intro n x A;obtain⟨k,l,_⟩:=oE A;have:=(ek.1 l).1;omega
 .intro n x g A D;obtain⟨k,l,p⟩:=oE A;obtain⟨s,_,q⟩:=h.names k x g p D;refine⟨s,?_⟩;rintro(t| ⟨m,y,t,Q,I,_⟩)
  .exact q t
  .have:=h.inj k m x y g p t D Q;subst this;exact I (eN l)
 .intro n m x y g A P T U;obtain⟨k,l,p⟩:=oE A;obtain⟨j,s,q⟩:=oE P;have:=h.inj k j x y g p q T U;subst this;exact ah n m k l s
 .intro i b' J;obtain⟨n,b,l,p,s⟩:=Y i b' J;exact adx h aq hL l p s
 .rw[aI,aM]
 .intro i x' J;obtain⟨x,l,p⟩:=av i x' J;obtain⟨u,s,q⟩:=aJ i x l;exact⟨u,s,alG h aq hL p q⟩
end
def iL(z:Int):List PV->Bool
 |.sc (.int .u64 y)::_=>z==y
 |_=>false
def pM(z:Int)(ps:List PV):List (List PV)->List (List PV)
 |[]=>[.sc (.int .u64 z)::ps]
 |r::b=>if iL z r then(.sc (.int .u64 z)::ps)::b else r::pM z ps b
def pF(z:Int):List (List PV)->List (List PV)
 |[]=>[]
 |r::b=>if iL z r then b else r::pF z b
def lu(z:Int):List (List PV)->Option (List PV)
 |[]=>none
 |r::b=>if iL z r then some r.tail else lu z b
def oy.key{B w m r}(h:oy B w m r):∃y ps,r=.sc (.int .u64 y)::ps/\m.key=.int .u64 y:=by
 match r,h with
 |.sc (.int .u64 y)::ps,h=>exact⟨y,ps,rfl,h.1⟩
def Zy{B w}(z):∀{b c}(i:Nat),jt B w b c->
 Instr.findNow (.int .u64) (.int .u64 z) b i=some ((c.findIdx? (iL z)).bind λj=>(b[j]?).map λm=>(i+j,m.val))
 |[],[],i,_=>rfl
 |m::b,r::c,i,⟨e,g⟩=>by
  obtain⟨y,ps,rfl,h⟩:=e.key;simp only[Instr.findNow,h,Instr.sameNow,if_true,Qp,iL];by_cases d:z=y
  .subst d;simp
  .have:(z==y)=false:=by simpa using d
   simp only[this,pW,if_false];rw[Zy z (i+1) g]
   cases k:c.findIdx? (iL z)with
   |none=>simp
   |some j=>simp[zD,Nat.add_comm 1 j]
def LH{P c}(e:P.underlying c=some (.int .u64)){B w b d}(h:jt B w b d)(z)(w'):
 (Instr.findKey c (.int .u64 z) b).run P w'=.ok ((d.findIdx? (iL z)).bind λj=>(b[j]?).map λm=>(j,m.val)) w':=by
 have:=Zy z 0 h;simp only[kp]at this;simp[Instr.findKey,run_underlying e,this]
def R4{B w z ps m v}(i:oy B w m (.sc (.int .u64 z)::ps))(k:∀e:MapEntry,oy B w {e with key:=.int .u64 z,val:=v} (.sc (.int .u64 z)::ps)):∀{d c},jt B w d c->
 (c.findIdx? (iL z)=none->jt B w (d++[m]) (pM z ps c))/\
 ∀j,c.findIdx? (iL z)=some j->jt B w (d.modify j λe=> {e with key:=.int .u64 z,val:=v}) (pM z ps c)
 |[],[],_=>⟨λ_=>⟨i,trivial⟩,λj b=>by simp at b⟩
 |e::d,r::c,⟨l,n⟩=>by
  simp only[Qp,pM];by_cases o:iL z r=true
  .simp only[o,if_true];refine⟨λh=>by simp at h,λj b=>?_⟩;cases b;exact⟨k e,n⟩
  .simp only[o,if_false];obtain⟨k1,k2⟩:=R4 i k n;refine⟨λh=>?_,λj b=>?_⟩
   .exact⟨l,k1 (by simpa using h)⟩
   .cases g:c.findIdx? (iL z)with
    |none=>rw[g]at b;simp at b
    |some p=>
     rw[g]at b;simp at b;subst b;exact⟨l,k2 p g⟩
def XO{B w z}:∀{d c},jt B w d c->
 (c.findIdx? (iL z)=none->pF z c=c)/\∀j,c.findIdx? (iL z)=some j->jt B w (d.eraseIdx j) (pF z c)
 |[],[],_=>⟨λ_=>rfl,λj b=>by simp at b⟩
 |e::d,r::c,⟨l,i⟩=>by
  simp only[Qp,pF];by_cases k:iL z r=true
  .simp only[k,if_true];refine⟨λh=>by simp at h,λj b=>?_⟩;cases b;exact i
  .simp only[k,if_false];obtain⟨k1,k2⟩:=XO (z:=z) i;refine⟨λh=>?_,λj b=>?_⟩
   .rw[bG ch,k1 (by simpa using h)]
   .cases g:c.findIdx? (iL z)with
    |none=>rw[g]at b;simp at b
    |some m=>
     rw[g]at b;simp at b;subst b;rw[bG ch];exact⟨l,k2 m g⟩
def Bl{B w z}:∀{d c},jt B w d c->
 (c.findIdx? (iL z)=none->lu z c=none)/\∀j,c.findIdx? (iL z)=some j->∃m ps,d[j]?=some m/\lu z c=some ps/\oy B w m (.sc (.int .u64 z)::ps)
 |[],[],_=>⟨λ_=>rfl,λj b=>by simp at b⟩
 |e::d,r::c,⟨k,l⟩=>by
  simp only[Qp,lu];by_cases g:iL z r=true
  .simp only[g,if_true];refine⟨λh=>by simp at h,λj b=>?_⟩;cases b;obtain⟨y,ps,rfl,o⟩:=k.key;obtain rfl:z=y:=by simpa[iL]using g
   exact⟨e,ps,rfl,rfl,k⟩
  .simp only[g,if_false];obtain⟨k1,k2⟩:=Bl (z:=z) l;refine⟨λh=>?_,λj b=>?_⟩
   .rw[bG ch,k1 (by simpa using h)]
   .cases i:c.findIdx? (iL z)with
    |none=>rw[i]at b;simp at b
    |some n=>
     rw[i]at b;simp at b;subst b;rw[bG ch];simpa using k2 n i
def World.m_(w:bW)(g:Nat)(o:Obj):bW:={w with heap:=w.heap.setIfInBounds g o}
def Km{P c}(d:P.underlying c=some (.int .u64))(b z)(w:bW):(Instr.checkKey b 10000 c (.int .u64 z)).run P w=.ok () w:=by
 unfold Instr.checkKey;simp[run_underlying d]
def akx{P t q A}(r:P.underlying t=some (.map q A))(s:P.underlying q=some (.int .u64)){w:bW}{g d clock}(n:w.heap[g]?=some (.map d clock)){B o}(h:jt B w d.toList o)(z){v ps}
 (u:∀e:MapEntry,oy B w {e with key:=.int .u64 z,val:=v} (.sc (.int .u64 z)::ps)):
 ∃i b,(Instr.mapUpdate t (.map (some g)) (.int .u64 z) v).run P w=.ok () (World.m_ w g (.map i b))/\jt B w i.toList (pM z ps o):=by
 have k:=LH s h z w;have x:=Km s false z w;have y:=R4 (m:={key:=.int .u64 z,val:=v,born:=clock}) (u {key:=.int .u64 z,val:=v,born:=clock}) u h
 cases l:o.findIdx? (iL z)with
 |none=>
  rw[l]at k;refine⟨d.push {key:=.int .u64 z,val:=v,born:=clock},clock+1,?_,by simpa using y.1 l⟩;simp[Instr.mapUpdate,run_underlying r,MapKept.run_getObj_map n,x,k,MapKept.run_setObj_map _ n,World.m_]
 |some j=>
  obtain⟨m,D,k1,_,k2⟩:=(Bl (z:=z) h).2 j l;rw[l]at k;simp only[sH,k1,cg]at k;have p:d[j]?=some m:=by simpa using k1
  have c:(Instr.keyThatStays (((d[j]?).map (·.key)).getD (.int .u64 z)) (.int .u64 z)).run P w=.ok (.int .u64 z) w:=by
   rw[p];simp[Instr.keyThatStays,k2.1,Instr.sameBits]
  refine⟨d.modify j λe=> {e with key:=.int .u64 z,val:=v},clock,?_,by simpa using y.2 j l⟩;simp only[Instr.mapUpdate,Sem.run_bind,run_underlying r,Result.andThen_ok,MapKept.run_getObj_map n,x,k,c,MapKept.run_setObj_map _ n,World.m_]
def aoq{P t n s}(o:P.underlying t=some (.map n s))(p:P.underlying n=some (.int .u64)){w:bW}{g c clock}(k:w.heap[g]?=some (.map c clock)){B l}(h:jt B w c.toList l)(z ts ty):
 ∃d b,(Builtin.delete_ (t::ts).toArray ty #[.map (some g),.int .u64 z]).run P w=.ok (.tuple #[]) (World.m_ w g (.map d b))/\jt B w d.toList (pF z l):=by
 have e:=LH p h z w;have q:=Km p c.isEmpty z w;have r:=XO (z:=z) h
 cases i:l.findIdx? (iL z)with
 |none=>
  rw[i]at e;refine⟨c,clock,?_,by rw[r.1 i];exact h⟩;simp[Builtin.delete_,run_underlying o,MapKept.run_getObj_map k,q,e,MapKept.run_setObj_map _ k,World.m_]
 |some j=>
  obtain⟨m,u,k1,_,k2⟩:=(Bl (z:=z) h).2 j i;rw[i]at e;simp only[sH,k1,cg]at e;refine⟨c.eraseIdxIfInBounds j,clock,?_,?_⟩
  .simp[Builtin.delete_,run_underlying o,MapKept.run_getObj_map k,q,e,MapKept.run_setObj_map _ k,World.m_]
  .have v:j<c.size:=by have:=(ek.1 k1).1;simpa using this
   have:(c.eraseIdxIfInBounds j).toList=c.toList.eraseIdx j:=by rw[Array.eraseIdxIfInBounds,dif_pos v];simp
   rw[this];exact r.2 j i
def ajm{P t o p}(q:P.underlying t=some (.map o p))(r:P.underlying o=some (.int .u64)){w:bW}{g k clock}(s:w.heap[g]?=some (.map k clock)){B b}(h:jt B w k.toList b)(z){i l}(A:P.info? p=some i)(D:i.zero=some l)(c:Bool):
 ∃v,(Instr.lookup t (.map (some g)) (.int .u64 z) c).run P w=.ok (if c then .tuple #[v,.bool (lu z b).isSome]else v) w/\
  ((lu z b=none/\v=l)\/∃m ps,lu z b=some ps/\oy B w m (.sc (.int .u64 z)::ps)/\v=m.val):=by
 have d:=LH r h z w;have u:=Km r k.isEmpty z w
 cases e:b.findIdx? (iL z)with
 |none=>
  rw[e]at d;have x:=(Bl (z:=z) h).1 e;refine⟨l,?_,.inl ⟨x,rfl⟩⟩;simp[Instr.lookup,run_underlying q,MapKept.run_getObj_map s,u,d,zeroValue,typeInfo,A,D,x]
 |some j=>
  obtain⟨m,n,k1,y,k2⟩:=(Bl (z:=z) h).2 j e;rw[e]at d;simp only[sH,k1,cg]at d;refine⟨m.val,?_,.inr ⟨m,n,y,k2,rfl⟩⟩;simp[Instr.lookup,run_underlying q,MapKept.run_getObj_map s,u,d,y]
section
variable{X:Fx}{E:Env}{st:bC}{a:Act}{w:bW}
def Ti{w g k o}(h:k≠g):(World.m_ w g o).heap[k]?=w.heap[k]?:=by
 simp only[World.m_,acn];grind
def Tz{w g o b}(h:w.heap[g]?=some b):(World.m_ w g o).heap[g]?=some o:=by
 grind[World.m_]
def Rel.Mc(h:Rel X E st a w){n x}(t:E.N n=some x){g}(d:x.g=some g){w'}(z:w'.os=w.os)(B:w'.tape=w.tape)(hout:w'.output=w.output)
 (q:∀k,k≠g->w'.heap[k]?=w.heap[k]?) (D:w'.heap.size=w.heap.size) (b) (P:iX X.M E E w w'->RB X.P X.M E w' n b):
 iX X.M E E w w'/\Rel X E (st.ez ⟨[(n,b)],[]⟩) a w':=by
 obtain⟨H,I,J⟩:=h.names n x g t d;have G:iX X.M E E w w':={
  cell:=λk o u k1 k2=>by
   have:k≠g:=by rintro rfl;exact k2 (.inr ⟨n,x,t,d⟩)
   exact⟨(World.cell?_of_block (w:=w) (a:=⟨k,o,none⟩) (q k this)).trans k1,k2⟩
  name:=λ_ _ h=>.inr h
  bx:=λ_ h=>h}
 refine⟨G,h.step ⟨[(n,b)],[]⟩ (nx:=st.next) (dz _) G (by simp[h.bx]) ?_ h.fj (λn x g K=>by rw[D];exact h.names n x g K) h.inj (λ_ _=>.inr rfl) ch ?_ ?_⟩
 .refine h.frame.trans (K':=λk=>k=g) ⟨z,B,hout,om,λk _ F=>q k F⟩ ?_;grind
 .intro m y k N F _ Q;refine q _ λO=>?_
  subst O;have:=h.inj m n y x k N t F d;simp_all
 grind
def ZR{cs ps}(h:nC cs=some ps):ps.length=cs.length/\∀(j:Nat)(p:PV),ps[j]?=some p->∃c:C,cs[j]?=some c/\c.pv=some p:=oU h
def yf(P:cJ)(st:bC)(t:cf)(m k x:cL):Option iI:=
 match st.arg m with
 |some (.v (.c (.mp n)))=>match P.underlying t,st.heap.lookup n,st.arg k,st.arg x with
  |some (.map b _),some (.map c),some (.v (.c (.p (.sc (.int .u64 z))))),some (.v (.agg cs))=>match P.underlying b,nC cs with
   |some (.int .u64),some ps=>some ⟨[(n,.map (pM z ps c))],[]⟩
   |_,_=>none
  |_,_,_,_=>none
 |_=>none
def aox(h:Rel X E st a w){t m k x B}(d:yf X.P st t m k x=some B):
 ∃w',(Instr.mapUpdate t (a.eval m) (a.eval k) (a.eval x)).run X.P w=.ok () w'/\Rel X E (st.ez B) a w':=by
 unfold yf at d;split at d
 .rename_i n D;have F:=h.ji D (n:=n) eH;obtain⟨y,o,g,q,J⟩:=dj.get (h.cX D).1 F;split at d
  .rename_i kt vt K z cs N O r P;have k1:=RP.eM (h.cX r).1;split at d
   .rename_i ps s v;cases d;obtain⟨x',g',en,clock,G,H,I,Q⟩:=h.row (by rw[<-h.bx];exact F) O;rw[o]at G;cases G;rw[q]at H;cases H;obtain⟨us,q1,q2,q3⟩:=(h.arg P).1;obtain⟨R,S⟩:=ZR v;have i:∀e:MapEntry,oy (bad X.M E) w {e with key:=.int .u64 z,val:=a.eval x} (.sc (.int .u64 z)::ps):=λe=>
     ⟨rfl,us,q1,by rw[q2,R],λj p T=>by
      obtain⟨c,c1,c2⟩:=S j p T;obtain⟨u,U,V,W⟩:=q3 j c c1;exact⟨u,U,V.pv c2,W⟩⟩
    obtain⟨l,b,Y,A⟩:=akx N s I Q z i;refine⟨_,by rw[J,k1];exact Y,(h.Mc o q (w':=World.m_ w g (.map l b)) rfl rfl rfl (λk r=>Ti r) (by simp[World.m_]) (.map (pM z ps K)) (λZ=>?_)).2⟩;exact⟨y,g,l,b,o,q,Tz I,A.trans Z.cell⟩
   .cases d
  .cases d
 .cases d
def yz(P:cJ)(st:bC)(t:cf)(m k:cL):Option iI:=
 match st.arg m with
 |some (.v (.c (.mp n)))=>match P.underlying t,st.heap.lookup n,st.arg k with
  |some (.map b _),some (.map c),some (.v (.c (.p (.sc (.int .u64 z)))))=>match P.underlying b with
   |some (.int .u64)=>some ⟨[(n,.map (pF z c))],[]⟩
   |_=>none
  |_,_,_=>none
 |_=>none
def azB(h:Rel X E st a w){t ts ty m k p}(c:yz X.P st t m k=some p):
 ∃w',(Builtin.delete_ (t::ts).toArray ty #[a.eval m,a.eval k]).run X.P w=.ok (.tuple #[]) w'/\Rel X E (st.ez p) a w':=by
 unfold yz at c;split at c
 .rename_i n q;have r:=h.ji q (n:=n) eH;obtain⟨y,e,g,i,x⟩:=dj.get (h.cX q).1 r;split at c
  .rename_i I J A z B D j;have k1:=RP.eM (h.cX j).1;split at c
   .rename_i l;cases c;obtain⟨K,g',N,clock,s,u,v,F⟩:=h.row (by rw[<-h.bx];exact r) D;rw[e]at s;cases s;rw[i]at u;cases u;obtain⟨d,b,G,o⟩:=aoq B l v F z ts ty;refine⟨_,by rw[x,k1];exact G,(h.Mc e i (w':=World.m_ w g (.map d b)) rfl rfl rfl (λk j=>Ti j) (by simp[World.m_]) (.map (pF z A)) (λH=>?_)).2⟩;exact⟨y,g,d,b,e,i,Tz v,o.trans H.cell⟩
   .cases c
  .cases c
 .cases c
def zh(P:cJ)(st:bC)(t:cf)(m k:cL)(ok:Bool):Option V:=
 match st.arg m with
 |some (.v (.c (.mp n)))=>match P.underlying t,st.heap.lookup n,st.arg k with
  |some (.map d b),some (.map c),some (.v (.c (.p (.sc (.int .u64 z)))))=>match P.underlying d,(P.info? b).bind (·.zero),(qO P b).bind nC with
   |some (.int .u64),some (.agg _),some e=>
    let r:V1:=.agg (((lu z c).getD e).map .p)
    some (if ok then .bM [r,.c (.p (.sc (.bool (lu z c).isSome)))]else .v r)
   |_,_,_=>none
  |_,_,_=>none
 |_=>none
def azz(h:Rel X E st a w){t m k ok v}(d:zh X.P st t m k ok=some v):
 ∃u,(Instr.lookup t (a.eval m) (a.eval k) ok).run X.P w=.ok u w/\RV X.M E w v u:=by
 unfold zh at d;split at d
 .rename_i n G;have H:=h.ji G (n:=n) eH;obtain⟨y,O,g,P,Q⟩:=dj.get (h.cX G).1 H;split at d
  .rename_i kt vt R z S T U;have k1:=RP.eM (h.cX U).1;split at d
   .rename_i V W o q r;cases d;obtain⟨x',g',en,clock,I,J,Y,Z⟩:=h.row (by rw[<-h.bx];exact H) T;rw[O]at I;cases I;rw[P]at J;cases J;obtain⟨cs,s,A⟩:=jq.1 r;obtain⟨i,zv,K,e,l⟩:=xW (M:=X.M) (E:=E) (w:=w) s;rw[K]at q;simp only[sH,e,ko]at q;subst q;obtain⟨p1,p2⟩:=ZR A;obtain⟨v,hr,hv⟩:=ajm S o Y Z z K e ok;have N:e7 X.M E w (.agg (((lu z R).getD W).map .p)) v:=by
     rcases hv with⟨q1,rfl⟩| ⟨m',ps,q1,q2,rfl⟩
     .rw[q1];refine⟨V,rfl,?_,λj c b=>?_⟩
      .have:=l.1;simp only[Value.cells]at this;simp[this,p1]
      .simp only[Option.getD_none,cY,b9]at b;obtain⟨p,hp,rfl⟩:=b;obtain⟨c,c1,c2⟩:=p2 j p hp;obtain⟨u,B,D,F⟩:=l.2 j c c1;exact⟨u,B,D.pv c2,F⟩
     .rw[q1];obtain⟨_,us,B,D,F⟩:=q2;refine⟨us,B,by simp[D],λj c b=>?_⟩;simp only[ik,cY,b9]at b;obtain⟨p,hp,rfl⟩:=b;exact F j p hp
    refine⟨_,by rw[Q,k1];exact hr,?_⟩
    cases ok with
    |false=>exact N
    |true=>
     refine⟨_,rfl,rfl,λj x b=>?_⟩
     match j,b with
     |0,b=>cases b;exact⟨_,rfl,N⟩
     |1,b=>cases b;exact⟨_,rfl,.sc rfl⟩
     |j+2,b=>simp at b
   .cases d
  .cases d
 .cases d
def tJ(P:cJ)(st:bC)(s d:cf)(x:cL):Option (V×iI):=
 match st.arg x with
 |some (.v (.c (.own n)))=>match st.heap.lookup n,P.underlying s with
  |some (.row e rows),some (.slice b)=>match P.underlying b with
   |some (.int .u8)=>if s=d/\rows≠ []/\rows.head?.map List.length=some 1 then some (.c (.own n),⟨[(n,.row e rows)],[]⟩)else none
   |_=>none
  |_,_=>none
 |_=>none
def adD{w:bW}{g cur e fz}(d:w.heap[g]?=some (.cells cur e fz))(i:ou cur.size fz):
 ∃b,(w.freeze ⟨g,cur.size,none⟩ 1).heap[g]?=some (.cells cur e b)/\ou cur.size b:=by
 obtain⟨lo,c⟩:=fz;refine⟨if lo==c then(cur.size,cur.size+1)else(min lo cur.size,max c (cur.size+1)),?_,?_⟩
 .simp only[World.freeze,Nat.one_ne_zero,if_false,Qq,d];simp
 .split
  .exact .inr (dz _)
  .rename_i j;rcases i with h|h
   .simp_all
   .exact .inr om
def aeZ{w:bW}{g k o}(h:k≠g):(w.freeze ⟨g,o,none⟩ 1).heap[k]?=w.heap[k]?:=by
 simp only[World.freeze,Nat.one_ne_zero,if_false,Qq];grind
def azf(h:Rel X E st a w){s d x v G}(b:tJ X.P st s d x=some (v,G)):
 ∃u w',(convert s d (a.eval x)).run X.P w=.ok u w'/\Rel X E (st.ez G) a w'/\RV X.M E w' v u:=by
 unfold tJ at b;split at b
 .rename_i n H;have I:=h.ji H (n:=n) eH;have O:=(h.cX H).1;obtain⟨y,c,J⟩:=dj.get O I;split at b
  .rename_i e rows e' P Q;split at b
   .rename_i m;split at b
    .rename_i R;cases b;obtain⟨rfl,S,o⟩:=R;obtain⟨x',cur,fz,K,q,T,U,V,W,Y,Z,j8,N,t,z⟩:=h.row (by rw[<-h.bx];exact I) P;rw[c]at K;cases K
     cases A:y.g with
     |none=>
      simp_all
     |some g=>
      have hblk:=T g A;obtain⟨B,k1,k2⟩:=adD hblk q;have D:y.sz=1:=by
       cases rows with
       |nil=>exact absurd rfl S
       |cons r l=>rw[<-N r ch];simpa using o
      have hT:=h.Mc c A (w':=w.freeze ⟨g,cur.size,none⟩ 1) (by rfl) (by rfl) (by rfl) (λk hk=>aeZ hk) (by simp[World.freeze]) (.row e rows) (λhG=>by
       refine⟨y,cur,B,c,k2.imp id λh=>⟨D,h⟩,λg' aa=>?_,U,V,W,Y,Z,j8,N,t,λi r j p hi hj=>?_⟩
       .simp_all
       .obtain⟨u,q1,q2⟩:=z i r j p hi hj;exact⟨u,q1,q2.goes hG⟩)
      refine⟨a.eval x,_,?_,hT.2,.inr ⟨y,c,J⟩⟩;rw[J,A];have F:w.shape? g=some (e,cur.size):=by simp[World.shape?,hblk]
      simp[convert,run_underlying Q,run_underlying m,markStringish,F]
    .cases b
   .cases b
  .cases b
 .cases b
def tZ(P:cJ)(st:bC)(t:cf)(s x:cL):Option (V×iI):=
 match st.arg s,st.arg x with
 |some (.v (.c (.sub m 0 len))),some (.v (.c c))=>match st.heap.lookup m,st.view c,f_ P t with
  |some (.row d rows),some b,some e=>match jH P e with
   |some (n,_)=>if d=e/\cC n b=true/\len+b.length<=rows.length then some (.c (.sub m 0 (len+b.length)),⟨[(m,.row e (rows.take len++b++rows.drop (len+b.length)))],[]⟩)else none
   |none=>none
  |_,_,_=>none
 |_,_=>none
def anf(h:Rel X E st a w){t ty s x v ef}(q:tZ X.P st t s x=some (v,ef)):
 ∃u w',(Builtin.append_ #[t,t] ty #[a.eval s,a.eval x]).run X.P w=.ok u w'/\Rel X E (st.ez ef) a w'/\RV X.M E w' v u:=by
 unfold tZ at q;split at q
 .rename_i m len cx hs hx;have Y:=h.ji hs (n:=m) eH;obtain⟨z0,d,Z,A,I,H⟩:=dj.get (h.cX hs).1 Y;have H:=H (.inr rfl);simp only[C2,Qr]at H I;split at q
  .rename_i e' rows c e hl hv ht;obtain⟨hu,ai⟩:=oH ht;split at q
   .rename_i n b J;obtain⟨i,zz,y,aj,ak,af,aa,al,ab⟩:=sS J;split at q
    .rename_i hc;cases q;obtain⟨rfl,hR,hroom⟩:=hc;rw[kf]at hR;obtain⟨z,cur,fz,k1,K,k2,k3,k4,k5,k6,k7,k8,k9,ac,ad⟩:=h.row (by rw[<-h.bx];exact Y) hl;rw[d]at k1;cases k1;have o:z0.sz=n:=by rw[k7,ab]
     have N:=h.fj m z0 d;rcases(h.Gf hx hv).src hR with⟨rfl,B,cap,O⟩| ⟨gs,os,cap,news,O,am,D,hcell,Q,hval⟩
     ·
      have F:=h.step ⟨[(m,.row e' rows)],[]⟩ (E':=E) (w':=w) (nx:=st.next) (dz _) ⟨λ_ _ _ h1 h2=>⟨h1,h2⟩,λ_ _ h=>.inr h,λ_ h=>h⟩ (by simp[h.bx]) h.frame h.fj h.names h.inj (λ_ _=>.inr rfl) ch (λ_ _ _ _ _ _ _=>rfl) (λk b V=>by
       simp only[gb,kJ]at V;split at V
       .rename_i R;simp at R;subst R;cases V;exact .inr (h.row (by rw[<-h.bx];exact Y) hl)
       .cases V)
      refine⟨.slice A len z0.cap,w,?_,?_,?_⟩
      .rw[I,O];have S:len<=z0.cap:=om
       cases A with
       |none=>cases B<;>simp[Builtin.append_,run_underlying hu,sizeOf,typeInfo,y,Builtin.lenOf,Builtin.firstCells,loadCells,loadCellsFrom,S]
       |some A=>cases B<;>simp[Builtin.append_,run_underlying hu,sizeOf,typeInfo,y,Builtin.lenOf,Builtin.firstCells,loadCells,loadCellsFrom,S,storeCells]
      .have e1:rows.take len++[]++rows.drop (len+([]:List (List PV)).length)=rows:=by simp
       rw[e1];exact F
      .refine .inr ⟨z0,d,by simpa using Z,A,by simp,λ_=>by simpa using H⟩
     .cases W : z0.g with
      |none=>simp_all
      |some g =>
       rw[W]at H;subst H;have hblk:=k2 g W;have ag:len*n+c.length*n<=cur.size:=by
        rw[k8,o,<-kV];exact gV _ om
       have hrun:=Du (P:=X.P) w t ty e' i hu y g len z0.cap cur K hblk ⟨gs,os,none⟩ c.length cap news gL hcell Q om gL;rw[aa]at hrun;have T:(cur.toList.take (len*n)++news++cur.toList.drop (len*n+news.length)).toArray.size=cur.size:=by simp[D];omega
       have U:dS z0.sz (rows.take len++c++rows.drop (len+c.length)):=((k9.take _).app (by rw[o];exact hR)).app (λr hr=>k9 r (oZ hr));have hw:=(h.write d W hblk ((cur.toList.take (len*n)++news++cur.toList.drop (len*n+news.length)).toArray) [] ch (.row e' (rows.take len++c++rows.drop (len+c.length))) (λhG ah _=>by
        refine⟨z0,_,fz,by exact d,by rw[T];exact K,λg' an=>by simp_all,by simp;omega,k4,k5,k6,k7,by rw[T,k8],U,ac,λi r j p y hj=>?_⟩;rw[D]at hG;have ao:j<n:=by rw[<-o,<-U r (eN y)];grind
        rw[qV,tN (by simp;omega),D,o];rw[tN (l:=rows) (ys:=c) (off:=len) (k:=i) hroom]at y;split at y
        .have N:(i-len+1)*n<=c.length*n:=gV _ om;have e1:i*n=len*n+(i-len)*n:=by rw[<-kV];congr 1;omega
         rw[pX]at N;rw[bB om];obtain⟨u,q1,q2⟩:=hval _ r j p y hj;exact⟨u,by grind,q2.goes hG⟩
        .rename_i hc;have ae:¬(len*n<=i*n+j/\i*n+j<len*n+c.length*n):=by
          rintro⟨q1,q2⟩;apply hc;rw[<-kV]at q2;refine⟨?_,?_⟩
          .rcases nw i len with G|G
           .have:(i+1)*n<=len*n:=gV _ G;grind
           .exact G
          .rcases nw i (len+c.length)with G|G
           .exact G
           .have:(len+c.length)*n<=i*n:=gV _ G;omega
         rw[bG ae];obtain⟨u,q1,q2⟩:=ad i r j p y hj;rw[o]at q1;exact⟨u,by simpa using q1,q2.goes hG⟩)).2
       exact⟨_,_,by simp_all,hw,.inr ⟨z0,d,om,some ⟨g,0,none⟩,rfl,λ_=>by rw[W];simp⟩⟩
    .cases q
   .cases q
  .cases q
 .cases q
def qd(P:cJ)(st:bC)(d:Nat)(t c:cf)(s x:cL):Option (V×iI):=
 match f_ P t,st.arg s,st.arg x,P.underlying c with
 |some e,some (.v (.c .nil)),some (.v (.c (.p (.sc (.int .i64 n))))),some (.int _)=>match jH P e,qO P e with
  |some (_,b),some g=>match nC g with
   |some z=>if 0<n/\n<=9223372036854775807/\n.toNat*b<=140737488355328 then some (.c (.own d),⟨[(d,.row e (List.replicate n.toNat z))],[]⟩)else none
   |none=>none
  |_,_=>none
 |_,_,_,_=>none
def azk(h:Rel X E st a w){d}(hd:E.N d=none)(H:X.k0<=d)(I:d<st.next){t Z ty s x v ef}
 (c:qd X.P st d t Z s x=some (v,ef)):
 ∃u w' E',(Builtin.append_ #[t,Z] ty #[a.eval s,a.eval x]).run X.P w=.ok u w'/\(∀n,n≠d->E.N n=none->E'.N n=none)/\Rel X E' (st.ez ef) a w'/\RV X.M E' w' v u:=by
 unfold qd at c;split at c
 .rename_i e n k ht hs hx hk;obtain⟨hu,aa⟩:=oH ht;have h3:a.eval s=.slice none 0 0:=(h.cX hs).1;have h4:=RP.eM (h.cX hx).1;split at c
  .rename_i sz b zs q hz;obtain⟨i,z,hi,y,g,j,J,K,O⟩:=sS q;obtain⟨A,z',B,l,D⟩:=xW (M:=X.M) (E:=E) (w:=w) hz;rw[hi]at B;cases B;rw[y]at l;cases l;split at c
   .rename_i G P;split at c
    .rename_i m;obtain⟨h0,ab,hb⟩:=m;cases c;obtain⟨Q,R⟩:=oU P;have ac:G.length=sz:=by rw[Q,<-D.1,g]
     obtain⟨N,rfl⟩:∃N:Nat,n=(N:Int):=⟨n.toNat,om⟩
     simp only[eO]at hb⊢;have hm:N<=maxLen:=by simp only[maxLen];omega
     have S:=grownCap_ge w N 0 e;have T:=grownCap_le_maxLen w N 0 e hm;have hR:dS sz (List.replicate N G):=λr hr=>by simp_all
     have hf:=h.qM hd H I (e:=e) j O.symm (rows:=List.replicate N G) hR (cap:=grownCap w N 0 e) (by simpa using S) T
      (us:=Builtin.zeroCells z.cells N++Builtin.zeroCells z.cells (grownCap w N 0 e-N)) (by
       simp only[wY,size_zeroCells,g,<-kV];congr 1;omega) (λA r o p h5 h6=>by
       have U:r=G:=(C0.1 (eN h5)).2;subst U;have V:A<N:=by grind
       have W:o<sz:=by grind
       obtain⟨cc,h7,h8⟩:=R o p h6;obtain⟨u',h9,Y,_⟩:=D.2 o cc h7;have F:A*sz+o<N*sz:=by
        have:(A+1)*sz<=N*sz:=gV _ V;grind
       refine⟨u',?_,RC.pv Y h8⟩;rw[ui,bB (by rw[size_zeroCells,g];exact F)];simp only[Builtin.zeroCells,acq,g,acr,F,if_true,cg,ko];rw[show(A*sz+o)%sz=o by rw[Qm,acs,zH W]];simp_all) (wd:=w.drew) (.inr rfl)
     refine⟨_,_,_,?_,λk hk ad=>by grind[Env.lT],hf.1,hf.2⟩;rw[h3,h4];have hN:0<N:=om;have hw:IntKind.i64.wrap (N:Int)=(N:Int):=by
      rw[IntKind.wrap_i64];omega
     have e1:¬((N:Int)<0):=om;have e2:¬(281474976710656< (N:Int)*(i.bytes:Int)):=by
      grind
     have e3:¬(9223372036854775807< (N:Int)):=om;have e4:¬(281474976710656<Builtin.nextslicecap N 0*i.bytes):=by rw[nextslicecap_zero hN,K];omega
     have e5:N*sz≠0:=Qs (zI hN j);have e6:¬N=0:=om;have e9:max (N:Int) 0=N:=om;simp[Builtin.append_,run_underlying hu,run_underlying hk,sizeOf,typeInfo,zeroValue,hi,y,J,asInt,asIntOf,hw,e1,e2,e3,e4,e5,e6,e9,Question.forced,Builtin.firstCells,newRow,grownCap]
    .cases c
   .cases c
  .cases c
 .cases c
def tT(P:cJ)(st:bC)(t:cf)(x:cL):Option (V×iI):=
 match st.arg x with
 |some (.v (.c (.ptr n off)))=>match mr P t,st.heap.lookup n with
  |some (dm,e),some (.box cs)=>match nC ((cs.drop off).take dm)with
   |some b=>if eG P e=1/\oq P e=true/\0<dm/\dm<=4096/\b.length=dm then some (.c (.p (.sl (b.map λq=>[q]))),⟨[],[n]⟩)else none
   |none=>none
  |_,_=>none
 |_=>none
def apZ(h:Rel X E st a w){t x v Q}(b:tT X.P st t x=some (v,Q)):
 ∃u E',(Instr.sliceAt t (a.eval x) none none none).run X.P w=.ok u w/\(∀n,E.N n=none->E'.N n=none)/\Rel X E' (st.ez Q) a w/\RV X.M E' w v u:=by
 unfold tT at b;split at b
 .rename_i n off R;have S:=h.ji R (n:=n) eH;obtain⟨y,l,g,A,B⟩:=dj.get (h.cX R).1 S;split at b
  .rename_i dm e cs D Z;split at b
   .rename_i F hq;split at b
    .rename_i hc;cases b;obtain⟨aa,s,T,U,hlen⟩:=hc;obtain⟨G,ab⟩:=G5 D;obtain⟨x',g',cur,e',V,W,j3,j4,j5⟩:=h.row (by rw[<-h.bx];exact S) Z;rw[l]at V;cases V;rw[A]at W;cases W;have H:=h.fj n y l;obtain⟨q1,q2⟩:=oU hq;have I:jo (bad X.M E) (bad X.M (E.drop [n])) w w:=λk o u l B=>⟨l,λh=>B (tS h)⟩
     have J:¬bad X.M (E.drop [n]) g:=by
      rintro(hb| ⟨m,z,k1,k2⟩)
      .exact(h.names n y g l A).2.2 hb
      .obtain⟨K,Y⟩:=oG k1;have:=h.inj m n z y g K l k2 A;simp_all
     have hval:∀(i:Nat)(q:PV),F[i]?=some q->∃u,cur[off+i]?=some u/\RP (bad X.M (E.drop [n])) w q u:=by
      intro i q d;obtain⟨c,k1,k2⟩:=q2 i q d;rw[jD]at k1;split at k1
      .rw[kU]at k1;obtain⟨u,K,Y,_⟩:=j5 _ c k1;exact⟨u,K,RP.trans (RC.pv Y k2) I⟩
      .cases k1
     refine⟨.slice (some ⟨g,off,none⟩) dm dm,E.drop [n],?_,λm hm=>Env.lU hm,h.drop [n] (by simpa using H),?_⟩
     .rw[B];have N:¬dm=0:=om;simp[Instr.sliceAt,run_underlying G,Instr.sliceBounds,run_sizeOf w s,Instr.sureAddr,N];rfl
     .have O:(F.map λq=>[q]).length=dm:=by simpa using hlen
      rw[show(Value.slice (some ⟨g,off,none⟩) dm dm)=.slice (some ⟨g,off,none⟩) (F.map λq=>[q]).length dm by rw[O]];refine .row (sz:=1) (f:=λi _=>(cur[off+i]?).getD undef) (by grind) om (by simp only[maxLen];omega) (λr hr=>?_) (λi r j p d hj=>?_) (λi r j p d hj=>?_)
      .grind
      .simp only[cY,b9]at d;obtain⟨q,d,rfl⟩:=d;obtain⟨u,k1,k2⟩:=hval i q d;have P:j=0:=by grind
       subst P;refine⟨?_,J⟩;rw[cell_of_row w g _ cur e' (0,0) j3,sF,lL,k1];rfl
      grind
    .cases b
   .cases b
  .cases b
 .cases b
end
end
section
open Go.RowKit
def asJ{P}(w)(t l ty e)(i)(z){m}(n:P.underlying t=some (.slice e))(h:P.underlying l=some (.int m))(o:P.info? e=some i)(p:i.zero=some z)
 (g fP b) (cur) {fz} (j:ou cur.size fz) (q:w.heap[g]?=some (.cells cur e fz)) (N:Nat) (r:0<N) (c:0<i.size) (s:(N:Int)<=9223372036854775807) (v:N*i.bytes<=281474976710656)
 (x:∀u∈(Builtin.zeroCells z.cells N).toList,u.oneCell'=true)
 (hroom:fP+N<=b) (d:fP*i.size+(Builtin.zeroCells z.cells N).toList.length<=cur.size):
 (Builtin.append_ #[t,l] ty #[.slice (some ⟨g,0,none⟩) fP b,.int .i64 N]).run P w=
  .ok (.slice (some ⟨g,0,none⟩) (fP+N) b) (w.setRow g (cur.toList.take (fP*i.size)++(Builtin.zeroCells z.cells N).toList++cur.toList.drop (fP*i.size+(Builtin.zeroCells z.cells N).toList.length)).toArray):=by
 have k:=wz P g (fP*i.size) e fz (Builtin.zeroCells z.cells N).toList 0 cur w j q (by simpa using d) x;have y:IntKind.i64.wrap (N:Int)=(N:Int):=by rw[IntKind.wrap_i64];omega
 have A:¬((N:Int)<0):=om;have B:¬(281474976710656< (N:Int)*(i.bytes:Int)):=om;have D:N*i.size≠0:=Qs (zI r c);simp[Builtin.append_,run_underlying n,run_underlying h,sizeOf,typeInfo,zeroValue,o,p,asInt,asIntOf,y,A,B,D,hroom,Addr.add_lit,k]
def US{P w}(t n ty e)(i)(z){p}(q:P.underlying t=some (.slice e))(k:P.underlying n=some (.int p))(r:P.info? e=some i)(s:i.zero=some z)
 (b) (fP c) (olds:List b8) (l:olds.length=fP*i.size) (holds:∀j v,olds[j]?=some v->w.cell? (b.add j)=some v)
 (N) (u:0<N) (d:0<i.size) (x:N*i.bytes<=281474976710656)
 (I:c<fP+N) (y:((fP+N:Nat):Int)<=9223372036854775807) (o:Builtin.nextslicecap (fP+N) c*i.bytes<=281474976710656):
 (Builtin.append_ #[t,n] ty #[.slice (some b) fP c,.int .i64 N]).run P w=
  .ok (.slice (some ⟨w.heap.size,0,none⟩) (fP+N) (grownCap w (fP+N) c e))
   (w.drew.alloc (.cells (olds.toArray++(Builtin.zeroCells z.cells N).toList.toArray++Builtin.zeroCells z.cells (grownCap w (fP+N) c e- (fP+N))) e)):=by
 have A:¬(fP+N<=c):=om;have g:¬(9223372036854775807< ((fP:Int)+(N:Int))):=om;have h:¬(281474976710656<Builtin.nextslicecap (fP+N) c*i.bytes):=om;have m:=run_firstCells_some (P:=P) w.drew i.size fP b fP c olds l (by simpa using holds);have B:IntKind.i64.wrap (N:Int)=(N:Int):=by rw[IntKind.wrap_i64];omega
 have D:¬((N:Int)<0):=om;have F:¬(281474976710656< (N:Int)*(i.bytes:Int)):=om;have G:N*i.size≠0:=Qs (zI u d);have H:max (N:Int) 0=N:=om;simp[Builtin.append_,run_underlying q,run_underlying k,sizeOf,typeInfo,zeroValue,r,s,asInt,asIntOf,B,D,F,G,H,A,g,h,Question.forced,m,newRow,grownCap]
def wC(P:cJ)(st:bC)(d:Nat)(t c:cf)(s x:cL):Option (V×iI):=
 match f_ P t,st.arg s,st.arg x,P.underlying c with
 |some e,some (.v (.c cs)),some (.v (.c (.p (.sc (.int .i64 n))))),some (.int _)=>match jH P e,qO P e,st.iW e cs with
  |some (g,b),some h,some (rows,i)=>match nC h with
   |some z=>if 0<n/\rows.length+n.toNat<=9223372036854775807/\(rows.length+n.toNat)*b<=140737488355328/\cC g rows=true then some (.c (.own d),⟨[(d,.row e (rows++List.replicate n.toNat z))],i⟩)else none
   |none=>none
  |_,_,_=>none
 |_,_,_,_=>none
section
variable{X:Fx}{E:Env}{st:bC}{a:Act}{w:bW}
set_option maxHeartbeats 2000000 in
def att(h:Rel X E st a w){d}(hd:E.N d=none)(ak:X.k0<=d)(al:d<st.next)(aN:d∉st.bx){t t' ty s x v ef}
 (he:wC X.P st d t t' s x=some (v,ef)):
 ∃u w' E',(Builtin.append_ #[t,t'] ty #[a.eval s,a.eval x]).run X.P w=.ok u w'/\(∀n,n≠d->E.N n=none->E'.N n=none)/\Rel X E' (st.ez ef) a w'/\RV X.M E' w' v u:=by
 unfold wC at he;split at he
 .rename_i e cs nn kk ht hs hx B;obtain⟨hu,bj⟩:=oH ht;have aO:a.eval x=.int .i64 nn:=RP.eM (h.cX hx).1;split at he
  .rename_i n b zs rows ms ay aP l;obtain⟨i,z,hi,hz,Q,I,ac,S,T⟩:=sS ay;obtain⟨i',z',az,aj,ad⟩:=xW (M:=X.M) (E:=E) (w:=w) aP;rw[hi]at az;cases az;rw[hz]at aj;cases aj;split at he
   .rename_i zp aQ;split at he
    .rename_i hb;obtain⟨bk,U,ae,af⟩:=hb;rw[kf]at af;cases he;obtain⟨aR,aS⟩:=oU aQ;have aA:zp.length=n:=by rw[aR,<-ad.1,Q]
     obtain⟨N,rfl⟩:∃N:Nat,nn=(N:Int):=⟨nn.toNat,om⟩
     simp only[eO]at U ae⊢;have hN:0<N:=om;have aB:=hN;generalize V:List.replicate N zp=c;have D:c.length=N:=by rw[<-V];simp
     rw[<-D]at U ae;have ag:dS n c:=λr hr=>by rw[<-V]at hr;rw[(C0.1 hr).2];exact aA
     have hlen:rows.length+c.length<=maxLen:=by simp only[maxLen];omega
     obtain⟨am,_,aC⟩:=h.cX hs;have aD:∀ns,jo (bad X.M E) (bad X.M (E.drop ns)) w w:=λns k o u h1 h2=>⟨h1,λh=>h2 (tS h)⟩
     generalize hnews:(Builtin.zeroCells z.cells N).toList=news;have ah:news.length=c.length*n:=by rw[<-hnews,D];simp[Builtin.zeroCells,Q]
     have J:∀q,q<N*n->news[q]?=some (z.cells[q%n]!):=λq hq=>by
      rw[<-hnews];simp only[Builtin.zeroCells,Qn,cY,Q,Array.toList_range,sG hq,cg]
     have hval:∀(i':Nat)(r:List PV)(j':Nat)(p:PV),c[i']?=some r->r[j']?=some p->∃u,news[i'*n+j']?=some u/\RP (bad X.M E) w p u:=λi' r j' p h5 h6=>by
      rw[<-V]at h5;have aT:r=zp:=(C0.1 (eN h5)).2;subst aT;have aU:i'<N:=by have:=(ek.1 h5).1;simpa using this
      have aV:j'<n:=by rw[<-aA];exact(ek.1 h6).1
      obtain⟨cc,h7,h8⟩:=aS j' p h6;obtain⟨u',h9,G,_⟩:=ad.2 j' cc h7;have an:i'*n+j'<N*n:=by
       have:(i'+1)*n<=N*n:=gV _ aU;rw[pX]at this;omega
      refine⟨u',?_,RC.pv G h8⟩;rw[J _ an,show(i'*n+j')%n=j' by rw[Qm,acs,zH aV]];obtain⟨q,hq⟩:=kq.1 h9;rw[getElem!_pos z.cells j' q,hq]
     have aE:∀u∈news,u.oneCell'=true:=λu aW=>by
      obtain⟨q,hq⟩:=acw aW;have aF:=(ek.1 hq).1;rw[ah,D]at aF;rw[J q aF]at hq;have aX:q%n<n:=Nat.mod_lt _ I;have aG:q%n<z.cells.size:=by rw[Q];exact aX
      have aH:q%n<zs.length:=by rw[<-ad.1];exact aG
      obtain⟨u',h9,_,G⟩:=ad.2 (q%n) _ (db aH);obtain⟨q',aY⟩:=kq.1 h9;rw[getElem!_pos z.cells _ q',aY]at hq;cases hq;exact G
     rw[aO];have hnil:a.eval s=.slice none 0 0->rows=[]->(∀m∈ms,m<st.next)->
      ∃u w' E',(Builtin.append_ #[t,t'] ty #[a.eval s,.int .i64 N]).run X.P w=.ok u w'/\(∀n,n≠d->E.N n=none->E'.N n=none)/\Rel X E' (st.ez ⟨[(d,.row e (rows++c))],ms⟩) a w'/\RV X.M E' w' (.c (.own d)) u:=by
      intro hA h0 ao;subst h0;rw[hA];have hD:=h.drop ms ao;have ap:(E.drop ms).N d=none:=Env.lU hd;have aq:=grownCap_ge w c.length 0 e;have ar:=grownCap_le_maxLen w c.length 0 e (by simpa using hlen);have hf:=hD.qM ap ak al (e:=e) I T.symm ag aq ar (us:=news.toArray++Builtin.zeroCells z.cells (grownCap w c.length 0 e-c.length))
       (by simp only[wY,kW,size_zeroCells,Q,ah,<-kV];congr 1;omega)
       (λi r j p k1 k2=>by
        obtain⟨u,K,k4⟩:=hval i r j p k1 k2;have B:=(ek.1 K).1;exact⟨u,by rw[ui,bB (by simpa using B)];simpa using K,k4.trans (aD ms)⟩) (wd:=w.drew) (.inr rfl)
      refine⟨_,_,_,?_,λk B W=>by rw[Env.lT B];exact Env.lU W,hf.1,hf.2⟩;have hw:IntKind.i64.wrap (N:Int)=(N:Int):=by rw[IntKind.wrap_i64];omega
      have e1:¬((N:Int)<0):=om;have bg:N*b<=140737488355328:=by simpa[D]using ae
      have e2:¬(281474976710656< (N:Int)*(i.bytes:Int)):=by rw[S,<-Qo];omega
      have e3:¬(9223372036854775807< (N:Int)):=om;have e4:¬(281474976710656<Builtin.nextslicecap N 0*i.bytes):=by rw[nextslicecap_zero hN,S];omega
      have e6:¬N=0:=om;have e5:N*n≠0:=Qs (zI hN I);have e9:max (N:Int) 0=N:=om;rw[D,<-hnews];simp[Builtin.append_,run_underlying hu,run_underlying B,sizeOf,typeInfo,zeroValue,hi,hz,ac,asInt,asIntOf,hw,e1,e2,e3,e4,e5,e6,e9,Question.forced,Builtin.firstCells,newRow,grownCap]
     have hrow:∀(m:Nat)(y:Nm)(g:Nat)(cur:Array b8)(fz:Nat×Nat),tD y.sz cur.size fz->m∉st.bx->E.N m=some y->y.g=some g->w.heap[g]?=some (.cells cur e fz)->y.sz=n->y.cap<=maxLen->cur.size=y.cap*n->rows.length<=y.cap->
      (∀(i:Nat)(r:List PV)(j:Nat)(p:PV),rows[i]?=some r->r[j]?=some p->∃u,cur[i*n+j]?=some u/\RP (bad X.M E) w p u)->a.eval s=.slice (some ⟨g,0,none⟩) rows.length y.cap->ms=[m]->
      ∃u w' E',(Builtin.append_ #[t,t'] ty #[a.eval s,.int .i64 N]).run X.P w=.ok u w'/\(∀n,n≠d->E.N n=none->E'.N n=none)/\Rel X E' (st.ez ⟨[(d,.row e (rows++c))],ms⟩) a w'/\RV X.M E' w' (.c (.own d)) u:=by
      intro m y g0 cur fz R F hN aZ au O ba Y bc aI be ao;subst ao;have aJ:=h.fj m y hN;rw[be];have bh:rows.length*n<=cur.size:=by rw[Y];exact gV _ bc
      have Z:(cur.toList.take (rows.length*n)).length=rows.length*n:=by simp;omega
      have aa:∀(us:Array b8),(∀k,k<rows.length*n+news.length->us[k]?=(cur.toList.take (rows.length*n)++news)[k]?)->∀(i:Nat)(r:List PV)(j:Nat)(p:PV),(rows++c)[i]?=some r->r[j]?=some p->∃u,us[i*n+j]?=some u/\RP (bad X.M E) w p u:=by
       intro us aK i r j p k1 k2;have bl:r.length=n:=(af.app ag) r (eN k1);have hj:=(ek.1 k2).1;rw[mm]at k1;split at k1
       .rename_i an;obtain⟨u,K,k4⟩:=aI i r j p k1 k2;have:(i+1)*n<=rows.length*n:=gV _ an;rw[pX]at this;refine⟨u,?_,k4⟩;rw[aK _ om,mm,bB om,jD,bB om];simpa using K
       .obtain⟨u,K,k4⟩:=hval _ r j p k1 k2;have B:=(ek.1 K).1;have e1:i*n=rows.length*n+(i-rows.length)*n:=by rw[<-kV];congr 1;omega
        refine⟨u,?_,k4⟩;rw[aK _ om,mm,bG om,Z,<-K];congr 1;omega
      by_cases hroom:rows.length+c.length<=y.cap
      .have aL:rows.length*n+news.length<=cur.size:=by rw[ah,Y,<-kV];exact gV _ hroom
       have hr:=asJ (P:=X.P) w t t' ty e i z hu B hi hz g0 rows.length y.cap cur R au N aB om om (by rw[S];have:N*b<=(rows.length+c.length)*b:=gV _ om;omega) (by rw[hnews];exact aE) om (by rw[ac,hnews];exact aL)
       conv at hr=>rhs;rw[hnews,<-D]
       rw[ac]at hr;have B:=h.take (d:=d) aJ hN aZ au (us:=(cur.toList.take (rows.length*n)++news++cur.toList.drop (rows.length*n+news.length)).toArray) (by rw[show(cur.toList.take (rows.length*n)++news++cur.toList.drop (rows.length*n+news.length)).toArray.size=cur.size by simp;omega];exact R) hd ak al aN (rows:=rows++c) (by rw[O];exact af.app ag) om (by rw[O,T]) (by simpa using hroom) ba
        (by rw[O,<-Y];simp;omega) (by
         rw[O];refine aa _ λk B=>?_
         rw[qV,mm,bB (by simp only[cw,Z];exact B)])
       simp only[cw]at B;exact⟨_,_,_,hr,λk B W=>by rw[Env.lT B];exact Env.lU W,B.1,B.2⟩
      .have holds:∀j v,(cur.toList.take (rows.length*n))[j]?=some v->w.cell? ((⟨g0,0,none⟩:Addr).add j)=some v:=λj u hj=>by
        rw[pN,cell_of_row w g0 _ cur e fz au];simpa using(DT hj).1
       have hr:=US (P:=X.P) (w:=w) t t' ty e i z hu B hi hz ⟨g0,0,none⟩ rows.length y.cap (cur.toList.take (rows.length*n)) (by rw[ac];exact Z) holds N aB om (by rw[S];have:N*b<=(rows.length+c.length)*b:=gV _ om;omega) om om
        (by rw[S,<-D];exact growslice_fits om ae)
       conv at hr=>rhs;rw[hnews,<-D]
       have aq:=grownCap_ge w (rows.length+c.length) y.cap e;have ar:=grownCap_le_maxLen w (rows.length+c.length) y.cap e hlen;have aM:∀k,k<rows.length*n+news.length->((cur.toList.take (rows.length*n)).toArray++news.toArray++Builtin.zeroCells z.cells (grownCap w (rows.length+c.length) y.cap e- (rows.length+c.length)))[k]?=(cur.toList.take (rows.length*n)++news)[k]?:=by
        intro k B;rw[ui,bB (by simp only[wY,kW,Z];exact B)];simp[mm]
       have hD:=h.drop [m] (by simpa using aJ);have ap:(E.drop [m]).N d=none:=Env.lU hd;have hf:=hD.qM ap ak al (e:=e) I T.symm (rows:=rows++c) (af.app ag) (cap:=grownCap w (rows.length+c.length) y.cap e) (by simpa using aq) ar
        (us:=(cur.toList.take (rows.length*n)).toArray++news.toArray++Builtin.zeroCells z.cells (grownCap w (rows.length+c.length) y.cap e- (rows.length+c.length)))
        (by simp only[wY,kW,size_zeroCells,Q,ah,Z,<-kV];congr 1;omega)
        (λi r j p k1 k2=>by
         obtain⟨u,K,k4⟩:=aa _ aM i r j p k1 k2;exact⟨u,K,k4.trans (aD [m])⟩) (wd:=w.drew) (.inr rfl)
       simp only[cw]at hf;exact⟨_,_,_,hr,λk B W=>by rw[Env.lT B];exact Env.lU W,hf.1,hf.2⟩
     cases cs with
     |nil=>
      obtain⟨rfl,rfl⟩:=l;exact hnil am rfl ch
     |own m=>
      simp only[bC.iW]at l;have F:=aC m eH;split at l
      .rename_i e' ab hl;split at l
       .rename_i av;subst av;cases l;obtain⟨y,cur,fz,h1,R,h2,h3,h4,h5,h6,aw,h7,h8,G,h9⟩:=h.row F hl;obtain⟨y',k1,k2⟩:=dj.get am (by rw[h.bx];exact F);rw[h1]at k1;cases k1;have H:y.sz=n:=by rw[aw,T]
        cases hg:y.g with
        |none=>
         have ax:=G hg;have ai:y.len=0:=om;rw[hg,ai,ax]at k2;exact hnil (by simpa using k2) (nu om) (by simpa using h.fj m y h1)
        |some g=>
         rw[hg,h3]at k2;exact hrow m y g cur fz R F h1 hg (h2 g hg) H h5 (by rw[<-H];exact h7) om (by rw[<-H];exact h9) (by simpa using k2) rfl
       .cases l
      .cases l
     |sub m lo len=>
      cases lo with
      |succ lo=>simp[bC.iW]at l
      |zero=>
      simp only[bC.iW]at l;have F:=aC m eH;split at l
      .rename_i e' ab hl;split at l
       .rename_i av;subst av;cases l;obtain⟨y,cur,fz,h1,R,h2,h3,h4,h5,h6,aw,h7,h8,G,h9⟩:=h.row F hl;obtain⟨y',k1,k2,A,K,k4⟩:=dj.get am (by rw[h.bx];exact F);rw[h1]at k1;cases k1;have H:y.sz=n:=by rw[aw,T]
        have hA:=k4 (.inr rfl);have bf:(ab.take len).length=len:=by simp;omega
        cases hg:y.g with
        |none=>
         have ax:=G hg;have ai:len=0:=om;rw[hA,hg,ai,ax]at K;exact hnil (by simpa using K) (by rw[ai];simp) (by simpa using h.fj m y h1)
        |some g=>
         rw[hA,hg]at K;refine hrow m y g cur fz R F h1 hg (h2 g hg) H h5 (by rw[<-H];exact h7) om (λi r j p hi hj=>?_) (by rw[bf];simpa using K) rfl;rw[<-H];exact h9 i r j p (DT hi).1 hj
       .cases l
      .cases l
     |_=>simp[bC.iW]at l
    .cases he
   .cases he
  .cases he
 .cases he
end
def rA(P:cJ)(st:bC)(d:Nat)(t b:cf)(s x:cL):Option (V×iI):=match qd P st d t b s x with
 |some r=>some r
 |none=>wC P st d t b s x
section
variable{X:Fx}{E:Env}{st:bC}{a:Act}{w:bW}
def ajb(h:Rel X E st a w){d}(i:E.N d=none)(b:X.k0<=d)(c:d<st.next)(g:d∉st.bx){t j ty s x v k}
 (e:rA X.P st d t j s x=some (v,k)):
 ∃u w' E',(Builtin.append_ #[t,j] ty #[a.eval s,a.eval x]).run X.P w=.ok u w'/\(∀n,n≠d->E.N n=none->E'.N n=none)/\Rel X E' (st.ez k) a w'/\RV X.M E' w' v u:=by
 unfold rA at e;split at e
 .rename_i r l;cases e;exact azk h i b c l
 .exact att h i b c g e
end
def tY(P:cJ)(st:bC)(d:Nat)(t:cf)(s x:cL):Option (V×iI):=
 match f_ P t with
 |some e=>match jH P e,st.arg s,st.arg x with
  |some (n,b),some (.v (.c (.p .nl))),some (.v (.c x))=>match st.view x with
   |some c=>if c≠ []/\c.length<=9223372036854775807/\c.length*b<=140737488355328/\cC n c=true then some (.c (.own d),⟨[(d,.row e c)],[]⟩)else none
   |none=>none
  |_,_,_=>none
 |none=>none
def qw(P:cJ)(st:bC)(d:Nat)(t:cf)(s x:cL):Option (V×iI):=match ot P st d t s x with
 |some r=>some r
 |none=>tY P st d t s x
section
variable{X:Fx}{E:Env}{st:bC}{a:Act}{w:bW}
def afK(h:Rel X E st a w){d}(hd:E.N d=none)(G:X.k0<=d)(H:d<st.next){t ty s x v ef}
 (m:tY X.P st d t s x=some (v,ef)):
 ∃u w' E',(Builtin.append_ #[t,t] ty #[a.eval s,a.eval x]).run X.P w=.ok u w'/\(∀n,n≠d->E.N n=none->E'.N n=none)/\Rel X E' (st.ez ef) a w'/\RV X.M E' w' v u:=by
 unfold tY at m;split at m
 .rename_i e ht;obtain⟨hu,ad⟩:=oH ht;split at m
  .rename_i n b cx D hs hx;obtain⟨i,z,hi,hz,I,F,ae,J,K⟩:=sS D;split at m
   .rename_i c N;split at m
    .rename_i hb;obtain⟨q,O,Q,y⟩:=hb;rw[kf]at y;have hlen:c.length<=maxLen:=by simp only[maxLen];omega
     cases m;obtain⟨R,_,S⟩:=h.cX hx;have T:=h.view R S N;obtain⟨A,hA⟩:=RP.Sz (h.cX hs).1;rw[hA];rcases T.src y with⟨h0,_⟩| ⟨g,o,cap,news,U,V,W,hcell,ac,hval⟩
     .exact absurd h0 q
     .rw[U];have Y:0<c.length:=by cases c with|nil=>exact absurd rfl q|cons a l=>simp
      have Z:=grownCap_ge w c.length 0 e;have aa:=grownCap_le_maxLen w c.length 0 e (by simpa using hlen);have hf:=h.qM hd G H (e:=e) F K.symm y Z aa (us:=news.toArray++Builtin.zeroCells z.cells (grownCap w c.length 0 e-c.length))
       (by simp only[wY,kW,size_zeroCells,I,W,<-kV];congr 1;omega)
       (λi r j p k1 k2=>by
        obtain⟨u,k3,k4⟩:=hval i r j p k1 k2;have hk:=(ek.1 k3).1;exact⟨u,by grind,k4⟩) (wd:=w.drew) (.inr rfl)
      refine⟨_,_,_,?_,λk hk ab=>by rw[Env.lT hk];exact ab,hf.1,hf.2⟩
      cases A with
      |none=>exact run_append_nil (P:=X.P) w t ty e i z hu hi hz ⟨g,o,none⟩ c.length cap news gL hcell V om (by grind)
      |some B=>
       have hr:=run_append_grow (P:=X.P) w t ty e i z hu hi hz B 0 0 [] ch (λj v hj=>by simp at hj) ⟨g,o,none⟩ c.length cap news gL hcell om om
        (by rw[J];exact growslice_fits om (by simpa using Q))
       simpa using hr
    .cases m
   .cases m
  .cases m
 .cases m
def azM(h:Rel X E st a w){d}(i:E.N d=none)(b:X.k0<=d)(c:d<st.next)(g:d∉st.bx){t ty s x v j}
 (e:qw X.P st d t s x=some (v,j)):
 ∃u w' E',(Builtin.append_ #[t,t] ty #[a.eval s,a.eval x]).run X.P w=.ok u w'/\(∀n,n≠d->E.N n=none->E'.N n=none)/\Rel X E' (st.ez j) a w'/\RV X.M E' w' v u:=by
 unfold qw at e;split at e
 .rename_i r k;cases e;exact ale h i b c g k
 .exact afK h i b c e
def azt{P d t s x}{α:Type}{f:V×iI->α}{y:α}(h:(ot P st d t s x).map f=some y):(qw P st d t s x).map f=some y:=by
 unfold qw
 cases b:ot P st d t s x with
 |none=>rw[b]at h;cases h
 |some r=>rw[b]at h;exact h
end
def ZZ:∀{rows},dS 1 rows->∀j:Nat,rows.flatten[j]?=(rows[j]?).bind (·[0]?)
 |[],_,j=>by simp
 |r::rows,h,j=>by
  have b:r.length=1:=h r ch
  match r,b with
  |[p],_=>
   cases j with
   |zero=>rfl
   |succ j=>
    exact ZZ (λr c=>h r (by simp[c])) j
def y8(P:cJ)(st:bC)(t:cf)(x:cL):Option V:=
 match st.arg x,mr P t with
 |some (.v (.c (.p (.sl rows)))),some (n,_)=>if 0<n/\n<=rows.length/\cC 1 rows=true then some (.v (.c (.ref (rows.take n).flatten)))else none
 |_,_=>none
section
variable{X:Fx}{E:Env}{st:bC}{a:Act}{w:bW}
def afb(h:Rel X E st a w){t x v}
 (b:y8 X.P st t x=some v):∃u,(Instr.arrayAt t (a.eval x)).run X.P w=.ok u w/\RV X.M E w v u:=by
 unfold y8 at b;split at b
 .rename_i rows n e s z;obtain⟨A,_⟩:=G5 z;split at b
  .rename_i B;obtain⟨H,b1,D⟩:=B;cases b;have d:RP (bad X.M E) w (.sl rows) (a.eval x):=(h.cX s).1;have hR:=kf.1 D;generalize a.eval x=y at d
   cases d with
   |nil=>simp at b1;omega
   |@row _ g o cap sz f F I J G i k=>
    have l:sz=1:=by
     cases rows with
     |nil=>exact absurd rfl F
     |cons r rows=>rw[<-G r ch,hR r ch]
    subst l;refine⟨.pointer (some ⟨g,o,none⟩),?_,g,o,rfl,λj p m=>?_⟩
    .simp[Instr.arrayAt,run_underlying A,Nat.not_lt.2 b1]
    .rw[ZZ (λr d=>hR r (ob d))]at m;simp only[jq]at m;obtain⟨r,c,q⟩:=m;rw[jD]at c;split at c
     .have k1:=i j r 0 p c q;have k2:=k j r 0 p c q;rw[sF,lL]at k1;exact⟨_,k1.1,k1.2,k2⟩
     .cases c
  .cases b
 .cases b
end
def rQ(g:cf->Option Nat):List Field->Nat->Option Nat
 |[],o=>some o
 |f::l,o=>match g f.type with
  |some n=>if f.offset=o/\f.name≠ "_" then rQ g l (o+n)else none
  |none=>none
def po(P:cJ):Nat->cf->Option Nat
 |0,_=>none
 |d+1,t=>match P.underlying t with
  |some (.int _)=>some 1
  |some (.struct b)=>match rQ (po P d) b.toList 0 with
   |some n=>if P.stoodInHeld t=false/\(P.info? t).isSome=true/\eG P t=n then some n else none
   |none=>none
  |some (.array n e)=>match P.underlying e with
   |some (.int _)=>if 1<=d/\(P.info? e).isSome=true/\eG P e=1/\(P.info? t).isSome=true/\eG P t=n then some n else none
   |_=>none
  |_=>none
def EA(P:cJ)(t:cf):Nat:=match P.underlying t with
 |some (.struct _)|some (.array _ _)=>if P.eqGuardType P.depth t then 0 else(po P 4 t).getD 0
 |_=>0
def Sm{g:cf->Option Nat}:∀{l:List Field}{o n:Nat},rQ g l o=some n->o<=n
 |[],o,n,h=>by simp[rQ]at h;omega
 |f::l,o,n,h=>by
  simp only[rQ]at h;split at h
  .split at h
   .have:=Sm h;omega
   .cases h
  .cases h
def eq_int{P w t k c a b}(e:P.underlying t=some (.int c))(d):
 (Op.equalIn (d+1) t (.int k a) (.int k b)).run P w=.ok (a==b) w:=by
 simp[Op.equalIn,run_underlying e]
def FE{P w t k}(b:P.underlying t=some (.int k)){cs i v}(c:cs[i]?=some v):
 (part t cs i).run P w=.ok v w:=by
 simp[part,isAgg,run_underlying b,c]
def oK(us:Array b8)(o n:Nat)(k:Nat->fE)(a:Nat->Int):Prop:=∀i,i<n->us[o+i]?=some (.int (k i) (a i))
def EqAt(P:cJ)(w:bW)(d:Nat)(t:cf)(n:Nat):Prop:=∀(us vs:Array b8)(o:Nat)(k:Nat->fE)(a b:Nat->Int),oK us o n k a->oK vs o n k b->
 ∃u v r,(part t us o).run P w=.ok u w/\(part t vs o).run P w=.ok v w/\(∀e,(Op.equalIn (e+d) t u v).run P w=.ok r w)/\(r=true↔∀i,i<n->a i=b i)
def Lo{P w d}(ih:∀t n,po P d t=some n->EqAt P w d t n){us vs N k a b}(q:oK us 0 N k a)(s:oK vs 0 N k b)(e):
 ∀(l )(o ),rQ (po P d) l o=some N->∃r,(∀K:Option Bool×Unit->bW->Result Bool,K (none,()) w=.ok true w->(∀r,K (some r,()) w=.ok r w)->(Sem.run P
       (forIn l ((none:Option Bool),()) λf __s=>
        if f.name= "_" then pure (ForInStep.yield (none,()))
        else do
         let __do_lift<-part f.type us f.offset
         let aDS<-part f.type vs f.offset
         let __do_lift<-Op.equalIn (e+d) f.type __do_lift aDS
         if __do_lift=false then pure (ForInStep.done (some false,()))else pure (ForInStep.yield (none,())))
       w).andThen K=Result.ok r w)/\(r=true↔∀i,o<=i->i<N->a i=b i)
 |[],o,h=>by
  simp only[rQ,ko]at h;exact⟨true,λK m x=>by simpa using m,by simp;omega⟩
 |f :: l,o,h=>by
  simp only[rQ]at h;split at h
  .rename_i n y;split at h
   .rename_i z;obtain⟨rfl,p⟩:=z;have A:=Sm h;obtain⟨u,v,r,m,x,B,D⟩:=ih _ _ y us vs f.offset (λi=>k (f.offset+i)) (λi=>a (f.offset+i)) (λi=>b (f.offset+i)) (λi j=>by have:=q (f.offset+i) om;simpa using this) (λi j=>by have:=s (f.offset+i) om;simpa using this);obtain⟨r',F,G⟩:=Lo ih q s e l _ h;refine⟨r&&r',?_,?_⟩
    .intro K k1 k2;simp[p,m,x,B e];cases r
     .simpa using k2 false
     .simpa using F K k1 k2
    .rw [cF,D,G];constructor
     .intro⟨H,I⟩ i j c;by_cases J:f.offset+n<=i
      .exact I i J c
      .have:=H (i-f.offset) om
       rwa [Nat.add_sub_cancel' j]at this
     .intro g;exact⟨λi j=>g _ om om,λi j c=>g i om c⟩
   .cases h
  .cases h
def Z_{P w d}(ih:∀t n,po P d t=some n->EqAt P w d t n){t c}(q:P.underlying t=some (.struct c))(s:P.stoodInHeld t=false){n}(j:rQ (po P d) c.toList 0=some n)
 {us vs} {k} {a b} (m:oK us 0 n k a) (o:oK vs 0 n k b):∃r,(∀e,(Op.equalIn (e+(d+1)) t (.agg us) (.agg vs)).run P w=.ok r w)/\(r=true↔∀i,i<n->a i=b i):=by
 obtain⟨l⟩:=c;obtain⟨r,_,p⟩:=Lo ih m o 0 l 0 j;refine⟨r,λe=>?_,p.trans ⟨λh i g=>h i (fu _) g,λh i _ g=>h i g⟩⟩;obtain⟨r',u,v⟩:=Lo ih m o e l 0 j;have:r'=r:=by rw[kK,p,v]
 subst this;show(Op.equalIn ((e+d)+1) t _ _).run P w=_;rw[Op.equalIn];simp[run_underlying q,s];exact u _ ch (λr=>by simp)
def Zs{P:cJ}{w:bW}{t e:cf}{n:Nat}{m:fE}(o:P.underlying t=some (.array n e))(g:P.underlying e=some (.int m))(c:(P.info? e).isSome=true)(p:eG P e=1)
 {us vs:Array b8} {k:Nat->fE} {a b:Nat->Int} (q:oK us 0 n k a) (s:oK vs 0 n k b):
 ∃r,(∀d,(Op.equalIn (d+2) t (.agg us) (.agg vs)).run P w=.ok r w)/\(r=true↔∀i,i<n->a i=b i):=by
 refine⟨(List.range' 0 n 1).all λi=>a i==b i,λd=>?_,?_⟩
 .rw [Op.equalIn];simp only[Sem.run_bind,run_underlying o,Result.andThen_ok,run_sizeOf w c,p,Std.Legacy.Range.forIn_eq_forIn_range',Std.Legacy.Range.size,Qr,Iw,Nat.div_one];have h:∀i∈List.range' 0 n 1,i<n:=λi c=>by simpa using(List.mem_range'_1.1 c).2
  generalize List.range' 0 n 1=l at h⊢
  induction l with
  |nil=>simp
  |cons i l ih=>
   have c:i<n:=h i ch;have u:(part e us (i*1)).run P w=.ok (.int (k i) (a i)) w:=FE g (by have:=q i c;simpa using this);have v:(part e vs (i*1)).run P w=.ok (.int (k i) (b i)) w:=FE g (by have:=s i c;simpa using this);have x:(Op.equalIn (d+1) e (.int (k i) (a i)) (.int (k i) (b i))).run P w=.ok (a i==b i) w:=eq_int g d;simp only[List.forIn_cons,Sem.run_bind,u,v,x,Result.andThen_ok,Iv];cases z:(a i==b i)
   .simp
   .simp only[Bool.not_true,pW,if_false,Sem.run_pure,Result.andThen_ok,Bool.true_and];exact ih λj y=>h j (by simp[y])
 .simp[cI,List.mem_range'_1]
def V2{P:cJ}{w:bW}:∀(d:Nat)(t:cf)(n:Nat),po P d t=some n->EqAt P w d t n
 |0,t,n,h=>by cases h
 |d + 1,t,n,h=>by
  intro us vs o k a b p q;rw[po]at h;split at h
  .rename_i v l;cases h;have x:=p 0 om;have y:=q 0 om;refine⟨_,_,_,FE l x,FE l y,λe=>eq_int l (e+d),?_⟩;simp only[beq_iff_eq];exact ⟨λg i c=> by
                           obtain rfl:i=0:=om;exact g,λg=>g 0 om⟩
  .rename_i B l;split at h
   .rename_i m z;split at h
    .rename_i j;cases h;obtain⟨r,s,u⟩:=Z_ (w:=w) (λt n=>V2 d t n) l j.1 z (us:=us.extract o (o+n)) (vs:=vs.extract o (o+n)) (k:=k) (a:=a) (b:=b)
      (λi c=>by rw[Qt,kp,bB (by have:=(kq.1 (p i c)).1;omega)];exact p i c)
      (λi c=>by rw[Qt,kp,bB (by have:=(kq.1 (q i c)).1;omega)];exact q i c)
     refine⟨_,_,r,?_,?_,s,u⟩
     .simp[part,isAgg,run_underlying l,run_sizeOf w j.2.1,j.2.2]
     .simp[part,isAgg,run_underlying l,run_sizeOf w j.2.1,j.2.2]
    .cases h
   .cases h
  .rename_i m D l;split at h
   .rename_i v A;split at h
    .rename_i j;cases h;obtain⟨r,s,u⟩:=Zs (w:=w) l A j.2.1 j.2.2.1 (us:=us.extract o (o+n)) (vs:=vs.extract o (o+n)) (k:=k) (a:=a) (b:=b)
      (λi c=>by rw[Qt,kp,bB (by have:=(kq.1 (p i c)).1;omega)];exact p i c)
      (λi c=>by rw[Qt,kp,bB (by have:=(kq.1 (q i c)).1;omega)];exact q i c)
     refine⟨.agg (us.extract o (o+n)),.agg (vs.extract o (o+n)),r,?_,?_,λe=>?_,u⟩;rotate_left 2
     .have:=s (e+(d-1))
      rwa [show e+(d-1)+2=e+(d+1)by omega]at this
     .simp[part,isAgg,run_underlying l,run_sizeOf w j.2.2.2.1,j.2.2.2.2]
     .simp[part,isAgg,run_underlying l,run_sizeOf w j.2.2.2.1,j.2.2.2.2]
    .cases h
   .cases h
  .cases h
def amp{P t n}(h:EA P t=n)(l:n≠0)(w)(x y){us vs k a b}(u:oK us 0 n k a)(v:oK vs 0 n k b){r}(z:r=true↔∀i,i<n->a i=b i):
 (do eqGuard .eql t x y (.agg us) (.agg vs);binOp .eql t (.agg us) (.agg vs)).run P w=.ok (.bool r) w/\
 (do eqGuard .neq t x y (.agg us) (.agg vs);binOp .neq t (.agg us) (.agg vs)).run P w=.ok (.bool (!r)) w:=by
 have key:P.eqGuardType P.depth t=false/\(po P 4 t).getD 0=n/\¬∃k,P.underlying t=some (.int k):=by
  unfold EA at h;split at h
  .rename_i H g;split at h
   .exact absurd h.symm l
   .rename_i j;exact⟨by simpa using j,h,λ⟨k,d⟩=>by rw[g]at d;cases d⟩
  .rename_i m e g;split at h
   .exact absurd h.symm l
   .rename_i j;exact⟨by simpa using j,h,λ⟨k,d⟩=>by rw[g]at d;cases d⟩
  .exact absurd h.symm l
 obtain⟨j,h,p⟩:=key;have A : (Op.equal t (.agg us) (.agg vs)).run P w=.ok r w:=by
  cases c:po P 4 t with
  |none=>rw[c]at h;exact absurd h.symm l
  |some m=>
   rw[c]at h;obtain rfl:m=n:=h;rw[po]at c;split at c
   .rename_i B d;exact absurd ⟨_,d⟩ p
   .rename_i D g;split at c
    .rename_i F G;split at c
     .rename_i o;cases c;obtain⟨r',q,s⟩:=Z_ (w:=w) (λt n=>V2 3 t n) g o.1 G u v;obtain rfl:r'=r:=by rw[kK,s,z]
      exact q 9996
     .cases c
    .cases c
   .rename_i F I g;split at c
    .rename_i B d;split at c
     .rename_i o;cases c;obtain⟨r',q,s⟩:=Zs (w:=w) g d o.2.1 o.2.2.1 u v;obtain rfl:r'=r:=by rw[kK,s,z]
      exact q 9998
     .cases c
    .cases c
   .cases c
 constructor
 .simp[eqGuard,binOp,run_program,A,j]
 .simp[eqGuard,binOp,run_program,A,j]
def u_:List C->Option (List (fE×Int))
 |[]=>some []
 |.p (.sc (.int k a))::cs=>(u_ cs).map ((k,a):: ·)
 |_=>none
def qe(t:Bool):List (fE×Int)->List (fE×Int)->Bool
 |(_,a)::xs,(_,b)::ys=>qe (t&&a==b) xs ys
 |_,_=>t
def Ed(P:cJ)(op:BinOp)(t:cf)(cs ds:List C):Option Bool:=match u_ cs,u_ ds with
 |some ((i,a)::xs),some ((j,b)::ys)=>if EA P t=xs.length+1/\i::xs.map (·.1)=j::ys.map (·.1)then match op with
  |.eql=>some (qe (a==b) xs ys)
  |.neq=>some (!qe (a==b) xs ys)
  |_=>none
  else none
 |_,_=>none
def nI(xs:List (fE×Int))(i:Nat):fE×Int:=xs[i]?.getD (.i64,0)
def O8:∀{cs:List C}{xs:List (fE×Int)},u_ cs=some xs->∀i,i<xs.length->cs[i]?=some (.p (.sc (.int (nI xs i).1 (nI xs i).2)))
 |[],xs,h,i,b=>by cases h;cases b
 |c::cs,xs,h,i,b=>by
  unfold u_ at h;split at h
  .cases ‹_::_=[]›
  .rename_i k a d e;cases e;simp only[b9]at h;obtain⟨ys,g,rfl⟩:=h
   cases i with
   |zero=>rfl
   |succ i=>simpa[nI]using O8 g i (by simpa using b)
  .cases h
def WU:∀{xs ys:List (fE×Int)}{t:Bool},xs.length=ys.length->(qe t xs ys=true↔t=true/\∀i,i<xs.length->(nI xs i).2=(nI ys i).2)
 |[],[],t,_=>by simp[qe]
 |(k,a)::xs,(j,b)::ys,t,h=>by
  rw[qe,WU (by simpa using h),cF,beq_iff_eq,and_assoc];refine and_congr_right λ_=>⟨λ⟨d,e⟩i c=>?_,λg=>⟨by simpa[nI]using g 0 ch,λi c=>by simpa[nI]using g (i+1) (by simpa using c)⟩⟩
  cases i with
  |zero=>simpa[nI]using d
  |succ i=>simpa[nI]using e i (by simpa using c)
def RP.slice3{M w rows A n cap size}(k:RP M w (.sl rows) (.slice A n cap))(hR:dS size rows){l h}(J:l<=h){m}(H:h<=m)(t:m<=rows.length):
 RP M w (.sl ((rows.take h).drop l)) (.slice (if m=l then A else A.map (·.add (l*size))) (h-l) (m-l)):=by
 by_cases u:l=h
 .subst u;have:(rows.take l).drop l=[]:=by simp
  rw[this,uh];exact .nil
 .cases k with
  |nil=>simp at t;omega
  |@row _ g o cap sz f K N O G x y=>
   have hlen:((rows.take h).drop l).length=h-l:=by simp;omega
   have z:∀r∈rows,sz=size:=λr k=>by rw[<-G r k];exact hR r k
   have B:m≠l:=om;rw[bG B,<-hlen];simp only[cg,pN];have D:∀(i:Nat)(r:List PV),((rows.take h).drop l)[i]?=some r->rows[l+i]?=some r:=by
    intro i r d;rw[kU,jD]at d;split at d
    .exact d
    .cases d
   have q:∀(i:Nat)(r:List PV)(j:Nat),((rows.take h).drop l)[i]?=some r->o+l*size+i*sz+j=o+(l+i)*sz+j:=by
    intro i r j d;have:=z r (eN (D i r d));subst this;rw[kV];omega
   refine RP.row (sz:=sz) (f:=λi j=>f (l+i) j) (by intro I;rw[I]at hlen;simp at hlen;omega) om om (λr k=>G r (ob (oZ k))) ?_ ?_
   .intro i r j p d F;rw[q i r j d];exact x (l+i) r j p (D i r d) F
   .intro i r j p d F;exact y (l+i) r j p (D i r d) F
def RP.aBF{M w rows v}(h:RP M w (.sl rows) v):∃A n cap,v=.slice A n cap/\rows.length<=cap:=by
 cases h with
 |nil=>exact⟨_,_,_,rfl,fu _⟩
 |row k d=>exact⟨_,_,_,rfl,d⟩
def ako{P}(b)(len cap:Nat)(lo){l h m:Int}{k1 k2}(e:lo=none/\l=0\/∃k,lo=some (.int k l))
 (o:0<=l) (p:l<=h) (q:h<=m) (n:m<=cap) (w):(Instr.sliceBounds b len cap lo (some (.int k1 h)) (some (.int k2 m))).run P w=.ok (l.toNat,h.toNat,m.toNat) w:=by
 have d:∀(k:fE)(y:Nat)(c:BoundsCode)(i:Int),0<=i->i<=y->(Instr.sliceBound (.int k i) y c).run P w=.ok i.toNat w:=by
  intro k y c i g j;simp[Instr.sliceBound,asIntOf,g,j]
 rcases e with⟨rfl,rfl⟩| ⟨k,rfl⟩
 .simp[Instr.sliceBounds,d k2 cap _ m om n,d k1 m.toNat _ h om om]
 .simp[Instr.sliceBounds,d k2 cap _ m om n,d k1 m.toNat _ h om om,d k h.toNat _ l o om]
def yC(P:cJ)(st:bC)(t:cf)(x:cL)(lo:Option cL)(b mx:cL):Option V:=
 match st.arg x,f_ P t,st.num lo 0,st.arg b,st.arg mx with
 |some (.v (.c (.p (.sl rows)))),some e,some l,some (.v (.c (.p (.sc (.int _ h))))),some (.v (.c (.p (.sc (.int _ m)))))=>
  if 0<=l/\l<=h/\h<=m/\m.toNat<=rows.length/\cC (eG P e) rows=true then some (.v (.c (.p (.sl ((rows.take h.toNat).drop l.toNat)))))else none
 |_,_,_,_,_=>none
section
variable{X:Fx}{E:Env}{st:bC}{a:Act}{w:bW}
def azx(h:Rel X E st a w){t x k mx lo v}
 (b:yC X.P st t x lo k mx=some v):∃u,(Instr.sliceAt t (a.eval x) (lo.map a.eval) (some (a.eval k)) (some (a.eval mx))).run X.P w=.ok u w/\RV X.M E w v u:=by
 unfold yC at b;split at b
 .rename_i rows e l k1 q k2 m r s c d g;obtain⟨y,i⟩:=oH s;split at b
  .rename_i z;obtain⟨B,b1,D,F,G⟩:=z;cases b;have j:RP (bad X.M E) w (.sl rows) (a.eval x):=(h.cX r).1;have H:=RP.eM (h.cX d).1;have I:=RP.eM (h.cX g).1;obtain⟨A,n,cap,o,p⟩:=RP.aBF j;rw[o]at j;have J:=ako (P:=X.P) true n cap (lo.map a.eval) (k1:=k1) (k2:=k2) (z_ h c) B b1 D om w;refine⟨_,?_,RP.slice3 j (kf.1 G) (l:=l.toNat) (h:=q.toNat) (m:=m.toNat) om om F⟩;rw[o,H,I];simp[Instr.sliceAt,Instr.slice,run_underlying y,J,run_sizeOf w i,eG]
  .cases b
 .cases b
end
end
end
end Go.Proofs.YtiikkkhcolcebaaGreatDoor
