/- A part. -/
import Derived.Test.YtiikkkhcolcebaaGreatDoorG3
set_option linter.all false
set_option maxHeartbeats 4000000
set_option maxRecDepth 100000
namespace Go.Proofs.YtiikkkhcolcebaaGreatDoor
noncomputable section
section
open Go.RowKit
open Classical
def gV(l:List Int):List (List PV):=l.map λn=>[.sc (.int .u8 n)]
def wh:List PV->Option Int
 |[.sc (.int .u8 n)]=>some n
 |_=>none
def mU(rows:List (List PV)):Option (List Int):=rows.mapM wh
theorem awc(l):mU (gV l)=some l:=by
 unfold mU gV
 induction l with
 |nil=>rfl
 |cons n l ih=>simp_all[wh]
theorem V4(l):dy 1 (gV l):=by intro r b;simp[gV]at b;obtain⟨n,_,rfl⟩:=b;rfl
theorem JR(l):(gV l).length=l.length:=by simp[gV]
theorem R3(l)(n:Nat):(gV l)[n]?=(l[n]?).map λn=>[.sc (.int .u8 n)]:=by simp[gV]
def ku(P:cC)(st:bx)(s d:cd)(x:cF):Option V:=
 match st.arg x with
 |some (.v (.c (.p (.sc (.int _ n)))))=>match P.underlying s,P.underlying d with
  |some _,some (.int k)=>some (.sc (.int k (k.wrap n)))
  |some _,some (.float k)=>some (.sc (.float k (k.nearest n)))
  |_,_=>none
 |some (.v (.c (.p (.sc (.float k0 b)))))=>match P.underlying s,P.underlying d with
  |some _,some (.int k)=>(floatToIntVal k0 b k).map λn=>.sc (.int k n)
  |_,_=>none
 |some (.v (.c (.p (.sc (.string b)))))=>match P.underlying s,P.underlying d with
  |some .string,some .string=>some (.sc (.string b))
  |_,_=>none
 |some (.v (.c c))=>match st.view c,P.underlying s,P.underlying d with
  |some rows,some (.slice e),some .string=>match P.underlying e,mU rows with
   |some (.int .u8),some l=>some (.sc (.string (strOfNums l)))
   |_,_=>none
  |_,_,_=>none
 |_=>none
section
variable{X:Fx}{E:Env}{st:bx}{a:Act}{w:bX}
theorem Rel.D7(h:Rel X E st a w){x c rows}(d:st.arg x=some (.v (.c c)))(k:st.view c=some rows):Rows (bad X.M E) w rows (a.eval x):=
 h.view (h.cN d).1 (h.cN d).2.2 k
theorem agI(h:Rel X E st a w){s d x v}
 (j:ku X.P st s d x=some v):∃u,(convert s d (a.eval x)).run X.P w=.ok u w/\RV X.M E w v u:=by
 unfold ku at j;split at j
 .rename_i k n q;have B:=RP.ek (h.cN q).1;split at j
  .rename_i ds S m p;simp at j;subst j;refine⟨_,?_,.sc rfl⟩;rw[B];simp[convert,run_underlying m,run_underlying p,Conv.intToInt]
  .rename_i ds S m p;simp at j;subst j;refine⟨_,?_,.sc rfl⟩;rw[B];cases ds<;>simp[convert,run_underlying m,run_underlying p,Conv.intToFloat]
  .cases j
 .rename_i k0 b q;have B:=RP.ek (h.cN q).1;split at j
  .rename_i ds k m p;obtain⟨n,T,rfl⟩:=bY.1 j;refine⟨_,?_,.sc rfl⟩;rw[B];exact run_convert_float_int w s d k0 k b n (by rw[m];rfl) p T
  .cases j
 .rename_i b q;have B:=RP.ek (h.cN q).1;split at j
  .rename_i m p;simp at j;subst j;refine⟨_,?_,.sc rfl⟩;rw[B];simp[convert,run_underlying m,run_underlying p]
  .cases j
 .rename_i c _ _ _ q;split at j
  .rename_i rows e hp m p;split at j
   .rename_i l t I;simp at j;subst j;refine⟨_,?_,.sc rfl⟩;have J:=h.D7 q hp;obtain⟨D,K⟩:=nL I;rcases J with⟨rfl,A,cap,y⟩| ⟨g,o,cap,sz,f,y,V,U,W,N,O⟩
    .rw[y];simp[mU]at I;subst I
     cases A with
     |none=>exact run_convert_bytes_nil w s e m t 0 cap d p
     |some A=>
      rw[run_convert_bytes_string w s d e _ 0 cap m t p];rfl
    .rw [y];have key:∀(i:Nat)(r:List PV),rows[i]?=some r->∃n,l[i]?=some n/\r=[.sc (.int .u8 n)]:=by
      intro i r F;have G:i<l.length:=by rw[D];exact(dO.1 F).1
      obtain⟨r',H,z⟩:=K i _ (cY G);rw[F]at H;cases H;refine⟨_,cY G,?_⟩;unfold wh at z;split at z
      .simp at z;rw[z]
      .cases z
     have P:sz=1:=by
      cases rows with
      |nil=>simp_all
      |cons r rs=>
       obtain⟨n,_,Y⟩:=key 0 r rfl;have:=N r (by simp);simp_all
     subst P;refine run_convert_bytes_arg w s e m t g o rows.length cap l D (λi F=>?_) d p;obtain⟨n,H,z⟩:=key i _ (cY F);obtain⟨Q,R⟩:=O i _ 0 (.sc (.int .u8 n)) (cY F) (by rw[z];rfl);have R:=RP.ek R;rw[R]at Q;simp only[x7,lh]at Q;rw[Q];simp[List.getD,H]
   .cases j
  .cases j
 .cases j
def ov(P:cC)(st:bx)(t:cd)(x:cF):Option V:=
 match st.arg x with
 |some (.v (.c (.p (.sc (.string b)))))=>match P.underlying t with
  |some .string=>some (.sc (.int .i64 b.size))
  |_=>none
 |some (.v (.c (.p .nl)))=>match P.underlying t with
  |some (.slice _)=>some (.sc (.int .i64 0))
  |_=>none
 |some (.v (.c c))=>match st.view c,P.underlying t with
  |some rows,some (.slice _)=>some (.sc (.int .i64 rows.length))
  |_,_=>none
 |_=>none
theorem Rows.len{M w rows v}(h:Rows M w rows v):∃A cap,v=.slice A rows.length cap/\(rows≠ []->rows.length<=cap/\∃g o,A=some ⟨g,o,none⟩):=by
 rcases h with⟨rfl,A,cap,rfl⟩| ⟨g,o,cap,sz,f,rfl,k,d,_⟩
 .simp_all
 .exact⟨_,cap,rfl,λ_=>⟨d,g,o,rfl⟩⟩
theorem acH(h:Rel X E st a w){t ty x v}
 (d:ov X.P st t x=some v):∃u,(Builtin.len_ #[t] ty #[a.eval x]).run X.P w=.ok u w/\RV X.M E w v u:=by
 unfold ov at d;split at d
 .rename_i b g;have j:=RP.ek (h.cN g).1;split at d
  .rename_i i;simp at d;subst d;refine⟨_,?_,.sc rfl⟩;rw[j];simp[Builtin.len_,run_underlying i,goInt]
  .cases d
 .rename_i g;have j:=(h.cN g).1;split at d
  .rename_i e i;simp at d;subst d;obtain⟨A,k⟩:=RP.Qi j;refine⟨_,?_,.sc rfl⟩;rw[k];simp[Builtin.len_,run_underlying i,goInt]
  .cases d
 .rename_i c _ _ g;split at d
  .rename_i rows e hp i;simp at d;subst d;refine⟨_,?_,.sc rfl⟩;obtain⟨A,cap,l,_⟩:=(h.D7 g hp).len;rw[l];simp[Builtin.len_,run_underlying i,goInt]
  .cases d
 .cases d
def xv:UnOp->b9->Option b9
 |.not,.bool b=>some (.bool (!b))
 |.neg,.int k n=>some (.int k (k.wrap (0-n)))
 |.xor,.int k n=>some (bitsOf k (BitVec.ofInt k.bits (if k.signed then-1 else k.max) ^^^BitVec.ofInt k.bits n))
 |_,_=>none
theorem aeD{P op u v}(h:xv op u=some v)(w):(Op.unary op u).run P w=.ok v w/\flat v=true:=by
 unfold xv at h;split at h
 .simp at h;subst h;exact⟨rfl,rfl⟩
 .simp at h;subst h;exact⟨by simp[Op.unary,Op.intArith],rfl⟩
 .simp at h;subst h;exact⟨by rfl,rfl⟩
 .cases h
def C.pv:C->Option PV
 |.p q=>some q
 |.nil=>some (.sl [])
 |_=>none
theorem RC.pv{M E w c v p}(h:RC M E w c v)(hp:c.pv=some p):RP (bad M E) w p v:=by
 cases c with
 |p q=>simp[C.pv]at hp;subst hp;exact h
 |nil=>simp[C.pv]at hp;subst hp;cases h;exact .nil
 |_=>cases hp
def ml(cs:List C):Option (List PV):=cs.mapM C.pv
def xq(P:cC)(st:bx)(d:Nat)(t:cd)(l c:cF):Option (V×gO):=
 match fr P t,st.arg l,st.arg c with
 |some e,some (.v (.c (.p (.sc (.int _ n))))),some (.v (.c (.p (.sc (.int _ m)))))=>match iR P e,pN P e with
  |some (_,b),some g=>match ml g with
   |some z=>if n=m/\0<=n/\n<=9223372036854775807/\b*n.toNat<=281474976710656 then some (.c (.own d),⟨[(d,.row e (List.replicate n.toNat z))],[]⟩)else none
   |none=>none
  |_,_=>none
 |_,_,_=>none
theorem aiC(h:Rel X E st a w){d}(hd:E.N d=none)(H:X.k0<=d)(I:d<st.next){t l c v ef}
 (g:xq X.P st d t l c=some (v,ef)):
 ∃u w' E',(Instr.makeSlice t (a.eval l) (a.eval c)).run X.P w=.ok u w'/\(∀n,n≠d->E.N n=none->E'.N n=none)/\Rel X E' (st.dS ef) a w'/\RV X.M E' w' v u:=by
 unfold xq at g;split at g
 .rename_i e k1 n k2 m ht hl hc;obtain⟨hu,af⟩:=nB ht;have h3:=RP.ek (h.cN hl).1;have h4:=RP.ek (h.cN hc).1;split at g
  .rename_i k b zs s hz;obtain⟨i,z,hi,x,y,A,J,K,N⟩:=rD s;obtain⟨B,z',D,j,F⟩:=wi (M:=X.M) (E:=E) (w:=w) hz;rw[hi]at D;cases D;rw[x]at j;cases j;split at g
   .rename_i G O;split at g
    .rename_i o;obtain⟨rfl,h0,Q,hb⟩:=o;have hm:n.toNat<=maxLen:=by simp only[maxLen];omega
     cases g;obtain⟨R,S⟩:=nL O;have T:G.length=k:=by rw[R,<-F.1,y]
     have U:n<=9223372036854775807:=Q;have V:(i.bytes:Int)*n<=281474976710656:=by
      rw[K];have:((b*n.toNat:Nat):Int)<=281474976710656:=om
      rwa [Og,Bd h0]at this
     have W:=run_make (P:=X.P) w t e i z hu hi x k1 k2 n n h0 (Int.le_refl _) V U;rw[J]at W;have hR:dy k (List.replicate n.toNat G):=λr W=>by simp_all
     have Y:=h.pK hd H I (e:=e) A N.symm (rows:=List.replicate n.toNat G) hR (cap:=n.toNat) (by simp) hm (us:=madeCells z.cells (n.toNat*k)) (by rw[size_madeCells]) (λB r q p h5 h6=>by
      have Z:r=G:=(Be.1 (eb h5)).2;subst Z;have aa:B<n.toNat:=by have:=(dO.1 h5).1;simpa using this
      have ab:q<k:=by rw[<-T];exact(dO.1 h6).1
      obtain⟨cc,h7,h8⟩:=S q p h6;obtain⟨u',h9,ac,_⟩:=F.2 q cc h7;have ad:B*k+q<n.toNat*k:=by
       have:(B+1)*k<=n.toNat*k:=gi _ aa;rw[oW]at this;omega
      refine⟨u',?_,RC.pv ac h8⟩;simp only[madeCells,ZG,ZH,ad,if_true,b_,jq];rw[y,show(B*k+q)%k=q by rw[Oe,ZI,x8 ab]];simp_all) (wd:=w) (.inl rfl)
     simp only[pU]at Y;exact⟨_,_,_,by rw[h3,h4];exact W,λk hk ae=>by rw[Env.kJ hk];exact ae,Y.1,Y.2⟩
    .cases g
   .cases g
  .cases g
 .cases g
def ql(P:cC)(st:bx)(t:cd)(x y:cF):Option (V×gO):=
 match fr P t,st.arg x,st.arg y with
 |some e,some (.v (.c c)),some (.v (.c d))=>match st.view c,st.view d with
  |some _,some src=>match c with
   |.own n=>match st.heap.lookup n with
    |some (.row b rows)=>let m:=min src.length rows.length
     if b=e/\ct (dZ P e) src=true then some (.sc (.int .i64 m),⟨[(n,.row e (src.take m++rows.drop m))],[]⟩)else none
    |_=>none
   |.sub n lo len=>match st.heap.lookup n with
    |some (.row b rows)=>let m:=min src.length len
     if b=e/\ct (dZ P e) src=true/\lo+len<=rows.length then some (.sc (.int .i64 m),⟨[(n,.row e (rows.take lo++src.take m++rows.drop (lo+m)))],[]⟩)else none
    |_=>none
   |_=>none
  |_,_=>none
 |_,_,_=>none
theorem amC(h:Rel X E st a w){t t2 ty x y v ef}(d:ql X.P st t x y=some (v,ef)):
 ∃u w',(Builtin.copy_ #[t,t2] ty #[a.eval x,a.eval y]).run X.P w=.ok u w'/\Rel X E (st.dS ef) a w'/\RV X.M E w' v u:=by
 unfold ql at d;split at d
 .rename_i e cx cy ht Y hy;obtain⟨hu,aa⟩:=nB ht;split at d
  .rename_i aj src ax ak;have ab:=h.D7 hy ak;have key : ∀(n lo len:Nat)(s:cd)(rows:List (List PV)),n∉st.bu->st.heap.lookup n=some (.row s rows)->s=e->ct (dZ X.P e) src=true->lo+len<=rows.length->
    (∃z A c,E.N n=some z/\a.eval x=.slice A len c/\(0<len->∃g,z.g=some g/\A=some ⟨g,lo*z.sz,none⟩))->
    ∃u w',(Builtin.copy_ #[t,t2] ty #[a.eval x,a.eval y]).run X.P w=.ok u w'/\Rel X E (st.dS ⟨[(n,.row e (rows.take lo++src.take (min src.length len)++rows.drop (lo+min src.length len)))],[]⟩) a w'/\RV X.M E w' (.sc (.int .i64 (min src.length len:Nat))) u:=by
    rintro n lo len s rows o H rfl hR hlen ⟨z,A,c,hN,al,hA⟩;rw[jk]at hR;obtain⟨z',cur,fz,k1,F,k2,k3,k4,k5,k6,k7,k8,k9,am,an⟩:=h.row o H;rw[hN]at k1;cases k1;have ac:dZ X.P s=z.sz:=k7.symm;rw[ac]at hR;have ao:(src.take (min src.length len)).length=min src.length len:=by simp
    have ad:dy z.sz (rows.take lo++src.take (min src.length len)++rows.drop (lo+min src.length len)):=((k9.take _).app (hR.take _)).app (λr hr=>k9 r (nP hr));rw[al];by_cases Z:min src.length len=0
    ·
     have hrow:rows.take lo++src.take 0++rows.drop (lo+0)=rows:=by simp
     have hres:(Builtin.copy_ #[t,t2] ty #[.slice A len c,a.eval y]).run X.P w=.ok (.int .i64 0) w:=by
      obtain⟨B,cap,hv,hB⟩:=ab.len;have ap:Nat.min src.length len=0:=Z;rw[hv];obtain⟨i,N⟩:=rh.1 aa;cases A<;>cases B<;>simp[Builtin.copy_,run_underlying hu,Builtin.lenOf,Builtin.firstCells,sizeOf,typeInfo,N,ap,loadCells,loadCellsFrom,storeCells,goInt]
     refine⟨_,w,hres,?_,?_⟩
     .have O:=h.step ⟨[(n,.row s rows)],[]⟩ (E':=E) (w':=w) (nx:=st.next) (de _) ⟨λ_ _ _ h1 h2=>⟨h1,h2⟩,λ_ _ h=>.inr h,λ_ h=>h⟩ (by simp[h.bu]) h.frame h.eJ h.names h.inj (λ_ _=>.inr rfl) (by simp) (λ_ _ _ _ _ _ _=>rfl) (λm b hb=>by
       simp only[fD,jS]at hb;split at hb
       .rename_i ae;simp at ae;subst ae;cases hb;exact .inr (h.row o H)
       .cases hb)
      rw[Z,hrow];exact O
     .rw[Z];exact .sc rfl
    .have Q:0<len:=om;obtain⟨g,I,hA⟩:=hA Q;subst hA;have hblk:=k2 g I;have R:src≠ []:=by rintro rfl;simp at Z
     rcases ab.src hR with⟨h1,_⟩| ⟨gs,os,cap,news,aq,ay,S,hcell,af,hval⟩
     .exact absurd h1 R
     .have aw:lo*z.sz+(min src.length len)*z.sz<=cur.size:=by
       rw[k8,<-jU];exact gi _ om
      have hnews:(news.take (min src.length len*z.sz)).length=min src.length len*z.sz:=by
       rw[dz,S];exact nQ (gi _ (ZJ _ _))
      have D:=run_loadCells (P:=X.P) w ⟨gs,os,none⟩ (min src.length len*z.sz) (λj=>(news[j]?).getD undef) (λj J=>by
       have G:j<news.length:=by rw[S];exact mM J (gi _ (ZJ _ _))
       rw[hcell j _ (cY G)];simp[G])
      have T:(List.range (min src.length len*z.sz)).map (λj=>(news[j]?).getD undef)=news.take (min src.length len*z.sz):=by
       apply sP;intro j;rw[cX,jc];split
       .rename_i J;have G:j<news.length:=by rw[S];exact mM J (gi _ (ZJ _ _))
        simp[vg J,G]
       .simp;omega
      have q:=uK X.P g (lo*z.sz) s fz (news.take (min src.length len*z.sz)) 0 cur w F hblk om (λu hu=>af u (mO hu));have hn:Nat.min src.length len=min src.length len:=rfl;have hw :=(h.write hN I hblk ((cur.toList.take (lo*z.sz)++news.take (min src.length len*z.sz)++cur.toList.drop (lo*z.sz+(news.take (min src.length len*z.sz)).length)).toArray) [] (by simp) (.row s (rows.take lo++src.take (min src.length len)++rows.drop (lo+min src.length len))) (λhG ag _=>by
       refine⟨z,_,fz,by exact hN,(by
        have e1:(cur.toList.take (lo*z.sz)++news.take (min src.length len*z.sz)++cur.toList.drop (lo*z.sz+(news.take (min src.length len*z.sz)).length)).toArray.size=cur.size:=by simp[hnews];omega
        rw[e1];exact F),λg' ah=>by rw[I]at ah;cases ah;exact ag,by simp;omega,k4,k5,k6,k7,by simp;omega,ad,am,λi r j p N J=>?_⟩
       have az:j<z.sz:=by rw[<-ad r (eb N)];exact(dO.1 J).1
       rw[hnews]at hG;rw[pT,sj (by rw[hnews];omega),hnews];have ai:=sj (l:=rows) (ys:=src.take (min src.length len)) (off:=lo) (k:=i) om;rw[ao]at ai;rw[ai]at N;split at N
       .have ar:(i-lo+1)*z.sz<=min src.length len*z.sz:=gi _ om;have e1:i*z.sz=lo*z.sz+(i-lo)*z.sz:=by rw[<-jU];congr 1;omega
        rw[oW]at ar;rw[bA om,jc,bA om];obtain⟨u,q1,q2⟩:=hval _ r j p (B' N).1 J;exact⟨u,by rw[<-q1];congr 1;omega,q2.goes hG⟩
       .rename_i K;have au:¬(lo*z.sz<=i*z.sz+j/\i*z.sz+j<lo*z.sz+min src.length len*z.sz):=by
         rintro⟨q1,q2⟩;apply K;rw[<-jU]at q2;refine⟨?_,?_⟩
         .rcases mP i lo with U|U
          .have:(i+1)*z.sz<=lo*z.sz:=gi _ U;rw[oW]at this;omega
          .exact U
         .rcases mP i (lo+min src.length len)with U|U
          .exact U
          .have:(lo+min src.length len)*z.sz<=i*z.sz:=gi _ U;omega
        rw[bH au];obtain⟨u,q1,q2⟩:=an i r j p N J;exact⟨u,by simpa using q1,q2.goes hG⟩)).2
      refine⟨.int .i64 (min src.length len:Nat),_,?_,hw,.sc rfl⟩;rw[aq];rw[T]at D;generalize w.setRow g _=W at q⊢;simp[Builtin.copy_,run_underlying hu,Builtin.lenOf,Builtin.firstCells,run_sizeOf w aa,ac,hn,D,goInt];rw[q];rfl
   split at d
   .rename_i n;have o:=(h.cN Y).2.2 n (by simp[C.names]);split at d
    .rename_i s rows H;split at d
     .rename_i K;cases d;obtain⟨z,k1,k2⟩:=cW.get (h.cN Y).1 (h.ir Y (n:=n) (by simp[C.names]));obtain⟨z',cur,fz,j1,F,j2,j3,j4,j5,j6,j7,j8,j9,V,av⟩:=h.row o H;rw[k1]at j1;cases j1;have:=key n 0 rows.length s rows o H K.1 K.2 om ⟨z,_,_,k1,by rw[<-j3];exact k2,λZ=>by
       cases I:z.g with
       |none=>have:=V I;omega
       |some g=>exact⟨g,rfl,by simp⟩⟩
      simpa using this
     .cases d
    .cases d
   .rename_i n lo len;have o:=(h.cN Y).2.2 n (by simp[C.names]);split at d
    .rename_i s rows H;split at d
     .rename_i K;cases d;obtain⟨z,k1,k2,A,k3,k4⟩:=cW.get (h.cN Y).1 (h.ir Y (n:=n) (by simp[C.names]));obtain⟨z',cur,fz,j1,F,j2,j3,j4,j5,j6,j7,j8,j9,V,av⟩:=h.row o H;rw[k1]at j1;cases j1;exact key n lo len s rows o H K.1 K.2.1 K.2.2 ⟨z,_,_,k1,k3,λZ=>by
       cases I:z.g with
       |none=>have:=V I;omega
       |some g=>exact⟨g,rfl,by rw[k4 (.inl om),I];rfl⟩⟩
     .cases d
    .cases d
   .cases d
  .cases d
 .cases d
end
structure Own(P:cC)(f:FuncId):Prop where
 fn:∃fn,P.funcs[f]?=some fn/\(fn.name== "runtime.NumGoroutine")=false/\fn.body.isNone=false
def hp(H:List eQ):Hp:=H.zipIdx.map λx=>(x.2,x.1)
theorem QO:∀(H:List eQ)(k n),List.lookup n ((H.zipIdx k).map λx=>(x.2,x.1))=if k<=n then H[n-k]? else none
 |[],k,n=>by simp
 |b::H,k,n=>by
  simp only[ZF,dk,fD,QO H (k+1) n];by_cases h:n=k
  .subst h;simp
  .rw[beq_eq_false_iff_ne.2 h];by_cases c:k<=n
   .rw[bA c,bA om];obtain⟨m,rfl⟩:∃m,n=k+1+m:=⟨n- (k+1),om⟩
    simp[show k+1+m-k=m+1 by omega]
   .rw[bH c,bH om]
theorem anT(H)(n):(hp H).lookup n=H[n]?:=by simp[hp,QO]
structure JZ(N:Nat->Option Nm)(k:Nat)(w w':bX)(E':Env):Prop where
 bu:E'.bu=[]
 names:∀n x g,E'.N n=some x->x.g=some g->g<w'.heap.size/\((∃m y,N m=some y/\y.g=some g)\/w.heap.size<=g)
 inj:∀n m x y g,E'.N n=some x->E'.N m=some y->x.g=some g->y.g=some g->n=m
 fM:∀m,m<k->E'.N m=none\/E'.N m=N m
structure eC(P:cC)(f:FuncId)(args:List V1)(H:List eQ)(r:V)(H':Hp):Prop where
 own:Own P f
 call:∀(w:bX)(M:fZ)(N:Nat->Option Nm)(vals:Array b9),(∀g,M g->g<w.heap.size)->(∀n x,N n=some x->n<H.length)->
  (∀n x g,N n=some x->x.g=some g->g<w.heap.size/\¬M g)->(∀n m x y g,N n=some x->N m=some y->x.g=some g->y.g=some g->n=m)->
  (∀n b,H[n]?=some b->RB P M ⟨N,[]⟩ w n b)->vals.size=args.length->
  (∀(i:Nat)(x:V1),args[i]?=some x->∃u,vals[i]?=some u/\eB M ⟨N,[]⟩ w x u)->
  Calls P f vals w λe w'=>∃v E',e=.returned v/\Frame (λg=>∃n x,N n=some x/\x.g=some g) w w'/\JZ N H.length w w' E'/\
   (∀n b,H'.lookup n=some b->RB P M E' w' n b)/\RV M E' w' r v
def C.dJ(ρ:Nat->Nat):C->C
 |.own n=>.own (ρ n)| .sub n lo len=>.sub (ρ n) lo len| .ptr n off=>.ptr (ρ n) off| .dH n i j=>.dH (ρ n) i j| .mp n=>.mp (ρ n)| .fn f ee=>.fn f (ee.map ρ)|c=>c
def V1.on(f:C->C):V1->V1
 |.c x=>.c (f x)
 |.agg xs=>.agg (xs.map f)
def V.on(f:C->C):V->V
 |.v x=>.v (x.on f)
 |.bL xs=>.bL (xs.map (V1.on f))
def eQ.on(f:C->C):eQ->eQ
 |.box cs=>.box (cs.map f)
 |b=>b
def eQ.names:eQ->List Nat
 |.box cs=>cs.flatMap C.names
 |_=>[]
def Hp.dJ(ρ:Nat->Nat)(H:Hp):Hp:=H.map λx=>(ρ x.1,x.2.on (C.dJ ρ))
def PV.bare:PV->Bool
 |.sc _=>true
 |.sl rows=>rows.isEmpty
 |.nl=>true
 |.any=>true
def C.bare:C->Bool
 |.p q=>q.bare
 |.ref _=>false
 |_=>true
def V1.bare:V1->Bool
 |.c x=>x.bare
 |.agg xs=>xs.all C.bare
def V.bare:V->Bool
 |.v x=>x.bare
 |.bL xs=>xs.all V1.bare
def eQ.bare:eQ->Bool
 |.box cs=>cs.all C.bare
 |.row _ rows=>rows.all (·.all PV.bare)
 |.map d=>d.all (·.all PV.bare)
theorem RP.bare{M M' w q v}(d:q.bare=true)(h:RP M w q v):RP M' w q v:=by
 cases h with
 |sc h=>exact .sc h
 |nil=>exact .nil
 |nl=>exact .nl
 |any h=>exact .any h
 |row k=>simp[PV.bare]at d;exact absurd d k
theorem iC.bare{B t w}:∀{k h},iC B w k h->h.all (·.all PV.bare)=true->iC t w k h
 |[],[],_,_=>trivial
 |m::_,r::_,⟨x,y⟩,d=>by
  simp only[Gs,cu]at d;refine⟨?_,y.bare d.2⟩
  match r,x,d.1 with
  |.sc (.int .u64 _)::ps,⟨k1,us,k2,z,D⟩,d=>
   simp only[Gs,cu,cz]at d;exact⟨k1,us,k2,z,λj p q=>let⟨u,q1,q2,q3⟩:=D j p q; ⟨u,q1,q2.bare (d.2 p (eb q)),q3⟩⟩
section
variable{M M':fZ}{E E':Env}{w:bX}{f:C->C}
theorem eB.on(k:∀c v,RC M E w c v->RC M' E' w (f c) v){x v}(h:eB M E w x v):eB M' E' w (x.on f) v:=by
 cases x with
 |c c=>exact k c v h
 |agg cs=>
  obtain⟨us,t,y,z⟩:=h;refine⟨us,t,by simp[y],λi c m=>?_⟩;simp only[cX,bY]at m;obtain⟨q,d,rfl⟩:=m;obtain⟨u,B,D,F⟩:=z i q d;exact⟨u,B,k q u D,F⟩
theorem RV.on(k:∀c v,RC M E w c v->RC M' E' w (f c) v){x v}(h:RV M E w x v):RV M' E' w (x.on f) v:=by
 cases x with
 |v x=>exact eB.on k h
 |bL xs=>
  obtain⟨us,q,t,y⟩:=h;refine⟨us,q,by simp[t],λi c m=>?_⟩;simp only[cX,bY]at m;obtain⟨z,d,rfl⟩:=m;obtain⟨u,B,D⟩:=y i z d;exact⟨u,B,eB.on k D⟩
theorem RC.dJ{ρ c v}(d:iK (bad M E) (bad M' E') w w\/c.bare=true)(D:∀n∈c.names,n∉E.bu/\∀x,E.N n=some x->E'.N (ρ n)=some x)(h:RC M E w c v):RC M' E' w (c.dJ ρ) v:=by
 have nm:∀n(Q:Nm->Prop),n∈c.names->cW E n Q->cW E' (ρ n) Q:=by
  intro n Q F I;obtain⟨x,k,t⟩:=cW.get I (D n F).1;exact .inr ⟨x,(D n F).2 x k,t⟩
 cases c with
 |p q=>exact d.elim (λd=>RP.trans h d) (λJ=>RP.bare J h)
 |nil=>exact h
 |own n=>exact nm n _ (by simp[C.names]) h
 |sub n lo len=>exact nm n _ (by simp[C.names]) h
 |ptr n off=>exact nm n _ (by simp[C.names]) h
 |dH n i j=>exact nm n _ (by simp[C.names]) h
 |ref cells=>
  rcases d with d|d
  .obtain⟨g,o,k,t⟩:=h;refine⟨g,o,k,λj p K=>?_⟩;obtain⟨u,y,z,B⟩:=t j p K;exact⟨u,y,(d _ _ _ y z).2,B.trans d⟩
  .cases d
 |fn f ee=>
  obtain⟨us,k,t,y⟩:=h;refine⟨us,k,by simp[t],λi n G=>?_⟩;simp only[cX,bY]at G;obtain⟨m,H,rfl⟩:=G;obtain⟨u,z,B⟩:=y i m H;exact⟨u,z,nm m _ (by exact eb H) B⟩
 |mp n=>exact nm n _ (by simp[C.names]) h
 |dead=>trivial
theorem RB.dJ{P ρ n b}(t:iK (bad M E) (bad M' E') w w\/b.bare=true)(F:∀x,E.N n=some x->E'.N (ρ n)=some x)(Y:∀n∈b.names,n∉E.bu/\∀x,E.N n=some x->E'.N (ρ n)=some x)(h:RB P M E w n b):
 RB P M' E' w (ρ n) (b.on (C.dJ ρ)):=by
 have rp:∀{q:PV}{v:b9},(b.bare=true->q.bare=true)->RP (bad M E) w q v->RP (bad M' E') w q v:=λd T=>t.elim (λt=>T.trans t) (λh=>RP.bare (d h) T)
 cases b with
 |box cs=>
  obtain⟨x,g,cur,e,y,G,z,k,H⟩:=h;refine⟨x,g,cur,e,F x y,G,z,by simp[k],λi c B=>?_⟩;simp only[cX,bY]at B;obtain⟨I,D,rfl⟩:=B;obtain⟨u,J,K,N⟩:=H i I D;have U:=eb D;refine⟨u,J,RC.dJ (t.imp id λd=>?_) (λm O=>Y m (sM.2 ⟨I,U,O⟩)) K,N⟩;simp only[eQ.bare,cz]at d;exact d I U
 |row e rows=>
  obtain⟨x,cur,fz,y,Q,z,k,H,J,K,R,N,Z,S,h9⟩:=h;refine⟨x,cur,fz,F x y,Q,z,k,H,J,K,R,N,Z,S,λi r j p B W=>?_⟩;obtain⟨u,k1,k2⟩:=h9 i r j p B W;refine⟨u,k1,rp (λd=>?_) k2⟩;simp only[eQ.bare,cz]at d;exact d r (eb B) p (eb W)
 |map es=>
  obtain⟨x,g,en,clock,y,G,z,k⟩:=h;exact⟨x,g,en,clock,F x y,G,z,t.elim k.trans k.bare⟩
end
theorem PC{ρ}:∀{H}{n}{d},(Hp.dJ ρ H).lookup n=some d->∃m b,H.lookup m=some b/\ρ m=n/\d=b.on (C.dJ ρ)
 |[],n,d,h=>by simp[Hp.dJ]at h
 |(e,i)::H,n,d,h=>by
  simp only[Hp.dJ,dk,fD]at h;split at h
  .rename_i c;simp at c;cases h;exact⟨e,i,by simp,c.symm,rfl⟩
  .rename_i c;obtain⟨m,b,j,g,k⟩:=PC (H:=H) h;refine⟨m,b,?_,g,k⟩;rw[fD];have:(m==e)=false:=by
    rw[beq_eq_false_iff_ne];rintro rfl;simp[g]at c
   rw[this];exact j
theorem UC{ρ}:∀{H}{m}{b},H.lookup m=some b->(Hp.dJ ρ H).lookup (ρ m)≠none
 |[],m,b,h=>by simp at h
 |(e,g)::H,m,b,h=>by
  simp only[Hp.dJ,dk,fD];split
  .simp
  .rename_i c;rw[fD]at h;split at h
   .rename_i d;simp at d;subst d;simp at c
   .exact UC h
def rO(st:bx)(ι:List Nat)(L:List Nat):C->C->Prop
 |.dead,_=>True
 |.p q,c=>c=.p q\/∃rows,q=.sl rows/\st.view c=some rows/\∀n∈c.names,n∈L
 |c',c=>c=c'.dJ (λm=>(ι[m]?).getD 0)/\∀m∈c'.names,m<ι.length
def xH(st:bx)(ι:List Nat)(L:List Nat):V1->V1->Prop
 |.c d,.c c=>rO st ι L d c
 |.agg b,.agg cs=>cs.length=b.length/\∀(i:Nat)(d:C),b[i]?=some d->∃c,cs[i]?=some c/\rO st ι L d c
 |_,_=>False
def xk(st:bx)(ι:List Nat)(L:List Nat):eQ->eQ->Prop
 |.box d,.box cs=>cs.length=d.length/\∀(i:Nat)(h:C),d[i]?=some h->∃c,cs[i]?=some c/\rO st ι L h c
 |.row j b,.row e rows=>j=e/\b=rows
 |.map g,.map k=>g=k
 |_,_=>False
def km(ι:List Nat)(d:Nat)(m:Nat):Nat:=if m<ι.length then(ι[m]?).getD 0 else d+(m-ι.length)
structure zf(P:cC)(st:bx)(d:Nat)(f:FuncId)(xs:List V1)(v:V)(ef:gO)(rd:List Nat):Prop where
 ex:∃(cargs:List V1)(H:List eQ)(r:V)(H':Hp)(ι L:List Nat),eC P f cargs H r H'/\ι.length=H.length/\ι.Nodup/\
  xs.length=cargs.length/\(∀(i:Nat)(x':V1),cargs[i]?=some x'->∃x,xs[i]?=some x/\xH st ι L x' x)/\
  (∀(i:Nat)(b':eQ),H[i]?=some b'->∃n b,ι[i]?=some n/\st.heap.lookup n=some b/\xk st ι L b' b)/\
  (∀n∈ι,n∉st.bu/\n∉L)/\(∀n∈L,n∉st.bu)/\
  (∀n∈r.names,n<ι.length+8)/\(∀n b,H'.lookup n=some b->n<ι.length+8/\∀m∈b.names,m<ι.length+8)/\
  (∀n∈r.names,n<ι.length->H'.lookup n≠none)/\(∀n b,H'.lookup n=some b->∀m∈b.names,m<ι.length->H'.lookup m≠none)/\
  ((∀n∈L,n∈ef.bu)\/(r.bare=true/\∀n b,H'.lookup n=some b->b.bare=true))/\
  (∀(i n:Nat),ι[i]?=some n->(n∈ef.bu↔H'.lookup i=none))/\(∀n∈ef.bu,n∈ι\/n∈L)/\
  (∀n∈ef.bu,n<d)/\v=r.on (C.dJ (km ι d))/\((∀n b,ef.ch.lookup n=some b->(Hp.dJ (km ι d) H').lookup n=some b)/\∀n b,(Hp.dJ (km ι d) H').lookup n=some b->ef.ch.lookup n=some b\/n∈ι/\ef.ch.lookup n=none/\st.heap.lookup n=some b)/\rd=ι++L
theorem VT{st:bx}{c rows}(h:st.view c=some rows):∃b,st.sink c=some (.sl rows,b)/\∀n∈b,n∈c.names:=by
 cases c with
 |p q=>
  cases q with
  |sc=>cases h
  |sl=>cases h;exact⟨_,rfl,by simp⟩
  |nl=>cases h
  |any=>cases h
 |nil=>cases h;exact⟨_,rfl,by simp⟩
 |own n=>
  simp only[bx.view]at h;split at h
  .simp_all[bx.sink,C.names]
  .cases h
 |sub n lo len=>
  simp only[bx.view]at h;split at h
  .simp_all[bx.sink,C.names]
  .cases h
 |_=>cases h
def kH(E:Env)(ι:List Nat):Nat->Option Nm:=λm=>match ι[m]? with|some n=>E.N n|none=>none
def pI(M:fZ)(E:Env)(ι L:List Nat):fZ:=λg=>M g\/∃n x,E.N n=some x/\x.g=some g/\n∉ι/\n∉L
section
variable{X:Fx}{E:Env}{st:bx}{a:Act}{w:bX}{ι L:List Nat}
theorem ny{m x}(h:kH E ι m=some x):∃n,ι[m]?=some n/\E.N n=some x:=by
 unfold kH at h;split at h
 .exact⟨_,by assumption,h⟩
 .cases h
theorem Wu{M g}(h:bad (pI M E ι L) ⟨kH E ι,[]⟩ g):bad M E g:=by
 rcases h with(h| ⟨n,x,b,c,_⟩)| ⟨m,x,b,c⟩
 .exact .inl h
 .exact .inr ⟨n,x,b,c⟩
 .obtain⟨n,e,d⟩:=ny b;exact .inr ⟨n,x,d,c⟩
theorem IZ(h:Rel X E st a w)(y:∀n∈ι,n∉st.bu/\n∉L)(N:∀n∈L,n∉st.bu){z c v}(k:rO st ι L z c)(d:RC X.M E w c v):RC (pI X.M E ι L) ⟨kH E ι,[]⟩ w z v:=by
 have r:iK (bad X.M E) (bad (pI X.M E ι L) ⟨kH E ι,[]⟩) w w:=λg o u l e=>⟨l,λh=>e (Wu h)⟩
 have nm:∀m(Q:Nm->Prop),m<ι.length->cW E ((ι[m]?).getD 0) Q->cW ⟨kH E ι,[]⟩ m Q:=by
  intro m Q T O;obtain⟨x,l,e⟩:=cW.get O (by rw[h.bu];simp_all);exact .inr ⟨x,by simp_all[kH],e⟩
 cases z with
 |dead=>trivial
 |p q=>
  rcases k with rfl| ⟨rows,rfl,P,b⟩
  .exact RP.trans d r
  .obtain⟨R,l,e⟩:=VT P;obtain⟨_,_,t⟩:=h.sink d (λn A=>N n (b n A)) l;refine RP.trans (t R (λ_ h=>h)) (λg o u k1 k2=>⟨k1,λB=>k2 ?_⟩);rcases B with(B| ⟨n,x,D,F,J,G⟩)| ⟨m,x,D,F⟩
   .exact .inl B
   .refine .inr ⟨n,x,?_,F⟩;simp only[Env.drop];rw[bH λs=>G (b n (e n s))];exact D
   .obtain⟨n,J,G⟩:=ny D;refine .inr ⟨n,x,?_,F⟩;simp only[Env.drop];rw[bH λs=>(y n (eb J)).2 (b n (e n s))];exact G
 |nil=>obtain⟨rfl,_⟩:=k;exact d
 |own n=>obtain⟨rfl,b⟩:=k;exact nm n _ (b n (by simp[C.names])) d
 |sub n lo len=>obtain⟨rfl,b⟩:=k;exact nm n _ (b n (by simp[C.names])) d
 |ptr n off=>obtain⟨rfl,b⟩:=k;exact nm n _ (b n (by simp[C.names])) d
 |dH n i j=>obtain⟨rfl,b⟩:=k;exact nm n _ (b n (by simp[C.names])) d
 |mp n=>obtain⟨rfl,b⟩:=k;exact nm n _ (b n (by simp[C.names])) d
 |ref cells=>
  obtain⟨rfl,_⟩:=k;obtain⟨g,o,l,e⟩:=d;refine⟨g,o,l,λj p S=>?_⟩;obtain⟨u,t,H,I⟩:=e j p S;exact⟨u,t,(r _ _ _ t H).2,I.trans r⟩
 |fn f ee=>
  obtain⟨rfl,b⟩:=k;obtain⟨us,l,e,t⟩:=d;refine⟨us,l,by simpa using e,λi n K=>?_⟩;obtain⟨u,H,I⟩:=t i _ (by rw[cX,K];rfl);exact⟨u,H,nm n _ (b n (by exact eb K)) I⟩
theorem aiG(h:Rel X E st a w)(b:∀n∈ι,n∉st.bu/\n∉L)(g:∀n∈L,n∉st.bu){e x v}(d:xH st ι L e x)(j:eB X.M E w x v):eB (pI X.M E ι L) ⟨kH E ι,[]⟩ w e v:=by
 cases e with
 |c k=>
  cases x with
  |c c=>exact IZ h b g d j
  |agg=>exact d.elim
 |agg l=>
  cases x with
  |c=>exact d.elim
  |agg cs=>
   obtain⟨us,m,o,p⟩:=j;refine⟨us,m,by rw[o,d.1],λi k q=>?_⟩;obtain⟨c,r,s⟩:=d.2 i k q;obtain⟨u,t,y,z⟩:=p i c r;exact⟨u,t,IZ h b g s y,z⟩
theorem aas(h:Rel X E st a w)(m:∀n∈ι,n∉st.bu/\n∉L)(J:∀n∈L,n∉st.bu){i n t b}(v:ι[i]?=some n)(K:st.heap.lookup n=some b)(d:xk st ι L t b):
 RB X.P (pI X.M E ι L) ⟨kH E ι,[]⟩ w i t:=by
 have q:iK (bad X.M E) (bad (pI X.M E ι L) ⟨kH E ι,[]⟩) w w:=λg o u k l=>⟨k,λh=>l (Wu h)⟩
 have y:=h.row (m n (eb v)).1 K;have z:∀x,E.N n=some x->(⟨kH E ι,[]⟩:Env).N i=some x:=λx hx=>by simp_all[kH]
 cases t with
 |box N=>
  cases b with
  |box cs=>
   obtain⟨x,g,cur,e,k,A,l,s,B⟩:=y;refine⟨x,g,cur,e,z x k,A,l,by rw[s,d.1],λj O D=>?_⟩;obtain⟨c,k1,k2⟩:=d.2 j O D;obtain⟨u,P,Q,R⟩:=B j c k1;exact⟨u,P,IZ h m J k2 Q,R⟩
  |_=>exact d.elim
 |row e' F=>
  cases b with
  |row e rows=>
   obtain⟨rfl,rfl⟩:=d;obtain⟨x,cur,fz,k,G,l,s,B,S,T,H,U,V,I,W⟩:=y;exact⟨x,cur,fz,z x k,G,l,s,B,S,T,H,U,V,I,λi r j p v D=>let⟨u,k1,k2⟩:=W i r j p v D; ⟨u,k1,k2.trans q⟩⟩
  |_=>exact d.elim
 |map Y=>
  cases b with
  |map es=>
   cases d;obtain⟨x,g,Z,clock,k,A,l,s⟩:=y;exact⟨x,g,Z,clock,z x k,A,l,s.trans q⟩
  |_=>exact d.elim
end
def rY(X:Fx)(E:Env)(st:bx)(d:Nat):Prop:=∀n,d<=n->n<d+8->E.N n=none/\n∉st.bu/\n<st.next/\X.k0<=n
section
variable{X:Fx}{E:Env}{st:bx}{a:Act}{w:bX}
theorem aok(h:Rel X E st a w){d}(hF:rY X E st d){f vals xs}(aI:vals.size=xs.length)(aJ:∀(i:Nat)(x),xs[i]?=some x->∃u,vals[i]?=some u/\eB X.M E w x u){v K rd}(hc:zf X.P st d f xs v K rd):
 Own X.P f/\Calls X.P f vals w λe w'=>∃u E',e=.returned u/\(∀n,¬(d<=n/\n<d+8)->E.N n=none->E'.N n=none)/\Rel X E' (st.dS K) a w'/\RV X.M E' w' v u:=by
 obtain⟨aK,H,r,H',ι,L,hA,hlen,aL,aM,av,Y,aq,hL,aN,aO,aP,aQ,Z,aa,be,aw,rfl,ao,_⟩:=hc;refine⟨hA.own,?_⟩;have ag:∀i,i<ι.length->∃n x,ι[i]?=some n/\E.N n=some x:=by
  intro i J;have aR:i<H.length:=om;obtain⟨n,b,l,p,s⟩:=Y i _ (cY aR);have B:=h.row (aq n (eb l)).1 p
  cases b with
  |box cs=>obtain⟨x,_,_,_,q,_⟩:=B;exact⟨n,x,l,q⟩
  |row e rows=>obtain⟨x,_,_,q,_⟩:=B;exact⟨n,x,l,q⟩
  |map es=>obtain⟨x,_,_,_,q,_⟩:=B;exact⟨n,x,l,q⟩
 have ah:∀(i j n:Nat),ι[i]?=some n->ι[j]?=some n->i=j:=by
  intro i j n l p;have J:=(dO.1 l)
  have hj:=(dO.1 p)
  obtain⟨ax,ay⟩:=J;obtain⟨az,aA⟩:=hj;have hp:=kE.1 aL;rcases Bf i j with R|aS|R
  .exact absurd (ay.trans aA.symm) (hp i j ax az R)
  .exact aS
  .exact absurd (aA.trans ay.symm) (hp j i az ax R)
 have ar:=hA.call w (pI X.M E ι L) (kH E ι) vals ?_ ?_ ?_ ?_ ?_ ?_ ?_
 .refine ar.mono ?_;rintro e w' ⟨u,E',rfl,ai,N,aB,aC⟩
  let O:Env:=⟨λn=>if n∈K.bu then none else if d<=n/\n<d+8 then E'.N (ι.length+(n-d))else E.N n,K.bu++E.bu⟩
  have S:∀n y,O.N n=some y->n∉K.bu/\((d<=n/\n<d+8/\E'.N (ι.length+(n-d))=some y)\/(¬(d<=n/\n<d+8)/\E.N n=some y)):=by
   intro n y P;simp only[O]at P;split at P
   .cases P
   .rename_i D;split at P
    .rename_i hd;exact⟨D,.inl ⟨hd.1,hd.2,P⟩⟩
    .rename_i hd;exact⟨D,.inr ⟨hd,P⟩⟩
  have ab:∀n y,E.N n=some y->¬(d<=n/\n<d+8):=λn y P hd=>by rw[(hF n hd.1 hd.2).1]at P;cases P
  have ac:∀n,n∉K.bu->¬(d<=n/\n<d+8)->O.N n=E.N n:=λn l p=>by simp only[O,bH l,bH p]
  have R:∀n y g,E.N n=some y->y.g=some g->g<w.heap.size:=λn y g P D=>(h.names n y g P D).1
  have F:∀(i n:Nat)(x:Nm),ι[i]?=some n->n∉K.bu->E.N n=some x->E'.N i=some x:=by
   intro i n x J G A;have l:H'.lookup i≠none:=λl=>G ((aa i n J).2 l)
   obtain⟨b,B⟩:=ZK.1 l;have au:=aB i b B;have aT:E'.N i≠none:=by
    cases b with
    |box cs=>obtain⟨y,_,_,_,q,_⟩:=au;rw[q];simp
    |row e rows=>obtain⟨y,_,_,q,_⟩:=au;rw[q];simp
    |map es=>obtain⟨y,_,_,_,q,_⟩:=au;rw[q];simp
   have aU:i<H.length:=by rw[<-hlen];exact(dO.1 J).1
   rcases N.fM i aU with p|p
   .exact absurd p aT
   .rw[p];simp only[kH,J];exact A
  have ad:∀m x,m<ι.length+8->(m<ι.length->H'.lookup m≠none)->E'.N m=some x->O.N (km ι d m)=some x:=by
   intro m x hm hl A;unfold km;split
   .rename_i aj;obtain⟨n,y,l,p⟩:=ag m aj;have ak:n∉K.bu:=λD=>hl aj ((aa m n l).1 D)
    rw[l,gx,ac n ak (ab n y p)];have:=F m n y l ak p;rw[A]at this;rw[p,this]
   .have l:d<=d+(m-ι.length)/\d+(m-ι.length)<d+8:=om;simp only[O];rw[bH (λD=>by have:=aw _ D;omega),bA l,show ι.length+(d+(m-ι.length) -d)=m by omega];exact A
  have aD:(∀n∈L,n∈K.bu)->iK (bad (pI X.M E ι L) E') (bad X.M O) w' w':=by
   intro aV g o u l p;refine⟨l,λs=>p ?_⟩;rcases s with s| ⟨n,x,q,t⟩
   .exact .inl (.inl s)
   .obtain⟨Q,I⟩:=S n x q;rcases I with⟨_,_,I⟩| ⟨_,I⟩
    .exact .inr ⟨_,x,I,t⟩
    .by_cases G:n∈ι
     .obtain⟨i,J,aW⟩:=jG G;exact .inr ⟨i,x,F i n x (by rw[<-aW];exact cY J) Q I,t⟩
     .exact .inl (.inr ⟨n,x,I,t,G,λhl=>Q (aV n hl)⟩)
  have hG : h_ X.M E O w w':={
   cell :=λg o u l p=>by
    have D:=World.block_lt_of_cell? w ⟨g,o,none⟩ l;have B:=ai.block g D (λ⟨m,x,s,q⟩=>by
     obtain⟨n,t,Q⟩:=ny s;exact p (.inr ⟨n,x,Q,q⟩))
    refine⟨(World.cell?_of_block (w:=w) (a:=⟨g,o,none⟩) B).trans l,λs=>p ?_⟩;rcases s with s| ⟨n,x,q,t⟩
    .exact .inl s
    .obtain⟨_,I⟩:=S n x q;rcases I with⟨_,_,I⟩| ⟨_,I⟩
     .rcases(N.names _ x g I t).2 with⟨m,y,h8,h9⟩|h8
      .obtain⟨k,al,aX⟩:=ny h8;exact .inr ⟨k,y,aX,h9⟩
      .have bf:g<w.heap.size:=D;omega
     .exact .inr ⟨n,x,I,t⟩
   name:=λn x A=>by
    by_cases D:n∈K.bu
    .exact .inl (xZ _ D)
    .exact .inr (by rw[ac n D (ab n x A)];exact A)
   bu:=λn G=>x5 _ G}
  have am:∀n∈K.bu,n<st.next:=λn G=>by have:=aw n G;have:=(hF d (de _) om).2.2.1;omega
  refine⟨u,O,rfl,λn G aY=>?_,?_,?_⟩
  .simp only[O,bH G];split
   .rfl
   .exact aY
  .have hall:∀n b,(Hp.dJ (km ι d) H').lookup n=some b->RB X.P X.M O w' n b:=by
    intro n b hl;obtain⟨m,b',l,rfl,rfl⟩:=PC hl;obtain⟨p,s⟩:=aO m b' l;exact RB.dJ (Z.imp aD λB=>B.2 m b' l) (λx A=>ad m x p (λ_=>by rw[l];simp) A) (λk hk=>⟨by rw[N.bu];simp,λx A=>ad k x (s k hk) (aQ m b' l k hk) A⟩) (aB m b' l)
   refine h.V3 K (nx:=st.next) (de _) hG (by simp[O,h.bu]) ?_ ?_ ?_ ?_ ?_ am ?_ λn b hl=>.inr (hall n b (ao.1 n b hl))
   .refine h.frame.trans ai ?_;rintro g D ⟨m,x,l,p⟩;obtain⟨n,s,q⟩:=ny l;rcases(h.names n x g q p).2.1 with t|t
    .exact t
    .omega
   .intro n x A;rcases(S n x A).2 with⟨l,p,_⟩| ⟨_,l⟩
    .exact(hF n l p).2.2.1
    .exact h.eJ n x l
   .intro n x g A D;rcases(S n x A).2 with⟨_,_,l⟩| ⟨_,l⟩
    .obtain⟨p,s⟩:=N.names _ x g l D;refine⟨p,?_⟩;rcases s with⟨m,y,q,t⟩|s
     .obtain⟨k,Q,I⟩:=ny q;exact(h.names k y g I t).2
     .have:=h.frame.size;exact⟨.inr om,λhM=>by have:=h.iS g hM;omega⟩
    .obtain⟨p,s⟩:=h.names n x g l D;exact⟨mM p ai.size,s⟩
   .intro n m x y g A P T U;have ae:∀n m x y,d<=n->n<d+8->E'.N (ι.length+(n-d))=some x->m∉K.bu->E.N m=some y->x.g=some g->y.g=some g->n=m:=by
     intro n m x y l p s aZ q t Q;rcases(N.names _ x g s t).2 with⟨k,z,I,h8⟩|I
     .obtain⟨j,h9,al⟩:=ny I;have:=h.inj j m z y g al q h8 Q;subst this;rw[al]at q;cases q;have:=N.inj _ k x y g s (F k j y h9 aZ al) t h8;have:=(dO.1 h9).1;omega
     .have:=R m y g q Q;omega
    obtain⟨ha,l⟩:=S n x A;obtain⟨B,p⟩:=S m y P;rcases l with⟨s,q,t⟩| ⟨_,t⟩<;>rcases p with⟨k3,k4,k5⟩| ⟨_,k5⟩
    .have:=N.inj _ _ x y g t k5 T U;omega
    .exact ae n m x y s q t B k5 T U
    .exact(ae m n y x k3 k4 k5 ha t U T).symm
    .exact h.inj n m x y g t k5 T U
   .intro m hm;simp only[O];split
    .exact .inl rfl
    .rw[bH (λhd=>by have:=(hF m hd.1 hd.2).2.2.2;omega)];exact .inr rfl
   .intro n ak ba;by_cases hc:∃b,(Hp.dJ (km ι d) H').lookup n=some b
    .obtain⟨b,B⟩:=hc;rcases ao.2 n b B with l| ⟨_,_,l⟩
     .rw[ba]at l;cases l
     .exact .inr λb' aE=>by rw[l]at aE;cases aE;exact hall n b B
    .refine .inl λx g A D=>ai.block g (R n x g A D) ?_
     rintro⟨m,y,l,p⟩;obtain⟨k,s,q⟩:=ny l;have:=h.inj k n y x g q A p D;subst this;have aF:k∉K.bu:=λhk=>ak (xZ _ hk)
     have t:H'.lookup m≠none:=λt=>aF ((aa m k s).2 t)
     obtain⟨b,B⟩:=ZK.1 t;have Q:=UC (ρ:=km ι d) B;have aj:=(dO.1 s).1;rw[show km ι d m=k by unfold km;rw[bA aj,s];rfl]at Q;obtain⟨b2,bc⟩:=ZK.1 Q;exact hc ⟨b2,bc⟩
  ·
   have key:∀c v,c.bare=true\/(∀n∈L,n∈K.bu)->(∀n∈c.names,n<ι.length+8/\(n<ι.length->H'.lookup n≠none))->RC (pI X.M E ι L) E' w' c v->RC X.M O w' (c.dJ (km ι d)) v:=by
    intro c v B G an;exact RC.dJ (B.symm.imp aD id) (λn W=>⟨by rw[N.bu];simp,λx A=>ad n x (G n W).1 (G n W).2 A⟩) an
   have ap:∀(x:V1)v,x.bare=true\/(∀n∈L,n∈K.bu)->(∀n∈x.names,n<ι.length+8/\(n<ι.length->H'.lookup n≠none))->eB (pI X.M E ι L) E' w' x v->eB X.M O w' (x.on (C.dJ (km ι d))) v:=by
    intro x v B G an
    cases x with
    |c c=>exact key c v B G an
    |agg cs=>
     obtain⟨us,l,p,s⟩:=an;refine⟨us,l,by simp[p],λi c J=>?_⟩;simp only[cX,bY]at J;obtain⟨c',af,rfl⟩:=J;obtain⟨u,q,t,Q⟩:=s i c' af;have hm:=eb af;refine⟨u,q,key c' u (B.imp (λB=>?_) id) (λn W=>G n (sM.2 ⟨c',hm,W⟩)) t,Q⟩;simp only[V1.bare,cz]at B;exact B c' hm
   have aG:r.bare=true\/(∀n∈L,n∈K.bu):=Z.symm.imp (·.1) id;have aH:∀n∈r.names,n<ι.length+8/\(n<ι.length->H'.lookup n≠none):=λn G=>⟨aN n G,aP n G⟩
   cases r with
   |v x=>exact ap x u aG aH aC
   |bL xs=>
    obtain⟨us,l,p,s⟩:=aC;refine⟨us,l,by simp[p],λi c J=>?_⟩;simp only[cX,bY]at J;obtain⟨c',af,rfl⟩:=J;obtain⟨u',q,t⟩:=s i c' af;have hm:=eb af;refine⟨u',q,ap c' u' (aG.imp (λB=>?_) id) (λn W=>aH n (sM.2 ⟨c',hm,W⟩)) t⟩;simp only[V.bare,cz]at B;exact B c' hm
 .rintro g (D| ⟨n,x,l,p,_⟩)
  .have:=h.iS g D;have:=h.frame.size;omega
  .exact(h.names n x g l p).1
 .intro n x A;obtain⟨k,l,_⟩:=ny A;have:=(dO.1 l).1;omega
 .intro n x g A D;obtain⟨k,l,p⟩:=ny A;obtain⟨s,_,q⟩:=h.names k x g p D;refine⟨s,?_⟩;rintro(t| ⟨m,y,t,Q,I,_⟩)
  .exact q t
  .have:=h.inj k m x y g p t D Q;subst this;exact I (eb l)
 .intro n m x y g A P T U;obtain⟨k,l,p⟩:=ny A;obtain⟨j,s,q⟩:=ny P;have:=h.inj k j x y g p q T U;subst this;exact ah n m k l s
 .intro i b' J;obtain⟨n,b,l,p,s⟩:=Y i b' J;exact aas h aq hL l p s
 .rw[aI,aM]
 .intro i x' J;obtain⟨x,l,p⟩:=av i x' J;obtain⟨u,s,q⟩:=aJ i x l;exact⟨u,s,aiG h aq hL p q⟩
end
end
end
end Go.Proofs.YtiikkkhcolcebaaGreatDoor
