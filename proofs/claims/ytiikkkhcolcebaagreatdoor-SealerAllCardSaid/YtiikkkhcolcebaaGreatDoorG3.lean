/- A part. -/
import Derived.Test.YtiikkkhcolcebaaGreatDoorG2
import Derived.Laws.Tables
import Derived.Laws.BytesArg
import Derived.Laws.IdiomStrings
set_option linter.all false
set_option maxHeartbeats 4000000
set_option maxRecDepth 100000
namespace Go.Proofs.YtiikkkhcolcebaaGreatDoor
noncomputable section
section
open Go.RowKit
open Classical
theorem dy.flat{n rows}(h:dy n rows):rows.flatten.length=rows.length*n:=by
 induction rows with
 |nil=>simp
 |cons r l ih=>
  have k:=h r (by simp);have m:=ih (λr d=>h r (by simp[d]));grind
theorem dy.app{n a b}(d:dy n a)(k:dy n b):dy n (a++b):=λr m=>by
 rcases gI.1 m with h|h
 .exact d r h
 .exact k r h
theorem dy.take{n a}(d:dy n a)(k):dy n (a.take k):=λr h=>d r (mO h)
theorem Rows.src{M w rows v n}(h:Rows M w rows v)(hR:dy n rows):
 (rows=[]/\∃A cap,v=.slice A 0 cap)\/∃(g o cap:Nat)(news:List b9),v=.slice (some ⟨g,o,none⟩) rows.length cap/\0<rows.length/\news.length=rows.length*n/\
  (∀(k)(u),news[k]?=some u->w.cell? ((⟨g,o,none⟩:Addr).add k)=some u)/\(∀u∈news,u.oneCell'=true)/\
  ∀(i)(r)(j)(p),rows[i]?=some r->r[j]?=some p->∃u,news[i*n+j]?=some u/\RP M w p u:=by
 rcases h with h| ⟨g,o,cap,sz,f,rfl,J,Q,R,z,G⟩
 .exact .inl h
 .right;have B:sz=n:=by
   cases rows with
   |nil=>simp_all
   |cons r l=>rw[<-z r (by simp)];exact hR r (by simp)
  subst B;have D:∀k,k<rows.length*sz->∃u,w.cell? ⟨g,o+k,none⟩=some u/\u.oneCell'=true:=by
   intro k K;have d:0<sz:=by grind
   have m:k/sz<rows.length:=by rw[Nat.div_lt_iff_lt_mul d];exact K
   have x:k%sz< (rows[k/sz]).length:=by rw[z _ (cQ m)];exact Nat.mod_lt _ d
   obtain⟨y,H⟩:=G (k/sz) _ (k%sz) _ (cY m) (cY x);refine⟨_,?_,H.rZ⟩;rw[<-y,Bb,Oe,Nat.div_add_mod]
  refine⟨g,o,cap,(List.range (rows.length*sz)).map λk=>(w.cell? ⟨g,o+k,none⟩).getD undef,rfl,List.length_pos_iff.2 J,by simp,?_,?_,?_⟩
  .intro k u I;simp only[cX,bY]at I;obtain⟨S,F,rfl⟩:=I;obtain⟨q,t⟩:=dO.1 F;simp at q t;subst t;obtain⟨u,y,_⟩:=D _ q;rw[oJ,y];rfl
  .grind
  .intro i r j p m x;obtain⟨y,H⟩:=G i r j p m x;have N:i*sz+j<rows.length*sz:=by
    have O:=(dO.1 m).1;have P:=(dO.1 x).1;rw[z r (eb m)]at P;have:(i+1)*sz<=rows.length*sz:=gi _ O;grind
   grind
section
variable{X:Fx}{E:Env}{st:bx}{a:Act}{w:bX}
theorem BN{P}(w)(t ty e)(i)(k:P.underlying t=some (.slice e))(l:P.info? e=some i)
 (g ff b) (cur) {fz} (f:nc cur.size fz) (n:w.heap[g]?=some (.cells cur e fz))
 (a) (m c) (news) (o:news.length=m*i.size) (hnews:∀j u,news[j]?=some u->w.cell? (a.add j)=some u) (p:∀u∈news,u.oneCell'=true)
 (hroom:ff+m<=b) (d:ff*i.size+news.length<=cur.size):
 (Builtin.append_ #[t,t] ty #[.slice (some ⟨g,0,none⟩) ff b,.slice (some a) m c]).run P w=
  .ok (.slice (some ⟨g,0,none⟩) (ff+m) b) (w.setRow g (cur.toList.take (ff*i.size)++news++cur.toList.drop (ff*i.size+news.length)).toArray):=by
 have q:=run_firstCells_some (P:=P) w i.size m a m c news o hnews;have h:=uK P g (ff*i.size) e fz news 0 cur w f n (by simpa using d) p;simp[Builtin.append_,run_underlying k,sizeOf,typeInfo,l,Builtin.lenOf,hroom,q,Addr.add_lit,h]
theorem Rel.pK(h:Rel X E st a w){d}(F:E.N d=none)(y:X.k0<=d)(z:d<st.next){e n}(k:0<n)(B:n=X.P.cellsOf e)
 {rows} (hR:dy n rows) {cap} (m:rows.length<=cap) (G:cap<=maxLen) {us} (D:us.size=cap*n)
 (H:∀(i)(r)(j)(p),rows[i]?=some r->r[j]?=some p->∃u,us[i*n+j]?=some u/\RP (bad X.M E) w p u) {wd} (q:wd=w\/wd=w.drew):
 let E':=E.add d ⟨some w.heap.size,rows.length,cap,n⟩
 Rel X E' (st.dS ⟨[(d,.row e rows)],[]⟩) a (wd.alloc (.cells us e))/\RV X.M E' (wd.alloc (.cells us e)) (.c (.own d)) (.slice (some ⟨w.heap.size,0,none⟩) rows.length cap):=by
 intro E';have I:Below w.heap.size w (wd.alloc (.cells us e)):=by
  rcases q with rfl|rfl
  .exact(Below.refl _ _).alloc (de _) _
  .exact((Below.refl _ w).drew).alloc (de _) _
 have t:wd.heap.size=w.heap.size:=by rcases q with rfl|rfl<;>rfl
 have Q:(wd.alloc (.cells us e)).heap[w.heap.size]?=some (.cells us e (0,0)):=by rw[<-t];exact heap_alloc_new wd _
 have:=h.fresh (w':=wd.alloc (.cells us e)) d F y z I (x:=⟨some w.heap.size,rows.length,cap,n⟩) (.inr ⟨rfl,by simp[t]⟩) (.row e rows) (λJ=>
  ⟨⟨some w.heap.size,rows.length,cap,n⟩,us,(0,0),by simp[Env.add],.inl rfl,λg K=>by simp_all,rfl,m,G,k,B,D,hR,λh=>(by cases h),λi r j p M N=>let⟨u,O,P⟩:=H i r j p M N; ⟨u,O,P.goes J⟩⟩)
 exact⟨this.2,.inr ⟨⟨some w.heap.size,rows.length,cap,n⟩,by simp[E',Env.add],rfl⟩⟩
theorem Rel.axl(h:Rel X E st a w){d}(y:E.N d=none)(m:X.k0<=d)(q:d<st.next)(e){n}(k:0<n)(t:n=X.P.cellsOf e):
 let E':=E.add d ⟨none,0,0,n⟩
 Rel X E' (st.dS ⟨[(d,.row e [])],[]⟩) a w/\RV X.M E' w (.c (.own d)) (.slice none 0 0):=by
 intro E';have:=h.fresh (w':=w) d y m q (Below.refl _ _) (x:=⟨none,0,0,n⟩) (.inl rfl) (.row e []) (λ_=>
  ⟨⟨none,0,0,n⟩,#[],(0,0),by simp[Env.add],.inl rfl,λg u=>(by cases u),rfl,de _,by simp[maxLen],k,t,by simp,λr z=>by simp at z,λ_=>rfl,λi r j p B=>by simp at B⟩)
 exact⟨this.2,.inr ⟨⟨none,0,0,n⟩,by simp[E',Env.add],rfl⟩⟩
theorem Rel.take(h:Rel X E st a w){m d}(hm:m<st.next){x}(M:E.N m=some x){g}(q:x.g=some g){cur us e fz}(hg:w.heap[g]?=some (.cells cur e fz))(T:sa x.sz us.size fz)
 (hd:E.N d=none) (ac:X.k0<=d) (U:d<st.next) (ad:d∉st.bu) {rows} (hR:dy x.sz rows) (N:0<x.sz) (W:x.sz=X.P.cellsOf e) (O:rows.length<=x.cap) (Y:x.cap<=maxLen) (Z:us.size=x.cap*x.sz)
 (hc:∀(i)(r)(j)(p),rows[i]?=some r->r[j]?=some p->∃u,us[i*x.sz+j]?=some u/\RP (bad X.M E) w p u):
 let E':=(E.drop [m]).add d ⟨some g,rows.length,x.cap,x.sz⟩
 Rel X E' (st.dS ⟨[(d,.row e rows)],[m]⟩) a (w.setRow g us)/\RV X.M E' (w.setRow g us) (.c (.own d)) (.slice (some ⟨g,0,none⟩) rows.length x.cap):=by
 intro E';have G:∀k,k≠g->(w.setRow g us).heap[k]?=w.heap[k]?:=λk D=>setRow_other w g k _ D
 have aa:(w.setRow g us).heap.size=w.heap.size:=by simp_all
 obtain⟨ae,af,ag⟩:=h.names m x g M q;have B:∀n y,E'.N n=some y->(n=d/\y=⟨some g,rows.length,x.cap,x.sz⟩)\/(n≠d/\n≠m/\E.N n=some y):=by
  intro n y t;simp only[E',Env.add]at t;split at t
  .simp_all
  .obtain⟨H,I⟩:=nA t;simp_all
 have P:∀k,bad X.M E' k->bad X.M E k:=by
  rintro k (H| ⟨n,y,H,I⟩)
  .exact .inl H
  .rcases B n y H with⟨_,rfl⟩| ⟨_,_,F⟩
   .exact .inr ⟨m,x,M,q.trans I⟩
   .exact .inr ⟨n,y,F,I⟩
 have hG:h_ X.M E E' w (w.setRow g us):={
  cell:=λk o u k1 k2=>by
   have:k≠g:=by rintro rfl;exact k2 (.inr ⟨m,x,M,q⟩)
   exact⟨(World.cell?_of_block (w:=w) (a:=⟨k,o,none⟩) (G k this)).trans k1,λh=>k2 (P k h)⟩
  name:=λn y t=>by
   by_cases Q:n=m
   .subst Q;exact .inl (by simp[E',Env.add,Env.drop])
   .have:n≠d:=by grind
    simp[E',Env.add,Env.drop,this,Q,t]
  bu:=λn Q=>by simp[E',Env.add,Env.drop,Q]}
 refine⟨h.step ⟨[(d,.row e rows)],[m]⟩ (nx:=st.next) (de _) hG (by simp[E',Env.add,Env.drop,h.bu]) ?_ ?_ ?_ ?_ ?_ (by simpa using hm) ?_ ?_,.inr ⟨⟨some g,rows.length,x.cap,x.sz⟩,by simp[E',Env.add],rfl⟩⟩
 .refine h.frame.trans (K':=λk=>k=g) ⟨rfl,rfl,rfl,om,λk _ D=>G k D⟩ ?_;grind
 .intro n y t;rcases B n y t with⟨rfl,_⟩| ⟨_,_,F⟩
  .exact U
  .exact h.eJ n y F
 .intro n y k t D;rw[aa];rcases B n y t with⟨rfl,rfl⟩| ⟨_,_,F⟩
  .simp_all
  .exact h.names n y k F D
 .intro n k y z b t hz J K;rcases B n y t with⟨rfl,rfl⟩| ⟨H,I,F⟩<;>rcases B k z hz with⟨rfl,rfl⟩| ⟨k1,k2,k3⟩
  .rfl
  .cases J;exact absurd (h.inj k m z x g k3 M K q) k2
  .cases K;exact absurd (h.inj n m y x g F M J q) I
  .exact h.inj n k y z b F k3 J K
 .intro n Q;simp only[E',Env.add,Env.drop];grind
 .intro n y k t D ab _;refine G k λhe=>?_
  subst he;have:=h.inj n m y x k t M D q;subst this;exact ab (by simp[E',Env.add,Env.drop])
 .intro n b S;simp only[fD,jS]at S;split at S
  .rename_i R;simp at R;subst R;cases S;refine .inr ⟨⟨some g,rows.length,x.cap,x.sz⟩,us,fz,by simp[E',Env.add],T,λk D=>by cases D;exact setRow_heap w g cur us e _ hg,rfl,O,Y,N,W,Z,hR,λh=>(by cases h),λi r j p hi hj=>?_⟩;obtain⟨u,H,I⟩:=hc i r j p hi hj;exact⟨u,H,I.goes hG⟩
  .cases S
def iR(P:cC)(e:cd):Option (Nat×Nat):=match P.info? e with
 |some i=>match i.zero with
  |some z=>if z.cells.size=i.size/\0<i.size then some (i.size,i.bytes)else none
  |none=>none
 |none=>none
theorem rD{P e n b}(h:iR P e=some (n,b)):∃i z,P.info? e=some i/\i.zero=some z/\z.cells.size=n/\0<n/\i.size=n/\i.bytes=b/\P.cellsOf e=n:=by
 unfold iR at h;split at h
 .rename_i i c;split at h
  .rename_i z f;split at h
   .rename_i d;obtain⟨rfl,rfl⟩:=h;exact⟨i,z,c,f,d.1,d.2,rfl,rfl,by simp[Program.cellsOf,c]⟩
   .cases h
  .cases h
 .cases h
def bx.hX(st:bx)(e:cd):C->Option (List (List PV)×List Nat)
 |.nil=>some ([],[])
 |.own m=>match st.heap.lookup m with
  |some (.row d rows)=>if d=e then some (rows,[m])else none
  |_=>none
 |.sub m 0 len=>match st.heap.lookup m with
  |some (.row d rows)=>if d=e then some (rows.take len,[m])else none
  |_=>none
 |_=>none
def ct(n:Nat)(rows:List (List PV)):Bool:=rows.all (·.length==n)
theorem jk{n rows}:ct n rows=true↔dy n rows:=by simp[ct,dy]
def na(P:cC)(st:bx)(d:Nat)(t:cd)(s x:cF):Option (V×gO):=
 match fr P t with
 |some e=>match iR P e,st.arg s,st.arg x with
  |some (n,b),some (.v (.c s)),some (.v (.c x))=>match st.hX e s,st.view x with
   |some (rows,f),some c=>if rows.length+c.length<=9223372036854775807/\(rows.length+c.length)*b<=140737488355328/\ct n rows=true/\ct n c=true then some (.c (.own d),⟨[(d,.row e (rows++c))],f⟩)else none
   |_,_=>none
  |_,_,_=>none
 |none=>none
theorem B'{α:Type}{l:List α}{n k u}(h:(l.take n)[k]?=some u):l[k]?=some u/\k<n:=by
 grind
theorem Env.kJ{E:Env}{d n x}(h:n≠d):(E.add d x).N n=E.N n:=by simp[Env.add,h]
theorem Env.kL{E:Env}{d n}(h:E.N n=none):(E.drop d).N n=none:=by simp[Env.drop,h]
theorem aih(h:Rel X E st a w){d}(hd:E.N d=none)(H:X.k0<=d)(I:d<st.next)(am:d∉st.bu){t ty s x v ef}
 (N:na X.P st d t s x=some (v,ef)):
 ∃u w' E',(Builtin.append_ #[t,t] ty #[a.eval s,a.eval x]).run X.P w=.ok u w'/\(∀n,n≠d->E.N n=none->E'.N n=none)/\Rel X E' (st.dS ef) a w'/\RV X.M E' w' v u:=by
 unfold na at N;split at N
 .rename_i e ht;obtain⟨hu,aO⟩:=nB ht;split at N
  .rename_i n b cs cx an hs hx;obtain⟨i,z,hi,hz,ao,J,aB,aC,l⟩:=rD an;split at N
   .rename_i rows Q c f aD;split at N
    .rename_i hb;obtain⟨ab,aE,R,q⟩:=hb;rw[jk]at R q;have hlen:rows.length+c.length<=maxLen:=by simp only[maxLen];omega
     cases N;obtain⟨aF,_,aG⟩:=h.cN hx;have ap:=h.view aF aG aD;obtain⟨ac,_,aq⟩:=h.cN hs;have aP:(rows.length+c.length:Nat)<=9223372036854775807:=ab;have ar:∀ns,iK (bad X.M E) (bad X.M (E.drop ns)) w w:=λns k o u h1 h2=>⟨h1,λh=>h2 (ss h)⟩
     have hnil:a.eval s=.slice none 0 0->rows=[]->(∀m∈Q,m<st.next)->
      ∃u w' E',(Builtin.append_ #[t,t] ty #[a.eval s,a.eval x]).run X.P w=.ok u w'/\(∀n,n≠d->E.N n=none->E'.N n=none)/\Rel X E' (st.dS ⟨[(d,.row e (rows++c))],Q⟩) a w'/\RV X.M E' w' (.c (.own d)) u:=by
      intro hA h0 ad;subst h0;rw[hA];have hD:=h.drop Q ad;have S:(E.drop Q).N d=none:=Env.kL hd;have aL:∀b,(st.dS ⟨[],Q⟩).dS ⟨[(d,b)],[]⟩=st.dS ⟨[(d,b)],Q⟩:=λb=>by simp[bx.dS]
      rcases ap.src q with⟨rfl,B,cap,D⟩| ⟨g,o,cap,news,D,au,T,hcell,Z,hval⟩
      .have hf:=hD.axl S H I e J l.symm;refine⟨_,w,_,?_,λk U av=>by grind[Env.kJ,Env.kL],hf.1,hf.2⟩;rw[D];cases B<;>simp[Builtin.append_,run_underlying hu,sizeOf,typeInfo,hi,Builtin.lenOf,Builtin.firstCells,loadCells,loadCellsFrom]
      .rw [D];have ae:=grownCap_ge w c.length 0 e;have af:=grownCap_le_maxLen w c.length 0 e (by simpa using hlen);have hrun:=run_append_nil (P:=X.P) w t ty e i z hu hi hz ⟨g,o,none⟩ c.length cap news (by simp_all) hcell au om (by grind);have hf:=hD.pK S H I (e:=e) J l.symm q ae af (us:=news.toArray++Builtin.zeroCells z.cells (grownCap w c.length 0 e-c.length))
        (by simp only[vf,kD,size_zeroCells,ao,T,<-jU];congr 1;omega)
        (λi r j p k1 k2=>by
         obtain⟨u,O,k4⟩:=hval i r j p k1 k2;have U:=(dO.1 O).1;exact⟨u,by grind,k4.trans (ar Q)⟩) (wd:=w.drew) (.inr rfl)
       grind[Env.kJ,Env.kL]
     have hrow:∀(m:Nat)(y:Nm)(g:Nat)(cur:Array b9)(fz:Nat×Nat),sa y.sz cur.size fz->m∉st.bu->E.N m=some y->y.g=some g->w.heap[g]?=some (.cells cur e fz)->y.sz=n->y.cap<=maxLen->cur.size=y.cap*n->rows.length<=y.cap->
      (∀(i:Nat)(r:List PV)(j:Nat)(p:PV),rows[i]?=some r->r[j]?=some p->∃u,cur[i*n+j]?=some u/\RP (bad X.M E) w p u)->a.eval s=.slice (some ⟨g,0,none⟩) rows.length y.cap->Q=[m]->
      ∃u w' E',(Builtin.append_ #[t,t] ty #[a.eval s,a.eval x]).run X.P w=.ok u w'/\(∀n,n≠d->E.N n=none->E'.N n=none)/\Rel X E' (st.dS ⟨[(d,.row e (rows++c))],Q⟩) a w'/\RV X.M E' w' (.c (.own d)) u:=by
      intro m y g0 cur fz V G hN aw K F ax aa W ay aH ad;subst ad;have ag:=h.eJ m y hN;rw[aH];have aM:rows.length*n<=cur.size:=by rw[aa];exact gi _ W
      have az:(cur.toList.take (rows.length*n)).length=rows.length*n:=by simp;omega
      rcases ap.src q with⟨rfl,B,cap,D⟩| ⟨g,o,cap,news,D,au,T,hcell,Z,hval⟩
      .have ah:w.setRow g0 cur=w:=setRow_self w g0 cur e fz K;have U:=h.take (d:=d) ag hN aw K (us:=cur) V hd H I am (rows:=rows) (by simp_all) om (by rw[F,l]) W ax (by simp_all) (by simp_all);simp only[ah]at U;refine⟨.slice (some ⟨g0,0,none⟩) rows.length y.cap,w,_,?_,λk U av=>by grind[Env.kJ,Env.kL],by simp_all,U.2⟩;rw[D]
       cases B with
       |none=>simp[Builtin.append_,run_underlying hu,sizeOf,typeInfo,hi,Builtin.lenOf,Builtin.firstCells,W,storeCells]
       |some B=>simp[Builtin.append_,run_underlying hu,sizeOf,typeInfo,hi,Builtin.lenOf,Builtin.firstCells,loadCells,loadCellsFrom,W,storeCells]
      .rw [D];have L:∀(us:Array b9),(∀k,k<rows.length*n+news.length->us[k]?=(cur.toList.take (rows.length*n)++news)[k]?)->∀(i:Nat)(r:List PV)(j:Nat)(p:PV),(rows++c)[i]?=some r->r[j]?=some p->∃u,us[i*n+j]?=some u/\RP (bad X.M E) w p u:=by
        intro us aI i r j p k1 k2;have aQ:r.length=n:=(R.app q) r (eb k1);have hj:=(dO.1 k2).1;rw[lg]at k1;split at k1
        .rename_i aJ;obtain⟨u,O,k4⟩:=ay i r j p k1 k2;have:(i+1)*n<=rows.length*n:=gi _ aJ;grind
        .obtain⟨u,O,k4⟩:=hval _ r j p k1 k2;have U:=(dO.1 O).1;have e1:i*n=rows.length*n+(i-rows.length)*n:=by rw[<-jU];congr 1;omega
         refine⟨u,?_,k4⟩;rw[aI _ om,lg,bH om,az,<-O];congr 1;omega
       by_cases hroom:rows.length+c.length<=y.cap
       .have aN:rows.length*n+news.length<=cur.size:=by rw[T,aa,<-jU];exact gi _ hroom
        have hr:=BN (P:=X.P) w t ty e i hu hi g0 rows.length y.cap cur V K ⟨g,o,none⟩ c.length cap news (by simp_all) hcell Z hroom (by simp_all);rw[aB]at hr;have U:=h.take (d:=d) ag hN aw K (us:=(cur.toList.take (rows.length*n)++news++cur.toList.drop (rows.length*n+news.length)).toArray) (by grind) hd H I am (rows:=rows++c) (by rw[F];exact R.app q) om (by rw[F,l]) (by simpa using hroom) ax
         (by grind) (by
          rw[F];refine L _ λk U=>?_
          grind)
        grind[Env.kJ,Env.kL]
       .have holds:∀j v,(cur.toList.take (rows.length*n))[j]?=some v->w.cell? ((⟨g0,0,none⟩:Addr).add j)=some v:=λj u hj=>by
         rw[oJ,cell_of_row w g0 _ cur e fz K];grind
        have hr:=run_append_grow (P:=X.P) w t ty e i z hu hi hz ⟨g0,0,none⟩ rows.length y.cap (cur.toList.take (rows.length*n)) (by simp_all) holds ⟨g,o,none⟩ c.length cap news (by simp_all) hcell om om
         (by rw[aC];exact growslice_fits om aE)
        have ae:=grownCap_ge w (rows.length+c.length) y.cap e;have af:=grownCap_le_maxLen w (rows.length+c.length) y.cap e hlen;have aA:∀k,k<rows.length*n+news.length->((cur.toList.take (rows.length*n)).toArray++news.toArray++Builtin.zeroCells z.cells (grownCap w (rows.length+c.length) y.cap e- (rows.length+c.length)))[k]?=(cur.toList.take (rows.length*n)++news)[k]?:=by
         grind
        have hD:=h.drop [m] (by simpa using ag);have S:(E.drop [m]).N d=none:=Env.kL hd;have hf:=hD.pK S H I (e:=e) J l.symm (rows:=rows++c) (R.app q) (cap:=grownCap w (rows.length+c.length) y.cap e) (by simpa using ae) af
         (us:=(cur.toList.take (rows.length*n)).toArray++news.toArray++Builtin.zeroCells z.cells (grownCap w (rows.length+c.length) y.cap e- (rows.length+c.length)))
         (by simp only[vf,kD,size_zeroCells,ao,T,az,<-jU];congr 1;omega)
         (λi r j p k1 k2=>by
          obtain⟨u,O,k4⟩:=L _ aA i r j p k1 k2;exact⟨u,O,k4.trans (ar [m])⟩) (wd:=w.drew) (.inr rfl)
        simp only[cD]at hf;exact⟨_,_,_,hr,λk U av=>by grind[Env.kJ,Env.kL],hf.1,hf.2⟩
     cases cs with
     |nil=>
      obtain⟨rfl,rfl⟩:=f;exact hnil ac rfl (by simp)
     |own m=>
      simp only[bx.hX]at f;have G:=aq m (by simp[C.names]);split at f
      .rename_i e' M hl;split at f
       .rename_i ai;subst ai;cases f;obtain⟨y,cur,fz,h1,V,h2,h3,h4,h5,h6,aj,h7,h8,ak,h9⟩:=h.row G hl;obtain⟨y',k1,k2⟩:=cW.get ac (by rw[h.bu];exact G);rw[h1]at k1;cases k1;have aK:y.sz=n:=by rw[aj,l]
        cases hg:y.g with
        |none=>
         have al:=ak hg;have Y:y.len=0:=om;rw[hg,Y,al]at k2;exact hnil (by simpa using k2) (mN om) (by simpa using h.eJ m y h1)
        |some g=>
         grind
       .cases f
      .cases f
     |sub m lo len=>
      cases lo with
      |succ lo=>simp[bx.hX]at f
      |zero=>
      simp only[bx.hX]at f;have G:=aq m (by simp[C.names]);split at f
      .rename_i e' M hl;split at f
       .rename_i ai;subst ai;cases f;obtain⟨y,cur,fz,h1,V,h2,h3,h4,h5,h6,aj,h7,h8,ak,h9⟩:=h.row G hl;obtain⟨y',k1,k2,A,O,k4⟩:=cW.get ac (by rw[h.bu];exact G);rw[h1]at k1;cases k1;have aK:y.sz=n:=by rw[aj,l]
        have hA:=k4 (.inr rfl);have aR:(M.take len).length=len:=by simp;omega
        cases hg:y.g with
        |none=>
         have al:=ak hg;have Y:len=0:=om;rw[hA,hg,Y,al]at O;exact hnil (by simpa using O) (by rw[Y];simp) (by simpa using h.eJ m y h1)
        |some g=>
         grind
       .cases f
      .cases f
     |_=>simp[bx.hX]at f
    .cases N
   .cases N
  .cases N
 .cases N
end
def setAt(off:Nat)(l:List b9)(s:Nat)(cs:Array b9):Array b9:=(l.zipIdx s).foldl (λcs x=>cs.setIfInBounds (off+x.2) x.1) cs
theorem HI(off)(l)(s)(cs):(setAt off l s cs).size=cs.size:=by
 induction l generalizing s cs with
 |nil=>rfl
 |cons v l ih=>simp_all[setAt]
theorem Ke(off)(l)(s)(cs)(k):(setAt off l s cs)[k]?=if off+s<=k/\k<off+s+l.length/\k<cs.size then l[k- (off+s)]? else cs[k]?:=by
 induction l generalizing s cs with
 |nil=>simp[setAt];intro b c;omega
 |cons v l ih=>
  have:=ih (s+1) (cs.setIfInBounds (off+s) v);simp only[setAt,ZF,Bc]at this⊢;rw[this];simp only[Array.size_setIfInBounds,gy];by_cases b:off+s=k
  .subst b;by_cases c:off+s<cs.size
   .rw[bH om,bA om];simp[c]
   .simp[c]
  .rw[ZD,bH b];by_cases d:off+s<=k/\k<off+s+(l.length+1)/\k<cs.size
   .rw[bA om,bA d,show k- (off+s)=(k- (off+(s+1)))+1 by omega];simp
   .rw[bH om,bH d]
theorem Vd(place)(cells)(i)(v)(rest){off size}(hp:place i=some (off,size))(b:v.cells.size=size)(d:off+size<=cells.size):
 Instr.fill place cells ((i,v)::rest)=Instr.fill place (setAt off v.cells.toList 0 cells) rest:=by
 have c:(v.cells.zipIdx.foldl (λcs x=>cs.setIfInBounds (off+x.2) x.1) cells)=setAt off v.cells.toList 0 cells:=by
  unfold setAt;rw[<-Array.foldl_toList];simp
 simp only[Instr.fill,hp];rw[bH (by simp[b];omega)];rw[<-c]
theorem Xf(n):∀(vs:List b9)(k)(cells),(∀v∈vs,v.cells.size=n)->(k+vs.length)*n<=cells.size->
 ∃us,Instr.fill (λi=>some (i*n,n)) cells ((vs.zipIdx k).map λx=>(x.2,x.1))=some us/\us.size=cells.size/\
  (∀j,j<k*n->us[j]?=cells[j]?)/\∀(i)(v)(j),vs[i]?=some v->j<n->us[(k+i)*n+j]?=v.cells[j]?
 |[],k,cells,_,_=>⟨cells,rfl,rfl,λ_ _=>rfl,λi v j h=>by simp at h⟩
 |v ::vs,k,cells,d,b=>by
  have e:=d v (by simp);have f:(k+1)*n<=cells.size:=oU (gi _ (by simp)) b;rw[oW]at f;obtain⟨us,m,o,g,p⟩:=Xf n vs (k+1) (setAt (k*n) v.cells.toList 0 cells) (λu q=>d u (by simp[q])) (by rw[HI];rw[show k+1+vs.length=k+(vs.length+1)by omega];exact b);refine⟨us,?_,by rw[o,HI],λj l=>?_,λi u j c l=>?_⟩
  .simp only[ZF,dk];rw[Vd _ _ _ _ _ rfl e f];exact m
  .rw[g j (by rw[oW];omega),Ke,bH om]
  .cases i with
   |zero=>
    simp at c;subst c;rw[lh,g _ (by rw[oW];omega),Ke,bA (by simp[e];omega)];simp
   |succ i=>
    have:=p i u j (by simpa using c) l;rw[show k+1+i=k+(i+1)by omega]at this;exact this
theorem nL{α j:Type}{f}:∀{l:List α}{d},l.mapM f=some d->d.length=l.length/\∀(i:Nat)(y:j),d[i]?=some y->∃x,l[i]?=some x/\f x=some y
 |[],d,h=>by simp_all
 |a::l,d,h=>by
  cases c:f a with
  |none=>simp[c]at h
  |some b=>
   cases e:l.mapM f with
   |none=>simp[c,e]at h
   |some n=>
    simp[c,e]at h;subst h;obtain⟨k,m⟩:=nL e;refine⟨by simp[k],λi y g=>?_⟩
    cases i with
    |zero=>simp at g;subst g;exact⟨a,rfl,c⟩
    |succ i=>simpa using m i y (by simpa using g)
def bx.fG(st:bx)(x:cF):Option V1:=match st.arg x with|some (.v x)=>some x|_=>none
def bx.lits(st:bx):List cF->Option (List (List PV)×List Nat)
 |[]=>some ([],[])
 |x::xs=>match st.fG x with
  |some y=>match st.sinks y.cells,st.lits xs with
   |some (r,d),some (rs,h)=>some (r::rs,d++h)
   |_,_=>none
  |none=>none
section
variable{X:Fx}{E:Env}{st:bx}{a:Act}{w:bX}
theorem Rel.fG(h:Rel X E st a w){x v}(d:st.fG x=some v):eB X.M E w v (a.eval x)/\(V.v v).live st.bu=true:=by
 unfold bx.fG at d;split at d
 .rename_i y k;simp at d;subst d;exact h.arg k
 .cases d
theorem Rel.lits(h:Rel X E st a w):∀{xs:List cF}{rows:List (List PV)}{m:List Nat},st.lits xs=some (rows,m)->rows.length=xs.length/\(∀n∈m,n<st.next)/\
 ∀k,(∀n∈m,n∈k)->∀(i:Nat)(r:List PV),rows[i]?=some r->∃x,xs[i]?=some x/\r.length=(a.eval x).cells.size/\∀(j:Nat)(p:PV),r[j]?=some p->∃u,(a.eval x).cells[j]?=some u/\RP (bad X.M (E.drop k)) w p u
 |[],rows,m,d=>by simp[bx.lits]at d;simp_all
 |x :: xs,rows,m,d=>by
  simp only[bx.lits]at d;split at d
  .rename_i y z;split at d
   .rename_i r B rs O D F;cases d;obtain⟨G,H,P⟩:=h.lits F;obtain⟨k1,k2⟩:=h.fG z;obtain⟨I,J⟩:=eB.cells k1 (by rw[h.bu];exact k2);obtain⟨s1,K,_,Q⟩:=h.sinks I (λi c t=>let⟨u,q1,q2,_⟩:=J i c t; ⟨u,q1,q2⟩) (TQ k2) D;refine⟨by simp[G],λn M=>?_,λk N i r' t=>?_⟩
    .rcases gI.1 M with q|q
     .exact K n q
     .exact H n q
    .cases i with
     |zero=>
      simp_all
     |succ i=>
      simp_all
   .cases d
  .cases d
def wN(P:cC)(st:bx)(d:Nat)(t:cd)(len:Nat)(parts:List (Nat×cF)):Option (V×gO):=
 match fr P t with
 |some e=>match iR P e,st.lits (parts.map (·.2))with
  |some (n,_),some (rows,b)=>if parts.map (·.1)=List.range len/\ct n rows=true/\len*n<=16777216 then some (.c (.own d),⟨[(d,.row e rows)],b⟩)else none
  |_,_=>none
 |none=>none
theorem ahm(h:Rel X E st a w){d}(hd:E.N d=none)(N:X.k0<=d)(O:d<st.next){t len}{parts:Array (Nat×cF)}{v ef}
 (l:wN X.P st d t len parts.toList=some (v,ef)):
 ∃u w' E',(Instr.buildSlice t len (parts.map λx=>(x.1,a.eval x.2))).run X.P w=.ok u w'/\(∀n,n≠d->E.N n=none->E'.N n=none)/\Rel X E' (st.dS ef) a w'/\RV X.M E' w' v u:=by
 unfold wN at l;split at l
 .rename_i e ht;obtain⟨M,ac⟩:=nB ht;split at l
  .rename_i n b rows D F y;obtain⟨i,z,hi,hz,ad,m,G,ae,P⟩:=rD F;split at l
   .rename_i hc;obtain⟨hr,hR,af⟩:=hc;rw[jk]at hR;cases l;obtain⟨ag,H,Q⟩:=h.lits y;have I:parts.toList.length=len:=by have:=cO List.length hr;simpa using this
    have f:rows.length=len:=by simp_all
    have g:(parts.map λx=>(x.1,a.eval x.2)).toList=(((parts.toList.map λx=>a.eval x.2).zipIdx 0).map λx=>(x.2,x.1)):=by
     apply sP;intro k;simp only[Of,cX,List.getElem?_zipIdx,Gr]
     cases o:parts.toList[k]? with
     |none=>simp
     |some x=>
      have A:(parts.toList.map (·.1))[k]?=some x.1:=by simp only[cX,o,b_]
      rw[hr]at A;have s:=(dO.1 A).2;simp[<-s]
    have c:∀(k:Nat)(u:b9),(parts.toList.map λx=>a.eval x.2)[k]?=some u->∃r,rows[k]?=some r/\u.cells.size=n/\∀(j:Nat)(p:PV),r[j]?=some p->∃u',u.cells[j]?=some u'/\RP (bad X.M (E.drop D)) w p u':=by
     intro k u o;simp only[cX,bY]at o;obtain⟨x,hx,rfl⟩:=o;have B:k<rows.length:=by rw[f,<-I];exact(dO.1 hx).1
     obtain⟨x',A,s,h3⟩:=Q D (λ_ h=>h) k _ (cY B);simp only[cX,hx,b_,jq]at A;subst A;exact⟨_,cY B,by rw[<-s];exact hR _ (cQ B),h3⟩
    have R:∀u∈parts.toList.map (λx=>a.eval x.2),u.cells.size=n:=by
     intro u M;obtain⟨k,o,S⟩:=jG M;obtain⟨r,_,s,_⟩:=c k u (by rw[<-S];exact cY o);exact s
    have T:∃z0:Array b9,((Array.range (len*n)).map (z0[· %z0.size]!)).size=len*n/\(Instr.buildSlice t len (parts.map λx=>(x.1,a.eval x.2))).run X.P w=
     (match Instr.fill (λi=>some (i*n,n)) ((Array.range (len*n)).map (z0[· %z0.size]!)) (parts.map λx=>(x.1,a.eval x.2)).toList with
     |some cells=>.ok (.slice (some ⟨w.heap.size,0,none⟩) len len) (w.alloc (.cells cells e))
     |none=>.halt (.stuck "buildSlice: a part of the wrong size") w):=by
     have U:¬(len*n>16777216):=om;by_cases h0:len*n=0
     .refine⟨#[],by simp,?_⟩;simp[Instr.buildSlice,run_underlying M,sizeOf,typeInfo,hi,G,h0];generalize Instr.fill _ _ _=q;cases q<;>simp[newRow]
     .refine⟨z.cells,by simp,?_⟩;simp only[Instr.buildSlice,run_underlying M,sizeOf,typeInfo,zeroValue,hi,hz,G,h0,U,Sem.run_bind,run_program,Result.andThen_ok,Sem.run_pure,if_false];generalize Instr.fill _ _ _=q;cases q<;>simp[newRow]
    obtain⟨z0,V,hrun⟩:=T;obtain⟨us,A,s,_,h4⟩:=Xf n (parts.toList.map λx=>a.eval x.2) 0 ((Array.range (len*n)).map (z0[· %z0.size]!)) R (by simp_all);rw[g,A]at hrun;rw[V]at s;have hm:rows.length<=maxLen:=by
     have:len*1<=len*n:=Nat.mul_le_mul_left _ m;simp only[maxLen];omega
    have hD:=h.drop D H;have W:(E.drop D).N d=none:=Env.kL hd;have J:∀b,(st.dS ⟨[],D⟩).dS ⟨[(d,b)],[]⟩=st.dS ⟨[(d,b)],D⟩:=λb=>by simp[bx.dS]
    have Y:=hD.pK W N O (e:=e) m P.symm hR (cap:=rows.length) (de _) hm (us:=us) (by rw[s,f]) (λZ r j p C hj=>by
     have K:Z< (parts.toList.map λx=>a.eval x.2).length:=by simp[I,<-f];exact(dO.1 C).1
     obtain⟨r',L,h5,h6⟩:=c Z _ (cY K);rw[C]at L;cases L;have aa:j<n:=by rw[<-hR r (eb C)];exact(dO.1 hj).1
     have:=h4 Z _ j (cY K) aa;rw[jV]at this;rw[this];exact h6 j p hj) (wd:=w) (.inl rfl)
    rw[J,f]at Y;exact⟨_,_,_,hrun,λk o ab=>by rw[Env.kJ o];exact Env.kL ab,Y.1,Y.2⟩
   .cases l
  .cases l
 .cases l
end
def RL(M:fZ)(E:Env)(w:bX)(cs:List C)(us:Array b9):Prop:=us.size=cs.length/\∀(i:Nat)(c:C),cs[i]?=some c->∃u,us[i]?=some u/\RC M E w c u/\u.oneCell'=true
theorem RL.splice{M E w cs xs us vs}(h:RL M E w cs us)(q:RL M E w xs vs.toArray){off}(t:off+xs.length<=cs.length):
 RL M E w (cs.take off++xs++cs.drop (off+xs.length)) (setAt off vs 0 us):=by
 have k:vs.length=xs.length:=by simpa using q.1
 refine⟨by simp only[HI,h.1,cD,dz,mh];omega,λi c d=>?_⟩;rw[Ke];simp only[lh,k,h.1,dI]at d⊢;rw[lg]at d;simp only[dz,nQ (show off<=cs.length by omega)]at d;split at d
 .rename_i m;rw[jc,bA m]at d;rw[bH om];exact h.2 i c d
 .rw[lg]at d;split at d
  .rw[bA om];obtain⟨u,x,y⟩:=q.2 _ c d;simp_all
  .rw[bH om];rw[kC,show off+xs.length+(i-off-xs.length)=i by omega]at d;exact h.2 i c d
def ui(place:Nat->Option (Nat×Nat))(cells:List C):List (Nat×List C)->Option (List C)
 |[]=>some cells
 |(i,x)::rest=>match place i with
  |none=>none
  |some (off,size)=>if x.length=size/\off+x.length<=cells.length then ui place (cells.take off++x++cells.drop (off+x.length)) rest else none
theorem Tt{M:fZ}{E:Env}{w:bX}(place:Nat->Option (Nat×Nat)):∀(parts:List (Nat×List C))(vals:List (Nat×b9))(cells:List C)(us:Array b9){b:List C},
 vals.length=parts.length->(∀(k:Nat)(x:Nat×List C)(y:Nat×b9),parts[k]?=some x->vals[k]?=some y->y.1=x.1/\RL M E w x.2 y.2.cells)->RL M E w cells us->ui place cells parts=some b->
 ∃c,Instr.fill place us vals=some c/\RL M E w b c
 |[],vals,cells,us,b,d,_,e,h=>by
  have:vals=[]:=mN (by simpa using d);subst this;simp[ui]at h;subst h;exact⟨us,rfl,e⟩
 |(i,x)::parts,vals,cells,us,b,d,g,e,h=>by
  cases vals with
  |nil=>simp at d
  |cons y vals=>
   obtain⟨m,j⟩:=g 0 (i,x) y rfl rfl;obtain⟨l,v⟩:=y;subst m;simp only[ui]at h
   cases hp:place l with
   |none=>simp[hp]at h
   |some os=>
    simp only[hp]at h;split at h
    .rename_i f;rw[Vd place us l v vals hp (by rw[j.1];exact f.1) (by rw[<-f.1,e.1];exact f.2)];exact Tt place parts vals _ _ (by simpa using d) (λk x y n o=>g (k+1) x y (by simpa using n) (by simpa using o)) (e.splice (vs:=v.cells.toList) (by simpa using j) f.2) h
    .cases h
def Fm(P:cC)(t:cd):Option (List (Nat×Nat)):=match P.underlying t with
 |some (.struct fields)=>fields.toList.mapM (λf=>(P.info? f.type).map λi=>(f.offset,i.size))
 |some (.array n e)=>match P.info? e with
  |some i=>some ((List.range n).map λk=>(k*i.size,i.size))
  |none=>none
 |_=>none
theorem wi{P M E w t cs}(h:pN P t=some cs):∃i z,P.info? t=some i/\i.zero=some z/\RL M E w cs z.cells:=by
 unfold pN at h;split at h
 .rename_i i e;split at h
  .rename_i z f;split at h
   .rename_i hall;simp at h;subst h;refine⟨i,z,e,f,by simp,λk c b=>?_⟩;simp only[cX,bY,ZE]at b;obtain⟨u,d,rfl⟩:=b;exact⟨u,d,Nh M E w u,by simp only[cz]at hall;exact hall u (Array.mem_toList_iff.2 (Array.mem_of_getElem? d))⟩
   .cases h
  .cases h
 .cases h
def w3(P:cC)(st:bx)(t:cd)(parts:Array (Nat×cF)):Option V:=
 match pN P t,Fm P t,parts.toList.mapM (λx=>(st.fG x.2).map λy=>(x.1,y.cells))with
 |some b,some ps,some xs=>(ui (ps[·]?) b xs).map λcs=>.v (.agg cs)
 |_,_,_=>none
theorem Uc{p q}(h:∀i x,p i=some x->q i=some x):∀(l)(us b),Instr.fill p us l=some b->Instr.fill q us l=some b
 |[],us,b,c=>c
 |(i,v)::l,us,b,c=>by
  simp only[Instr.fill]at c⊢
  cases hp:p i with
  |none=>simp[hp]at c
  |some x=>
   rw[h i x hp];simp only[hp]at c⊢;split at c
   .cases c
   .rename_i d;rw[bH d];exact Uc h l _ _ c
theorem ayt{X E st a w}(h:Rel X E st a w){t parts v}
 (b:w3 X.P st t parts=some v):∃u,(Instr.build t (parts.map λx=>(x.1,a.eval x.2))).run X.P w=.ok u w/\RV X.M E w v u:=by
 unfold w3 at b;split at b
 .rename_i A ps xs B hp C;simp at b;obtain⟨cs,d,rfl⟩:=b;obtain⟨i,z,D,f,g⟩:=wi (M:=X.M) (E:=E) (w:=w) B;obtain⟨j,l⟩:=nL C;obtain⟨us,F,q⟩:=Tt (M:=X.M) (E:=E) (w:=w) (ps[·]?) xs (parts.map λx=>(x.1,a.eval x.2)).toList A z.cells (by simp[j]) (λk x y c r=>by
   obtain⟨o,G,s⟩:=l k x c;simp only[Of,cX,G,b_,jq]at r;subst r;simp only[bY]at s;obtain⟨L,H,rfl⟩:=s;obtain⟨I,J⟩:=h.fG H;exact⟨rfl,eB.cells I (by rw[h.bu];exact J)⟩) g d
  refine⟨_,run_build w t _ us ?_,us,rfl,q.1,q.2⟩;unfold Program.built;unfold Fm at hp;split at hp
  .simp_all
  .rename_i n e K;split at hp
   .rename_i N m;simp at hp;subst hp;simp only[D,K,f,m];refine Uc (λk x c=>?_) _ _ _ F;simp only[cX,bY]at c;obtain⟨O,p,rfl⟩:=c;have:=(dO.1 p).2;simp[<-this]
   .cases hp
  .cases hp
 .cases b
end
end
end Go.Proofs.YtiikkkhcolcebaaGreatDoor
