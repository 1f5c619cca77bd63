/- A part. -/
import Derived.Test.YtndegphojkiblaaGreatDoorG3
set_option linter.all false
set_option maxHeartbeats 4000000
set_option maxRecDepth 100000
namespace Go.Proofs.YtndegphojkiblaaGreatDoor
noncomputable section
section
open Go.RowKit
theorem avv{P}(w)(t n ty e)(i)(z){p}(q:P.underlying t=some (.slice e))(j:P.underlying n=some (.int p))(s:P.info? e=some i)(v:i.zero=some z)
 (g eQ c) (b) {k} (l:mr b.size k) (x:w.heap[g]?=some (.cells b e k)) (N:Nat) (y:0<N) (f:0<i.size) (A:(N:Int)<=9223372036854775807) (B:N*i.bytes<=281474976710656)
 (C:∀u∈(Builtin.zeroCells z.cells N).toList,u.oneCell'=true)
 (hroom:eQ+N<=c) (h:eQ*i.size+(Builtin.zeroCells z.cells N).toList.length<=b.size):
 (Builtin.append_ #[t,n] ty #[.slice (some ⟨g,0,none⟩) eQ c,.int .i64 N]).run P w=
  .ok (.slice (some ⟨g,0,none⟩) (eQ+N) c) (w.setRow g (b.toList.take (eQ*i.size)++(Builtin.zeroCells z.cells N).toList++b.toList.drop (eQ*i.size+(Builtin.zeroCells z.cells N).toList.length)).toArray):=by
 have m:=z7 P g (eQ*i.size) e k (Builtin.zeroCells z.cells N).toList 0 b w l x (by simpa using h) C;have D:IntKind.i64.wrap (N:Int)=(N:Int):=by rw[IntKind.wrap_i64];omega
 have F:¬((N:Int)<0):=om;have e2:¬(281474976710656< (N:Int)*(i.bytes:Int)):=om;have G:N*i.size≠0:=P9 (P_ y f);simp[Builtin.append_,run_underlying q,run_underlying j,sizeOf,typeInfo,zeroValue,s,v,asInt,asIntOf,D,F,e2,G,hroom,Addr.add_lit,m]
theorem aeM{P w}(t n ty e)(i)(z){q}(s:P.underlying t=some (.slice e))(k:P.underlying n=some (.int q))(u:P.info? e=some i)(x:i.zero=some z)
 (b) (eQ c) (olds:List cr) (l:olds.length=eQ*i.size) (holds:∀j v,olds[j]?=some v->w.cell? (b.add j)=some v)
 (N) (y:0<N) (f:0<i.size) (A:N*i.bytes<=281474976710656)
 (I:c<eQ+N) (B:((eQ+N:Nat):Int)<=9223372036854775807) (p:Builtin.nextslicecap (eQ+N) c*i.bytes<=281474976710656):
 (Builtin.append_ #[t,n] ty #[.slice (some b) eQ c,.int .i64 N]).run P w=
  .ok (.slice (some ⟨w.heap.size,0,none⟩) (eQ+N) (grownCap w (eQ+N) c e))
   (w.drew.alloc (.cells (olds.toArray++(Builtin.zeroCells z.cells N).toList.toArray++Builtin.zeroCells z.cells (grownCap w (eQ+N) c e- (eQ+N))) e)):=by
 have C:¬(eQ+N<=c):=om;have g:¬(9223372036854775807< ((eQ:Int)+(N:Int))):=om;have h:¬(281474976710656<Builtin.nextslicecap (eQ+N) c*i.bytes):=om;have m:=run_firstCells_some (P:=P) w.drew i.size eQ b eQ c olds l (by simpa using holds);have D:IntKind.i64.wrap (N:Int)=(N:Int):=by rw[IntKind.wrap_i64];omega
 have F:¬((N:Int)<0):=om;have e2:¬(281474976710656< (N:Int)*(i.bytes:Int)):=om;have G:N*i.size≠0:=P9 (P_ y f);have H:max (N:Int) 0=N:=om;simp[Builtin.append_,run_underlying s,run_underlying k,sizeOf,typeInfo,zeroValue,u,x,asInt,asIntOf,D,F,e2,G,H,C,g,h,Question.forced,m,newRow,grownCap]
def sH(P:cD)(st:bz)(d:Nat)(t c:cg)(s x:cF):Option (V×im):=
 match fk P t,st.arg s,st.arg x,P.underlying c with
 |some e,some (.v (.c cs)),some (.v (.c (.p (.sc (.int .i64 n))))),some (.int _)=>match jE P e,qh P e,st.gH e cs with
  |some (f,b),some g,some (rows,h)=>match oi g with
   |some z=>if 0<n/\rows.length+n.toNat<=9223372036854775807/\(rows.length+n.toNat)*b<=140737488355328/\cf f rows=true then some (.c (.own d),⟨[(d,.row e (rows++List.replicate n.toNat z))],h⟩)else none
   |none=>none
  |_,_,_=>none
 |_,_,_,_=>none
section
variable{X:Fx}{E:Env}{st:bz}{a:Act}{w:cp}
set_option maxHeartbeats 2000000 in
theorem aqX(h:Rel X E st a w){d}(hd:E.N d=none)(al:X.k0<=d)(am:d<st.next)(aO:d∉st.bt){t t' ty s x v ef}
 (he:sH X.P st d t t' s x=some (v,ef)):
 ∃u w' E',(Builtin.append_ #[t,t'] ty #[a.eval s,a.eval x]).run X.P w=.ok u w'/\(∀n,n≠d->E.N n=none->E'.N n=none)/\Rel X E' (st.dQ ef) a w'/\RV X.M E' w' v u:=by
 unfold sH at he;split at he
 .rename_i e cs nn kk ht hs hx B;obtain⟨hu,bj⟩:=ow ht;have aP:a.eval x=.int .i64 nn:=RP.ei (h.cY hx).1;split at he
  .rename_i n b zs rows ms az aQ l;obtain⟨i,z,hi,hz,O,I,ad,S,T⟩:=wF az;obtain⟨i',z',aA,ak,ae⟩:=yH (M:=X.M) (E:=E) (w:=w) aQ;rw[hi]at aA;cases aA;rw[hz]at ak;cases ak;split at he
   .rename_i zp aR;split at he
    .rename_i hb;obtain⟨bk,U,af,ag⟩:=hb;rw[nL]at ag;cases he;obtain⟨aS,aT⟩:=qg aR;have aB:zp.length=n:=by rw[aS,<-ae.1,O]
     obtain⟨N,rfl⟩:∃N:Nat,nn=(N:Int):=⟨nn.toNat,om⟩
     simp only[fM]at U af⊢;have hN:0<N:=om;have aC:=hN;generalize V:List.replicate N zp=c;have D:c.length=N:=by rw[<-V];simp
     rw[<-D]at U af;have ah:ff n c:=λr hr=>by rw[<-V]at hr;rw[(GU.1 hr).2];exact aB
     have hlen:rows.length+c.length<=maxLen:=by simp only[maxLen];omega
     obtain⟨an,_,aD⟩:=h.cY hs;have aE:∀ns,iP (bad X.M E) (bad X.M (E.drop ns)) w w:=λns k o u h1 h2=>⟨h1,λh=>h2 (qM h)⟩
     generalize hnews:(Builtin.zeroCells z.cells N).toList=news;have ai:news.length=c.length*n:=by rw[<-hnews,D];simp[Builtin.zeroCells,O]
     have J:∀q,q<N*n->news[q]?=some (z.cells[q%n]!):=λq hq=>by
      rw[<-hnews];simp only[Builtin.zeroCells,acV,cN,O,Array.toList_range,u9 hq,bS]
     have hval:∀(i':Nat)(r:List PV)(j':Nat)(p:PV),c[i']?=some r->r[j']?=some p->∃u,news[i'*n+j']?=some u/\RP (bad X.M E) w p u:=λi' r j' p h5 h6=>by
      rw[<-V]at h5;have aU:r=zp:=(GU.1 (dB h5)).2;subst aU;have aV:i'<N:=by have:=(dW.1 h5).1;simpa using this
      have aW:j'<n:=by rw[<-aB];exact(dW.1 h6).1
      obtain⟨cc,h7,h8⟩:=aT j' p h6;obtain⟨u',h9,G,_⟩:=ae.2 j' cc h7;have ao:i'*n+j'<N*n:=by
       have:(i'+1)*n<=N*n:=fX _ aV;rw[nS]at this;omega
      refine⟨u',?_,RC.pv G h8⟩;rw[J _ ao,show(i'*n+j')%n=j' by rw[P6,acX,GW aW]];obtain⟨q,hq⟩:=fx.1 h9;rw[getElem!_pos z.cells j' q,hq]
     have aF:∀u∈news,u.oneCell'=true:=λu aX=>by
      obtain⟨q,hq⟩:=List.getElem?_of_mem aX;have aG:=(dW.1 hq).1;rw[ai,D]at aG;rw[J q aG]at hq;have aY:q%n<n:=Nat.mod_lt _ I;have aH:q%n<z.cells.size:=by rw[O];exact aY
      have aI:q%n<zs.length:=by rw[<-ae.1];exact aH
      obtain⟨u',h9,_,G⟩:=ae.2 (q%n) _ (cW aI);obtain⟨q',aZ⟩:=fx.1 h9;rw[getElem!_pos z.cells _ q',aZ]at hq;cases hq;exact G
     rw[aP];have hnil:a.eval s=.slice none 0 0->rows=[]->(∀m∈ms,m<st.next)->
      ∃u w' E',(Builtin.append_ #[t,t'] ty #[a.eval s,.int .i64 N]).run X.P w=.ok u w'/\(∀n,n≠d->E.N n=none->E'.N n=none)/\Rel X E' (st.dQ ⟨[(d,.row e (rows++c))],ms⟩) a w'/\RV X.M E' w' (.c (.own d)) u:=by
      intro hA h0 ap;subst h0;rw[hA];have hD:=h.drop ms ap;have aq:(E.drop ms).N d=none:=Env.kE hd;have ar:=grownCap_ge w c.length 0 e;have au:=grownCap_le_maxLen w c.length 0 e (by simpa using hlen);have hf:=hD.uE aq al am (e:=e) I T.symm ah ar au (us:=news.toArray++Builtin.zeroCells z.cells (grownCap w c.length 0 e-c.length))
       (by simp only[Bq,qt,size_zeroCells,O,ai,<-jY];congr 1;omega)
       (λi r j p k1 k2=>by
        obtain⟨u,K,k4⟩:=hval i r j p k1 k2;have B:=(dW.1 K).1;exact⟨u,by rw[Bs,bF (by simpa using B)];simpa using K,k4.trans (aE ms)⟩) (wd:=w.drew) (.inr rfl)
      refine⟨_,_,_,?_,λk B W=>by rw[Env.lp B];exact Env.kE W,hf.1,hf.2⟩;have hw:IntKind.i64.wrap (N:Int)=(N:Int):=by rw[IntKind.wrap_i64];omega
      have e1:¬((N:Int)<0):=om;have bg:N*b<=140737488355328:=by simpa[D]using af
      have e2:¬(281474976710656< (N:Int)*(i.bytes:Int)):=by rw[S,<-Int.natCast_mul];omega
      have e3:¬(9223372036854775807< (N:Int)):=om;have e4:¬(281474976710656<Builtin.nextslicecap N 0*i.bytes):=by rw[nextslicecap_zero hN,S];omega
      have e6:¬N=0:=om;have e5:N*n≠0:=P9 (P_ hN I);have e9:max (N:Int) 0=N:=om;rw[D,<-hnews];simp[Builtin.append_,run_underlying hu,run_underlying B,sizeOf,typeInfo,zeroValue,hi,hz,ad,asInt,asIntOf,hw,e1,e2,e3,e4,e5,e6,e9,Question.forced,Builtin.firstCells,newRow,grownCap]
     have hrow:∀(m:Nat)(y:Nm)(g:Nat)(f:Array cr)(fz:Nat×Nat),mr f.size fz->m∉st.bt->E.N m=some y->y.g=some g->w.heap[g]?=some (.cells f e fz)->y.sz=n->y.cap<=maxLen->f.size=y.cap*n->rows.length<=y.cap->
      (∀(i:Nat)(r:List PV)(j:Nat)(p:PV),rows[i]?=some r->r[j]?=some p->∃u,f[i*n+j]?=some u/\RP (bad X.M E) w p u)->a.eval s=.slice (some ⟨g,0,none⟩) rows.length y.cap->ms=[m]->
      ∃u w' E',(Builtin.append_ #[t,t'] ty #[a.eval s,.int .i64 N]).run X.P w=.ok u w'/\(∀n,n≠d->E.N n=none->E'.N n=none)/\Rel X E' (st.dQ ⟨[(d,.row e (rows++c))],ms⟩) a w'/\RV X.M E' w' (.c (.own d)) u:=by
      intro m y g0 f fz R F hN ba av L bc Y bd aJ be ap;subst ap;have aK:=h.dD m y hN;rw[be];have bh:rows.length*n<=f.size:=by rw[Y];exact fX _ bd
      have Z:(f.toList.take (rows.length*n)).length=rows.length*n:=by simp;omega
      have aa:∀(us:Array cr),(∀k,k<rows.length*n+news.length->us[k]?=(f.toList.take (rows.length*n)++news)[k]?)->∀(i:Nat)(r:List PV)(j:Nat)(p:PV),(rows++c)[i]?=some r->r[j]?=some p->∃u,us[i*n+j]?=some u/\RP (bad X.M E) w p u:=by
       intro us aL i r j p k1 k2;have bl:r.length=n:=(ag.app ah) r (dB k1);have hj:=(dW.1 k2).1;rw[lZ]at k1;split at k1
       .rename_i ao;obtain⟨u,K,k4⟩:=aJ i r j p k1 k2;have:(i+1)*n<=rows.length*n:=fX _ ao;rw[nS]at this;refine⟨u,?_,k4⟩;rw[aL _ om,lZ,bF om,sr,bF om];simpa using K
       .obtain⟨u,K,k4⟩:=hval _ r j p k1 k2;have B:=(dW.1 K).1;have e1:i*n=rows.length*n+(i-rows.length)*n:=by rw[<-jY];congr 1;omega
        refine⟨u,?_,k4⟩;rw[aL _ om,lZ,bO om,Z,<-K];congr 1;omega
      by_cases hroom:rows.length+c.length<=y.cap
      .have aM:rows.length*n+news.length<=f.size:=by rw[ai,Y,<-jY];exact fX _ hroom
       have hr:=avv (P:=X.P) w t t' ty e i z hu B hi hz g0 rows.length y.cap f R av N aC om om (by rw[S];have:N*b<=(rows.length+c.length)*b:=fX _ om;omega) (by rw[hnews];exact aF) om (by rw[ad,hnews];exact aM)
       conv at hr=>rhs;rw[hnews,<-D]
       rw[ad]at hr;have B:=h.take (d:=d) aK hN ba av (us:=(f.toList.take (rows.length*n)++news++f.toList.drop (rows.length*n+news.length)).toArray) (by rw[show(f.toList.take (rows.length*n)++news++f.toList.drop (rows.length*n+news.length)).toArray.size=f.size by simp;omega];exact R) hd al am aO (rows:=rows++c) (by rw[L];exact ag.app ah) om (by rw[L,T]) (by simpa using hroom) bc
        (by rw[L,<-Y];simp;omega) (by
         rw[L];refine aa _ λk B=>?_
         rw[Bp,lZ,bF (by simp only[ez,Z];exact B)])
       simp only[ez]at B;exact⟨_,_,_,hr,λk B W=>by rw[Env.lp B];exact Env.kE W,B.1,B.2⟩
      .have holds:∀j v,(f.toList.take (rows.length*n))[j]?=some v->w.cell? ((⟨g0,0,none⟩:Addr).add j)=some v:=λj u hj=>by
        rw[nD,cell_of_row w g0 _ f e fz av];simpa using(CH hj).1
       have hr:=aeM (P:=X.P) (w:=w) t t' ty e i z hu B hi hz ⟨g0,0,none⟩ rows.length y.cap (f.toList.take (rows.length*n)) (by rw[ad];exact Z) holds N aC om (by rw[S];have:N*b<=(rows.length+c.length)*b:=fX _ om;omega) om om
        (by rw[S,<-D];exact growslice_fits om af)
       conv at hr=>rhs;rw[hnews,<-D]
       have ar:=grownCap_ge w (rows.length+c.length) y.cap e;have au:=grownCap_le_maxLen w (rows.length+c.length) y.cap e hlen;have aN:∀k,k<rows.length*n+news.length->((f.toList.take (rows.length*n)).toArray++news.toArray++Builtin.zeroCells z.cells (grownCap w (rows.length+c.length) y.cap e- (rows.length+c.length)))[k]?=(f.toList.take (rows.length*n)++news)[k]?:=by
        intro k B;rw[Bs,bF (by simp only[Bq,qt,Z];exact B)];simp[lZ]
       have hD:=h.drop [m] (by simpa using aK);have aq:(E.drop [m]).N d=none:=Env.kE hd;have hf:=hD.uE aq al am (e:=e) I T.symm (rows:=rows++c) (ag.app ah) (cap:=grownCap w (rows.length+c.length) y.cap e) (by simpa using ar) au
        (us:=(f.toList.take (rows.length*n)).toArray++news.toArray++Builtin.zeroCells z.cells (grownCap w (rows.length+c.length) y.cap e- (rows.length+c.length)))
        (by simp only[Bq,qt,size_zeroCells,O,ai,Z,<-jY];congr 1;omega)
        (λi r j p k1 k2=>by
         obtain⟨u,K,k4⟩:=aa _ aN i r j p k1 k2;exact⟨u,K,k4.trans (aE [m])⟩) (wd:=w.drew) (.inr rfl)
       simp only[ez]at hf;exact⟨_,_,_,hr,λk B W=>by rw[Env.lp B];exact Env.kE W,hf.1,hf.2⟩
     cases cs with
     |nil=>
      obtain⟨rfl,rfl⟩:=l;exact hnil an rfl (by simp)
     |own m=>
      simp only[bz.gH]at l;have F:=aD m (by simp[C.names]);split at l
      .rename_i e' ab hl;split at l
       .rename_i aw;subst aw;cases l;obtain⟨y,f,fz,h1,R,h2,h3,h4,h5,h6,ax,h7,h8,G,h9⟩:=h.row F hl;obtain⟨y',k1,k2⟩:=cS.get an (by rw[h.bt];exact F);rw[h1]at k1;cases k1;have H:y.sz=n:=by rw[ax,T]
        cases hg:y.g with
        |none=>
         have ay:=G hg;have aj:y.len=0:=om;rw[hg,aj,ay]at k2;exact hnil (by simpa using k2) (jX om) (by simpa using h.dD m y h1)
        |some g=>
         rw[hg,h3]at k2;exact hrow m y g f fz R F h1 hg (h2 g hg) H h5 (by rw[<-H];exact h7) om (by rw[<-H];exact h9) (by simpa using k2) rfl
       .cases l
      .cases l
     |sub m lo len=>
      cases lo with
      |succ lo=>simp[bz.gH]at l
      |zero=>
      simp only[bz.gH]at l;have F:=aD m (by simp[C.names]);split at l
      .rename_i e' ab hl;split at l
       .rename_i aw;subst aw;cases l;obtain⟨y,f,fz,h1,R,h2,h3,h4,h5,h6,ax,h7,h8,G,h9⟩:=h.row F hl;obtain⟨y',k1,k2,A,K,k4⟩:=cS.get an (by rw[h.bt];exact F);rw[h1]at k1;cases k1;have H:y.sz=n:=by rw[ax,T]
        have hA:=k4 (.inr rfl);have bf:(ab.take len).length=len:=by simp;omega
        cases hg:y.g with
        |none=>
         have ay:=G hg;have aj:len=0:=om;rw[hA,hg,aj,ay]at K;exact hnil (by simpa using K) (by rw[aj];simp) (by simpa using h.dD m y h1)
        |some g=>
         rw[hA,hg]at K;refine hrow m y g f fz R F h1 hg (h2 g hg) H h5 (by rw[<-H];exact h7) om (λi r j p hi hj=>?_) (by rw[bf];simpa using K) rfl;rw[<-H];exact h9 i r j p (CH hi).1 hj
       .cases l
      .cases l
     |_=>simp[bz.gH]at l
    .cases he
   .cases he
  .cases he
 .cases he
end
def pn(P:cD)(st:bz)(d:Nat)(t b:cg)(s x:cF):Option (V×im):=match oV P st d t b s x with
 |some r=>some r
 |none=>sH P st d t b s x
section
variable{X:Fx}{E:Env}{st:bz}{a:Act}{w:cp}
theorem ajm(h:Rel X E st a w){d}(g:E.N d=none)(b:X.k0<=d)(c:d<st.next)(f:d∉st.bt){t i ty s x v j}
 (e:pn X.P st d t i s x=some (v,j)):
 ∃u w' E',(Builtin.append_ #[t,i] ty #[a.eval s,a.eval x]).run X.P w=.ok u w'/\(∀n,n≠d->E.N n=none->E'.N n=none)/\Rel X E' (st.dQ j) a w'/\RV X.M E' w' v u:=by
 unfold pn at e;split at e
 .rename_i r k;cases e;exact ahb h g b c k
 .exact aqX h g b c f e
end
theorem QY:∀{rows},ff 1 rows->∀j:Nat,rows.flatten[j]?=(rows[j]?).bind (·[0]?)
 |[],_,j=>by simp
 |r::rows,h,j=>by
  have b:r.length=1:=h r (by simp)
  match r,b with
  |[p],_=>
   cases j with
   |zero=>rfl
   |succ j=>
    exact QY (λr c=>h r (by simp[c])) j
def wo(P:cD)(st:bz)(t:cg)(x:cF):Option V:=
 match st.arg x,lj P t with
 |some (.v (.c (.p (.sl rows)))),some (n,_)=>if 0<n/\n<=rows.length/\cf 1 rows=true then some (.v (.c (.ref (rows.take n).flatten)))else none
 |_,_=>none
section
variable{X:Fx}{E:Env}{st:bz}{a:Act}{w:cp}
theorem anE(h:Rel X E st a w){t x v}
 (b:wo X.P st t x=some v):∃u,(Instr.arrayAt t (a.eval x)).run X.P w=.ok u w/\RV X.M E w v u:=by
 unfold wo at b;split at b
 .rename_i rows n e z A;obtain⟨B,_⟩:=ED A;split at b
  .rename_i C;obtain⟨H,b1,D⟩:=C;cases b;have i:RP (bad X.M E) w (.sl rows) (a.eval x):=(h.cY z).1;have hR:=nL.1 D;generalize a.eval x=y at i
   cases i with
   |nil=>simp at b1;omega
   |@row _ g o cap sz f F I J G k l=>
    have m:sz=1:=by
     cases rows with
     |nil=>exact absurd rfl F
     |cons r rows=>rw[<-G r (by simp),hR r (by simp)]
    subst m;refine⟨.pointer (some ⟨g,o,none⟩),?_,g,o,rfl,λj p q=>?_⟩
    .simp[Instr.arrayAt,run_underlying B,Nat.not_lt.2 b1]
    .rw[QY (λr i=>hR r (iR i))]at q;simp only[gV]at q;obtain⟨r,c,s⟩:=q;rw[sr]at c;split at c
     .have k1:=k j r 0 p c s;have k2:=l j r 0 p c s;rw[P7,l_]at k1;exact⟨_,k1.1,k1.2,k2⟩
     .cases c
  .cases b
 .cases b
end
def pY(g:cg->Option Nat):List Field->Nat->Option Nat
 |[],o=>some o
 |f::l,o=>match g f.type with
  |some n=>if f.offset=o/\f.name≠ "_" then pY g l (o+n)else none
  |none=>none
def oJ(P:cD):Nat->cg->Option Nat
 |0,_=>none
 |d+1,t=>match P.underlying t with
  |some (.int _)=>some 1
  |some (.struct fs)=>match pY (oJ P d) fs.toList 0 with
   |some n=>if P.stoodInHeld t=false/\(P.info? t).isSome=true/\dV P t=n then some n else none
   |none=>none
  |_=>none
def Dg(P:cD)(t:cg):Nat:=match P.underlying t with
 |some (.struct _)=>if P.eqGuardType P.depth t then 0 else(oJ P 4 t).getD 0
 |_=>0
theorem VN{g:cg->Option Nat}:∀{l:List Field}{o n:Nat},pY g l o=some n->o<=n
 |[],o,n,h=>by simp[pY]at h;omega
 |f::l,o,n,h=>by
  simp only[pY]at h;split at h
  .split at h
   .have:=VN h;omega
   .cases h
  .cases h
theorem eq_int{P w t k c a b}(e:P.underlying t=some (.int c))(d):
 (Op.equalIn (d+1) t (.int k a) (.int k b)).run P w=.ok (a==b) w:=by
 simp[Op.equalIn,run_underlying e]
theorem Rg{P w t k}(b:P.underlying t=some (.int k)){cs i v}(c:cs[i]?=some v):
 (part t cs i).run P w=.ok v w:=by
 simp[part,isAgg,run_underlying b,c]
def oN(us:Array cr)(o n:Nat)(k:Nat->dH)(a:Nat->Int):Prop:=∀i,i<n->us[o+i]?=some (.int (k i) (a i))
def EqAt(P:cD)(w:cp)(d:Nat)(t:cg)(n:Nat):Prop:=∀(us vs:Array cr)(o:Nat)(k:Nat->dH)(a b:Nat->Int),oN us o n k a->oN vs o n k b->
 ∃u v r,(part t us o).run P w=.ok u w/\(part t vs o).run P w=.ok v w/\(∀e,(Op.equalIn (e+d) t u v).run P w=.ok r w)/\(r=true↔∀i,i<n->a i=b i)
theorem Ln{P w d}(ih:∀t n,oJ P d t=some n->EqAt P w d t n){us vs N k a b}(q:oN us 0 N k a)(s:oN vs 0 N k b)(e):
 ∀(l )(o ),pY (oJ P d) l o=some N->∃r,(∀K:Option Bool×Unit->cp->Result Bool,K (none,()) w=.ok true w->(∀r,K (some r,()) w=.ok r w)->(Sem.run P
       (forIn l ((none:Option Bool),()) λf __s=>
        if f.name= "_" then pure (ForInStep.yield (none,()))
        else do
         let __do_lift<-part f.type us f.offset
         let awY<-part f.type vs f.offset
         let __do_lift<-Op.equalIn (e+d) f.type __do_lift awY
         if __do_lift=false then pure (ForInStep.done (some false,()))else pure (ForInStep.yield (none,())))
       w).andThen K=Result.ok r w)/\(r=true↔∀i,o<=i->i<N->a i=b i)
 |[],o,h=>by
  simp only[pY,iQ]at h;exact⟨true,λK m x=>by simpa using m,by simp;omega⟩
 |f :: l,o,h=>by
  simp only[pY]at h;split at h
  .rename_i n y;split at h
   .rename_i z;obtain⟨rfl,p⟩:=z;have A:=VN h;obtain⟨u,v,r,m,x,B,C⟩:=ih _ _ y us vs f.offset (λi=>k (f.offset+i)) (λi=>a (f.offset+i)) (λi=>b (f.offset+i)) (λi j=>by have:=q (f.offset+i) om;simpa using this) (λi j=>by have:=s (f.offset+i) om;simpa using this);obtain⟨D,F,G⟩:=Ln ih q s e l _ h;refine⟨r&&D,?_,?_⟩
    .intro K k1 k2;simp[p,m,x,B e];cases r
     .simpa using k2 false
     .simpa using F K k1 k2
    .rw [cd,C,G];constructor
     .intro⟨H,I⟩ i j c;by_cases J:f.offset+n<=i
      .exact I i J c
      .have:=H (i-f.offset) om
       rwa [Nat.add_sub_cancel' j]at this
     .intro g;exact⟨λi j=>g _ om om,λi j c=>g i om c⟩
   .cases h
  .cases h
theorem VU{P w d}(ih:∀t n,oJ P d t=some n->EqAt P w d t n){t fs}(p:P.underlying t=some (.struct fs))(q:P.stoodInHeld t=false){n}(f:pY (oJ P d) fs.toList 0=some n)
 {us vs} {k} {a b} (g:oN us 0 n k a) (j:oN vs 0 n k b):∃r,(∀e,(Op.equalIn (e+(d+1)) t (.agg us) (.agg vs)).run P w=.ok r w)/\(r=true↔∀i,i<n->a i=b i):=by
 obtain⟨l⟩:=fs;obtain⟨r,_,m⟩:=Ln ih g j 0 l 0 f;refine⟨r,λe=>?_,m.trans ⟨λh i c=>h i (gk _) c,λh i _ c=>h i c⟩⟩;obtain⟨s,u,v⟩:=Ln ih g j e l 0 f;have:s=r:=by rw[hZ,m,v]
 subst this;show(Op.equalIn ((e+d)+1) t _ _).run P w=_;rw[Op.equalIn];simp[run_underlying p,q];exact u _ (by simp) (λr=>by simp)
theorem UI{P:cD}{w:cp}:∀(d:Nat)(t:cg)(n:Nat),oJ P d t=some n->EqAt P w d t n
 |0,t,n,h=>by cases h
 |d + 1,t,n,h=>by
  intro us vs o k a b l p;rw[oJ]at h;split at h
  .rename_i x c;cases h;have q:=l 0 om;have e2:=p 0 om;refine⟨_,_,_,Rg c q,Rg c e2,λe=>eq_int c (e+d),?_⟩;simp only[beq_iff_eq];exact ⟨λg i f=> by
                           obtain rfl:i=0:=om;exact g,λg=>g 0 om⟩
  .rename_i fs c;split at h
   .rename_i m s;split at h
    .rename_i j;cases h;obtain⟨r,u,v⟩:=VU (w:=w) (λt n=>UI d t n) c j.1 s (us:=us.extract o (o+n)) (vs:=vs.extract o (o+n)) (k:=k) (a:=a) (b:=b)
      (λi f=>by rw[Array.getElem?_extract,mQ,bF (by have:=(fx.1 (l i f)).1;omega)];exact l i f)
      (λi f=>by rw[Array.getElem?_extract,mQ,bF (by have:=(fx.1 (p i f)).1;omega)];exact p i f)
     refine⟨_,_,r,?_,?_,u,v⟩
     .simp[part,isAgg,run_underlying c,run_sizeOf w j.2.1,j.2.2]
     .simp[part,isAgg,run_underlying c,run_sizeOf w j.2.1,j.2.2]
    .cases h
   .cases h
  .cases h
theorem agK{P t n}(h:Dg P t=n)(f:n≠0)(w)(x y){us vs k a b}(q:oN us 0 n k a)(s:oN vs 0 n k b){r}(u:r=true↔∀i,i<n->a i=b i):
 (do eqGuard .eql t x y (.agg us) (.agg vs);binOp .eql t (.agg us) (.agg vs)).run P w=.ok (.bool r) w/\
 (do eqGuard .neq t x y (.agg us) (.agg vs);binOp .neq t (.agg us) (.agg vs)).run P w=.ok (.bool (!r)) w:=by
 unfold Dg at h;split at h
 .rename_i fs g;split at h
  .exact absurd h.symm f
  .rename_i j;have l:(Op.equal t (.agg us) (.agg vs)).run P w=.ok r w:=by
    cases c:oJ P 4 t with
    |none=>rw[c]at h;exact absurd h.symm f
    |some m=>
     rw[c]at h;obtain rfl:m=n:=h;rw[oJ]at c;split at c
     .rename_i F p;rw[g]at p;cases p
     .rename_i v e;rw[g]at e;cases e;split at c
      .rename_i G z;split at c
       .rename_i A;cases c;obtain⟨B,C,D⟩:=VU (w:=w) (λt n=>UI 3 t n) g A.1 z q s;obtain rfl:B=r:=by rw[hZ,D,u]
        exact C 9996
       .cases c
      .cases c
     .cases c
   constructor
   .simp[eqGuard,binOp,run_program,l,j]
   .simp[eqGuard,binOp,run_program,l,j]
 .exact absurd h.symm f
def tN:List C->Option (List (dH×Int))
 |[]=>some []
 |.p (.sc (.int k a))::cs=>(tN cs).map ((k,a):: ·)
 |_=>none
def oo(t:Bool):List (dH×Int)->List (dH×Int)->Bool
 |(_,a)::xs,(_,b)::ys=>oo (t&&a==b) xs ys
 |_,_=>t
def DJ(P:cD)(op:BinOp)(t:cg)(cs ds:List C):Option Bool:=match tN cs,tN ds with
 |some ((i,a)::xs),some ((j,b)::ys)=>if Dg P t=xs.length+1/\i::xs.map (·.1)=j::ys.map (·.1)then match op with
  |.eql=>some (oo (a==b) xs ys)
  |.neq=>some (!oo (a==b) xs ys)
  |_=>none
  else none
 |_,_=>none
def nI(xs:List (dH×Int))(i:Nat):dH×Int:=xs[i]?.getD (.i64,0)
theorem OT:∀{cs:List C}{xs:List (dH×Int)},tN cs=some xs->∀i,i<xs.length->cs[i]?=some (.p (.sc (.int (nI xs i).1 (nI xs i).2)))
 |[],xs,h,i,b=>by cases h;cases b
 |c::cs,xs,h,i,b=>by
  unfold tN at h;split at h
  .cases ‹_::_=[]›
  .rename_i k a e f;cases f;simp only[bY]at h;obtain⟨ys,g,rfl⟩:=h
   cases i with
   |zero=>rfl
   |succ i=>simpa[nI]using OT g i (by simpa using b)
  .cases h
theorem SF:∀{xs ys:List (dH×Int)}{t:Bool},xs.length=ys.length->(oo t xs ys=true↔t=true/\∀i,i<xs.length->(nI xs i).2=(nI ys i).2)
 |[],[],t,_=>by simp[oo]
 |(k,a)::xs,(j,b)::ys,t,h=>by
  rw[oo,SF (by simpa using h),cd,beq_iff_eq,and_assoc];refine and_congr_right λ_=>⟨λ⟨e,f⟩i c=>?_,λg=>⟨by simpa[nI]using g 0 (by simp),λi c=>by simpa[nI]using g (i+1) (by simpa using c)⟩⟩
  cases i with
  |zero=>simpa[nI]using e
  |succ i=>simpa[nI]using f i (by simpa using c)
theorem RP.slice3{M w rows A n cap size}(q:RP M w (.sl rows) (.slice A n cap))(hR:ff size rows){l h}(P:l<=h){m}(N:h<=m)(u:m<=rows.length):
 RP M w (.sl ((rows.take h).drop l)) (.slice (if m=l then A else A.map (·.add (l*size))) (h-l) (m-l)):=by
 by_cases B:l=h
 .subst B;have:(rows.take l).drop l=[]:=by simp
  rw[this,Bm];exact .nil
 .cases q with
  |nil=>simp at u;omega
  |@row _ g o cap sz f R S T K D F=>
   have hlen:((rows.take h).drop l).length=h-l:=by simp;omega
   have G:∀r∈rows,sz=size:=λr q=>by rw[<-K r q];exact hR r q
   have H:m≠l:=om;rw[bO H,<-hlen];simp only[bS,nD];have I:∀(i:Nat)(r:List PV),((rows.take h).drop l)[i]?=some r->rows[l+i]?=some r:=by
    intro i r k;rw[pb,sr]at k;split at k
    .exact k
    .cases k
   have t:∀(i:Nat)(r:List PV)(j:Nat),((rows.take h).drop l)[i]?=some r->o+l*size+i*sz+j=o+(l+i)*sz+j:=by
    intro i r j k;have:=G r (dB (I i r k));subst this;rw[jY];omega
   refine RP.row (sz:=sz) (f:=λi j=>f (l+i) j) (by intro O;rw[O]at hlen;simp at hlen;omega) om om (λr q=>K r (iR (pa q))) ?_ ?_
   .intro i r j p k J;rw[t i r j k];exact D (l+i) r j p (I i r k) J
   .intro i r j p k J;exact F (l+i) r j p (I i r k) J
theorem RP.ahC{M w rows v}(h:RP M w (.sl rows) v):∃A n cap,v=.slice A n cap/\rows.length<=cap:=by
 cases h with
 |nil=>exact⟨_,_,_,rfl,gk _⟩
 |row m k=>exact⟨_,_,_,rfl,k⟩
theorem akO{P}(b)(len cap:Nat)(f){l h m:Int}{k1 k2}(g:f=none/\l=0\/∃k,f=some (.int k l))
 (q:0<=l) (s:l<=h) (t:h<=m) (p:m<=cap) (w):(Instr.sliceBounds b len cap f (some (.int k1 h)) (some (.int k2 m))).run P w=.ok (l.toNat,h.toNat,m.toNat) w:=by
 have e:∀(k:dH)(y:Nat)(c:BoundsCode)(i:Int),0<=i->i<=y->(Instr.sliceBound (.int k i) y c).run P w=.ok i.toNat w:=by
  intro k y c i j n;simp[Instr.sliceBound,asIntOf,j,n]
 rcases g with⟨rfl,rfl⟩| ⟨k,rfl⟩
 .simp[Instr.sliceBounds,e k2 cap _ m om p,e k1 m.toNat _ h om om]
 .simp[Instr.sliceBounds,e k2 cap _ m om p,e k1 m.toNat _ h om om,e k h.toNat _ l q om]
def wE(P:cD)(st:bz)(t:cg)(x:cF)(b:Option cF)(c mx:cF):Option V:=
 match st.arg x,fk P t,st.num b 0,st.arg c,st.arg mx with
 |some (.v (.c (.p (.sl rows)))),some e,some l,some (.v (.c (.p (.sc (.int _ h))))),some (.v (.c (.p (.sc (.int _ m)))))=>
  if 0<=l/\l<=h/\h<=m/\m.toNat<=rows.length/\cf (dV P e) rows=true then some (.v (.c (.p (.sl ((rows.take h.toNat).drop l.toNat)))))else none
 |_,_,_,_,_=>none
section
variable{X:Fx}{E:Env}{st:bz}{a:Act}{w:cp}
theorem ako(h:Rel X E st a w){t x p mx c v}
 (b:wE X.P st t x c p mx=some v):∃u,(Instr.sliceAt t (a.eval x) (c.map a.eval) (some (a.eval p)) (some (a.eval mx))).run X.P w=.ok u w/\RV X.M E w v u:=by
 unfold wE at b;split at b
 .rename_i rows e l k1 y k2 m z B f g i;obtain⟨C,j⟩:=ow B;split at b
  .rename_i D;obtain⟨F,b1,G,H,I⟩:=D;cases b;have k:RP (bad X.M E) w (.sl rows) (a.eval x):=(h.cY z).1;have J:=RP.ei (h.cY g).1;have e2:=RP.ei (h.cY i).1;obtain⟨A,n,cap,q,s⟩:=RP.ahC k;rw[q]at k;have K:=akO (P:=X.P) true n cap (c.map a.eval) (k1:=k1) (k2:=k2) (x_ h f) F b1 G om w;refine⟨_,?_,RP.slice3 k (nL.1 I) (l:=l.toNat) (h:=y.toNat) (m:=m.toNat) om om H⟩;rw[q,J,e2];simp[Instr.sliceAt,Instr.slice,run_underlying C,K,run_sizeOf w j,dV]
  .cases b
 .cases b
end
end
section
open Go.RowKit
open Classical
abbrev Spec:=Nat->Option (V×im×List Nat)
structure cb where
 v:V
 e:im
 rd:List Nat
def XW:im:=⟨[],[]⟩
def cb.pure(v:V):cb:=⟨v,XW,[]⟩
def cb.of(x:V×im):cb:=⟨x.1,x.2,[]⟩
def Ke:cr->cr->Option cr
 |.int k x,.int _ y=>some (.int k (if y<x then y else x))
 |_,_=>none
def Jz:cr->cr->Option cr
 |.int k x,.int _ y=>some (.int k (if y>x then y else x))
 |_,_=>none
def lT(P:cD)(Sp:Spec)(st:bz)(d:Nat)(b:Builtin)(args:List cF)(ts:List cg):Option cb:=
 match b,args,ts with
 |.len,[x],[t]=>(oe P st t x).map cb.pure
 |.append,[s,x],[t,c]=>if t=c then match Sp d with
  |some (.v (.c (.sub _ _ _)),_,_)=>(qK P st t s x).map cb.of
  |_=>(r9 P st d t s x).map cb.of
  else(pn P st d t c s x).map cb.of
 |.copy,[x,y],[t,_]=>(p9 P st t x y).map cb.of
 |.min,[x,y],_=>match st.arg x,st.arg y with
  |some (.v (.c (.p (.sc u)))),some (.v (.c (.p (.sc v))))=>(Ke u v).map λr=>cb.pure (.sc r)
  |_,_=>none
 |.max,[x,y],_=>match st.arg x,st.arg y with
  |some (.v (.c (.p (.sc u)))),some (.v (.c (.p (.sc v))))=>(Jz u v).map λr=>cb.pure (.sc r)
  |_,_=>none
 |.cap,[x],[t]=>match st.arg x,P.underlying t with
  |some (.v (.c .nil)),some (.slice _)=>some (cb.pure (.sc (.int .i64 0)))
  |_,_=>none
 |.delete,[m,k],t::_=>(wx P st t m k).map λe=>⟨.bq [],e,[]⟩
 |_,_,_=>none
def bz.callee(st:bz):cF->Option (FuncId×List Nat)
 |.func f=>some (f,[])
 |x=>match st.arg x with
  |some (.v (.c (.fn f dE)))=>some (f,dE)
  |_=>none
def ur(P:cD)(Sp:Spec)(st:bz)(d:Nat)(x:cF)(args:List cF):Option cb:=
 match st.callee x,args.mapM st.fb,Sp d with
 |some (f,dE),some xs,some (v,b,rd)=>if AA P st d f (xs++dE.map λn=>.c (.ptr n 0)) v b rd then some ⟨v,b,rd⟩else none
 |_,_,_=>none
def bz.cap(st:bz)(x:cF):Option Nat:=match st.arg x with
 |some (.v (.c (.ptr n 0)))=>some n
 |_=>none
def cn(P:cD)(Sp:Spec)(st:bz)(d:Nat)(op:Op):Option cb:=
 match op with
 |.move (.tmp t)=>(st.tmps[t]?).map cb.pure
 |.move x=>(st.arg x).map cb.pure
 |.assign (.tmp t)=>(st.tmps[t]?).map cb.pure
 |.assign x=>(st.arg x).map cb.pure
 |.pick c a b=>match st.arg c with
  |some (.v (.c (.p (.sc (.bool t)))))=>(if t then st.arg a else st.arg b).map cb.pure
  |_=>none
 |.alloc e=>(qh P e).map λcs=>⟨.c (.ptr d 0),⟨[(d,.box cs)],[]⟩,[]⟩
 |.box _ x=>(st.fb x).map λx=>⟨.c (.ptr d 0),⟨[(d,.box x.cells)],[]⟩,[]⟩
 |.build t parts=>(wj P st t parts).map cb.pure
 |.buildSlice t len parts=>(vb P st d t len parts.toList).map cb.of
 |.load t x=>(pq P st t x).map cb.pure
 |.store t x y=>(tH P st t x y).map λe=>⟨.c .dead,e,[]⟩
 |.nilCheck x=>match st.arg x with
  |some (.v (.c (.ptr n o)))=>some (.pure (.c (.ptr n o)))
  |some (.v (.c (.dy n i j)))=>some (.pure (.c (.dy n i j)))
  |some (.v (.c (.ref cells)))=>some (.pure (.c (.ref cells)))
  |some (.v (.c (.fn f dE)))=>some (.pure (.c (.fn f dE)))
  |_=>none
 |.binOp op t x y _=>match st.arg x,st.arg y with
  |some (.v (.c (.p (.sc u)))),some (.v (.c (.p (.sc v))))=>(jG (qf P t) op u v).map λr=>.pure (.sc r)
  |some (.v (.agg cs)),some (.v (.agg ds))=>(DJ P op t cs ds).map λb=>.pure (.sc (.bool b))
  |_,_=>none
 |.unOp op _ x=>match st.arg x with
  |some (.v (.c (.p (.sc u))))=>(vQ op u).map λr=>.pure (.sc r)
  |_=>none
 |.convert s t x=>match kT P st s t x with
  |some v=>some (.pure v)
  |none=>(qE P st s t x).map cb.of
 |.makeSlice t l c=>(v7 P st d t l c).map cb.of
 |.slice t x g h none=>match kZ P st t x g h with
  |some v=>some (.pure v)
  |none=>match g,h with
   |none,none=>(qW P st t x).map cb.of
   |_,_=>none
 |.slice t x g (some h) (some mx)=>(wE P st t x g h mx).map cb.pure
 |.sliceToArrayPointer t x=>(wo P st t x).map cb.pure
 |.makeMap _ none=>some ⟨.c (.mp d),⟨[(d,.map [])],[]⟩,[]⟩
 |.mapUpdate t m k x=>(vU P st t m k x).map λe=>⟨.c .dead,e,[]⟩
 |.fieldAddr t x f=>(qd P st t x f).map cb.pure
 |.indexAddr t x i=>(mc P st t x i).map cb.pure
 |.index t x i=>match st.arg x,st.arg i,P.underlying t with
  |some (.v (.c (.p (.sc (.string s))))),some (.v (.c (.p (.sc (.int _ i))))),some .string=>ib (0<=i) (match s[i.toNat]? with
   |some b=>some (.pure (.sc (.int .u8 b.toNat)))
   |none=>none)
  |some (.v (.agg cs)),some (.v (.c (.p (.sc (.int _ i))))),some (.array n e)=>ib (0<=i/\i<n/\mA P e=true) ((kb P e (cs.drop (i.toNat*dV P e))).map cb.pure)
  |_,_,_=>none
 |.extract (.tmp t) i=>match st.tmps[t]? with
  |some (.bq xs)=>match xs[i]? with
   |some x=>some (.pure (.v x))
   |none=>none
  |_=>none
 |.makeFunc (.func f) first captured=>if first.size=0 then(captured.toList.mapM st.cap).map λp=>.pure (.c (.fn f p))else none
 |.call c=>match c.callee with
  |.value x=>ur P Sp st d x c.args.toList
  |.builtin b=>lT P Sp st d b c.args.toList c.argTypes.toList
  |_=>none
 |_=>none
theorem anN{P f}(h:Own P f)(args)(w):(callFunc f args).run P w=.ok (.enter f args) w:=by
 obtain⟨fn,b,c,e⟩:=h.fn;simp only[callFunc,Sem.run_bind,run_program,Result.andThen_ok,b,c,e,qp,if_false,Sem.run_pure]
def ua(X:Fx)(E:Env)(st:bz)(d:Nat)(a:Act)(o:Oper)(r:cb)(next:Act->cp->Prop):Prop:=
 ∀u w' E',(∀n,¬(d<=n/\n<d+8)->E.N n=none->E'.N n=none)->Rel X E' (st.dQ r.e) a w'->RV X.M E' w' r.v u->next (a.put o.dst u) w'
theorem jy{P o a w w' next Q u}
 (hr:(execOp a.eval o).run P w=.ok (.value u) w') (h:next (a.put o.dst u) w'):o.wp P a w next Q:=by
 unfold Oper.wp;rw[hr];exact h
section
variable{X:Fx}{Sp:Spec}{E:Env}{st:bz}{a:Act}{w:cp}{d:Nat}{o:Oper}{r:cb}{next:Act->cp->Prop}{Q:Exit->Act->cp->Prop}
theorem ua.pure(hn:ua X E st d a o r next)(h:Rel X E st a w){v}(hr:r=.pure v){u}(hv:RV X.M E w v u){s}(h1:execOp a.eval o=(do let x<-s;Pure.pure (Next.value x)))(h2:s.run X.P w=.ok u w):o.wp X.P a w next Q:=by
 subst hr;exact jy (u:=u) (w':=w) (by rw[h1];simp[h2]) (hn u w E (λ_ _ h=>h) h hv)
theorem ua.pure'(hn:ua X E st d a o r next)(h:Rel X E st a w){v}(hr:r=.pure v){u}(hv:RV X.M E w v u)(h1:(execOp a.eval o).run X.P w=.ok (.value u) w):o.wp X.P a w next Q:=by
 subst hr;exact jy (u:=u) (w':=w) h1 (hn u w E (λ_ _ h=>h) h hv)
theorem auj(h:Rel X E st a w)(hF:pC X E st d){b args ts}(ho:o.op=.call ⟨.builtin b,args,ts⟩)
 (he:lT X.P Sp st d b args.toList ts.toList=some r) (hn:ua X E st d a o r next):o.wp X.P a w next Q:=by
 have hex:(execOp a.eval o)=(builtin b ts o.type (args.map λ| .const _=>true|_=>false) (args.map a.eval)):=by
  unfold execOp;rw[ho];rfl
 have eI:=hF d (dx _) om;unfold lT at he;split at he
 .rename_i x t ha ht;have ha':args= #[x]:=nT.1 (by simpa using ha);have nO:ts= #[t]:=nT.1 (by simpa using ht);subst ha' nO;simp only[bY]at he;obtain⟨v,hv,rfl⟩:=he;obtain⟨u,h1,h2⟩:=adH h hv (ty:=o.type);exact hn.pure' h rfl h2 (by rw[hex];simp[builtin,h1])
 .rename_i s x t t' ha ht;have ha':args= #[s,x]:=nT.1 (by simpa using ha);have nO:ts= #[t,t']:=nT.1 (by simpa using ht);subst ha' nO;split at he
  .rename_i htt;subst htt;split at he
   .simp only[bY]at he;obtain⟨⟨v,ef⟩,hv,rfl⟩:=he;obtain⟨u,w',h1,h3,h4⟩:=amx h hv (ty:=o.type);exact jy (u:=u) (w':=w') (by rw[hex];simp[builtin,h1]) (hn u w' E (λ_ _ h=>h) h3 h4)
   simp only[bY]at he;obtain⟨⟨v,ef⟩,hv,rfl⟩:=he;obtain⟨u,w',E',h1,h2,h3,h4⟩:=aeG h eI.1 eI.2.2.2 eI.2.2.1 eI.2.1 hv (ty:=o.type);exact jy (u:=u) (w':=w') (by rw[hex];simp[builtin,h1]) (hn u w' E' (λn qk=>h2 n om) h3 h4)
  .simp only[bY]at he;obtain⟨⟨v,ef⟩,hv,rfl⟩:=he;obtain⟨u,w',E',h1,h2,h3,h4⟩:=ajm h eI.1 eI.2.2.2 eI.2.2.1 eI.2.1 hv (ty:=o.type);exact jy (u:=u) (w':=w') (by rw[hex];simp[builtin,h1]) (hn u w' E' (λn qk=>h2 n om) h3 h4)
 .rename_i x y t t' ha ht;have ha':args= #[x,y]:=nT.1 (by simpa using ha);have nO:ts= #[t,t']:=nT.1 (by simpa using ht);subst ha' nO;simp only[bY]at he;obtain⟨⟨v,ef⟩,hv,rfl⟩:=he;obtain⟨u,w',h1,h3,h4⟩:=auv h hv (ty:=o.type) (t2:=t');exact jy (u:=u) (w':=w') (by rw[hex];simp[builtin,h1]) (hn u w' E (λ_ _ h=>h) h3 h4)
 .rename_i _ x y ha;have ha':args= #[x,y]:=nT.1 (by simpa using ha);subst ha';split at he
  .rename_i u v hx hy;have k1:=RP.ei (h.cY hx).1;have k2:=RP.ei (h.cY hy).1;simp only[bY]at he;obtain⟨q,hq,rfl⟩:=he;unfold Ke at hq;split at hq
   .simp at hq;subst hq;refine hn.pure' h rfl (.sc rfl) ?_;rw[hex];simp[builtin,k1,k2,Builtin.min_,Builtin.min2]
   .cases hq
  .cases he
 .rename_i _ x y ha;have ha':args= #[x,y]:=nT.1 (by simpa using ha);subst ha';split at he
  .rename_i u v hx hy;have k1:=RP.ei (h.cY hx).1;have k2:=RP.ei (h.cY hy).1;simp only[bY]at he;obtain⟨q,hq,rfl⟩:=he;unfold Jz at hq;split at hq
   .simp at hq;subst hq;refine hn.pure' h rfl (.sc rfl) ?_;rw[hex];simp[builtin,k1,k2,Builtin.max_,Builtin.max2]
   .cases hq
  .cases he
 .rename_i x t ha ht;have ha':args= #[x]:=nT.1 (by simpa using ha);have nO:ts= #[t]:=nT.1 (by simpa using ht);subst ha' nO;split at he
  .rename_i e hx hu;cases he;have k1:=(h.cY hx).1;refine hn.pure' h rfl (.sc rfl) ?_;rw[hex];simp only[RC]at k1;simp[builtin,k1,Builtin.cap_,run_underlying hu,goInt]
  .cases he
 .rename_i m k t tl ha ht;have ha':args= #[m,k]:=nT.1 (by simpa using ha);have nO:ts=(t::tl).toArray:=nT.1 (by simpa using ht);subst ha' nO;simp only[bY]at he;obtain⟨ef,hv,rfl⟩:=he;obtain⟨w',h1,h3⟩:=aoW h hv (ts:=tl) (ty:=o.type);exact jy (u:=.tuple #[]) (w':=w') (by rw[hex];simp[builtin,h1]) (hn _ w' E (λ_ _ h=>h) h3 ⟨#[],rfl,rfl,by simp⟩)
 .cases he
theorem apc(h:Rel X E st a w){args:List cF}{xs}(b:args.mapM st.fb=some xs):args.length=xs.length/\∀(i:Nat)(x),xs[i]?=some x->∃u,(args.map a.eval)[i]?=some u/\dR X.M E w x u:=by
 obtain⟨c,e⟩:=qg b;refine⟨c.symm,λi x f=>?_⟩;obtain⟨o,j,g⟩:=e i x f;exact⟨a.eval o,by simp_all,(h.fb g).1⟩
theorem aie(h:Rel X E st a w)(B:pC X E st d){x args ts}(C:o.op=.call ⟨.value x,args,ts⟩)
 (e:ur X.P Sp st d x args.toList=some r) (D:ua X E st d a o r next):o.wp X.P a w next Q:=by
 unfold ur at e;split at e
 .rename_i f dE xs v N rd j l F;split at e
  .rename_i G;cases e;obtain⟨A,H⟩:=apc h l;have m:∃us:Array cr,a.eval x=.func (.func f) #[] us/\us.size=dE.length/\∀(i n:Nat),dE[i]?=some n->∃u,us[i]?=some u/\cS E n λx=>∃g,x.g=some g/\u=.pointer (some ⟨g,0,none⟩):=by
    unfold bz.callee at j;split at j
    .cases j;exact⟨#[],by simp[Act.eval],rfl,λi n k=>by simp at k⟩
    .split at j
     .rename_i I;cases j;exact(h.cY I).1
     .cases j
   obtain⟨us,p,q,s⟩:=m;have c:(args.map a.eval++us).size=(xs++dE.map λn=>V1.c (.ptr n 0)).length:=by simp[q,<-A]
   have b:=alY h B (vals:=args.map a.eval++us) c (λi y k=>by
    rw[lZ]at k;rw[Bs];simp only[Array.size_map];have J:args.size=xs.length:=by rw[<-A];simp
    split at k
    .grind
    .rw[bO om];simp only[cN,bY]at k;obtain⟨n,t,rfl⟩:=k;obtain⟨u,K,L⟩:=s _ n t;refine⟨u,by rw[J];exact K,L⟩) G
   have z:(execOp a.eval o).run X.P w=.ok (.enter f (args.map a.eval++us)) w:=by
    unfold execOp;rw[C];simp[resolve,Deferred.ofValue,p,invoke,anN b.1]
   unfold Oper.wp;rw[z,Oper.upon_enter];refine b.2.mono ?_;rintro _ w' ⟨u,E',rfl,k1,k2,M⟩;exact D u w' E' k1 k2 M
  .cases e
 .cases e
set_option maxHeartbeats 4000000 in
theorem snd(h:Rel X E st a w)(hF:pC X E st d)
 (he:cn X.P Sp st d o.op=some r) (hn:ua X E st d a o r next):o.wp X.P a w next Q:=by
 have eI:=hF d (dx _) om;have hdn:∀n,¬(d<=n/\n<d+8)->n≠d:=λn qk=>om
 cases hop:o.op with
 |move x=>
  rw[hop]at he
  cases x with
  |tmp t=>
   simp only[cn,bY]at he;obtain⟨v,hv,rfl⟩:=he;obtain⟨u,h1,h2⟩:=h.tmps t _ hv;have e1:a.eval (.tmp t)=u:=by simp[Act.eval,h1]
   exact hn.pure' h rfl (u:=a.eval (.tmp t)) (by rw[e1];exact h2) (by unfold execOp;rw[hop];rfl)
  |_=>
   simp only[cn,bY]at he;obtain⟨v,hv,rfl⟩:=he;exact hn.pure' h rfl (h.arg hv).1 (by unfold execOp;rw[hop];rfl)
 |assign x=>
  rw[hop]at he
  cases x with
  |tmp t=>
   simp only[cn,bY]at he;obtain⟨v,hv,rfl⟩:=he;obtain⟨u,h1,h2⟩:=h.tmps t _ hv;have e1:a.eval (.tmp t)=u:=by simp[Act.eval,h1]
   exact hn.pure' h rfl (u:=a.eval (.tmp t)) (by rw[e1];exact h2) (by unfold execOp;rw[hop];rfl)
  |_=>
   simp only[cn,bY]at he;obtain⟨v,hv,rfl⟩:=he;exact hn.pure' h rfl (h.arg hv).1 (by unfold execOp;rw[hop];rfl)
 |pick c x y=>
  rw[hop]at he;simp only[cn]at he;split at he
  .rename_i t hc;have k1:=RP.ei (h.cY hc).1;simp only[bY]at he;obtain⟨v,hv,rfl⟩:=he;refine hn.pure' h rfl (u:=if t then a.eval x else a.eval y) ?_ (by unfold execOp;rw[hop];simp[k1,asBool]);cases t
   .simpa using(h.arg hv).1
   .simpa using(h.arg hv).1
  .cases he
 |alloc e=>
  rw[hop]at he;simp only[cn,bY]at he;obtain⟨cs,hcs,rfl⟩:=he;obtain⟨i,z,hi,hz,hzr⟩:=yH (M:=X.M) (E:=E) (w:=w) hcs;have hb:=h.fresh (w':=w.alloc (.cells z.cells e)) d eI.1 eI.2.2.2 eI.2.2.1 ((Below.refl _ _).alloc (dx _) _) (x:=⟨some w.heap.size,0,0,0⟩) (.inr ⟨rfl,by simp⟩) (.box cs) (λhG=>
   ⟨⟨some w.heap.size,0,0,0⟩,w.heap.size,z.cells,e,by simp[Env.add],rfl,heap_alloc_new w _,hzr.1,λi c hi=>let⟨u,h1,h2,h3⟩:=hzr.2 i c hi; ⟨u,h1,h2.goes hG,h3⟩⟩)
  refine jy (u:=.pointer (some ⟨w.heap.size,0,none⟩)) (w':=w.alloc (.cells z.cells e)) ?_ (hn _ _ _ (λn qk hE=>by grind[Env.lp]) hb.2 (.inr ⟨⟨some w.heap.size,0,0,0⟩,by simp[Env.add],_,rfl,rfl⟩));unfold execOp;rw[hop];simp[Instr.alloc,zeroValue,typeInfo,hi,hz,newVar,newRow]
 |box e x=>
  rw[hop]at he;simp only[cn,bY]at he;obtain⟨y,hy,rfl⟩:=he;obtain⟨k1,k2⟩:=h.fb hy;obtain⟨k3,k4⟩:=dR.cells k1 (by rw[h.bt];exact k2);have hb:=h.fresh (w':=w.alloc (.cells (a.eval x).cells e)) d eI.1 eI.2.2.2 eI.2.2.1 ((Below.refl _ _).alloc (dx _) _) (x:=⟨some w.heap.size,0,0,0⟩) (.inr ⟨rfl,by simp⟩) (.box y.cells) (λhG=>
   ⟨⟨some w.heap.size,0,0,0⟩,w.heap.size,(a.eval x).cells,e,by simp[Env.add],rfl,heap_alloc_new w _,k3,λi c hi=>let⟨u,h1,h2,h3⟩:=k4 i c hi; ⟨u,h1,h2.goes hG,h3⟩⟩)
  refine jy (u:=.pointer (some ⟨w.heap.size,0,none⟩)) (w':=w.alloc (.cells (a.eval x).cells e)) ?_ (hn _ _ _ (λn qk hE=>by grind[Env.lp]) hb.2 (.inr ⟨⟨some w.heap.size,0,0,0⟩,by simp[Env.add],_,rfl,rfl⟩));unfold execOp;rw[hop];rfl
 |build t parts=>
  rw[hop]at he;simp only[cn,bY]at he;obtain⟨v,hv,rfl⟩:=he;obtain⟨u,h1,h2⟩:=aoX h hv;exact hn.pure h rfl h2 (s:=Instr.build t (parts.map λx=>(x.1,a.eval x.2))) (by unfold execOp;rw[hop]) h1
 |buildSlice t len parts=>
  rw[hop]at he;simp only[cn,bY]at he;obtain⟨⟨v,ef⟩,hv,rfl⟩:=he;obtain⟨u,w',E',h1,h2,h3,h4⟩:=ahV h eI.1 eI.2.2.2 eI.2.2.1 hv;exact jy (u:=u) (w':=w') (by unfold execOp;simp_all) (hn u w' E' (λn qk=>h2 n (hdn n qk)) h3 h4)
 |load t x=>
  rw[hop]at he;simp only[cn,bY]at he;obtain⟨v,hv,rfl⟩:=he;obtain⟨u,h1,h2⟩:=ahg h hv;exact hn.pure h rfl h2 (s:=Instr.loadAt t (a.eval x)) (by unfold execOp;rw[hop]) h1
 |store t x y=>
  rw[hop]at he;simp only[cn,bY]at he;obtain⟨ef,hv,rfl⟩:=he;obtain⟨w',E',h1,h2,h3⟩:=auA h hv;have hex:(execOp a.eval o).run X.P w=.ok .skip w':=by unfold execOp;simp_all
  unfold Oper.wp;rw[hex];exact hn undef w' E' (λn _=>h2 n) h3 trivial
 |nilCheck x=>
  rw[hop]at he;simp only[cn]at he;split at he
  .rename_i n off hx;cases he;have hh:=(h.cY hx).1;obtain⟨y,k1,g,k2,k3⟩:=cS.get hh (h.ig hx (n:=n) (by simp[C.names]));exact hn.pure' h rfl (u:=a.eval x) hh (by unfold execOp;simp_all)
  .rename_i n i j hx;cases he;have hh:=(h.cY hx).1;obtain⟨y,k1,k4,g,k2,k3⟩:=cS.get hh (h.ig hx (n:=n) (by simp[C.names]));exact hn.pure' h rfl (u:=a.eval x) hh (by unfold execOp;simp_all)
  .rename_i cells hx;cases he;have hh:=(h.cY hx).1;obtain⟨g,o',k1,k2⟩:=hh;exact hn.pure' h rfl (u:=a.eval x) (h.cY hx).1 (by unfold execOp;simp_all)
  .rename_i f dE hx;cases he;have hh:=(h.cY hx).1;obtain⟨us,k1,k2⟩:=hh;exact hn.pure' h rfl (u:=a.eval x) (h.cY hx).1 (by unfold execOp;simp_all)
  .cases he
 |binOp op t x y yt=>
  rw[hop]at he;simp only[cn]at he;split at he
  .rename_i u v hx hy;simp only[bY]at he;obtain⟨q,hq,rfl⟩:=he;have k1:=RP.ei (h.cY hx).1;have k2:=RP.ei (h.cY hy).1;exact hn.pure h rfl (v:=.sc q) (RP.sc (awD hq)) (s:=do eqGuard op t x y u v;binOp op t u v) (by unfold execOp;simp_all) (ahf t x y hq w)
  .rename_i cs ds hx hy;simp only[bY]at he;obtain⟨b,hb,rfl⟩:=he;obtain⟨us,k1,k2,k3⟩:=(h.arg hx).1;obtain⟨vs,j1,j2,j3⟩:=(h.arg hy).1;unfold DJ at hb;split at hb
   .rename_i i0 a0 xs j0 b0 ys hcs AU;split at hb
    .rename_i hc;obtain⟨ht,hk⟩:=hc;simp only[GY]at hk;obtain⟨rfl,hk⟩:=hk;have hl:xs.length=ys.length:=by simpa using cO List.length hk
     have kk:∀i,(nI ((i0,b0)::ys) i).1=(nI ((i0,a0)::xs) i).1:=λi=>by
      cases i with
      |zero=>rfl
      |succ i=>
       have:=cO (λl:List dH=>l[i]?) hk;grind[nI]
     have hu:oN us 0 (xs.length+1) (λi=>(nI ((i0,a0)::xs) i).1) (λi=>(nI ((i0,a0)::xs) i).2):=λi hi=>by
      obtain⟨u,q1,q2,_⟩:=k3 i _ (OT hcs i hi);rw[mQ,q1,RP.ei q2]
     have hv:oN vs 0 (xs.length+1) (λi=>(nI ((i0,a0)::xs) i).1) (λi=>(nI ((i0,b0)::ys) i).2):=λi hi=>by
      obtain⟨u,q1,q2,_⟩:=j3 i _ (OT AU i (by simp_all));rw[mQ,q1,RP.ei q2,kk]
     obtain⟨r1,r2⟩:=agK ht om w x y hu hv (r:=oo (a0==b0) xs ys) (by
      rw[SF hl,beq_iff_eq];refine⟨λ⟨g1,g2⟩i hi=>?_,λg=>⟨g 0 om,λi hi=>g (i+1) om⟩⟩
      cases i with
      |zero=>exact g1
      |succ i=>exact g2 i om)
     split at hb
     .cases hb;exact hn.pure h rfl (v:=.sc (.bool _)) (RP.sc rfl) (s:=do eqGuard .eql t x y (a.eval x) (a.eval y);binOp .eql t (a.eval x) (a.eval y)) (by unfold execOp;rw[hop]) (by simp_all)
     .cases hb;exact hn.pure h rfl (v:=.sc (.bool _)) (RP.sc rfl) (s:=do eqGuard .neq t x y (a.eval x) (a.eval y);binOp .neq t (a.eval x) (a.eval y)) (by unfold execOp;rw[hop]) (by simp_all)
     .cases hb
    .cases hb
   .cases hb
  .cases he
 |unOp op t x=>
  rw[hop]at he;simp only[cn]at he;split at he
  .rename_i u hx;simp only[bY]at he;obtain⟨q,hq,rfl⟩:=he;have k1:=RP.ei (h.cY hx).1;have k2:=aiz (P:=X.P) hq w;exact hn.pure h rfl (v:=.sc q) (RP.sc k2.2) (s:=Op.unary op (a.eval x)) (by unfold execOp;rw[hop]) (by simp_all)
  .cases he
 |convert s t x=>
  rw[hop]at he;simp only[cn]at he;split at he
  .rename_i v hv;cases he;obtain⟨u,h1,h2⟩:=apw h hv;exact hn.pure h rfl h2 (s:=convert s t (a.eval x)) (by unfold execOp;rw[hop]) h1
  .simp only[bY]at he;obtain⟨⟨v,ef⟩,hv,rfl⟩:=he;obtain⟨u,w',h1,h2,h3⟩:=aqy h hv;exact jy (u:=u) (w':=w') (by unfold execOp;simp_all) (hn u w' E (λ_ _ h=>h) h2 h3)
 |makeSlice t l c=>
  rw[hop]at he;simp only[cn,bY]at he;obtain⟨⟨v,ef⟩,hv,rfl⟩:=he;obtain⟨u,w',E',h1,h2,h3,h4⟩:=alw h eI.1 eI.2.2.2 eI.2.2.1 hv;exact jy (u:=u) (w':=w') (by unfold execOp;simp_all) (hn u w' E' (λn qk=>h2 n (hdn n qk)) h3 h4)
 |sliceToArrayPointer t x=>
  rw[hop]at he;simp only[cn,bY]at he;obtain⟨v,hv,rfl⟩:=he;obtain⟨u,h1,h2⟩:=anE h hv;exact hn.pure h rfl h2 (s:=Instr.arrayAt t (a.eval x)) (by unfold execOp;rw[hop]) h1
 |slice t x lo hi mx=>
  rw[hop]at he
  cases mx with
  |some mx=>
   cases hi with
   |none=>simp[cn]at he
   |some hi=>
    simp only[cn,bY]at he;obtain⟨v,hv,rfl⟩:=he;obtain⟨u,h1,h2⟩:=ako h hv;exact hn.pure h rfl h2 (s:=Instr.sliceAt t (a.eval x) (lo.map a.eval) (some (a.eval hi)) (some (a.eval mx))) (by unfold execOp;rw[hop];rfl) h1
  |none=>
   simp only[cn]at he;split at he
   .rename_i v hv;cases he;obtain⟨u,h1,h2⟩:=apI h hv;exact hn.pure h rfl h2 (s:=Instr.sliceAt t (a.eval x) (lo.map a.eval) (hi.map a.eval) none) (by unfold execOp;rw[hop];rfl) h1
   .split at he
    .simp only[bY]at he;obtain⟨⟨v,ef⟩,hv,rfl⟩:=he;obtain⟨u,E',h1,h2,h3,h4⟩:=aly h hv;exact jy (u:=u) (w':=w) (by unfold execOp;simp_all) (hn u w E' (λn _=>h2 n) h3 h4)
    .cases he
 |makeMap t r=>
  rw[hop]at he
  cases r with
  |some _=>simp[cn]at he
  |none=>
   simp only[cn,iQ]at he;subst he;have hb:=h.fresh (w':=w.alloc (.map #[] 0)) d eI.1 eI.2.2.2 eI.2.2.1 ((Below.refl _ _).alloc (dx _) _) (x:=⟨some w.heap.size,0,0,0⟩) (.inr ⟨rfl,by simp⟩) (.map []) (λhG=>
    ⟨⟨some w.heap.size,0,0,0⟩,w.heap.size,#[],0,by simp[Env.add],rfl,heap_alloc_new w _,by simp⟩)
   refine jy (u:=.map (some w.heap.size)) (w':=w.alloc (.map #[] 0)) ?_ (hn _ _ _ (λn qk hE=>by grind[Env.lp]) hb.2 (.inr ⟨⟨some w.heap.size,0,0,0⟩,by simp[Env.add],_,rfl,rfl⟩));unfold execOp;rw[hop];rfl
 |mapUpdate t m k x=>
  rw[hop]at he;simp only[cn,bY]at he;obtain⟨ef,hv,rfl⟩:=he;obtain⟨w',h1,h2⟩:=ama h hv;have hex:(execOp a.eval o).run X.P w=.ok .skip w':=by unfold execOp;simp_all
  unfold Oper.wp;rw[hex];exact hn undef w' E (λ_ _ h=>h) h2 trivial
 |fieldAddr t x f=>
  rw[hop]at he;simp only[cn,bY]at he;obtain⟨v,hv,rfl⟩:=he;obtain⟨u,h1,h2⟩:=alp h hv;exact hn.pure h rfl h2 (s:=Instr.fieldAt t (a.eval x) f) (by unfold execOp;rw[hop]) h1
 |indexAddr t x i=>
  rw[hop]at he;simp only[cn,bY]at he;obtain⟨v,hv,rfl⟩:=he;obtain⟨u,h1,h2⟩:=anh h hv;exact hn.pure h rfl h2 (s:=Instr.indexAt t (a.eval x) (a.eval i)) (by unfold execOp;rw[hop]) h1
 |index t x i=>
  rw[hop]at he;simp only[cn]at he;split at he
  .rename_i s k i' hx hi hu;unfold ib at he;have k1:=RP.ei (h.cY hx).1;have k2:=RP.ei (h.cY hi).1;split at he
   .rename_i h0;split at he
    .rename_i b hb;cases he;refine hn.pure h rfl (v:=.sc (.int .u8 b.toNat)) (u:=.int .u8 b.toNat) (RP.sc rfl) (s:=Instr.index t (a.eval x) (a.eval i)) (by unfold execOp;rw[hop]) ?_;rw[k1,k2];simp[Instr.index,asIntOf,run_underlying hu,h0,hb]
    .cases he
   .cases he
  .rename_i cs k i' n e hx hi hu;unfold ib at he;have k2:=RP.ei (h.cY hi).1;obtain⟨us,k1,k3,k4⟩:=(h.arg hx).1;split at he
   .rename_i h0;obtain⟨h1,h2,h3⟩:=h0;simp only[bY]at he;obtain⟨v,hv,rfl⟩:=he;obtain⟨u,h4,h5⟩:=afP (w:=w) hv k3 k4;refine hn.pure h rfl h5 (s:=Instr.index t (a.eval x) (a.eval i)) (by unfold execOp;rw[hop]) ?_;rw[k1,k2];simp only[Instr.index,asIntOf,Sem.run_bind,Sem.run_pure,Result.andThen_ok,run_underlying hu,bF (And.intro h1 h2),run_sizeOf w h3];exact h4
   .cases he
  .cases he
 |extract t i=>
  rw[hop]at he
  cases t with
  |tmp t=>
   simp only[cn]at he;split at he
   .rename_i xs hx;split at he
    .rename_i x hxi;cases he;obtain⟨u,h1,us,h2,h3,h4⟩:=h.tmps t _ hx;subst h2;obtain⟨u',h5,h6⟩:=h4 i x hxi;refine hn.pure h rfl (v:=.v x) (u:=u') h6 (s:=Instr.extract (a.eval (.tmp t)) i) (by unfold execOp;rw[hop]) ?_;simp[Act.eval,u5,h1,Instr.extract,h5]
    .cases he
   .cases he
  |const=>simp[cn]at he
  |global=>simp[cn]at he
  |func=>simp[cn]at he
 |makeFunc fn first captured=>
  rw[hop]at he
  cases fn with
  |func f=>
   simp only[cn]at he;split at he
   .rename_i hz;simp only[bY]at he;obtain⟨ns,hns,rfl⟩:=he;have hfe:first= #[]:=P3 hz
    obtain⟨h1,h2⟩:=qg hns;refine hn.pure' h rfl (v:=.c (.fn f ns)) (u:=.func (.func f) #[] (captured.map a.eval)) ⟨_,rfl,by simp[h1],λi n hi=>?_⟩ (by unfold execOp;rw[hop];simp[Instr.makeFunc,hfe]);obtain⟨x,h3,h4⟩:=h2 i n hi;refine⟨a.eval x,by simp_all,?_⟩;unfold bz.cap at h4;split at h4
    .rename_i hx;cases h4;exact(h.cY hx).1
    .cases h4
   .cases he
  |_=>simp[cn]at he
 |call c=>
  obtain⟨callee,args,ts⟩:=c;grind[auj,cn,aie]
 |_=>rw[hop]at he;simp[cn]at he
end
end
end
end Go.Proofs.YtndegphojkiblaaGreatDoor
