/- A part. -/
import Derived.Test.YtndegphojkiblaaGreatDoorG1
import Derived.Laws.Tables
import Derived.Laws.BytesArg
import Derived.Laws.IdiomStrings
set_option linter.all false
set_option maxHeartbeats 4000000
set_option maxRecDepth 100000
namespace Go.Proofs.YtndegphojkiblaaGreatDoor
noncomputable section
section
open Go.RowKit
open Classical
def Env.drop(E:Env)(d:List Nat):Env:=⟨λn=>if n∈d then none else E.N n,d++E.bt⟩
theorem drop_nil(E:Env):E.drop []=E:=by simp[Env.drop]
theorem me{E:Env}{b n x}(h:(E.drop b).N n=some x):E.N n=some x/\n∉b:=by
 simp_all[Env.drop]
theorem qM{M E b g}(h:bad M (E.drop b) g):bad M E g:=by
 rcases h with h| ⟨n,x,c,d⟩
 .exact .inl h
 .exact .inr ⟨n,x,(me c).1,d⟩
theorem I5(M)(E)(c)(w):gL M E (E.drop c) w w:={
 cell:=λ_ _ _ d e=>⟨d,λh=>e (qM h)⟩
 name:=λn x f=>by
  by_cases b:n∈c
  .exact .inl (by simp[Env.drop,b])
  .exact .inr (by simp[Env.drop,b,f])
 bt:=λn b=>by simp[Env.drop,b]}
section
variable{X:Fx}{E:Env}{st:bz}{a:Act}{w:cp}
theorem Rel.drop(h:Rel X E st a w)(k)(o:∀n∈k,n<st.next):Rel X (E.drop k) (st.dQ ⟨[],k⟩) a w:=
 h.step ⟨[],k⟩ (nx:=st.next) (dx _) (I5 _ _ _ _) (by simp[Env.drop,h.bt]) h.frame (λn x d=>h.dD n x (me d).1) (λn x g d=>h.names n x g (me d).1)
  (λn m x y g d q=>h.inj n m x y g (me d).1 (me q).1) (λm _=>by simp only[Env.drop];split;exact .inl rfl;exact .inr rfl) o (λ_ _ _ _ _ _ _=>rfl) (λn b t=>by simp at t)
theorem Rel.write(h:Rel X E st a w){n x}(H:E.N n=some x){g}(q:x.g=some g){D e O}(R:w.heap[g]?=some (.cells D e O))(us)(d)(I:∀m∈d,m<st.next)(b)
 (S:gL X.M E (E.drop d) w (w.setRow g us)->(w.setRow g us).heap[g]?=some (.cells us e O)->n∉d->RB X.P X.M (E.drop d) (w.setRow g us) n b):
 gL X.M E (E.drop d) w (w.setRow g us)/\Rel X (E.drop d) (st.dQ ⟨[(n,b)],d⟩) a (w.setRow g us):=by
 have t:∀k,k≠g->(w.setRow g us).heap[k]?=w.heap[k]?:=λk A=>setRow_other w g k _ A
 have J:(w.setRow g us).heap.size=w.heap.size:=by simp_all
 obtain⟨T,K,U⟩:=h.names n x g H q;have M:gL X.M E (E.drop d) w (w.setRow g us):={
  cell:=λk o u k1 k2=>by
   have:k≠g:=by rintro rfl;exact k2 (.inr ⟨n,x,H,q⟩)
   exact⟨(World.cell?_of_block (w:=w) (a:=⟨k,o,none⟩) (t k this)).trans k1,λh=>k2 (qM h)⟩
  name:=(I5 X.M E d w).name
  bt:=(I5 X.M E d w).bt}
 refine⟨M,h.step ⟨[(n,b)],d⟩ (nx:=st.next) (dx _) M (by simp[Env.drop,h.bt]) ?_ (λn x F=>h.dD n x (me F).1) (λn x g F=>by rw[J];exact h.names n x g (me F).1)
  (λn m x y g F N=>h.inj n m x y g (me F).1 (me N).1) (λm _=>by simp only[Env.drop];split;exact .inl rfl;exact .inr rfl) I ?_ ?_⟩
 .refine h.frame.trans (K':=λk=>k=g) ⟨rfl,rfl,rfl,om,λk _ A=>t k A⟩ ?_;rintro k A rfl;rcases K with P|P
  .exact P
  .omega
 .intro m y k N A _ B;refine t _ λW=>?_
  subst W;have:=h.inj m n y x k N H A q;simp_all
 .intro m Y B;simp only[hX,nR]at B;split at B
  .rename_i G;simp at G B;subst G B;by_cases Q:m∈d
   .exact .inl (by simp[Env.drop,Q])
   .exact .inr (S M (setRow_heap w g D us e _ R) Q)
  .cases B
theorem Rel.aku(h:Rel X E st a w){n x}(d:E.N n=some x):n<st.next:=h.dD n x d
def bz.sink(st:bz):C->Option (PV×List Nat)
 |.p q=>some (q,[])
 |.nil=>some (.sl [],[])
 |.own n=>match st.heap.lookup n with
  |some (.row _ rows)=>some (.sl rows,[n])
  |_=>none
 |.sub n d len=>match st.heap.lookup n with
  |some (.row _ rows)=>some (.sl ((rows.drop d).take len),[n])
  |_=>none
 |_=>none
theorem Rows.rp{M d w rows v}(h:Rows M w rows v)(B:∀g,d g->M g)(D:∀g o n c,v=.slice (some ⟨g,o,none⟩) n c->¬d g):RP d w (.sl rows) v:=by
 rcases h with⟨rfl,A,cap,rfl⟩| ⟨g,o,cap,sz,f,rfl,F,G,H,hR,t⟩
 .exact .nil
 .have I:iP M d w w:=λk o u J K=>⟨J,λh=>K (B k h)⟩
  exact .row F G H hR (λi r j p m q=>⟨(t i r j p m q).1,D g o _ _ rfl⟩) (λi r j p m q=>(t i r j p m q).2.trans I)
theorem Rel.sink(h:Rel X E st a w){c v q I}(F:RC X.M E w c v)(O:∀n∈c.names,n∉st.bt)(t:st.sink c=some (q,I)):
 (∀n∈I,n<st.next)/\(∀n∈I,n∉st.bt)/\∀d,(∀n∈I,n∈d)->RP (bad X.M (E.drop d)) w q v:=by
 have P:∀d,iP (bad X.M E) (bad X.M (E.drop d)) w w:=λd k o u B G=>⟨B,λh=>G (qM h)⟩
 have key :∀n J len,n∉st.bt->RC X.M E w c v->(c=.own n\/c=.sub n J len)->∀rows,st.view c=some rows->
  (∀k∈ [n],k<st.next)/\(∀k∈ [n],k∉st.bt)/\∀d,(∀k∈ [n],k∈d)->RP (bad X.M (E.drop d)) w (.sl rows) v:=by
  intro n J len D F Q rows K;have R:=h.view F O K;have S :∃x,E.N n=some x/\∀g o m M,v=.slice (some ⟨g,o,none⟩) m M->x.g=some g\/m=0:=by
   rcases Q with rfl|rfl
   .obtain⟨x,B,rfl⟩:=cS.get F (by rw[h.bt];exact D);simp_all
   .obtain⟨x,B,G,A,rfl,Z⟩:=cS.get F (by rw[h.bt];exact D);refine⟨x,B,λg o m M he=>?_⟩;simp at he;by_cases aa:len=0
    .omega
    .simp only[bz.view]at K;split at K
     .rename_i e rs T;obtain⟨x',ab,fz,k3,ad,k4,k5,k6,_⟩:=h.row D T;rw[B]at k3;cases k3;rw[Z om]at he
      cases H:x.g with
      |none=>simp_all
      |some g'=>simp_all
     .cases K
  obtain⟨x,U,S⟩:=S;refine⟨by simpa using h.aku U,by simpa using D,λd ae=>?_⟩;by_cases N:rows=[]
  .subst N;rcases R with⟨_,A,cap,rfl⟩| ⟨_,_,_,_,_,_,N,_⟩
   .exact .nil
   simp_all
  .refine R.rp (λg H=>qM H) ?_;rintro g o m M rfl W;have H:x.g=some g:=by
    rcases S g o m M rfl with B|B
    .exact B
    .rcases R with⟨G,_⟩| ⟨g',o',cap,sz,f,G,_⟩
     .exact absurd G N
     .simp at G;exact absurd (jX om) N
   rcases W with W| ⟨k,y,B,G⟩
   .exact(h.names n x g U H).2.2 W
   .obtain⟨h3,Z⟩:=me B;have:=h.inj k n y x g h3 U G H;simp_all
 cases c with
 |p q'=>obtain⟨rfl,rfl⟩:=t;exact⟨by simp,by simp,λd _=>RP.trans F (P d)⟩
 |nil=>obtain⟨rfl,rfl⟩:=t;cases F;exact⟨by simp,by simp,λd _=>.nil⟩
 |own n=>
  simp only[bz.sink]at t;split at t
  .rename_i e rows Y;obtain⟨rfl,rfl⟩:=t;exact key n 0 0 (O n (by simp[C.names])) F (.inl rfl) rows (by simp[bz.view,Y])
  .cases t
 |sub n J len=>
  simp only[bz.sink]at t;split at t
  .rename_i e rows Y;obtain⟨rfl,rfl⟩:=t;exact key n J len (O n (by simp[C.names])) F (.inr rfl) _ (by simp[bz.view,Y])
  .cases t
 |_=>cases t
def bz.sinks(st:bz):List C->Option (List PV×List Nat)
 |[]=>some ([],[])
 |c::cs=>match st.sink c,st.sinks cs with
  |some (q,d),some (h,k)=>some (q::h,d++k)
  |_,_=>none
theorem aaf{st:bz}:∀{cs:List C}{e:List PV}{f:List Nat},st.sinks cs=some (e,f)->e.length=cs.length/\(∀(i:Nat)(q:PV),e[i]?=some q->∃c b,cs[i]?=some c/\st.sink c=some (q,b)/\∀m∈b,m∈f)/\
 ∀n∈f,∃c q b,c∈cs/\st.sink c=some (q,b)/\n∈b
 |[],e,f,h=>by simp[bz.sinks]at h;simp_all
 |c :: cs,e,f,h=>by
  simp only[bz.sinks]at h;split at h
  .rename_i q b s t r u;obtain⟨rfl,rfl⟩:=h;obtain⟨v,x,y⟩:=aaf u;refine⟨by simp[v],λi g j=>?_,λn z=>?_⟩
   .cases i with
    |zero=>simp at j;subst j;exact⟨c,b,rfl,r,λm k=>sq _ k⟩
    |succ i=>
     obtain⟨l,d,k1,k2,o⟩:=x i g (by simpa using j);exact⟨l,d,by simpa using k1,k2,λm k=>qq _ (o m k)⟩
   .rcases fo.1 z with p|p
    .exact⟨c,q,b,by simp,r,p⟩
    .obtain⟨l,g,d,k1,k2,o⟩:=y n p;exact⟨l,g,d,by simp[k1],k2,o⟩
  .cases h
theorem Rel.sinks(h:Rel X E st a w){cs}{us:Array cr}{o m}(t:us.size=cs.length)(F:∀(i:Nat)(c),cs[i]?=some c->∃u,us[i]?=some u/\RC X.M E w c u)(G:∀c∈cs,∀n∈c.names,n∉st.bt)(K:st.sinks cs=some (o,m)):
 o.length=us.size/\(∀n∈m,n<st.next)/\(∀n∈m,n∉st.bt)/\∀k,(∀n∈m,n∈k)->∀(i:Nat)(q),o[i]?=some q->∃u,us[i]?=some u/\RP (bad X.M (E.drop k)) w q u:=by
 obtain⟨M,N,O⟩:=aaf K;have hall:∀n∈m,n<st.next/\n∉st.bt:=by
  intro n d;obtain⟨c,q,P,k1,k2,H⟩:=O n d;obtain⟨i,A,rfl⟩:=iE k1;obtain⟨u,I,B⟩:=F i _ (cW A);obtain⟨J,Q,_⟩:=h.sink B (G _ k1) k2;simp_all
 refine⟨by rw[M,t],λn d=>(hall n d).1,λn d=>(hall n d).2,λk D i q A=>?_⟩;obtain⟨c,P,k1,k2,H⟩:=N i q A;obtain⟨u,I,B⟩:=F i c k1;obtain⟨_,_,J⟩:=h.sink B (G c (dB k1)) k2;exact⟨u,I,J k (λn d=>D n (H n d))⟩
theorem Vi{bt y}(d:(V.v y).live bt=true):∀c∈y.cells,∀n∈c.names,n∉bt:=by
 cases y with
 |c c=>intro e b;simp[V1.cells]at b;subst b;exact(HD d).2
 |agg cs=>exact aqb d
def tH(P:cD)(st:bz)(t:cg)(x y:cF):Option im:=
 match st.arg x,st.arg y with
 |some (.v (.c (.ptr n off))),some (.v y)=>match st.heap.lookup n with
  |some (.box cs)=>if y.cells.length=dV P t/\off+y.cells.length<=cs.length/\mA P t=true then some ⟨[(n,.box (cs.take off++y.cells++cs.drop (off+y.cells.length)))],[]⟩else none
  |_=>none
 |some (.v (.c (.dy n i j))),some (.v y)=>match st.heap.lookup n,st.sinks y.cells with
  |some (.row e rows),some (b,c)=>match rows[i]? with
   |some r=>if b.length=dV P t/\j+b.length<=r.length/\mA P t=true/\n∉c then some ⟨[(n,.row e (rows.set i (r.take j++b++r.drop (j+b.length))))],c⟩else none
   |none=>none
  |_,_=>none
 |_,_=>none
theorem rl{α:Type}{l ys:List α}{off k}(h:off+ys.length<=l.length):(l.take off++ys++l.drop (off+ys.length))[k]?=if off<=k/\k<off+ys.length then ys[k-off]? else l[k]?:=by
 rw[eU,lZ];have:(l.take off).length=off:=by simp;omega
 rw[this];split
 .rename_i b;rw[bO om,sr,bF b]
 .rw[lZ];split
  .rw[bF om]
  .rw[bO om,pb];congr 1;omega
theorem mr.not{n k}(h:mr n k){w:cp}{g d e}(m:w.heap[g]?=some (.cells d e k)){i}(o:i<n):w.frozen? ⟨g,i,none⟩=false:=by
 simp only[World.frozen?,m,Bool.and_eq_false_iff,u6];rcases h with h|h
 .simp_all
 omega
theorem z7(P)(g o)(t)(d):∀(vs)(i)(b)(w),mr b.size d->w.heap[g]?=some (.cells b t d)->o+i+vs.length<=b.size->(∀v∈vs,v.oneCell'=true)->
 (storeCells ⟨g,o,none⟩ vs i).run P w=.ok () (w.setRow g (b.toList.take (o+i)++vs++b.toList.drop (o+i+vs.length)).toArray)
 |[],i,b,w,j,c,_,_=>by
  simp only[storeCells,ju,su,l_,List.take_append_drop,Array.toArray_toList];rw[setRow_self w g b t d c];rfl
 |v::rest,i,b,w,j,c,l,m=>by
  have n:o+i<b.size:=by simp at l;omega
  have f:(⟨g,o,none⟩:Addr).add i=⟨g,o+i,none⟩:=by unfold Addr.add;simp_all
  have hcell:w.cell? ⟨g,o+i,none⟩=some b[o+i]:=by simp[World.cell?,c,n]
  have h:w.frozen? ⟨g,o+i,none⟩=false:=j.not c n;have k:(store ((⟨g,o,none⟩:Addr).add i) v).run P w=.ok () (w.setRow g (b.setIfInBounds (o+i) v)):=by
   rw[f,run_store P w _ v _ (m v (by simp)),hcell];simp[h,setCell_eq_setRow w g (o+i) b t d v c]
  have ih:=z7 P g o t d rest (i+1) (b.setIfInBounds (o+i) v) (w.setRow g (b.setIfInBounds (o+i) v)) (by simpa using j) (setRow_heap w g b _ t _ c) (by simp at l⊢;omega) (λx p=>m x (by simp[p]));simp only[storeCells,Sem.run_bind,k,Result.andThen_ok,ih,setRow_setRow];congr 3;have e:=list_seg_step b.toList (o+i) v rest om;simpa[Array.toList_setIfInBounds,Bl]using e
theorem TQ(P){t g o v b e d w}(f:mr b.size d)(k:w.heap[g]?=some (.cells b e d))(h:v.cells.size=dV P t)(l:mA P t=true)(j:o+v.cells.size<=b.size)
 (c:∀u∈v.cells.toList,u.oneCell'=true):
 (Instr.storeAt t (.pointer (some ⟨g,o,none⟩)) v).run P w=.ok () (w.setRow g (b.toList.take o++v.cells.toList++b.toList.drop (o+v.cells.toList.length)).toArray):=by
 have i:=z7 P g o e d v.cells.toList 0 b w f k om c;have:¬v.cells.size≠dV P t:=by rw[h];simp
 simp only[Instr.storeAt,Instr.sureAddr,storeVar,Sem.run_bind,Sem.run_pure,Result.andThen_ok,run_sizeOf w l,this,if_false];exact i
theorem auA(h:Rel X E st a w){t x y ef}
 (v:tH X.P st t x y=some ef):∃w' E',(Instr.storeAt t (a.eval x) (a.eval y)).run X.P w=.ok () w'/\(∀n,E.N n=none->E'.N n=none)/\Rel X E' (st.dQ ef) a w':=by
 unfold tH at v;split at v
 .rename_i n off M U hy;have V:=h.ig U (n:=n) (by simp[C.names]);obtain⟨z,H,g,K,W⟩:=cS.get (h.cY U).1 V;obtain⟨N,I⟩:=h.arg hy;split at v
  .rename_i cs hl;split at v
   .rename_i hb;cases v;obtain⟨O,f,D⟩:=hb;obtain⟨x',g',b,e,Y,Z,h4,h5,h6⟩:=h.row (by rw[<-h.bt];exact V) hl;rw[H]at Y;cases Y;rw[K]at Z;cases Z;obtain⟨k1,k2⟩:=dR.cells N (by rw[h.bt];exact I);have F:∀u∈(a.eval y).cells.toList,u.oneCell'=true:=by
     intro u hu;obtain⟨i,s,P⟩:=iE hu;have d:i<M.cells.length:=by rw[<-k1];simpa using s
     obtain⟨u',j1,Q,J⟩:=k2 i _ (cW d);have:(a.eval y).cells[i]?=some u:=by rw[<-P];simp[pd (by simpa using s:i< (a.eval y).cells.size)]
     rw[this]at j1;cases j1;exact J
    have hrun:=TQ X.P (t:=t) (o:=off) (.inl rfl) h4 (by rw[k1,O]) D (by rw[k1,h5];exact f) F;have hcell:∀(i:Nat)(c:C),(cs.take off++M.cells++cs.drop (off+M.cells.length))[i]?=some c->∃u,(b.toList.take off++(a.eval y).cells.toList++b.toList.drop (off+(a.eval y).cells.toList.length)).toArray[i]?=some u/\RC X.M E w c u/\u.oneCell'=true:=by
     intro i c s;rw[rl f]at s;rw[Bp,rl (by simp[k1,h5];exact f)];simp only[P5,k1];split
     .rename_i hc;rw[bF hc]at s;obtain⟨u,j1,Q,J⟩:=k2 _ c s;exact⟨u,by simpa using j1,Q,J⟩
     .rename_i hc;rw[bO hc]at s;obtain⟨u,j1,Q,J⟩:=h6 _ c s;exact⟨u,by simpa using j1,Q,J⟩
    have hw:=h.write H K h4 (b.toList.take off++(a.eval y).cells.toList++b.toList.drop (off+(a.eval y).cells.toList.length)).toArray [] (by simp) (.box (cs.take off++M.cells++cs.drop (off+M.cells.length))) (λhG G _=>by
     refine⟨z,g,_,e,by exact H,K,G,by simp[k1,h5],λi c s=>?_⟩;obtain⟨u,j1,Q,J⟩:=hcell i c s;exact⟨u,j1,Q.goes hG,J⟩)
    exact⟨_,_,by rw[W];exact hrun,λm hm=>by exact hm,hw.2⟩
   .cases v
  .cases v
 .rename_i n i j M U hy;have V:=h.ig U (n:=n) (by simp[C.names]);obtain⟨z,H,s,g,K,W⟩:=cS.get (h.cY U).1 V;obtain⟨N,I⟩:=h.arg hy;split at v
  .rename_i e rows R ns hl ah;split at v
   .rename_i r hr;split at v
    .rename_i hb;cases v;obtain⟨O,f,D,ap⟩:=hb;obtain⟨x',b,fz,Y,aa,ai,h5,aj,ab,ad,ae,ak,hR,hnone,h6⟩:=h.row (by rw[<-h.bt];exact V) hl;rw[H]at Y;cases Y;have h4:=ai g K;obtain⟨k1,k2⟩:=dR.cells N (by rw[h.bt];exact I);obtain⟨s1,s2,s3,s4⟩:=h.sinks k1 (λi c s=>let⟨u,q1,q2,_⟩:=k2 i c s; ⟨u,q1,q2⟩) (Vi I) ah;have F:∀u∈(a.eval y).cells.toList,u.oneCell'=true:=by
      intro u hu;obtain⟨i,s,P⟩:=iE hu;have d:i<M.cells.length:=by rw[<-k1];simpa using s
      obtain⟨u',j1,Q,J⟩:=k2 i _ (cW d);have:(a.eval y).cells[i]?=some u:=by rw[<-P];simp[pd (by simpa using s:i< (a.eval y).cells.size)]
      rw[this]at j1;cases j1;exact J
     have ao:r.length=z.sz:=hR r (dB hr);have hblk:i*z.sz+z.sz<=b.size:=by
      rw[ak,<-nS];exact fX _ om
     have hrun:=TQ X.P (t:=t) (o:=i*z.sz+j) aa h4 (by rw[<-s1,O]) D om F;have hlen:(r.take j++R++r.drop (j+R.length)).length=z.sz:=by simp;omega
     have hcell:∀(A:Nat)(S:List PV)(B:Nat)(p:PV),(rows.set i (r.take j++R++r.drop (j+R.length)))[A]?=some S->S[B]?=some p->∃u,(b.toList.take (i*z.sz+j)++(a.eval y).cells.toList++b.toList.drop (i*z.sz+j+(a.eval y).cells.toList.length)).toArray[A*z.sz+B]?=some u/\RP (bad X.M (E.drop ns)) w p u:=by
      intro A S B p d l;have af:iP (bad X.M E) (bad X.M (E.drop ns)) w w:=λk o u H W=>⟨H,λh=>W (qM h)⟩
      rw[Bp,rl (by simp;omega)];simp only[P5,<-s1];rw[P1]at d;split at d
      .rename_i al;subst al;split at d
       .cases d;rw[rl f]at l;split at l
        .rw[bF om,show i*z.sz+B- (i*z.sz+j)=B-j by omega];obtain⟨u,q1,q2⟩:=s4 ns (λ_ h=>h) _ p l;exact⟨u,by simpa using q1,q2⟩
        .rw[bO om];obtain⟨u,q1,q2⟩:=h6 i r B p hr l;exact⟨u,by simpa using q1,q2.trans af⟩
       .cases d
      .have aq:B<z.sz:=by rw[<-hR S (dB d)];exact(dW.1 l).1
       have am:¬(i*z.sz+j<=A*z.sz+B/\A*z.sz+B<i*z.sz+j+R.length):=by
        rcases qs i A with T|T
        .have:(i+1)*z.sz<=A*z.sz:=fX _ T;rw[nS]at this;omega
        .have h8:A<i:=om;have:(A+1)*z.sz<=i*z.sz:=fX _ h8;rw[nS]at this;omega
       rw[bO am];obtain⟨u,q1,q2⟩:=h6 A S B p d l;exact⟨u,by simpa using q1,q2.trans af⟩
     have hw:=h.write H K h4 (b.toList.take (i*z.sz+j)++(a.eval y).cells.toList++b.toList.drop (i*z.sz+j+(a.eval y).cells.toList.length)).toArray ns s2 (.row e (rows.set i (r.take j++R++r.drop (j+R.length)))) (λhG G L=>by
      refine⟨z,_,fz,by simp only[Env.drop,bO L];exact H,(by
       have e1:(b.toList.take (i*z.sz+j)++(a.eval y).cells.toList++b.toList.drop (i*z.sz+j+(a.eval y).cells.toList.length)).toArray.size=b.size:=by simp;omega
       rw[e1];exact aa),λg' ag=>by rw[K]at ag;cases ag;exact G,by simp[h5],aj,ab,ad,ae,by simp;omega,?_,hnone,λA S B p d l=>?_⟩
      .intro q hq;rcases List.mem_or_eq_of_mem_set hq with T|T
       .exact hR q T
       .rw[T];exact hlen
      .obtain⟨u,q1,q2⟩:=hcell A S B p d l;refine⟨u,q1,q2.trans (λk o u' c1 c2=>?_)⟩;have an:k≠g:=by rintro rfl;exact c2 (.inr ⟨n,z,by simp only[Env.drop,bO L];exact H,K⟩)
       exact⟨(World.cell?_of_block (w:=w) (a:=⟨k,o,none⟩) (setRow_other w g k _ an)).trans c1,c2⟩)
     exact⟨_,_,by rw[W];exact hrun,λm hm=>by simp[Env.drop,hm],hw.2⟩
    .cases v
   .cases v
  .cases v
 .cases v
end
theorem ff.flat{n rows}(h:ff n rows):rows.flatten.length=rows.length*n:=by
 induction rows with
 |nil=>simp
 |cons r l ih=>
  have k:=h r (by simp);have m:=ih (λr d=>h r (by simp[d]));grind
theorem ff.app{n a b}(d:ff n a)(k:ff n b):ff n (a++b):=λr m=>by
 rcases fo.1 m with h|h
 .exact d r h
 .exact k r h
theorem ff.take{n a}(d:ff n a)(k):ff n (a.take k):=λr h=>d r (iR h)
theorem Rows.src{M w rows v n}(h:Rows M w rows v)(hR:ff n rows):
 (rows=[]/\∃A cap,v=.slice A 0 cap)\/∃(g o cap:Nat)(news:List cr),v=.slice (some ⟨g,o,none⟩) rows.length cap/\0<rows.length/\news.length=rows.length*n/\
  (∀(k)(u),news[k]?=some u->w.cell? ((⟨g,o,none⟩:Addr).add k)=some u)/\(∀u∈news,u.oneCell'=true)/\
  ∀(i)(r)(j)(p),rows[i]?=some r->r[j]?=some p->∃u,news[i*n+j]?=some u/\RP M w p u:=by
 rcases h with h| ⟨g,o,cap,sz,f,rfl,O,T,U,F,J⟩
 .exact .inl h
 .right;have G:sz=n:=by
   cases rows with
   |nil=>simp_all
   |cons r l=>rw[<-F r (by simp)];exact hR r (by simp)
  subst G;have H:∀k,k<rows.length*sz->∃u,w.cell? ⟨g,o+k,none⟩=some u/\u.oneCell'=true:=by
   intro k P;have d:0<sz:=by grind
   have m:k/sz<rows.length:=by rw[Nat.div_lt_iff_lt_mul d];exact P
   have B:k%sz< (rows[k/sz]).length:=by rw[F _ (cT m)];exact Nat.mod_lt _ d
   obtain⟨D,K⟩:=J (k/sz) _ (k%sz) _ (cW m) (cW B);refine⟨_,?_,K.rh⟩;rw[<-D,Bl,P6,Nat.div_add_mod]
  refine⟨g,o,cap,(List.range (rows.length*sz)).map λk=>(w.cell? ⟨g,o+k,none⟩).getD undef,rfl,List.length_pos_iff.2 O,by simp,?_,?_,?_⟩
  .intro k u N;simp only[cN,bY]at N;obtain⟨W,I,rfl⟩:=N;obtain⟨q,t⟩:=dW.1 I;simp at q t;subst t;obtain⟨u,D,_⟩:=H _ q;rw[nD,D];rfl
  .grind
  .intro i r j p m B;obtain⟨D,K⟩:=J i r j p m B;have Q:i*sz+j<rows.length*sz:=by
    have R:=(dW.1 m).1;have S:=(dW.1 B).1;rw[F r (dB m)]at S;have:(i+1)*sz<=rows.length*sz:=fX _ R;grind
   grind
section
variable{X:Fx}{E:Env}{st:bz}{a:Act}{w:cp}
theorem R_{P}(w)(t ty e)(i)(n:P.underlying t=some (.slice e))(o:P.info? e=some i)
 (g eQ d) (b) {h} (k:mr b.size h) (p:w.heap[g]?=some (.cells b e h))
 (a) (m c) (news) (q:news.length=m*i.size) (hnews:∀j u,news[j]?=some u->w.cell? (a.add j)=some u) (r:∀u∈news,u.oneCell'=true)
 (hroom:eQ+m<=d) (f:eQ*i.size+news.length<=b.size):
 (Builtin.append_ #[t,t] ty #[.slice (some ⟨g,0,none⟩) eQ d,.slice (some a) m c]).run P w=
  .ok (.slice (some ⟨g,0,none⟩) (eQ+m) d) (w.setRow g (b.toList.take (eQ*i.size)++news++b.toList.drop (eQ*i.size+news.length)).toArray):=by
 have s:=run_firstCells_some (P:=P) w i.size m a m c news q hnews;have l:=z7 P g (eQ*i.size) e h news 0 b w k p (by simpa using f) r;simp[Builtin.append_,run_underlying n,sizeOf,typeInfo,o,Builtin.lenOf,hroom,s,Addr.add_lit,l]
theorem Rel.uE(h:Rel X E st a w){d}(F:E.N d=none)(t:X.k0<=d)(A:d<st.next){e n}(k:0<n)(B:n=X.P.cellsOf e)
 {rows} (hR:ff n rows) {cap} (m:rows.length<=cap) (G:cap<=maxLen) {us} (D:us.size=cap*n)
 (H:∀(i)(r)(j)(p),rows[i]?=some r->r[j]?=some p->∃u,us[i*n+j]?=some u/\RP (bad X.M E) w p u) {wd} (o:wd=w\/wd=w.drew):
 let E':=E.add d ⟨some w.heap.size,rows.length,cap,n⟩
 Rel X E' (st.dQ ⟨[(d,.row e rows)],[]⟩) a (wd.alloc (.cells us e))/\RV X.M E' (wd.alloc (.cells us e)) (.c (.own d)) (.slice (some ⟨w.heap.size,0,none⟩) rows.length cap):=by
 intro E';have I:Below w.heap.size w (wd.alloc (.cells us e)):=by
  rcases o with rfl|rfl
  .exact(Below.refl _ _).alloc (dx _) _
  .exact((Below.refl _ w).drew).alloc (dx _) _
 have q:wd.heap.size=w.heap.size:=by rcases o with rfl|rfl<;>rfl
 have Q:(wd.alloc (.cells us e)).heap[w.heap.size]?=some (.cells us e (0,0)):=by rw[<-q];exact heap_alloc_new wd _
 have:=h.fresh (w':=wd.alloc (.cells us e)) d F t A I (x:=⟨some w.heap.size,rows.length,cap,n⟩) (.inr ⟨rfl,by simp[q]⟩) (.row e rows) (λJ=>
  ⟨⟨some w.heap.size,rows.length,cap,n⟩,us,(0,0),by simp[Env.add],.inl rfl,λg K=>by simp_all,rfl,m,G,k,B,D,hR,λh=>(by cases h),λi r j p M N=>let⟨u,O,P⟩:=H i r j p M N; ⟨u,O,P.goes J⟩⟩)
 exact⟨this.2,.inr ⟨⟨some w.heap.size,rows.length,cap,n⟩,by simp[E',Env.add],rfl⟩⟩
theorem Rel.aty(h:Rel X E st a w){d}(u:E.N d=none)(m:X.k0<=d)(o:d<st.next)(e){n}(k:0<n)(q:n=X.P.cellsOf e):
 let E':=E.add d ⟨none,0,0,n⟩
 Rel X E' (st.dQ ⟨[(d,.row e [])],[]⟩) a w/\RV X.M E' w (.c (.own d)) (.slice none 0 0):=by
 intro E';have:=h.fresh (w':=w) d u m o (Below.refl _ _) (x:=⟨none,0,0,n⟩) (.inl rfl) (.row e []) (λ_=>
  ⟨⟨none,0,0,n⟩,#[],(0,0),by simp[Env.add],.inl rfl,λg t=>(by cases t),rfl,dx _,by simp[maxLen],k,q,by simp,λr A=>by simp at A,λ_=>rfl,λi r j p B=>by simp at B⟩)
 exact⟨this.2,.inr ⟨⟨none,0,0,n⟩,by simp[E',Env.add],rfl⟩⟩
theorem Rel.take(h:Rel X E st a w){m d}(hm:m<st.next){x}(K:E.N m=some x){g}(q:x.g=some g){M us e T}(hg:w.heap[g]?=some (.cells M e T))(U:mr us.size T)
 (hd:E.N d=none) (ae:X.k0<=d) (W:d<st.next) (af:d∉st.bt) {rows} (hR:ff x.sz rows) (N:0<x.sz) (Y:x.sz=X.P.cellsOf e) (O:rows.length<=x.cap) (Z:x.cap<=maxLen) (aa:us.size=x.cap*x.sz)
 (hc:∀(i)(r)(j)(p),rows[i]?=some r->r[j]?=some p->∃u,us[i*x.sz+j]?=some u/\RP (bad X.M E) w p u):
 let E':=(E.drop [m]).add d ⟨some g,rows.length,x.cap,x.sz⟩
 Rel X E' (st.dQ ⟨[(d,.row e rows)],[m]⟩) a (w.setRow g us)/\RV X.M E' (w.setRow g us) (.c (.own d)) (.slice (some ⟨g,0,none⟩) rows.length x.cap):=by
 intro E';have F:∀k,k≠g->(w.setRow g us).heap[k]?=w.heap[k]?:=λk B=>setRow_other w g k _ B
 have ab:(w.setRow g us).heap.size=w.heap.size:=by simp_all
 obtain⟨ag,ah,ai⟩:=h.names m x g K q;have A:∀n y,E'.N n=some y->(n=d/\y=⟨some g,rows.length,x.cap,x.sz⟩)\/(n≠d/\n≠m/\E.N n=some y):=by
  intro n y t;simp only[E',Env.add]at t;split at t
  .simp_all
  .obtain⟨G,H⟩:=me t;simp_all
 have P:∀k,bad X.M E' k->bad X.M E k:=by
  rintro k (G| ⟨n,y,G,H⟩)
  .exact .inl G
  .rcases A n y G with⟨_,rfl⟩| ⟨_,_,D⟩
   .exact .inr ⟨m,x,K,q.trans H⟩
   .exact .inr ⟨n,y,D,H⟩
 have hG:gL X.M E E' w (w.setRow g us):={
  cell:=λk o u k1 k2=>by
   have:k≠g:=by rintro rfl;exact k2 (.inr ⟨m,x,K,q⟩)
   exact⟨(World.cell?_of_block (w:=w) (a:=⟨k,o,none⟩) (F k this)).trans k1,λh=>k2 (P k h)⟩
  name:=λn y t=>by
   by_cases Q:n=m
   .subst Q;exact .inl (by simp[E',Env.add,Env.drop])
   .have:n≠d:=by grind
    simp[E',Env.add,Env.drop,this,Q,t]
  bt:=λn Q=>by simp[E',Env.add,Env.drop,Q]}
 refine⟨h.step ⟨[(d,.row e rows)],[m]⟩ (nx:=st.next) (dx _) hG (by simp[E',Env.add,Env.drop,h.bt]) ?_ ?_ ?_ ?_ ?_ (by simpa using hm) ?_ ?_,.inr ⟨⟨some g,rows.length,x.cap,x.sz⟩,by simp[E',Env.add],rfl⟩⟩
 .refine h.frame.trans (K':=λk=>k=g) ⟨rfl,rfl,rfl,om,λk _ B=>F k B⟩ ?_;grind
 .intro n y t;rcases A n y t with⟨rfl,_⟩| ⟨_,_,D⟩
  .exact W
  .exact h.dD n y D
 .intro n y k t B;rw[ab];rcases A n y t with⟨rfl,rfl⟩| ⟨_,_,D⟩
  .simp_all
  .exact h.names n y k D B
 .intro n k y z b t hz I J;rcases A n y t with⟨rfl,rfl⟩| ⟨G,H,D⟩<;>rcases A k z hz with⟨rfl,rfl⟩| ⟨k1,k2,k3⟩
  .rfl
  .cases I;exact absurd (h.inj k m z x g k3 K J q) k2
  .cases J;exact absurd (h.inj n m y x g D K I q) H
  .exact h.inj n k y z b D k3 I J
 .intro n Q;simp only[E',Env.add,Env.drop];grind
 .intro n y k t B ad _;refine F k λhe=>?_
  subst he;have:=h.inj n m y x k t K B q;subst this;exact ad (by simp[E',Env.add,Env.drop])
 .intro n b S;simp only[hX,nR]at S;split at S
  .rename_i R;simp at R;subst R;cases S;refine .inr ⟨⟨some g,rows.length,x.cap,x.sz⟩,us,T,by simp[E',Env.add],U,λk B=>by cases B;exact setRow_heap w g M us e _ hg,rfl,O,Z,N,Y,aa,hR,λh=>(by cases h),λi r j p hi hj=>?_⟩;obtain⟨u,G,H⟩:=hc i r j p hi hj;exact⟨u,G,H.goes hG⟩
  .cases S
def jE(P:cD)(e:cg):Option (Nat×Nat):=match P.info? e with
 |some i=>match i.zero with
  |some z=>if z.cells.size=i.size/\0<i.size then some (i.size,i.bytes)else none
  |none=>none
 |none=>none
theorem wF{P e n b}(h:jE P e=some (n,b)):∃i z,P.info? e=some i/\i.zero=some z/\z.cells.size=n/\0<n/\i.size=n/\i.bytes=b/\P.cellsOf e=n:=by
 unfold jE at h;split at h
 .rename_i i c;split at h
  .rename_i z f;split at h
   .rename_i d;obtain⟨rfl,rfl⟩:=h;exact⟨i,z,c,f,d.1,d.2,rfl,rfl,by simp[Program.cellsOf,c]⟩
   .cases h
  .cases h
 .cases h
def bz.gH(st:bz)(e:cg):C->Option (List (List PV)×List Nat)
 |.nil=>some ([],[])
 |.own m=>match st.heap.lookup m with
  |some (.row d rows)=>if d=e then some (rows,[m])else none
  |_=>none
 |.sub m 0 len=>match st.heap.lookup m with
  |some (.row d rows)=>if d=e then some (rows.take len,[m])else none
  |_=>none
 |_=>none
def cf(n:Nat)(rows:List (List PV)):Bool:=rows.all (·.length==n)
theorem nL{n rows}:cf n rows=true↔ff n rows:=by simp[cf,ff]
def r9(P:cD)(st:bz)(d:Nat)(t:cg)(s x:cF):Option (V×im):=
 match fk P t with
 |some e=>match jE P e,st.arg s,st.arg x with
  |some (n,b),some (.v (.c s)),some (.v (.c x))=>match st.gH e s,st.view x with
   |some (rows,f),some c=>if rows.length+c.length<=9223372036854775807/\(rows.length+c.length)*b<=140737488355328/\cf n rows=true/\cf n c=true then some (.c (.own d),⟨[(d,.row e (rows++c))],f⟩)else none
   |_,_=>none
  |_,_,_=>none
 |none=>none
theorem CH{α:Type}{l:List α}{n k u}(h:(l.take n)[k]?=some u):l[k]?=some u/\k<n:=by
 grind
theorem Env.lp{E:Env}{d n x}(h:n≠d):(E.add d x).N n=E.N n:=by simp[Env.add,h]
theorem Env.kE{E:Env}{d n}(h:E.N n=none):(E.drop d).N n=none:=by simp[Env.drop,h]
theorem aeG(h:Rel X E st a w){d}(hd:E.N d=none)(I:X.k0<=d)(J:d<st.next)(ao:d∉st.bt){t ty s x v ef}
 (O:r9 X.P st d t s x=some (v,ef)):
 ∃u w' E',(Builtin.append_ #[t,t] ty #[a.eval s,a.eval x]).run X.P w=.ok u w'/\(∀n,n≠d->E.N n=none->E'.N n=none)/\Rel X E' (st.dQ ef) a w'/\RV X.M E' w' v u:=by
 unfold r9 at O;split at O
 .rename_i e ht;obtain⟨hu,aQ⟩:=ow ht;split at O
  .rename_i n b cs cx ap hs hx;obtain⟨i,z,hi,hz,aq,K,aD,aE,q⟩:=wF ap;split at O
   .rename_i rows R c f aF;split at O
    .rename_i hb;obtain⟨ad,aG,S,D⟩:=hb;rw[nL]at S D;have hlen:rows.length+c.length<=maxLen:=by simp only[maxLen];omega
     cases O;obtain⟨aH,_,aI⟩:=h.cY hx;have ar:=h.view aH aI aF;obtain⟨ae,_,au⟩:=h.cY hs;have aR:(rows.length+c.length:Nat)<=9223372036854775807:=ad;have av:∀ns,iP (bad X.M E) (bad X.M (E.drop ns)) w w:=λns k o u h1 h2=>⟨h1,λh=>h2 (qM h)⟩
     have hnil:a.eval s=.slice none 0 0->rows=[]->(∀m∈R,m<st.next)->
      ∃u w' E',(Builtin.append_ #[t,t] ty #[a.eval s,a.eval x]).run X.P w=.ok u w'/\(∀n,n≠d->E.N n=none->E'.N n=none)/\Rel X E' (st.dQ ⟨[(d,.row e (rows++c))],R⟩) a w'/\RV X.M E' w' (.c (.own d)) u:=by
      intro hA h0 af;subst h0;rw[hA];have hD:=h.drop R af;have T:(E.drop R).N d=none:=Env.kE hd;have aN:∀b,(st.dQ ⟨[],R⟩).dQ ⟨[(d,b)],[]⟩=st.dQ ⟨[(d,b)],R⟩:=λb=>by simp[bz.dQ]
      rcases ar.src D with⟨rfl,B,cap,F⟩| ⟨g,o,cap,news,F,aw,U,hcell,aa,hval⟩
      .have hf:=hD.aty T I J e K q.symm;refine⟨_,w,_,?_,λk V ax=>by grind[Env.lp,Env.kE],hf.1,hf.2⟩;rw[F];cases B<;>simp[Builtin.append_,run_underlying hu,sizeOf,typeInfo,hi,Builtin.lenOf,Builtin.firstCells,loadCells,loadCellsFrom]
      .rw [F];have ag:=grownCap_ge w c.length 0 e;have ah:=grownCap_le_maxLen w c.length 0 e (by simpa using hlen);have hrun:=run_append_nil (P:=X.P) w t ty e i z hu hi hz ⟨g,o,none⟩ c.length cap news (by simp_all) hcell aw om (by grind);have hf:=hD.uE T I J (e:=e) K q.symm D ag ah (us:=news.toArray++Builtin.zeroCells z.cells (grownCap w c.length 0 e-c.length))
        (by simp only[Bq,qt,size_zeroCells,aq,U,<-jY];congr 1;omega)
        (λi r j p k1 k2=>by
         obtain⟨u,Q,k4⟩:=hval i r j p k1 k2;have V:=(dW.1 Q).1;exact⟨u,by grind,k4.trans (av R)⟩) (wd:=w.drew) (.inr rfl)
       grind[Env.lp,Env.kE]
     have hrow:∀(m:Nat)(y:Nm)(g:Nat)(l:Array cr)(fz:Nat×Nat),mr l.size fz->m∉st.bt->E.N m=some y->y.g=some g->w.heap[g]?=some (.cells l e fz)->y.sz=n->y.cap<=maxLen->l.size=y.cap*n->rows.length<=y.cap->
      (∀(i:Nat)(r:List PV)(j:Nat)(p:PV),rows[i]?=some r->r[j]?=some p->∃u,l[i*n+j]?=some u/\RP (bad X.M E) w p u)->a.eval s=.slice (some ⟨g,0,none⟩) rows.length y.cap->R=[m]->
      ∃u w' E',(Builtin.append_ #[t,t] ty #[a.eval s,a.eval x]).run X.P w=.ok u w'/\(∀n,n≠d->E.N n=none->E'.N n=none)/\Rel X E' (st.dQ ⟨[(d,.row e (rows++c))],R⟩) a w'/\RV X.M E' w' (.c (.own d)) u:=by
      intro m y g0 l fz W H hN ay L G az ab Y aA aJ af;subst af;have ai:=h.dD m y hN;rw[aJ];have aO:rows.length*n<=l.size:=by rw[ab];exact fX _ Y
      have aB:(l.toList.take (rows.length*n)).length=rows.length*n:=by simp;omega
      rcases ar.src D with⟨rfl,B,cap,F⟩| ⟨g,o,cap,news,F,aw,U,hcell,aa,hval⟩
      .have aj:w.setRow g0 l=w:=setRow_self w g0 l e fz L;have V:=h.take (d:=d) ai hN ay L (us:=l) W hd I J ao (rows:=rows) (by simp_all) om (by rw[G,q]) Y az (by simp_all) (by simp_all);simp only[aj]at V;refine⟨.slice (some ⟨g0,0,none⟩) rows.length y.cap,w,_,?_,λk V ax=>by grind[Env.lp,Env.kE],by simp_all,V.2⟩;rw[F]
       cases B with
       |none=>simp[Builtin.append_,run_underlying hu,sizeOf,typeInfo,hi,Builtin.lenOf,Builtin.firstCells,Y,storeCells]
       |some B=>simp[Builtin.append_,run_underlying hu,sizeOf,typeInfo,hi,Builtin.lenOf,Builtin.firstCells,loadCells,loadCellsFrom,Y,storeCells]
      .rw [F];have M:∀(us:Array cr),(∀k,k<rows.length*n+news.length->us[k]?=(l.toList.take (rows.length*n)++news)[k]?)->∀(i:Nat)(r:List PV)(j:Nat)(p:PV),(rows++c)[i]?=some r->r[j]?=some p->∃u,us[i*n+j]?=some u/\RP (bad X.M E) w p u:=by
        intro us aK i r j p k1 k2;have aS:r.length=n:=(S.app D) r (dB k1);have hj:=(dW.1 k2).1;rw[lZ]at k1;split at k1
        .rename_i aL;obtain⟨u,Q,k4⟩:=aA i r j p k1 k2;have:(i+1)*n<=rows.length*n:=fX _ aL;grind
        .obtain⟨u,Q,k4⟩:=hval _ r j p k1 k2;have V:=(dW.1 Q).1;have e1:i*n=rows.length*n+(i-rows.length)*n:=by rw[<-jY];congr 1;omega
         refine⟨u,?_,k4⟩;rw[aK _ om,lZ,bO om,aB,<-Q];congr 1;omega
       by_cases hroom:rows.length+c.length<=y.cap
       .have aP:rows.length*n+news.length<=l.size:=by rw[U,ab,<-jY];exact fX _ hroom
        have hr:=R_ (P:=X.P) w t ty e i hu hi g0 rows.length y.cap l W L ⟨g,o,none⟩ c.length cap news (by simp_all) hcell aa hroom (by simp_all);rw[aD]at hr;have V:=h.take (d:=d) ai hN ay L (us:=(l.toList.take (rows.length*n)++news++l.toList.drop (rows.length*n+news.length)).toArray) (by grind) hd I J ao (rows:=rows++c) (by rw[G];exact S.app D) om (by rw[G,q]) (by simpa using hroom) az
         (by grind) (by
          rw[G];refine M _ λk V=>?_
          grind)
        grind[Env.lp,Env.kE]
       .have holds:∀j v,(l.toList.take (rows.length*n))[j]?=some v->w.cell? ((⟨g0,0,none⟩:Addr).add j)=some v:=λj u hj=>by
         rw[nD,cell_of_row w g0 _ l e fz L];grind
        have hr:=run_append_grow (P:=X.P) w t ty e i z hu hi hz ⟨g0,0,none⟩ rows.length y.cap (l.toList.take (rows.length*n)) (by simp_all) holds ⟨g,o,none⟩ c.length cap news (by simp_all) hcell om om
         (by rw[aE];exact growslice_fits om aG)
        have ag:=grownCap_ge w (rows.length+c.length) y.cap e;have ah:=grownCap_le_maxLen w (rows.length+c.length) y.cap e hlen;have aC:∀k,k<rows.length*n+news.length->((l.toList.take (rows.length*n)).toArray++news.toArray++Builtin.zeroCells z.cells (grownCap w (rows.length+c.length) y.cap e- (rows.length+c.length)))[k]?=(l.toList.take (rows.length*n)++news)[k]?:=by
         grind
        have hD:=h.drop [m] (by simpa using ai);have T:(E.drop [m]).N d=none:=Env.kE hd;have hf:=hD.uE T I J (e:=e) K q.symm (rows:=rows++c) (S.app D) (cap:=grownCap w (rows.length+c.length) y.cap e) (by simpa using ag) ah
         (us:=(l.toList.take (rows.length*n)).toArray++news.toArray++Builtin.zeroCells z.cells (grownCap w (rows.length+c.length) y.cap e- (rows.length+c.length)))
         (by simp only[Bq,qt,size_zeroCells,aq,U,aB,<-jY];congr 1;omega)
         (λi r j p k1 k2=>by
          obtain⟨u,Q,k4⟩:=M _ aC i r j p k1 k2;exact⟨u,Q,k4.trans (av [m])⟩) (wd:=w.drew) (.inr rfl)
        simp only[ez]at hf;exact⟨_,_,_,hr,λk V ax=>by grind[Env.lp,Env.kE],hf.1,hf.2⟩
     cases cs with
     |nil=>
      obtain⟨rfl,rfl⟩:=f;exact hnil ae rfl (by simp)
     |own m=>
      simp only[bz.gH]at f;have H:=au m (by simp[C.names]);split at f
      .rename_i e' N hl;split at f
       .rename_i ak;subst ak;cases f;obtain⟨y,l,fz,h1,W,h2,h3,h4,h5,h6,al,h7,h8,am,h9⟩:=h.row H hl;obtain⟨y',k1,k2⟩:=cS.get ae (by rw[h.bt];exact H);rw[h1]at k1;cases k1;have aM:y.sz=n:=by rw[al,q]
        cases hg:y.g with
        |none=>
         have an:=am hg;have Z:y.len=0:=om;rw[hg,Z,an]at k2;exact hnil (by simpa using k2) (jX om) (by simpa using h.dD m y h1)
        |some g=>
         grind
       .cases f
      .cases f
     |sub m lo len=>
      cases lo with
      |succ lo=>simp[bz.gH]at f
      |zero=>
      simp only[bz.gH]at f;have H:=au m (by simp[C.names]);split at f
      .rename_i e' N hl;split at f
       .rename_i ak;subst ak;cases f;obtain⟨y,l,fz,h1,W,h2,h3,h4,h5,h6,al,h7,h8,am,h9⟩:=h.row H hl;obtain⟨y',k1,k2,A,Q,k4⟩:=cS.get ae (by rw[h.bt];exact H);rw[h1]at k1;cases k1;have aM:y.sz=n:=by rw[al,q]
        have hA:=k4 (.inr rfl);have aT:(N.take len).length=len:=by simp;omega
        cases hg:y.g with
        |none=>
         have an:=am hg;have Z:len=0:=om;rw[hA,hg,Z,an]at Q;exact hnil (by simpa using Q) (by rw[Z];simp) (by simpa using h.dD m y h1)
        |some g=>
         grind
       .cases f
      .cases f
     |_=>simp[bz.gH]at f
    .cases O
   .cases O
  .cases O
 .cases O
end
def setAt(off:Nat)(l:List cr)(s:Nat)(cs:Array cr):Array cr:=(l.zipIdx s).foldl (λcs x=>cs.setIfInBounds (off+x.2) x.1) cs
theorem I_(off)(l)(s)(cs):(setAt off l s cs).size=cs.size:=by
 induction l generalizing s cs with
 |nil=>rfl
 |cons v l ih=>simp_all[setAt]
theorem J2(off)(l)(s)(cs)(k):(setAt off l s cs)[k]?=if off+s<=k/\k<off+s+l.length/\k<cs.size then l[k- (off+s)]? else cs[k]?:=by
 induction l generalizing s cs with
 |nil=>simp[setAt];intro b c;omega
 |cons v l ih=>
  have:=ih (s+1) (cs.setIfInBounds (off+s) v);simp only[setAt,acT,acU]at this⊢;rw[this];simp only[Array.size_setIfInBounds,kH];by_cases b:off+s=k
  .subst b;by_cases c:off+s<cs.size
   .rw[bO om,bF om];simp[c]
   .simp[c]
  .rw[acS,bO b];by_cases d:off+s<=k/\k<off+s+(l.length+1)/\k<cs.size
   .rw[bF om,bF d,show k- (off+s)=(k- (off+(s+1)))+1 by omega];simp
   .rw[bO om,bO d]
theorem Wb(place)(cells)(i)(v)(rest){off size}(hp:place i=some (off,size))(b:v.cells.size=size)(d:off+size<=cells.size):
 Instr.fill place cells ((i,v)::rest)=Instr.fill place (setAt off v.cells.toList 0 cells) rest:=by
 have c:(v.cells.zipIdx.foldl (λcs x=>cs.setIfInBounds (off+x.2) x.1) cells)=setAt off v.cells.toList 0 cells:=by
  unfold setAt;rw[<-Array.foldl_toList];simp
 simp only[Instr.fill,hp];rw[bO (by simp[b];omega)];rw[<-c]
theorem aag(n):∀(vs:List cr)(k)(cells),(∀v∈vs,v.cells.size=n)->(k+vs.length)*n<=cells.size->
 ∃us,Instr.fill (λi=>some (i*n,n)) cells ((vs.zipIdx k).map λx=>(x.2,x.1))=some us/\us.size=cells.size/\
  (∀j,j<k*n->us[j]?=cells[j]?)/\∀(i)(v)(j),vs[i]?=some v->j<n->us[(k+i)*n+j]?=v.cells[j]?
 |[],k,cells,_,_=>⟨cells,rfl,rfl,λ_ _=>rfl,λi v j h=>by simp at h⟩
 |v ::vs,k,cells,d,b=>by
  have e:=d v (by simp);have f:(k+1)*n<=cells.size:=qo (fX _ (by simp)) b;rw[nS]at f;obtain⟨us,m,o,g,p⟩:=aag n vs (k+1) (setAt (k*n) v.cells.toList 0 cells) (λu q=>d u (by simp[q])) (by rw[I_];rw[show k+1+vs.length=k+(vs.length+1)by omega];exact b);refine⟨us,?_,by rw[o,I_],λj l=>?_,λi u j c l=>?_⟩
  .simp only[acT,ct];rw[Wb _ _ _ _ _ rfl e f];exact m
  .rw[g j (by rw[nS];omega),J2,bO om]
  .cases i with
   |zero=>
    simp at c;subst c;rw[l_,g _ (by rw[nS];omega),J2,bF (by simp[e];omega)];simp
   |succ i=>
    have:=p i u j (by simpa using c) l;rw[show k+1+i=k+(i+1)by omega]at this;exact this
theorem qg{α j:Type}{f}:∀{l:List α}{d},l.mapM f=some d->d.length=l.length/\∀(i:Nat)(y:j),d[i]?=some y->∃x,l[i]?=some x/\f x=some y
 |[],d,h=>by simp_all
 |a::l,d,h=>by
  cases c:f a with
  |none=>simp[c]at h
  |some b=>
   cases e:l.mapM f with
   |none=>simp[c,e]at h
   |some l2=>
    simp[c,e]at h;subst h;obtain⟨k,m⟩:=qg e;refine⟨by simp[k],λi y g=>?_⟩
    cases i with
    |zero=>simp at g;subst g;exact⟨a,rfl,c⟩
    |succ i=>simpa using m i y (by simpa using g)
def bz.fb(st:bz)(x:cF):Option V1:=match st.arg x with|some (.v x)=>some x|_=>none
def bz.lits(st:bz):List cF->Option (List (List PV)×List Nat)
 |[]=>some ([],[])
 |x::xs=>match st.fb x with
  |some y=>match st.sinks y.cells,st.lits xs with
   |some (r,d),some (rs,h)=>some (r::rs,d++h)
   |_,_=>none
  |none=>none
section
variable{X:Fx}{E:Env}{st:bz}{a:Act}{w:cp}
theorem Rel.fb(h:Rel X E st a w){x v}(d:st.fb x=some v):dR X.M E w v (a.eval x)/\(V.v v).live st.bt=true:=by
 unfold bz.fb at d;split at d
 .rename_i y k;simp at d;subst d;exact h.arg k
 .cases d
theorem Rel.lits(h:Rel X E st a w):∀{xs:List cF}{rows:List (List PV)}{m:List Nat},st.lits xs=some (rows,m)->rows.length=xs.length/\(∀n∈m,n<st.next)/\
 ∀k,(∀n∈m,n∈k)->∀(i:Nat)(r:List PV),rows[i]?=some r->∃x,xs[i]?=some x/\r.length=(a.eval x).cells.size/\∀(j:Nat)(p:PV),r[j]?=some p->∃u,(a.eval x).cells[j]?=some u/\RP (bad X.M (E.drop k)) w p u
 |[],rows,m,d=>by simp[bz.lits]at d;simp_all
 |x :: xs,rows,m,d=>by
  simp only[bz.lits]at d;split at d
  .rename_i y t;split at d
   .rename_i r A rs N B D;cases d;obtain⟨F,G,O⟩:=h.lits D;obtain⟨k1,k2⟩:=h.fb t;obtain⟨H,I⟩:=dR.cells k1 (by rw[h.bt];exact k2);obtain⟨s1,J,_,s4⟩:=h.sinks H (λi c q=>let⟨u,q1,q2,_⟩:=I i c q; ⟨u,q1,q2⟩) (Vi k2) B;refine⟨by simp[F],λn K=>?_,λk M i P q=>?_⟩
    .rcases fo.1 K with o|o
     .exact J n o
     .exact G n o
    .cases i with
     |zero=>
      simp_all
     |succ i=>
      simp_all
   .cases d
  .cases d
def vb(P:cD)(st:bz)(d:Nat)(t:cg)(len:Nat)(parts:List (Nat×cF)):Option (V×im):=
 match fk P t with
 |some e=>match jE P e,st.lits (parts.map (·.2))with
  |some (n,_),some (rows,b)=>if parts.map (·.1)=List.range len/\cf n rows=true/\len*n<=16777216 then some (.c (.own d),⟨[(d,.row e rows)],b⟩)else none
  |_,_=>none
 |none=>none
theorem ahV(h:Rel X E st a w){d}(hd:E.N d=none)(N:X.k0<=d)(O:d<st.next){t len}{parts:Array (Nat×cF)}{v ef}
 (l:vb X.P st d t len parts.toList=some (v,ef)):
 ∃u w' E',(Instr.buildSlice t len (parts.map λx=>(x.1,a.eval x.2))).run X.P w=.ok u w'/\(∀n,n≠d->E.N n=none->E'.N n=none)/\Rel X E' (st.dQ ef) a w'/\RV X.M E' w' v u:=by
 unfold vb at l;split at l
 .rename_i e ht;obtain⟨M,ad⟩:=ow ht;split at l
  .rename_i n b rows D F y;obtain⟨i,z,hi,hz,ae,m,G,af,P⟩:=wF F;split at l
   .rename_i hc;obtain⟨hr,hR,ag⟩:=hc;rw[nL]at hR;cases l;obtain⟨ah,H,Q⟩:=h.lits y;have I:parts.toList.length=len:=by have:=cO List.length hr;simpa using this
    have f:rows.length=len:=by simp_all
    have g:(parts.map λx=>(x.1,a.eval x.2)).toList=(((parts.toList.map λx=>a.eval x.2).zipIdx 0).map λx=>(x.2,x.1)):=by
     apply sv;intro k;simp only[acV,cN,List.getElem?_zipIdx,GR]
     cases o:parts.toList[k]? with
     |none=>simp
     |some x=>
      have A:(parts.toList.map (·.1))[k]?=some x.1:=by simp only[cN,o,bS]
      rw[hr]at A;have s:=(dW.1 A).2;simp[<-s]
    have c:∀(k:Nat)(u:cr),(parts.toList.map λx=>a.eval x.2)[k]?=some u->∃r,rows[k]?=some r/\u.cells.size=n/\∀(j:Nat)(p:PV),r[j]?=some p->∃u',u.cells[j]?=some u'/\RP (bad X.M (E.drop D)) w p u':=by
     intro k u o;simp only[cN,bY]at o;obtain⟨x,hx,rfl⟩:=o;have B:k<rows.length:=by rw[f,<-I];exact(dW.1 hx).1
     obtain⟨x',A,s,h3⟩:=Q D (λ_ h=>h) k _ (cW B);simp only[cN,hx,bS,iQ]at A;subst A;exact⟨_,cW B,by rw[<-s];exact hR _ (cT B),h3⟩
    have R:∀u∈parts.toList.map (λx=>a.eval x.2),u.cells.size=n:=by
     intro u M;obtain⟨k,o,S⟩:=iE M;obtain⟨r,_,s,_⟩:=c k u (by rw[<-S];exact cW o);exact s
    have T:∃z0:Array cr,((Array.range (len*n)).map (z0[· %z0.size]!)).size=len*n/\(Instr.buildSlice t len (parts.map λx=>(x.1,a.eval x.2))).run X.P w=
     (match Instr.fill (λi=>some (i*n,n)) ((Array.range (len*n)).map (z0[· %z0.size]!)) (parts.map λx=>(x.1,a.eval x.2)).toList with
     |some cells=>.ok (.slice (some ⟨w.heap.size,0,none⟩) len len) (w.alloc (.cells cells e))
     |none=>.halt (.stuck "buildSlice: a part of the wrong size") w):=by
     have U:¬(len*n>16777216):=om;by_cases h0:len*n=0
     .refine⟨#[],by simp,?_⟩;simp[Instr.buildSlice,run_underlying M,sizeOf,typeInfo,hi,G,h0];generalize Instr.fill _ _ _=q;cases q<;>simp[newRow]
     .refine⟨z.cells,by simp,?_⟩;simp only[Instr.buildSlice,run_underlying M,sizeOf,typeInfo,zeroValue,hi,hz,G,h0,U,Sem.run_bind,run_program,Result.andThen_ok,Sem.run_pure,if_false];generalize Instr.fill _ _ _=q;cases q<;>simp[newRow]
    obtain⟨z0,V,hrun⟩:=T;obtain⟨us,A,s,_,h4⟩:=aag n (parts.toList.map λx=>a.eval x.2) 0 ((Array.range (len*n)).map (z0[· %z0.size]!)) R (by simp_all);rw[g,A]at hrun;rw[V]at s;have hm:rows.length<=maxLen:=by
     have:len*1<=len*n:=Nat.mul_le_mul_left _ m;simp only[maxLen];omega
    have hD:=h.drop D H;have W:(E.drop D).N d=none:=Env.kE hd;have J:∀b,(st.dQ ⟨[],D⟩).dQ ⟨[(d,b)],[]⟩=st.dQ ⟨[(d,b)],D⟩:=λb=>by simp[bz.dQ]
    have Y:=hD.uE W N O (e:=e) m P.symm hR (cap:=rows.length) (dx _) hm (us:=us) (by rw[s,f]) (λZ r j p C hj=>by
     have K:Z< (parts.toList.map λx=>a.eval x.2).length:=by simp[I,<-f];exact(dW.1 C).1
     obtain⟨r',L,h5,h6⟩:=c Z _ (cW K);rw[C]at L;cases L;have aa:j<n:=by rw[<-hR r (dB C)];exact(dW.1 hj).1
     have:=h4 Z _ j (cW K) aa;rw[mQ]at this;rw[this];exact h6 j p hj) (wd:=w) (.inl rfl)
    rw[J,f]at Y;exact⟨_,_,_,hrun,λk o ab=>by rw[Env.lp o];exact Env.kE ab,Y.1,Y.2⟩
   .cases l
  .cases l
 .cases l
end
def RL(M:fJ)(E:Env)(w:cp)(cs:List C)(us:Array cr):Prop:=us.size=cs.length/\∀(i:Nat)(c:C),cs[i]?=some c->∃u,us[i]?=some u/\RC M E w c u/\u.oneCell'=true
theorem RL.splice{M E w cs xs us vs}(h:RL M E w cs us)(o:RL M E w xs vs.toArray){off}(q:off+xs.length<=cs.length):
 RL M E w (cs.take off++xs++cs.drop (off+xs.length)) (setAt off vs 0 us):=by
 have k:vs.length=xs.length:=by simpa using o.1
 refine⟨by simp only[I_,h.1,ez,eA,iw];omega,λi c d=>?_⟩;rw[J2];simp only[l_,k,h.1,eU]at d⊢;rw[lZ]at d;simp only[eA,u7 (show off<=cs.length by omega)]at d;split at d
 .rename_i m;rw[sr,bF m]at d;rw[bO om];exact h.2 i c d
 .rw[lZ]at d;split at d
  .rw[bF om];obtain⟨u,t,A⟩:=o.2 _ c d;simp_all
  .rw[bO om];rw[pb,show off+xs.length+(i-off-xs.length)=i by omega]at d;exact h.2 i c d
def uC(place:Nat->Option (Nat×Nat))(cells:List C):List (Nat×List C)->Option (List C)
 |[]=>some cells
 |(i,x)::rest=>match place i with
  |none=>none
  |some (off,size)=>if x.length=size/\off+x.length<=cells.length then uC place (cells.take off++x++cells.drop (off+x.length)) rest else none
theorem Rk{M:fJ}{E:Env}{w:cp}(place:Nat->Option (Nat×Nat)):∀(parts:List (Nat×List C))(vals:List (Nat×cr))(cells:List C)(us:Array cr){b:List C},
 vals.length=parts.length->(∀(k:Nat)(x:Nat×List C)(y:Nat×cr),parts[k]?=some x->vals[k]?=some y->y.1=x.1/\RL M E w x.2 y.2.cells)->RL M E w cells us->uC place cells parts=some b->
 ∃c,Instr.fill place us vals=some c/\RL M E w b c
 |[],vals,cells,us,b,d,_,e,h=>by
  have:vals=[]:=jX (by simpa using d);subst this;simp[uC]at h;subst h;exact⟨us,rfl,e⟩
 |(i,x)::parts,vals,cells,us,b,d,g,e,h=>by
  cases vals with
  |nil=>simp at d
  |cons y vals=>
   obtain⟨m,j⟩:=g 0 (i,x) y rfl rfl;obtain⟨l,v⟩:=y;subst m;simp only[uC]at h
   cases hp:place l with
   |none=>simp[hp]at h
   |some os=>
    simp only[hp]at h;split at h
    .rename_i f;rw[Wb place us l v vals hp (by rw[j.1];exact f.1) (by rw[<-f.1,e.1];exact f.2)];exact Rk place parts vals _ _ (by simpa using d) (λk x y n o=>g (k+1) x y (by simpa using n) (by simpa using o)) (e.splice (vs:=v.cells.toList) (by simpa using j) f.2) h
    .cases h
def Dp(P:cD)(t:cg):Option (List (Nat×Nat)):=match P.underlying t with
 |some (.struct fields)=>fields.toList.mapM (λf=>(P.info? f.type).map λi=>(f.offset,i.size))
 |some (.array n e)=>match P.info? e with
  |some i=>some ((List.range n).map λk=>(k*i.size,i.size))
  |none=>none
 |_=>none
theorem yH{P M E w t cs}(h:qh P t=some cs):∃i z,P.info? t=some i/\i.zero=some z/\RL M E w cs z.cells:=by
 unfold qh at h;split at h
 .rename_i i e;split at h
  .rename_i z f;split at h
   .rename_i hall;simp at h;subst h;refine⟨i,z,e,f,by simp,λk c b=>?_⟩;simp only[cN,bY,P2]at b;obtain⟨u,d,rfl⟩:=b;exact⟨u,d,Ih M E w u,by simp only[cj]at hall;exact hall u (Array.mem_toList_iff.2 (acW d))⟩
   .cases h
  .cases h
 .cases h
def wj(P:cD)(st:bz)(t:cg)(parts:Array (Nat×cF)):Option V:=
 match qh P t,Dp P t,parts.toList.mapM (λx=>(st.fb x.2).map λy=>(x.1,y.cells))with
 |some b,some ps,some xs=>(uC (ps[·]?) b xs).map λcs=>.v (.agg cs)
 |_,_,_=>none
theorem Uw{p q}(h:∀i x,p i=some x->q i=some x):∀(l)(us b),Instr.fill p us l=some b->Instr.fill q us l=some b
 |[],us,b,c=>c
 |(i,v)::l,us,b,c=>by
  simp only[Instr.fill]at c⊢
  cases hp:p i with
  |none=>simp[hp]at c
  |some x=>
   rw[h i x hp];simp only[hp]at c⊢;split at c
   .cases c
   .rename_i d;rw[bO d];exact Uw h l _ _ c
theorem aoX{X E st a w}(h:Rel X E st a w){t parts v}
 (b:wj X.P st t parts=some v):∃u,(Instr.build t (parts.map λx=>(x.1,a.eval x.2))).run X.P w=.ok u w/\RV X.M E w v u:=by
 unfold wj at b;split at b
 .rename_i A ps xs B hp C;simp at b;obtain⟨cs,d,rfl⟩:=b;obtain⟨i,z,D,f,g⟩:=yH (M:=X.M) (E:=E) (w:=w) B;obtain⟨j,l⟩:=qg C;obtain⟨us,F,q⟩:=Rk (M:=X.M) (E:=E) (w:=w) (ps[·]?) xs (parts.map λx=>(x.1,a.eval x.2)).toList A z.cells (by simp[j]) (λk x y c r=>by
   obtain⟨o,G,s⟩:=l k x c;simp only[acV,cN,G,bS,iQ]at r;subst r;simp only[bY]at s;obtain⟨L,H,rfl⟩:=s;obtain⟨I,J⟩:=h.fb H;exact⟨rfl,dR.cells I (by rw[h.bt];exact J)⟩) g d
  refine⟨_,run_build w t _ us ?_,us,rfl,q.1,q.2⟩;unfold Program.built;unfold Dp at hp;split at hp
  .simp_all
  .rename_i n e K;split at hp
   .rename_i N m;simp at hp;subst hp;simp only[D,K,f,m];refine Uw (λk x c=>?_) _ _ _ F;simp only[cN,bY]at c;obtain⟨O,p,rfl⟩:=c;have:=(dW.1 p).2;simp[<-this]
   .cases hp
  .cases hp
 .cases b
end
end
end Go.Proofs.YtndegphojkiblaaGreatDoor
