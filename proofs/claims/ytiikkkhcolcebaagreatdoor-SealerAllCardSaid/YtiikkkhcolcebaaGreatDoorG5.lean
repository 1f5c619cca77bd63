/- A part. -/
import Derived.Test.YtiikkkhcolcebaaGreatDoorG4
import Derived.MapKept
set_option linter.all false
set_option maxHeartbeats 4000000
set_option maxRecDepth 100000
namespace Go.Proofs.YtiikkkhcolcebaaGreatDoor
noncomputable section
section
open Go.RowKit
open Classical
def gS(z:Int):List PV->Bool
 |.sc (.int .u64 y)::_=>z==y
 |_=>false
def oI(z:Int)(ps:List PV):List (List PV)->List (List PV)
 |[]=>[.sc (.int .u64 z)::ps]
 |r::b=>if gS z r then(.sc (.int .u64 z)::ps)::b else r::oI z ps b
def oF(z:Int):List (List PV)->List (List PV)
 |[]=>[]
 |r::b=>if gS z r then b else r::oF z b
def kj(z:Int):List (List PV)->Option (List PV)
 |[]=>none
 |r::b=>if gS z r then some r.tail else kj z b
theorem nh.key{B w m r}(h:nh B w m r):∃y ps,r=.sc (.int .u64 y)::ps/\m.key=.int .u64 y:=by
 match r,h with
 |.sc (.int .u64 y)::ps,h=>exact⟨y,ps,rfl,h.1⟩
theorem Xm{B w}(z):∀{b c}(i:Nat),iC B w b c->
 Instr.findNow (.int .u64) (.int .u64 z) b i=some ((c.findIdx? (gS z)).bind λj=>(b[j]?).map λm=>(i+j,m.val))
 |[],[],i,_=>rfl
 |m::b,r::c,i,⟨e,f⟩=>by
  obtain⟨y,ps,rfl,g⟩:=e.key;simp only[Instr.findNow,g,Instr.sameNow,if_true,Oh,gS];by_cases d:z=y
  .subst d;simp
  .have:(z==y)=false:=by simpa using d
   simp only[this,pS,if_false];rw[Xm z (i+1) f]
   cases h:c.findIdx? (gS z)with
   |none=>simp
   |some j=>simp[Bb,Nat.add_comm 1 j]
theorem JF{P c}(e:P.underlying c=some (.int .u64)){B w b d}(h:iC B w b d)(z)(w'):
 (Instr.findKey c (.int .u64 z) b).run P w'=.ok ((d.findIdx? (gS z)).bind λj=>(b[j]?).map λm=>(j,m.val)) w':=by
 have:=Xm z 0 h;simp only[jV]at this;simp[Instr.findKey,run_underlying e,this]
theorem PU{B w z ps m v}(g:nh B w m (.sc (.int .u64 z)::ps))(i:∀e:MapEntry,nh B w {e with key:=.int .u64 z,val:=v} (.sc (.int .u64 z)::ps)):∀{d c},iC B w d c->
 (c.findIdx? (gS z)=none->iC B w (d++[m]) (oI z ps c))/\
 ∀j,c.findIdx? (gS z)=some j->iC B w (d.modify j λe=> {e with key:=.int .u64 z,val:=v}) (oI z ps c)
 |[],[],_=>⟨λ_=>⟨g,trivial⟩,λj b=>by simp at b⟩
 |e::d,r::c,⟨k,l⟩=>by
  simp only[Oh,oI];by_cases n:gS z r=true
  .simp only[n,if_true];refine⟨λh=>by simp at h,λj b=>?_⟩;cases b;exact⟨i e,l⟩
  .simp only[n,if_false];obtain⟨k1,k2⟩:=PU g i l;refine⟨λh=>?_,λj b=>?_⟩
   .exact⟨k,k1 (by simpa using h)⟩
   .cases f:c.findIdx? (gS z)with
    |none=>rw[f]at b;simp at b
    |some o=>
     rw[f]at b;simp at b;subst b;exact⟨k,k2 o f⟩
theorem Vx{B w z}:∀{d c},iC B w d c->
 (c.findIdx? (gS z)=none->oF z c=c)/\∀j,c.findIdx? (gS z)=some j->iC B w (d.eraseIdx j) (oF z c)
 |[],[],_=>⟨λ_=>rfl,λj b=>by simp at b⟩
 |e::d,r::c,⟨k,g⟩=>by
  simp only[Oh,oF];by_cases i:gS z r=true
  .simp only[i,if_true];refine⟨λh=>by simp at h,λj b=>?_⟩;cases b;exact g
  .simp only[i,if_false];obtain⟨k1,k2⟩:=Vx (z:=z) g;refine⟨λh=>?_,λj b=>?_⟩
   .rw[bH (by simp),k1 (by simpa using h)]
   .cases f:c.findIdx? (gS z)with
    |none=>rw[f]at b;simp at b
    |some l=>
     rw[f]at b;simp at b;subst b;rw[bH (by simp)];exact⟨k,k2 l f⟩
theorem zI{B w z}:∀{d c},iC B w d c->
 (c.findIdx? (gS z)=none->kj z c=none)/\∀j,c.findIdx? (gS z)=some j->∃m ps,d[j]?=some m/\kj z c=some ps/\nh B w m (.sc (.int .u64 z)::ps)
 |[],[],_=>⟨λ_=>rfl,λj b=>by simp at b⟩
 |e::d,r::c,⟨i,k⟩=>by
  simp only[Oh,kj];by_cases f:gS z r=true
  .simp only[f,if_true];refine⟨λh=>by simp at h,λj b=>?_⟩;cases b;obtain⟨y,ps,rfl,n⟩:=i.key;obtain rfl:z=y:=by simpa[gS]using f
   exact⟨e,ps,rfl,rfl,i⟩
  .simp only[f,if_false];obtain⟨k1,k2⟩:=zI (z:=z) k;refine⟨λh=>?_,λj b=>?_⟩
   .rw[bH (by simp),k1 (by simpa using h)]
   .cases g:c.findIdx? (gS z)with
    |none=>rw[g]at b;simp at b
    |some l=>
     rw[g]at b;simp at b;subst b;rw[bH (by simp)];simpa using k2 l g
def World.lW(w:bX)(g:Nat)(o:Obj):bX:={w with heap:=w.heap.setIfInBounds g o}
theorem Iu{P c}(d:P.underlying c=some (.int .u64))(b z)(w:bX):(Instr.checkKey b 10000 c (.int .u64 z)).run P w=.ok () w:=by
 unfold Instr.checkKey;simp[run_underlying d]
theorem ahB{P t p y}(q:P.underlying t=some (.map p y))(r:P.underlying p=some (.int .u64)){w:bX}{g d clock}(l:w.heap[g]?=some (.map d clock)){B n}(h:iC B w d.toList n)(z){v ps}
 (s:∀e:MapEntry,nh B w {e with key:=.int .u64 z,val:=v} (.sc (.int .u64 z)::ps)):
 ∃f b,(Instr.mapUpdate t (.map (some g)) (.int .u64 z) v).run P w=.ok () (World.lW w g (.map f b))/\iC B w f.toList (oI z ps n):=by
 have i:=JF r h z w;have u:=Iu r false z w;have x:=PU (m:={key:=.int .u64 z,val:=v,born:=clock}) (s {key:=.int .u64 z,val:=v,born:=clock}) s h
 cases k:n.findIdx? (gS z)with
 |none=>
  rw[k]at i;refine⟨d.push {key:=.int .u64 z,val:=v,born:=clock},clock+1,?_,by simpa using x.1 k⟩;simp[Instr.mapUpdate,run_underlying q,MapKept.run_getObj_map l,u,i,MapKept.run_setObj_map _ l,World.lW]
 |some j=>
  obtain⟨m,A,k1,_,k2⟩:=(zI (z:=z) h).2 j k;rw[k]at i;simp only[rj,k1,b_]at i;have o:d[j]?=some m:=by simpa using k1
  have c:(Instr.keyThatStays (((d[j]?).map (·.key)).getD (.int .u64 z)) (.int .u64 z)).run P w=.ok (.int .u64 z) w:=by
   rw[o];simp[Instr.keyThatStays,k2.1,Instr.sameBits]
  refine⟨d.modify j λe=> {e with key:=.int .u64 z,val:=v},clock,?_,by simpa using x.2 j k⟩;simp only[Instr.mapUpdate,Sem.run_bind,run_underlying q,Result.andThen_ok,MapKept.run_getObj_map l,u,i,c,MapKept.run_setObj_map _ l,World.lW]
theorem alj{P t l r}(n:P.underlying t=some (.map l r))(o:P.underlying l=some (.int .u64)){w:bX}{g c clock}(i:w.heap[g]?=some (.map c clock)){B k}(h:iC B w c.toList k)(z ts ty):
 ∃d b,(Builtin.delete_ (t::ts).toArray ty #[.map (some g),.int .u64 z]).run P w=.ok (.tuple #[]) (World.lW w g (.map d b))/\iC B w d.toList (oF z k):=by
 have e:=JF o h z w;have p:=Iu o c.isEmpty z w;have q:=Vx (z:=z) h
 cases f:k.findIdx? (gS z)with
 |none=>
  rw[f]at e;refine⟨c,clock,?_,by rw[q.1 f];exact h⟩;simp[Builtin.delete_,run_underlying n,MapKept.run_getObj_map i,p,e,MapKept.run_setObj_map _ i,World.lW]
 |some j=>
  obtain⟨m,s,k1,_,k2⟩:=(zI (z:=z) h).2 j f;rw[f]at e;simp only[rj,k1,b_]at e;refine⟨c.eraseIdxIfInBounds j,clock,?_,?_⟩
  .simp[Builtin.delete_,run_underlying n,MapKept.run_getObj_map i,p,e,MapKept.run_setObj_map _ i,World.lW]
  .have u:j<c.size:=by have:=(dO.1 k1).1;simpa using this
   have:(c.eraseIdxIfInBounds j).toList=c.toList.eraseIdx j:=by rw[Array.eraseIdxIfInBounds,dif_pos u];simp
   rw[this];exact q.2 j f
theorem agn{P t n o}(p:P.underlying t=some (.map n o))(q:P.underlying n=some (.int .u64)){w:bX}{g f clock}(r:w.heap[g]?=some (.map f clock)){B b}(h:iC B w f.toList b)(z){i k}(y:P.info? o=some i)(A:i.zero=some k)(c:Bool):
 ∃v,(Instr.lookup t (.map (some g)) (.int .u64 z) c).run P w=.ok (if c then .tuple #[v,.bool (kj z b).isSome]else v) w/\
  ((kj z b=none/\v=k)\/∃m ps,kj z b=some ps/\nh B w m (.sc (.int .u64 z)::ps)/\v=m.val):=by
 have d:=JF q h z w;have s:=Iu q f.isEmpty z w
 cases e:b.findIdx? (gS z)with
 |none=>
  rw[e]at d;have u:=(zI (z:=z) h).1 e;refine⟨k,?_,.inl ⟨u,rfl⟩⟩;simp[Instr.lookup,run_underlying p,MapKept.run_getObj_map r,s,d,zeroValue,typeInfo,y,A,u]
 |some j=>
  obtain⟨m,l,k1,x,k2⟩:=(zI (z:=z) h).2 j e;rw[e]at d;simp only[rj,k1,b_]at d;refine⟨m.val,?_,.inr ⟨m,l,x,k2,rfl⟩⟩;simp[Instr.lookup,run_underlying p,MapKept.run_getObj_map r,s,d,x]
section
variable{X:Fx}{E:Env}{st:bx}{a:Act}{w:bX}
theorem QR{w g k o}(h:k≠g):(World.lW w g o).heap[k]?=w.heap[k]?:=by
 simp only[World.lW,ZD];grind
theorem Q_{w g o b}(h:w.heap[g]?=some b):(World.lW w g o).heap[g]?=some o:=by
 grind[World.lW]
theorem Rel.Kc(h:Rel X E st a w){n x}(t:E.N n=some x){g}(d:x.g=some g){w'}(z:w'.os=w.os)(B:w'.tape=w.tape)(hout:w'.output=w.output)
 (q:∀k,k≠g->w'.heap[k]?=w.heap[k]?) (D:w'.heap.size=w.heap.size) (b) (O:h_ X.M E E w w'->RB X.P X.M E w' n b):
 h_ X.M E E w w'/\Rel X E (st.dS ⟨[(n,b)],[]⟩) a w':=by
 obtain⟨H,I,J⟩:=h.names n x g t d;have G:h_ X.M E E w w':={
  cell:=λk o u k1 k2=>by
   have:k≠g:=by rintro rfl;exact k2 (.inr ⟨n,x,t,d⟩)
   exact⟨(World.cell?_of_block (w:=w) (a:=⟨k,o,none⟩) (q k this)).trans k1,k2⟩
  name:=λ_ _ h=>.inr h
  bu:=λ_ h=>h}
 refine⟨G,h.step ⟨[(n,b)],[]⟩ (nx:=st.next) (de _) G (by simp[h.bu]) ?_ h.eJ (λn x g K=>by rw[D];exact h.names n x g K) h.inj (λ_ _=>.inr rfl) (by simp) ?_ ?_⟩
 .refine h.frame.trans (K':=λk=>k=g) ⟨z,B,hout,om,λk _ F=>q k F⟩ ?_;grind
 .intro m y k M F _ P;refine q _ λN=>?_
  subst N;have:=h.inj m n y x k M t F d;simp_all
 grind
theorem XF{cs ps}(h:ml cs=some ps):ps.length=cs.length/\∀(j:Nat)(p:PV),ps[j]?=some p->∃c:C,cs[j]?=some c/\c.pv=some p:=nL h
def wF(P:cC)(st:bx)(t:cd)(m k x:cF):Option gO:=
 match st.arg m with
 |some (.v (.c (.mp n)))=>match P.underlying t,st.heap.lookup n,st.arg k,st.arg x with
  |some (.map b _),some (.map c),some (.v (.c (.p (.sc (.int .u64 z))))),some (.v (.agg cs))=>match P.underlying b,ml cs with
   |some (.int .u64),some ps=>some ⟨[(n,.map (oI z ps c))],[]⟩
   |_,_=>none
  |_,_,_,_=>none
 |_=>none
theorem alq(h:Rel X E st a w){t m k x A}(d:wF X.P st t m k x=some A):
 ∃w',(Instr.mapUpdate t (a.eval m) (a.eval k) (a.eval x)).run X.P w=.ok () w'/\Rel X E (st.dS A) a w':=by
 unfold wF at d;split at d
 .rename_i n B;have D:=h.ir B (n:=n) (by simp[C.names]);obtain⟨y,l,g,o,I⟩:=cW.get (h.cN B).1 D;split at d
  .rename_i W Y J z cs K L q M;have k1:=RP.ek (h.cN q).1;split at d
   .rename_i ps r s;cases d;obtain⟨Z,g',en,clock,F,G,H,N⟩:=h.row (by rw[<-h.bu];exact D) L;rw[l]at F;cases F;rw[o]at G;cases G;obtain⟨us,q1,q2,q3⟩:=(h.arg M).1;obtain⟨O,P⟩:=XF s;have f:∀e:MapEntry,nh (bad X.M E) w {e with key:=.int .u64 z,val:=a.eval x} (.sc (.int .u64 z)::ps):=λe=>
     ⟨rfl,us,q1,by rw[q2,O],λj p Q=>by
      obtain⟨c,c1,c2⟩:=P j p Q;obtain⟨u,R,S,T⟩:=q3 j c c1;exact⟨u,R,S.pv c2,T⟩⟩
    obtain⟨i,b,U,v⟩:=ahB K r H N z f;refine⟨_,by rw[I,k1];exact U,(h.Kc l o (w':=World.lW w g (.map i b)) rfl rfl rfl (λk q=>QR q) (by simp[World.lW]) (.map (oI z ps J)) (λV=>?_)).2⟩;exact⟨y,g,i,b,l,o,Q_ H,v.trans V.cell⟩
   .cases d
  .cases d
 .cases d
def w5(P:cC)(st:bx)(t:cd)(m k:cF):Option gO:=
 match st.arg m with
 |some (.v (.c (.mp n)))=>match P.underlying t,st.heap.lookup n,st.arg k with
  |some (.map b _),some (.map c),some (.v (.c (.p (.sc (.int .u64 z)))))=>match P.underlying b with
   |some (.int .u64)=>some ⟨[(n,.map (oF z c))],[]⟩
   |_=>none
  |_,_,_=>none
 |_=>none
theorem awd(h:Rel X E st a w){t ts ty m k o}(c:w5 X.P st t m k=some o):
 ∃w',(Builtin.delete_ (t::ts).toArray ty #[a.eval m,a.eval k]).run X.P w=.ok (.tuple #[]) w'/\Rel X E (st.dS o) a w':=by
 unfold w5 at c;split at c
 .rename_i n p;have q:=h.ir p (n:=n) (by simp[C.names]);obtain⟨y,e,g,f,v⟩:=cW.get (h.cN p).1 q;split at c
  .rename_i H I x z A B i;have k1:=RP.ek (h.cN i).1;split at c
   .rename_i j;cases c;obtain⟨J,g',K,clock,r,s,u,D⟩:=h.row (by rw[<-h.bu];exact q) B;rw[e]at r;cases r;rw[f]at s;cases s;obtain⟨d,b,F,l⟩:=alj A j u D z ts ty;refine⟨_,by rw[v,k1];exact F,(h.Kc e f (w':=World.lW w g (.map d b)) rfl rfl rfl (λk i=>QR i) (by simp[World.lW]) (.map (oF z x)) (λG=>?_)).2⟩;exact⟨y,g,d,b,e,f,Q_ u,l.trans G.cell⟩
   .cases c
  .cases c
 .cases c
def xJ(P:cC)(st:bx)(t:cd)(m k:cF)(ok:Bool):Option V:=
 match st.arg m with
 |some (.v (.c (.mp n)))=>match P.underlying t,st.heap.lookup n,st.arg k with
  |some (.map d b),some (.map c),some (.v (.c (.p (.sc (.int .u64 z)))))=>match P.underlying d,(P.info? b).bind (·.zero),(pN P b).bind ml with
   |some (.int .u64),some (.agg _),some e=>
    let r:V1:=.agg (((kj z c).getD e).map .p)
    some (if ok then .bL [r,.c (.p (.sc (.bool (kj z c).isSome)))]else .v r)
   |_,_,_=>none
  |_,_,_=>none
 |_=>none
theorem awb(h:Rel X E st a w){t m k ok v}(d:xJ X.P st t m k ok=some v):
 ∃u,(Instr.lookup t (a.eval m) (a.eval k) ok).run X.P w=.ok u w/\RV X.M E w v u:=by
 unfold xJ at d;split at d
 .rename_i n F;have G:=h.ir F (n:=n) (by simp[C.names]);obtain⟨y,L,g,N,O⟩:=cW.get (h.cN F).1 G;split at d
  .rename_i kt vt P z Q R S;have k1:=RP.ek (h.cN S).1;split at d
   .rename_i T U l o q;cases d;obtain⟨x',g',en,clock,H,I,V,W⟩:=h.row (by rw[<-h.bu];exact G) R;rw[L]at H;cases H;rw[N]at I;cases I;obtain⟨cs,r,s⟩:=iy.1 q;obtain⟨i,zv,J,e,f⟩:=wi (M:=X.M) (E:=E) (w:=w) r;rw[J]at o;simp only[rj,e,jq]at o;subst o;obtain⟨Y,Z⟩:=XF s;obtain⟨v,hr,hv⟩:=agn Q l V W z J e ok;have K:eB X.M E w (.agg (((kj z P).getD U).map .p)) v:=by
     rcases hv with⟨q1,rfl⟩| ⟨m',ps,q1,q2,rfl⟩
     .rw[q1];refine⟨T,rfl,?_,λj c b=>?_⟩
      .have:=f.1;simp only[Value.cells]at this;simp[this,Y]
      .simp only[Option.getD_none,cX,bY]at b;obtain⟨p,hp,rfl⟩:=b;obtain⟨c,c1,c2⟩:=Z j p hp;obtain⟨u,A,B,D⟩:=f.2 j c c1;exact⟨u,A,B.pv c2,D⟩
     .rw[q1];obtain⟨_,us,A,B,D⟩:=q2;refine⟨us,A,by simp[B],λj c b=>?_⟩;simp only[gx,cX,bY]at b;obtain⟨p,hp,rfl⟩:=b;exact D j p hp
    refine⟨_,by rw[O,k1];exact hr,?_⟩
    cases ok with
    |false=>exact K
    |true=>
     refine⟨_,rfl,rfl,λj x b=>?_⟩
     match j,b with
     |0,b=>cases b;exact⟨_,rfl,K⟩
     |1,b=>cases b;exact⟨_,rfl,.sc rfl⟩
     |j+2,b=>simp at b
   .cases d
  .cases d
 .cases d
def se(P:cC)(st:bx)(s d:cd)(x:cF):Option (V×gO):=
 match st.arg x with
 |some (.v (.c (.own n)))=>match st.heap.lookup n,P.underlying s with
  |some (.row e rows),some (.slice b)=>match P.underlying b with
   |some (.int .u8)=>if s=d/\rows≠ []/\rows.head?.map List.length=some 1 then some (.c (.own n),⟨[(n,.row e rows)],[]⟩)else none
   |_=>none
  |_,_=>none
 |_=>none
theorem aay{w:bX}{g cur e fz}(d:w.heap[g]?=some (.cells cur e fz))(f:nc cur.size fz):
 ∃b,(w.freeze ⟨g,cur.size,none⟩ 1).heap[g]?=some (.cells cur e b)/\nc cur.size b:=by
 obtain⟨lo,c⟩:=fz;refine⟨if lo==c then(cur.size,cur.size+1)else(min lo cur.size,max c (cur.size+1)),?_,?_⟩
 .simp only[World.freeze,Nat.one_ne_zero,if_false,Oi,d];simp
 .split
  .exact .inr (de _)
  .rename_i i;rcases f with h|h
   .simp_all
   .exact .inr om
theorem abU{w:bX}{g k o}(h:k≠g):(w.freeze ⟨g,o,none⟩ 1).heap[k]?=w.heap[k]?:=by
 simp only[World.freeze,Nat.one_ne_zero,if_false,Oi];grind
theorem avI(h:Rel X E st a w){s d x v F}(b:se X.P st s d x=some (v,F)):
 ∃u w',(convert s d (a.eval x)).run X.P w=.ok u w'/\Rel X E (st.dS F) a w'/\RV X.M E w' v u:=by
 unfold se at b;split at b
 .rename_i n G;have H:=h.ir G (n:=n) (by simp[C.names]);have L:=(h.cN G).1;obtain⟨y,c,I⟩:=cW.get L H;split at b
  .rename_i e rows e' M N;split at b
   .rename_i f;split at b
    .rename_i O;cases b;obtain⟨rfl,P,m⟩:=O;obtain⟨x',cur,fz,J,o,Q,R,S,T,U,V,W,K,q,t⟩:=h.row (by rw[<-h.bu];exact H) M;rw[c]at J;cases J
     cases z:y.g with
     |none=>
      simp_all
     |some g=>
      have hblk:=Q g z;obtain⟨A,k1,k2⟩:=aay hblk o;have B:y.sz=1:=by
       cases rows with
       |nil=>exact absurd rfl P
       |cons r l=>rw[<-K r (by simp)];simpa using m
      have Y:=h.Kc c z (w':=w.freeze ⟨g,cur.size,none⟩ 1) (by rfl) (by rfl) (by rfl) (λk Z=>abU Z) (by simp[World.freeze]) (.row e rows) (λhG=>by
       refine⟨y,cur,A,c,k2.imp id λh=>⟨B,h⟩,λg' aa=>?_,R,S,T,U,V,W,K,q,λi r j p hi hj=>?_⟩
       .simp_all
       .obtain⟨u,q1,q2⟩:=t i r j p hi hj;exact⟨u,q1,q2.goes hG⟩)
      refine⟨a.eval x,_,?_,Y.2,.inr ⟨y,c,I⟩⟩;rw[I,z];have D:w.shape? g=some (e,cur.size):=by simp[World.shape?,hblk]
      simp[convert,run_underlying N,run_underlying f,markStringish,D]
    .cases b
   .cases b
  .cases b
 .cases b
def sC(P:cC)(st:bx)(t:cd)(s x:cF):Option (V×gO):=
 match st.arg s,st.arg x with
 |some (.v (.c (.sub m 0 len))),some (.v (.c c))=>match st.heap.lookup m,st.view c,fr P t with
  |some (.row d rows),some b,some e=>match iR P e with
   |some (n,_)=>if d=e/\ct n b=true/\len+b.length<=rows.length then some (.c (.sub m 0 (len+b.length)),⟨[(m,.row e (rows.take len++b++rows.drop (len+b.length)))],[]⟩)else none
   |none=>none
  |_,_,_=>none
 |_,_=>none
theorem akb(h:Rel X E st a w){t ty s x v ef}(o:sC X.P st t s x=some (v,ef)):
 ∃u w',(Builtin.append_ #[t,t] ty #[a.eval s,a.eval x]).run X.P w=.ok u w'/\Rel X E (st.dS ef) a w'/\RV X.M E w' v u:=by
 unfold sC at o;split at o
 .rename_i m len cx hs hx;have U:=h.ir hs (n:=m) (by simp[C.names]);obtain⟨z0,d,V,A,H,G⟩:=cW.get (h.cN hs).1 U;have G:=G (.inr rfl);simp only[Bg,Oj]at G H;split at o
  .rename_i W rows c e hl hv ht;obtain⟨Y,ah⟩:=nB ht;split at o
   .rename_i n b I;obtain⟨i,zz,q,ai,aj,ae,Z,ak,aa⟩:=rD I;split at o
    .rename_i hc;cases o;obtain⟨rfl,hR,hroom⟩:=hc;rw[jk]at hR;obtain⟨z,cur,fz,k1,J,k2,k3,k4,k5,k6,k7,k8,k9,ab,ac⟩:=h.row (by rw[<-h.bu];exact U) hl;rw[d]at k1;cases k1;have f:z0.sz=n:=by rw[k7,aa]
     have K:=h.eJ m z0 d;rcases(h.D7 hx hv).src hR with⟨rfl,B,cap,L⟩| ⟨gs,os,cap,news,L,al,y,hcell,M,hval⟩
     ·
      have D:=h.step ⟨[(m,.row W rows)],[]⟩ (E':=E) (w':=w) (nx:=st.next) (de _) ⟨λ_ _ _ h1 h2=>⟨h1,h2⟩,λ_ _ h=>.inr h,λ_ h=>h⟩ (by simp[h.bu]) h.frame h.eJ h.names h.inj (λ_ _=>.inr rfl) (by simp) (λ_ _ _ _ _ _ _=>rfl) (λk b S=>by
       simp only[fD,jS]at S;split at S
       .rename_i N;simp at N;subst N;cases S;exact .inr (h.row (by rw[<-h.bu];exact U) hl)
       .cases S)
      refine⟨.slice A len z0.cap,w,?_,?_,?_⟩
      .rw[H,L];have O:len<=z0.cap:=om
       cases A with
       |none=>cases B<;>simp[Builtin.append_,run_underlying Y,sizeOf,typeInfo,q,Builtin.lenOf,Builtin.firstCells,loadCells,loadCellsFrom,O]
       |some A=>cases B<;>simp[Builtin.append_,run_underlying Y,sizeOf,typeInfo,q,Builtin.lenOf,Builtin.firstCells,loadCells,loadCellsFrom,O,storeCells]
      .have e1:rows.take len++[]++rows.drop (len+([]:List (List PV)).length)=rows:=by simp
       rw[e1];exact D
      .refine .inr ⟨z0,d,by simpa using V,A,by simp,λ_=>by simpa using G⟩
     .cases T : z0.g with
      |none=>simp_all
      |some g =>
       rw[T]at G;subst G;have hblk:=k2 g T;have af:len*n+c.length*n<=cur.size:=by
        rw[k8,f,<-jU];exact gi _ om
       have hrun:=BN (P:=X.P) w t ty W i Y q g len z0.cap cur J hblk ⟨gs,os,none⟩ c.length cap news (by simp_all) hcell M om (by simp_all);rw[Z]at hrun;have Q:(cur.toList.take (len*n)++news++cur.toList.drop (len*n+news.length)).toArray.size=cur.size:=by simp[y];omega
       have R:dy z0.sz (rows.take len++c++rows.drop (len+c.length)):=((k9.take _).app (by rw[f];exact hR)).app (λr hr=>k9 r (nP hr));have hw:=(h.write d T hblk ((cur.toList.take (len*n)++news++cur.toList.drop (len*n+news.length)).toArray) [] (by simp) (.row W (rows.take len++c++rows.drop (len+c.length))) (λhG ag _=>by
        refine⟨z0,_,fz,by exact d,by rw[Q];exact J,λg' am=>by simp_all,by simp;omega,k4,k5,k6,k7,by rw[Q,k8],R,ab,λi r j p q hj=>?_⟩;rw[y]at hG;have an:j<n:=by rw[<-f,<-R r (eb q)];grind
        rw[pT,sj (by simp;omega),y,f];rw[sj (l:=rows) (ys:=c) (off:=len) (k:=i) hroom]at q;split at q
        .have K:(i-len+1)*n<=c.length*n:=gi _ om;have e1:i*n=len*n+(i-len)*n:=by rw[<-jU];congr 1;omega
         rw[oW]at K;rw[bA om];obtain⟨u,q1,q2⟩:=hval _ r j p q hj;exact⟨u,by grind,q2.goes hG⟩
        .rename_i hc;have ad:¬(len*n<=i*n+j/\i*n+j<len*n+c.length*n):=by
          rintro⟨q1,q2⟩;apply hc;rw[<-jU]at q2;refine⟨?_,?_⟩
          .rcases mP i len with F|F
           .have:(i+1)*n<=len*n:=gi _ F;grind
           .exact F
          .rcases mP i (len+c.length)with F|F
           .exact F
           .have:(len+c.length)*n<=i*n:=gi _ F;omega
         rw[bH ad];obtain⟨u,q1,q2⟩:=ac i r j p q hj;rw[f]at q1;exact⟨u,by simpa using q1,q2.goes hG⟩)).2
       exact⟨_,_,by simp_all,hw,.inr ⟨z0,d,om,some ⟨g,0,none⟩,rfl,λ_=>by rw[T];simp⟩⟩
    .cases o
   .cases o
  .cases o
 .cases o
def o7(P:cC)(st:bx)(d:Nat)(t c:cd)(s x:cF):Option (V×gO):=
 match fr P t,st.arg s,st.arg x,P.underlying c with
 |some e,some (.v (.c .nil)),some (.v (.c (.p (.sc (.int .i64 n))))),some (.int _)=>match iR P e,pN P e with
  |some (_,b),some f=>match ml f with
   |some z=>if 0<n/\n<=9223372036854775807/\n.toNat*b<=140737488355328 then some (.c (.own d),⟨[(d,.row e (List.replicate n.toNat z))],[]⟩)else none
   |none=>none
  |_,_=>none
 |_,_,_,_=>none
theorem avN(h:Rel X E st a w){d}(hd:E.N d=none)(F:X.k0<=d)(G:d<st.next){t V ty s x v W}
 (c:o7 X.P st d t V s x=some (v,W)):
 ∃u w' E',(Builtin.append_ #[t,V] ty #[a.eval s,a.eval x]).run X.P w=.ok u w'/\(∀n,n≠d->E.N n=none->E'.N n=none)/\Rel X E' (st.dS W) a w'/\RV X.M E' w' v u:=by
 unfold o7 at c;split at c
 .rename_i e n k ht hs hx Y;obtain⟨hu,aa⟩:=nB ht;have h3:a.eval s=.slice none 0 0:=(h.cN hs).1;have h4:=RP.ek (h.cN hx).1;split at c
  .rename_i sz b zs o hz;obtain⟨i,z,Z,q,f,g,H,I,J⟩:=rD o;obtain⟨y,z',A,j,B⟩:=wi (M:=X.M) (E:=E) (w:=w) hz;rw[Z]at A;cases A;rw[q]at j;cases j;split at c
   .rename_i D K;split at c
    .rename_i l;obtain⟨h0,ab,hb⟩:=l;cases c;obtain⟨L,O⟩:=nL K;have ac:D.length=sz:=by rw[L,<-B.1,f]
     obtain⟨N,rfl⟩:∃N:Nat,n=(N:Int):=⟨n.toNat,om⟩
     simp only[ey]at hb⊢;have hm:N<=maxLen:=by simp only[maxLen];omega
     have P:=grownCap_ge w N 0 e;have Q:=grownCap_le_maxLen w N 0 e hm;have hR:dy sz (List.replicate N D):=λr hr=>by simp_all
     have hf:=h.pK hd F G (e:=e) g J.symm (rows:=List.replicate N D) hR (cap:=grownCap w N 0 e) (by simpa using P) Q
      (us:=Builtin.zeroCells z.cells N++Builtin.zeroCells z.cells (grownCap w N 0 e-N)) (by
       simp only[vf,size_zeroCells,f,<-jU];congr 1;omega) (λy r m p h5 h6=>by
       have R:r=D:=(Be.1 (eb h5)).2;subst R;have S:y<N:=by grind
       have T:m<sz:=by grind
       obtain⟨cc,h7,h8⟩:=O m p h6;obtain⟨u',h9,U,_⟩:=B.2 m cc h7;have C:y*sz+m<N*sz:=by
        have:(y+1)*sz<=N*sz:=gi _ S;grind
       refine⟨u',?_,RC.pv U h8⟩;rw[sQ,bA (by rw[size_zeroCells,f];exact C)];simp only[Builtin.zeroCells,ZG,f,ZH,C,if_true,b_,jq];rw[show(y*sz+m)%sz=m by rw[Oe,ZI,x8 T]];simp_all) (wd:=w.drew) (.inr rfl)
     refine⟨_,_,_,?_,λk Y ad=>by grind[Env.kJ],hf.1,hf.2⟩;rw[h3,h4];have hN:0<N:=om;have hw:IntKind.i64.wrap (N:Int)=(N:Int):=by
      rw[IntKind.wrap_i64];omega
     have e1:¬((N:Int)<0):=om;have e2:¬(281474976710656< (N:Int)*(i.bytes:Int)):=by
      grind
     have e3:¬(9223372036854775807< (N:Int)):=om;have e4:¬(281474976710656<Builtin.nextslicecap N 0*i.bytes):=by rw[nextslicecap_zero hN,I];omega
     have e5:N*sz≠0:=Ol (x9 hN g);have e6:¬N=0:=om;have e9:max (N:Int) 0=N:=om;simp[Builtin.append_,run_underlying hu,run_underlying Y,sizeOf,typeInfo,zeroValue,Z,q,H,asInt,asIntOf,hw,e1,e2,e3,e4,e5,e6,e9,Question.forced,Builtin.firstCells,newRow,grownCap]
    .cases c
   .cases c
  .cases c
 .cases c
def su(P:cC)(st:bx)(t:cd)(x:cF):Option (V×gO):=
 match st.arg x with
 |some (.v (.c (.ptr n off)))=>match lu P t,st.heap.lookup n with
  |some (cZ,e),some (.box cs)=>match ml ((cs.drop off).take cZ)with
   |some b=>if dZ P e=1/\m_ P e=true/\0<cZ/\cZ<=4096/\b.length=cZ then some (.c (.p (.sl (b.map λq=>[q]))),⟨[],[n]⟩)else none
   |none=>none
  |_,_=>none
 |_=>none
theorem amO(h:Rel X E st a w){t x v O}(b:su X.P st t x=some (v,O)):
 ∃u E',(Instr.sliceAt t (a.eval x) none none none).run X.P w=.ok u w/\(∀n,E.N n=none->E'.N n=none)/\Rel X E' (st.dS O) a w/\RV X.M E' w v u:=by
 unfold su at b;split at b
 .rename_i n off P;have Q:=h.ir P (n:=n) (by simp[C.names]);obtain⟨y,l,g,A,B⟩:=cW.get (h.cN P).1 Q;split at b
  .rename_i cZ e cs D W;split at b
   .rename_i F Y;split at b
    .rename_i Z;cases b;obtain⟨aa,s,R,S,hlen⟩:=Z;obtain⟨G,ab⟩:=EP D;obtain⟨x',g',cur,e',T,U,j3,j4,j5⟩:=h.row (by rw[<-h.bu];exact Q) W;rw[l]at T;cases T;rw[A]at U;cases U;have H:=h.eJ n y l;obtain⟨q1,q2⟩:=nL Y;have I:iK (bad X.M E) (bad X.M (E.drop [n])) w w:=λk o u l B=>⟨l,λh=>B (ss h)⟩
     have J:¬bad X.M (E.drop [n]) g:=by
      rintro(hb| ⟨m,z,k1,k2⟩)
      .exact(h.names n y g l A).2.2 hb
      .obtain⟨K,V⟩:=nA k1;have:=h.inj m n z y g K l k2 A;simp_all
     have hval:∀(i:Nat)(q:PV),F[i]?=some q->∃u,cur[off+i]?=some u/\RP (bad X.M (E.drop [n])) w q u:=by
      intro i q d;obtain⟨c,k1,k2⟩:=q2 i q d;rw[jc]at k1;split at k1
      .rw[kC]at k1;obtain⟨u,K,V,_⟩:=j5 _ c k1;exact⟨u,K,RP.trans (RC.pv V k2) I⟩
      .cases k1
     refine⟨.slice (some ⟨g,off,none⟩) cZ cZ,E.drop [n],?_,λm hm=>Env.kL hm,h.drop [n] (by simpa using H),?_⟩
     .rw[B];have L:¬cZ=0:=om;simp[Instr.sliceAt,run_underlying G,Instr.sliceBounds,run_sizeOf w s,Instr.sureAddr,L];rfl
     .have M:(F.map λq=>[q]).length=cZ:=by simpa using hlen
      rw[show(Value.slice (some ⟨g,off,none⟩) cZ cZ)=.slice (some ⟨g,off,none⟩) (F.map λq=>[q]).length cZ by rw[M]];refine .row (sz:=1) (f:=λi _=>(cur[off+i]?).getD undef) (by grind) om (by simp only[maxLen];omega) (λr hr=>?_) (λi r j p d hj=>?_) (λi r j p d hj=>?_)
      .grind
      .simp only[cX,bY]at d;obtain⟨q,d,rfl⟩:=d;obtain⟨u,k1,k2⟩:=hval i q d;have N:j=0:=by grind
       subst N;refine⟨?_,J⟩;rw[cell_of_row w g _ cur e' (0,0) j3,x7,lh,k1];rfl
      grind
    .cases b
   .cases b
  .cases b
 .cases b
end
end
section
open Go.RowKit
theorem apt{P}(w)(t k ty e)(i)(z){l}(m:P.underlying t=some (.slice e))(f:P.underlying k=some (.int l))(n:P.info? e=some i)(o:i.zero=some z)
 (g ff b) (cur) {fz} (h:nc cur.size fz) (p:w.heap[g]?=some (.cells cur e fz)) (N:Nat) (q:0<N) (c:0<i.size) (r:(N:Int)<=9223372036854775807) (s:N*i.bytes<=281474976710656)
 (v:∀u∈(Builtin.zeroCells z.cells N).toList,u.oneCell'=true)
 (hroom:ff+N<=b) (d:ff*i.size+(Builtin.zeroCells z.cells N).toList.length<=cur.size):
 (Builtin.append_ #[t,k] ty #[.slice (some ⟨g,0,none⟩) ff b,.int .i64 N]).run P w=
  .ok (.slice (some ⟨g,0,none⟩) (ff+N) b) (w.setRow g (cur.toList.take (ff*i.size)++(Builtin.zeroCells z.cells N).toList++cur.toList.drop (ff*i.size+(Builtin.zeroCells z.cells N).toList.length)).toArray):=by
 have j:=uK P g (ff*i.size) e fz (Builtin.zeroCells z.cells N).toList 0 cur w h p (by simpa using d) v;have x:IntKind.i64.wrap (N:Int)=(N:Int):=by rw[IntKind.wrap_i64];omega
 have y:¬((N:Int)<0):=om;have A:¬(281474976710656< (N:Int)*(i.bytes:Int)):=om;have B:N*i.size≠0:=Ol (x9 q c);simp[Builtin.append_,run_underlying m,run_underlying f,sizeOf,typeInfo,zeroValue,n,o,asInt,asIntOf,x,y,A,B,hroom,Addr.add_lit,j]
theorem SI{P w}(t m ty e)(i)(z){o}(p:P.underlying t=some (.slice e))(h:P.underlying m=some (.int o))(q:P.info? e=some i)(r:i.zero=some z)
 (b) (ff c) (olds:List b9) (k:olds.length=ff*i.size) (holds:∀j v,olds[j]?=some v->w.cell? (b.add j)=some v)
 (N) (s:0<N) (d:0<i.size) (u:N*i.bytes<=281474976710656)
 (G:c<ff+N) (x:((ff+N:Nat):Int)<=9223372036854775807) (n:Builtin.nextslicecap (ff+N) c*i.bytes<=281474976710656):
 (Builtin.append_ #[t,m] ty #[.slice (some b) ff c,.int .i64 N]).run P w=
  .ok (.slice (some ⟨w.heap.size,0,none⟩) (ff+N) (grownCap w (ff+N) c e))
   (w.drew.alloc (.cells (olds.toArray++(Builtin.zeroCells z.cells N).toList.toArray++Builtin.zeroCells z.cells (grownCap w (ff+N) c e- (ff+N))) e)):=by
 have y:¬(ff+N<=c):=om;have f:¬(9223372036854775807< ((ff:Int)+(N:Int))):=om;have g:¬(281474976710656<Builtin.nextslicecap (ff+N) c*i.bytes):=om;have l:=run_firstCells_some (P:=P) w.drew i.size ff b ff c olds k (by simpa using holds);have A:IntKind.i64.wrap (N:Int)=(N:Int):=by rw[IntKind.wrap_i64];omega
 have B:¬((N:Int)<0):=om;have C:¬(281474976710656< (N:Int)*(i.bytes:Int)):=om;have D:N*i.size≠0:=Ol (x9 s d);have F:max (N:Int) 0=N:=om;simp[Builtin.append_,run_underlying p,run_underlying h,sizeOf,typeInfo,zeroValue,q,r,asInt,asIntOf,A,B,C,D,F,y,f,g,Question.forced,l,newRow,grownCap]
def uN(P:cC)(st:bx)(d:Nat)(t c:cd)(s x:cF):Option (V×gO):=
 match fr P t,st.arg s,st.arg x,P.underlying c with
 |some e,some (.v (.c cs)),some (.v (.c (.p (.sc (.int .i64 n))))),some (.int _)=>match iR P e,pN P e,st.hX e cs with
  |some (f,b),some g,some (rows,h)=>match ml g with
   |some z=>if 0<n/\rows.length+n.toNat<=9223372036854775807/\(rows.length+n.toNat)*b<=140737488355328/\ct f rows=true then some (.c (.own d),⟨[(d,.row e (rows++List.replicate n.toNat z))],h⟩)else none
   |none=>none
  |_,_,_=>none
 |_,_,_,_=>none
section
variable{X:Fx}{E:Env}{st:bx}{a:Act}{w:bX}
set_option maxHeartbeats 2000000 in
theorem aqb(h:Rel X E st a w){d}(hd:E.N d=none)(ai:X.k0<=d)(aj:d<st.next)(aL:d∉st.bu){t t' ty s x v ef}
 (he:uN X.P st d t t' s x=some (v,ef)):
 ∃u w' E',(Builtin.append_ #[t,t'] ty #[a.eval s,a.eval x]).run X.P w=.ok u w'/\(∀n,n≠d->E.N n=none->E'.N n=none)/\Rel X E' (st.dS ef) a w'/\RV X.M E' w' v u:=by
 unfold uN at he;split at he
 .rename_i e cs nn kk ht hs hx l;obtain⟨hu,bg⟩:=nB ht;have aM:a.eval x=.int .i64 nn:=RP.ek (h.cN hx).1;split at he
  .rename_i n b zs rows ms aw aN f;obtain⟨i,z,hi,hz,L,H,aa,Q,R⟩:=rD aw;obtain⟨i',z',ax,ah,ab⟩:=wi (M:=X.M) (E:=E) (w:=w) aN;rw[hi]at ax;cases ax;rw[hz]at ah;cases ah;split at he
   .rename_i zp aO;split at he
    .rename_i hb;obtain⟨bh,S,ac,ad⟩:=hb;rw[jk]at ad;cases he;obtain⟨aP,aQ⟩:=nL aO;have ay:zp.length=n:=by rw[aP,<-ab.1,L]
     obtain⟨N,rfl⟩:∃N:Nat,nn=(N:Int):=⟨nn.toNat,om⟩
     simp only[ey]at S ac⊢;have hN:0<N:=om;have az:=hN;generalize T:List.replicate N zp=c;have B:c.length=N:=by rw[<-T];simp
     rw[<-B]at S ac;have ae:dy n c:=λr hr=>by rw[<-T]at hr;rw[(Be.1 hr).2];exact ay
     have hlen:rows.length+c.length<=maxLen:=by simp only[maxLen];omega
     obtain⟨ak,_,aA⟩:=h.cN hs;have aB:∀ns,iK (bad X.M E) (bad X.M (E.drop ns)) w w:=λns k o u h1 h2=>⟨h1,λh=>h2 (ss h)⟩
     generalize hnews:(Builtin.zeroCells z.cells N).toList=news;have af:news.length=c.length*n:=by rw[<-hnews,B];simp[Builtin.zeroCells,L]
     have I:∀q,q<N*n->news[q]?=some (z.cells[q%n]!):=λq hq=>by
      rw[<-hnews];simp only[Builtin.zeroCells,Of,cX,L,Array.toList_range,vg hq,b_]
     have hval:∀(i':Nat)(r:List PV)(j':Nat)(p:PV),c[i']?=some r->r[j']?=some p->∃u,news[i'*n+j']?=some u/\RP (bad X.M E) w p u:=λi' r j' p h5 h6=>by
      rw[<-T]at h5;have aR:r=zp:=(Be.1 (eb h5)).2;subst aR;have aS:i'<N:=by have:=(dO.1 h5).1;simpa using this
      have aT:j'<n:=by rw[<-ay];exact(dO.1 h6).1
      obtain⟨cc,h7,h8⟩:=aQ j' p h6;obtain⟨u',h9,F,_⟩:=ab.2 j' cc h7;have al:i'*n+j'<N*n:=by
       have:(i'+1)*n<=N*n:=gi _ aS;rw[oW]at this;omega
      refine⟨u',?_,RC.pv F h8⟩;rw[I _ al,show(i'*n+j')%n=j' by rw[Oe,ZI,x8 aT]];obtain⟨q,hq⟩:=jW.1 h9;rw[getElem!_pos z.cells j' q,hq]
     have aC:∀u∈news,u.oneCell'=true:=λu aU=>by
      obtain⟨q,hq⟩:=ZL aU;have aD:=(dO.1 hq).1;rw[af,B]at aD;rw[I q aD]at hq;have aV:q%n<n:=Nat.mod_lt _ H;have aE:q%n<z.cells.size:=by rw[L];exact aV
      have aF:q%n<zs.length:=by rw[<-ab.1];exact aE
      obtain⟨u',h9,_,F⟩:=ab.2 (q%n) _ (cY aF);obtain⟨q',aW⟩:=jW.1 h9;rw[getElem!_pos z.cells _ q',aW]at hq;cases hq;exact F
     rw[aM];have hnil:a.eval s=.slice none 0 0->rows=[]->(∀m∈ms,m<st.next)->
      ∃u w' E',(Builtin.append_ #[t,t'] ty #[a.eval s,.int .i64 N]).run X.P w=.ok u w'/\(∀n,n≠d->E.N n=none->E'.N n=none)/\Rel X E' (st.dS ⟨[(d,.row e (rows++c))],ms⟩) a w'/\RV X.M E' w' (.c (.own d)) u:=by
      intro hA h0 am;subst h0;rw[hA];have hD:=h.drop ms am;have an:(E.drop ms).N d=none:=Env.kL hd;have ao:=grownCap_ge w c.length 0 e;have ap:=grownCap_le_maxLen w c.length 0 e (by simpa using hlen);have hf:=hD.pK an ai aj (e:=e) H R.symm ae ao ap (us:=news.toArray++Builtin.zeroCells z.cells (grownCap w c.length 0 e-c.length))
       (by simp only[vf,kD,size_zeroCells,L,af,<-jU];congr 1;omega)
       (λi r j p k1 k2=>by
        obtain⟨u,J,k4⟩:=hval i r j p k1 k2;have l:=(dO.1 J).1;exact⟨u,by rw[sQ,bA (by simpa using l)];simpa using J,k4.trans (aB ms)⟩) (wd:=w.drew) (.inr rfl)
      refine⟨_,_,_,?_,λk l U=>by rw[Env.kJ l];exact Env.kL U,hf.1,hf.2⟩;have hw:IntKind.i64.wrap (N:Int)=(N:Int):=by rw[IntKind.wrap_i64];omega
      have e1:¬((N:Int)<0):=om;have be:N*b<=140737488355328:=by simpa[B]using ac
      have e2:¬(281474976710656< (N:Int)*(i.bytes:Int)):=by rw[Q,<-Og];omega
      have e3:¬(9223372036854775807< (N:Int)):=om;have e4:¬(281474976710656<Builtin.nextslicecap N 0*i.bytes):=by rw[nextslicecap_zero hN,Q];omega
      have e6:¬N=0:=om;have e5:N*n≠0:=Ol (x9 hN H);have e9:max (N:Int) 0=N:=om;rw[B,<-hnews];simp[Builtin.append_,run_underlying hu,run_underlying l,sizeOf,typeInfo,zeroValue,hi,hz,aa,asInt,asIntOf,hw,e1,e2,e3,e4,e5,e6,e9,Question.forced,Builtin.firstCells,newRow,grownCap]
     have hrow:∀(m:Nat)(y:Nm)(g:Nat)(cur:Array b9)(fz:Nat×Nat),sa y.sz cur.size fz->m∉st.bu->E.N m=some y->y.g=some g->w.heap[g]?=some (.cells cur e fz)->y.sz=n->y.cap<=maxLen->cur.size=y.cap*n->rows.length<=y.cap->
      (∀(i:Nat)(r:List PV)(j:Nat)(p:PV),rows[i]?=some r->r[j]?=some p->∃u,cur[i*n+j]?=some u/\RP (bad X.M E) w p u)->a.eval s=.slice (some ⟨g,0,none⟩) rows.length y.cap->ms=[m]->
      ∃u w' E',(Builtin.append_ #[t,t'] ty #[a.eval s,.int .i64 N]).run X.P w=.ok u w'/\(∀n,n≠d->E.N n=none->E'.N n=none)/\Rel X E' (st.dS ⟨[(d,.row e (rows++c))],ms⟩) a w'/\RV X.M E' w' (.c (.own d)) u:=by
      intro m y g0 cur fz O D hN aX aq K aY V aZ aG ba am;subst am;have aH:=h.eJ m y hN;rw[ba];have bf:rows.length*n<=cur.size:=by rw[V];exact gi _ aZ
      have W:(cur.toList.take (rows.length*n)).length=rows.length*n:=by simp;omega
      have Y:∀(us:Array b9),(∀k,k<rows.length*n+news.length->us[k]?=(cur.toList.take (rows.length*n)++news)[k]?)->∀(i:Nat)(r:List PV)(j:Nat)(p:PV),(rows++c)[i]?=some r->r[j]?=some p->∃u,us[i*n+j]?=some u/\RP (bad X.M E) w p u:=by
       intro us aI i r j p k1 k2;have bj:r.length=n:=(ad.app ae) r (eb k1);have hj:=(dO.1 k2).1;rw[lg]at k1;split at k1
       .rename_i al;obtain⟨u,J,k4⟩:=aG i r j p k1 k2;have:(i+1)*n<=rows.length*n:=gi _ al;rw[oW]at this;refine⟨u,?_,k4⟩;rw[aI _ om,lg,bA om,jc,bA om];simpa using J
       .obtain⟨u,J,k4⟩:=hval _ r j p k1 k2;have l:=(dO.1 J).1;have e1:i*n=rows.length*n+(i-rows.length)*n:=by rw[<-jU];congr 1;omega
        refine⟨u,?_,k4⟩;rw[aI _ om,lg,bH om,W,<-J];congr 1;omega
      by_cases hroom:rows.length+c.length<=y.cap
      .have aJ:rows.length*n+news.length<=cur.size:=by rw[af,V,<-jU];exact gi _ hroom
       have hr:=apt (P:=X.P) w t t' ty e i z hu l hi hz g0 rows.length y.cap cur O aq N az om om (by rw[Q];have:N*b<=(rows.length+c.length)*b:=gi _ om;omega) (by rw[hnews];exact aC) om (by rw[aa,hnews];exact aJ)
       conv at hr=>rhs;rw[hnews,<-B]
       rw[aa]at hr;have l:=h.take (d:=d) aH hN aX aq (us:=(cur.toList.take (rows.length*n)++news++cur.toList.drop (rows.length*n+news.length)).toArray) (by rw[show(cur.toList.take (rows.length*n)++news++cur.toList.drop (rows.length*n+news.length)).toArray.size=cur.size by simp;omega];exact O) hd ai aj aL (rows:=rows++c) (by rw[K];exact ad.app ae) om (by rw[K,R]) (by simpa using hroom) aY
        (by rw[K,<-V];simp;omega) (by
         rw[K];refine Y _ λk l=>?_
         rw[pT,lg,bA (by simp only[cD,W];exact l)])
       simp only[cD]at l;exact⟨_,_,_,hr,λk l U=>by rw[Env.kJ l];exact Env.kL U,l.1,l.2⟩
      .have holds:∀j v,(cur.toList.take (rows.length*n))[j]?=some v->w.cell? ((⟨g0,0,none⟩:Addr).add j)=some v:=λj u hj=>by
        rw[oJ,cell_of_row w g0 _ cur e fz aq];simpa using(B' hj).1
       have hr:=SI (P:=X.P) (w:=w) t t' ty e i z hu l hi hz ⟨g0,0,none⟩ rows.length y.cap (cur.toList.take (rows.length*n)) (by rw[aa];exact W) holds N az om (by rw[Q];have:N*b<=(rows.length+c.length)*b:=gi _ om;omega) om om
        (by rw[Q,<-B];exact growslice_fits om ac)
       conv at hr=>rhs;rw[hnews,<-B]
       have ao:=grownCap_ge w (rows.length+c.length) y.cap e;have ap:=grownCap_le_maxLen w (rows.length+c.length) y.cap e hlen;have aK:∀k,k<rows.length*n+news.length->((cur.toList.take (rows.length*n)).toArray++news.toArray++Builtin.zeroCells z.cells (grownCap w (rows.length+c.length) y.cap e- (rows.length+c.length)))[k]?=(cur.toList.take (rows.length*n)++news)[k]?:=by
        intro k l;rw[sQ,bA (by simp only[vf,kD,W];exact l)];simp[lg]
       have hD:=h.drop [m] (by simpa using aH);have an:(E.drop [m]).N d=none:=Env.kL hd;have hf:=hD.pK an ai aj (e:=e) H R.symm (rows:=rows++c) (ad.app ae) (cap:=grownCap w (rows.length+c.length) y.cap e) (by simpa using ao) ap
        (us:=(cur.toList.take (rows.length*n)).toArray++news.toArray++Builtin.zeroCells z.cells (grownCap w (rows.length+c.length) y.cap e- (rows.length+c.length)))
        (by simp only[vf,kD,size_zeroCells,L,af,W,<-jU];congr 1;omega)
        (λi r j p k1 k2=>by
         obtain⟨u,J,k4⟩:=Y _ aK i r j p k1 k2;exact⟨u,J,k4.trans (aB [m])⟩) (wd:=w.drew) (.inr rfl)
       simp only[cD]at hf;exact⟨_,_,_,hr,λk l U=>by rw[Env.kJ l];exact Env.kL U,hf.1,hf.2⟩
     cases cs with
     |nil=>
      obtain⟨rfl,rfl⟩:=f;exact hnil ak rfl (by simp)
     |own m=>
      simp only[bx.hX]at f;have D:=aA m (by simp[C.names]);split at f
      .rename_i e' Z hl;split at f
       .rename_i ar;subst ar;cases f;obtain⟨y,cur,fz,h1,O,h2,h3,h4,h5,h6,au,h7,h8,F,h9⟩:=h.row D hl;obtain⟨y',k1,k2⟩:=cW.get ak (by rw[h.bu];exact D);rw[h1]at k1;cases k1;have G:y.sz=n:=by rw[au,R]
        cases hg:y.g with
        |none=>
         have av:=F hg;have ag:y.len=0:=om;rw[hg,ag,av]at k2;exact hnil (by simpa using k2) (mN om) (by simpa using h.eJ m y h1)
        |some g=>
         rw[hg,h3]at k2;exact hrow m y g cur fz O D h1 hg (h2 g hg) G h5 (by rw[<-G];exact h7) om (by rw[<-G];exact h9) (by simpa using k2) rfl
       .cases f
      .cases f
     |sub m lo len=>
      cases lo with
      |succ lo=>simp[bx.hX]at f
      |zero=>
      simp only[bx.hX]at f;have D:=aA m (by simp[C.names]);split at f
      .rename_i e' Z hl;split at f
       .rename_i ar;subst ar;cases f;obtain⟨y,cur,fz,h1,O,h2,h3,h4,h5,h6,au,h7,h8,F,h9⟩:=h.row D hl;obtain⟨y',k1,k2,A,J,k4⟩:=cW.get ak (by rw[h.bu];exact D);rw[h1]at k1;cases k1;have G:y.sz=n:=by rw[au,R]
        have hA:=k4 (.inr rfl);have bc:(Z.take len).length=len:=by simp;omega
        cases hg:y.g with
        |none=>
         have av:=F hg;have ag:len=0:=om;rw[hA,hg,ag,av]at J;exact hnil (by simpa using J) (by rw[ag];simp) (by simpa using h.eJ m y h1)
        |some g=>
         rw[hA,hg]at J;refine hrow m y g cur fz O D h1 hg (h2 g hg) G h5 (by rw[<-G];exact h7) om (λi r j p hi hj=>?_) (by rw[bc];simpa using J) rfl;rw[<-G];exact h9 i r j p (B' hi).1 hj
       .cases f
      .cases f
     |_=>simp[bx.hX]at f
    .cases he
   .cases he
  .cases he
 .cases he
end
def qg(P:cC)(st:bx)(d:Nat)(t b:cd)(s x:cF):Option (V×gO):=match o7 P st d t b s x with
 |some r=>some r
 |none=>uN P st d t b s x
section
variable{X:Fx}{E:Env}{st:bx}{a:Act}{w:bX}
theorem agb(h:Rel X E st a w){d}(g:E.N d=none)(b:X.k0<=d)(c:d<st.next)(f:d∉st.bu){t i ty s x v j}
 (e:qg X.P st d t i s x=some (v,j)):
 ∃u w' E',(Builtin.append_ #[t,i] ty #[a.eval s,a.eval x]).run X.P w=.ok u w'/\(∀n,n≠d->E.N n=none->E'.N n=none)/\Rel X E' (st.dS j) a w'/\RV X.M E' w' v u:=by
 unfold qg at e;split at e
 .rename_i r k;cases e;exact avN h g b c k
 .exact aqb h g b c f e
end
def sB(P:cC)(st:bx)(d:Nat)(t:cd)(s x:cF):Option (V×gO):=
 match fr P t with
 |some e=>match iR P e,st.arg s,st.arg x with
  |some (n,b),some (.v (.c (.p .nl))),some (.v (.c x))=>match st.view x with
   |some c=>if c≠ []/\c.length<=9223372036854775807/\c.length*b<=140737488355328/\ct n c=true then some (.c (.own d),⟨[(d,.row e c)],[]⟩)else none
   |none=>none
  |_,_,_=>none
 |none=>none
def pt(P:cC)(st:bx)(d:Nat)(t:cd)(s x:cF):Option (V×gO):=match na P st d t s x with
 |some r=>some r
 |none=>sB P st d t s x
section
variable{X:Fx}{E:Env}{st:bx}{a:Act}{w:bX}
theorem acD(h:Rel X E st a w){d}(hd:E.N d=none)(D:X.k0<=d)(F:d<st.next){t ty s x v Y}
 (f:sB X.P st d t s x=some (v,Y)):
 ∃u w' E',(Builtin.append_ #[t,t] ty #[a.eval s,a.eval x]).run X.P w=.ok u w'/\(∀n,n≠d->E.N n=none->E'.N n=none)/\Rel X E' (st.dS Y) a w'/\RV X.M E' w' v u:=by
 unfold sB at f;split at f
 .rename_i e ht;obtain⟨Z,ab⟩:=nB ht;split at f
  .rename_i n b cx y hs hx;obtain⟨i,z,hi,hz,G,C,ac,H,I⟩:=rD y;split at f
   .rename_i c J;split at f
    .rename_i hb;obtain⟨m,K,L,q⟩:=hb;rw[jk]at q;have hlen:c.length<=maxLen:=by simp only[maxLen];omega
     cases f;obtain⟨M,_,N⟩:=h.cN hx;have O:=h.view M N J;obtain⟨A,hA⟩:=RP.Qi (h.cN hs).1;rw[hA];rcases O.src q with⟨h0,_⟩| ⟨g,o,cap,news,Q,R,S,hcell,aa,hval⟩
     .exact absurd h0 m
     .rw[Q];have T:0<c.length:=by cases c with|nil=>exact absurd rfl m|cons a l=>simp
      have U:=grownCap_ge w c.length 0 e;have V:=grownCap_le_maxLen w c.length 0 e (by simpa using hlen);have hf:=h.pK hd D F (e:=e) C I.symm q U V (us:=news.toArray++Builtin.zeroCells z.cells (grownCap w c.length 0 e-c.length))
       (by simp only[vf,kD,size_zeroCells,G,S,<-jU];congr 1;omega)
       (λi r j p k1 k2=>by
        obtain⟨u,k3,k4⟩:=hval i r j p k1 k2;have hk:=(dO.1 k3).1;exact⟨u,by grind,k4⟩) (wd:=w.drew) (.inr rfl)
      refine⟨_,_,_,?_,λk hk W=>by rw[Env.kJ hk];exact W,hf.1,hf.2⟩
      cases A with
      |none=>exact run_append_nil (P:=X.P) w t ty e i z Z hi hz ⟨g,o,none⟩ c.length cap news (by simp_all) hcell R om (by grind)
      |some B=>
       have hr:=run_append_grow (P:=X.P) w t ty e i z Z hi hz B 0 0 [] (by simp) (λj v hj=>by simp at hj) ⟨g,o,none⟩ c.length cap news (by simp_all) hcell om om
        (by rw[H];exact growslice_fits om (by simpa using L))
       simpa using hr
    .cases f
   .cases f
  .cases f
 .cases f
theorem awo(h:Rel X E st a w){d}(g:E.N d=none)(b:X.k0<=d)(c:d<st.next)(f:d∉st.bu){t ty s x v i}
 (e:pt X.P st d t s x=some (v,i)):
 ∃u w' E',(Builtin.append_ #[t,t] ty #[a.eval s,a.eval x]).run X.P w=.ok u w'/\(∀n,n≠d->E.N n=none->E'.N n=none)/\Rel X E' (st.dS i) a w'/\RV X.M E' w' v u:=by
 unfold pt at e;split at e
 .rename_i r j;cases e;exact aih h g b c f j
 .exact acD h g b c e
theorem avV{P d t s x}{α:Type}{f:V×gO->α}{y:α}(h:(na P st d t s x).map f=some y):(pt P st d t s x).map f=some y:=by
 unfold pt
 cases b:na P st d t s x with
 |none=>rw[b]at h;cases h
 |some r=>rw[b]at h;exact h
end
end
end
end Go.Proofs.YtiikkkhcolcebaaGreatDoor
