/- A part. -/
import Derived.Test.YtiikkkhcolcebaaGreatDoorG6
import Derived.WalkKit
import Derived.WalkSpells
import Derived.Deep.RegionHeld3
import Derived.Deep.AppendLies
import Derived.IntWalk
import Derived.StillTail
import Derived.StillTailTactics
import Derived.Laws.CopyOwn
import Derived.Lib.Hide
import Derived.WalkArith
set_option linter.all false
set_option maxHeartbeats 4000000
set_option maxRecDepth 100000
namespace Go.Proofs.YtiikkkhcolcebaaGreatDoor
noncomputable section
section
open Go.RowKit
namespace Sp
def mO(i j:Nat):Nat:=j/64*256+i*64+j%64
def ey(t:Nat):Nat:=t/64%4
def eE(t:Nat):Nat:=t/64/4*64+t%64
def cU(L:Nat):Nat:=(L+255) /256*64
def Fv(t):ey t<4:=by unfold ey;omega
def afT{i j t p}(a:i<4)(hp:t%64+p<=64):(t<=mO i j/\mO i j<t+p)↔(i=ey t/\eE t<=j/\j<eE t+p):=by
 unfold mO ey eE;omega
def agI{j t p}(hp:t%64+p<=64)(h:eE t<=j/\j<eE t+p):mO (ey t) j=t+(j-eE t):=by
 grind[mO,ey,eE]
def OR{L t p}(hp:t%64+p<=64)(h:t+p<=L):eE t+p<=cU L:=by
 unfold eE cU;omega
def fill(f:Nat->Int)(t i j:Nat):Int:=if mO i j<t then f (mO i j)else 0
def YE(f)(i j):fill f 0 i j=0:=by simp[fill]
def XP(f){t p i j}(a:i<4)(hp:t%64+p<=64):
 fill f (t+p) i j=if i=ey t/\eE t<=j/\j<eE t+p then f (t+(j-eE t))else fill f t i j:=by
 have d:=afT (j:=j) a hp;unfold fill;by_cases b:i=ey t/\eE t<=j/\j<eE t+p
 .obtain⟨rfl,c⟩:=b;have e:=agI hp c;simp_all
 omega
def AQ(w:bW)(A:Option Addr)(len:Nat)(f:Nat->Int):Prop:=
 0<len->∃g o,A=some ⟨g,o,none⟩/\∀i,i<len->w.cell? ⟨g,o+i,none⟩=some (.int .u8 (f i))
def Row(w:bW)(g m:Nat)(c:Nat->Int):Prop:=
 ∃L:List b8,w.heap[g]?=some (.cells L.toArray 5 (0,0))/\L.length=m/\∀j,j<m->L[j]?=some (.int .u8 (c j))
def Row.lt{w g m c}(h:Row w g m c):g<w.heap.size:=by
 obtain⟨L,a,_⟩:=h;grind
def Row.gl{w w' g m c}(h:Row w g m c)(a:w'.heap[g]?=w.heap[g]?):Row w' g m c:=by
 obtain⟨L,d,k⟩:=h;exact⟨L,a.trans d,k⟩
def Row.congr{w g m c a}(h:Row w g m c)(q:∀j,j<m->c j=a j):Row w g m a:=by
 obtain⟨L,d,k,t⟩:=h;exact⟨L,d,k,λj u=>by simp_all⟩
def Row.cell{w g m c}(h:Row w g m c){j}(a:j<m):w.cell? ⟨g,j,none⟩=some (.int .u8 (c j)):=by
 obtain⟨L,d,q,k⟩:=h;rw[cell_of_row w g j _ _ _ d];simpa using k j a
def Row.frozen{w g m c}(h:Row w g m c)(j):w.frozen? ⟨g,j,none⟩=false:=by
 obtain⟨L,a,_⟩:=h;simp[World.frozen?,a]
def Row.made(w:bW)(m):Row (w.alloc (.cells (madeCells (Value.int .u8 0).cells (m*1)) 5)) w.heap.size m (λ_=>0):=by
 refine⟨(madeCells (Value.int .u8 0).cells (m*1)).toList,by simpa using heap_alloc_new w _,by simp[size_madeCells],λj a=>?_⟩;simp[madeCells,Value.cells,a,Nat.mod_one]
def Row.set{w g m c}(h:Row w g m c)(j)(x):Row (w.setCell ⟨g,j,none⟩ (.int .u8 x)) g m (λi=>if i=j then x else c i):=by
 obtain⟨L,a,d,k⟩:=h;rw[setCell_eq_setRow w g j _ 5 (0,0) _ a];refine⟨L.set j (.int .u8 x),by simpa using setRow_heap w g _ _ 5 (0,0) a,by simpa using d,λi q=>?_⟩;grind
def Row.copy{w:bW}{g m}{c:Nat->Int}(L:List b8)(h:w.heap[g]?=some (.cells L.toArray 5 (0,0)))(q:L.length=m)(t:∀j,j<m->L[j]?=some (.int .u8 (c j)))
 (off) (cs) (d:Nat->Int) (k:∀j,j<cs.length->cs[j]?=some (.int .u8 (d j))) (a:off+cs.length<=m):
 Row (w.setRow g (L.take off++(cs++L.drop (off+cs.length))).toArray) g m (λj=>if off<=j/\j<off+cs.length then d (j-off)else c j):=by
 refine⟨_,setRow_heap w g _ _ 5 (0,0) h,by simp;omega,λj u=>?_⟩;grind
def Py:(Tryz.prog.info? 5).map (λi=>(i.zero,i.size,i.bytes))=some (some (.int .u8 0),1,1):=kr
def ayp:(Tryz.prog.info? 95).map (λi=>(i.zero,i.size,i.bytes))=some (some (.slice none 0 0),1,24):=kr
def xX(n:Int):Int:=if n<=0 then 0 else((n-1) /256+1)*64
def Bz{k a b}(h:a=b):Ending.returned (.int k a)=.returned (.int k b):=by rw[h]
def aiq(n)(w)(h0: -9223372036854775808<=n)(h1:n<=9223372036854775807):
 Calls Tryz.prog 248 #[.int .i64 n] w λe w'=>e=.returned (.int .i64 (xX n))/\w'=w:=by
 by_cases h:n<0
 .go_wp2
  go_ret
  exact⟨Bz (by unfold xX;omega),rfl⟩
 .by_cases h2:0<n%256
  .go_wp2
   go_ret
   exact⟨Bz (by unfold xX;omega),rfl⟩
  .go_wp2
   go_ret
   exact⟨Bz (by grind[xX]),rfl⟩
def adg(n)(w)(h0:0<=n)(h1:n<=9223372036854775807):
 Calls Tryz.prog 249 #[.int .i64 n] w λe w'=>e=.returned (.tuple #[.int .i64 (n/64%4),.int .i64 (n/64/4*64+n%64),.int .i64 0])/\w'=w:=by
 go_wp2
 go_ret3
 simp_all
def aBk(L m)(w)(a:L<=1048576)(h:cU L=m):
 Calls Tryz.prog 248 #[.int .i64 (L:Int)] w λe w'=>e=.returned (.int .i64 (m:Int))/\w=w':=by
 refine(aiq (L:Int) w om om).mono ?_;rintro e w' ⟨rfl,rfl⟩;rw[show xX (L:Int)=(cU L:Int)by grind[xX,cU],h];simp_all
def aha(t)(w)(d:t<=1048576)(s a)(b:ey t=s)(c:eE t=a):
 Calls Tryz.prog 249 #[.int .i64 (t:Int)] w λe w'=>e=.returned (.tuple #[.int .i64 (s:Int),.int .i64 (a:Int),.int .i64 0])/\w=w':=by
 refine(adg (t:Int) w om om).mono ?_;rintro e w' ⟨rfl,rfl⟩;rw[show((t:Int) /64%4)=(ey t:Int)by unfold ey;omega,show((t:Int) /64/4*64+(t:Int)%64)=(eE t:Int)by unfold eE;omega,b,c];simp_all
def Uf(m:Nat)(f:m<=1048576)(w):
 (Instr.makeSlice 95 (.int .i64 (m:Int)) (.int .i64 (m:Int))).run Tryz.prog w=.ok (.slice (some ⟨w.heap.size,0,none⟩) m m) (w.alloc (.cells (madeCells (Value.int .u8 0).cells (m*1)) 5)):=by
 obtain⟨c,d,a,e,b⟩:=info_parts Py;have h:=run_make (P:=Tryz.prog) w 95 5 c (.int .u8 0) Tryz.underlying95 d a .i64 .i64 (m:Int) (m:Int) om om (by rw[b];omega) om;simp_all
structure sZ(w:bW)(base G cap:Nat)(h:Nat->Nat)(m:Nat)(c:Nat->Nat->Int):Prop where
 head:∃cur,w.heap[G]?=some (.cells cur 95 (0,0))/\cur.size=cap/\∀i,i<4->cur[i]?=some (.slice (some ⟨h i,0,none⟩) m m)
 low:base<=G/\G<w.heap.size
 rows:∀i,i<4->base<=h i/\h i≠G/\Row w (h i) m (c i)
 apart:∀i j,i<4->j<4->h i=h j->i=j
def Ys(w:bW)(m:Nat)(c:Nat->Nat->Int)(e:Ending)(w':bW):Prop:=
 ∃G cap h,e=.returned (.slice (some ⟨G,0,none⟩) 4 cap)/\4<=cap/\cap<=9223372036854775807/\sZ w' w.heap.size G cap h m c/\Below w.heap.size w w'
def sZ.cell{w base G cap h m c}(a:sZ w base G cap h m c){i}(d:i<4):w.cell? ⟨G,i,none⟩=some (.slice (some ⟨h i,0,none⟩) m m):=by
 obtain⟨cur,k,_,q⟩:=a.head;rw[cell_of_row w G i cur 95 (0,0) k];exact q i d
def Row.UX(w:bW)(m):Row (w.alloc (.cells (madeCells #[Value.int .u8 0] m) 5)) w.heap.size m (λ_=>0):=by
 have:=Row.made w m
 rwa [sF]at this
def qJ(h:Nat->Nat)(m k:Nat):List b8:=(List.range k).map λi=>.slice (some ⟨h i,0,none⟩) m m
def aut(h)(m k g):qJ (λi=>if i=k then g else h i) m (k+1)=qJ h m k++[.slice (some ⟨g,0,none⟩) m m]:=by
 unfold qJ;rw[ID,dU];congr 1
 .apply ia;grind
 .simp
def afs(h)(m k){i}(a:i<k):(qJ h m k)[i]?=some (.slice (some ⟨h i,0,none⟩) m m):=by simp[qJ,a]
def azn(W:bW)(C)(x):∀j u,[x][j]?=some u->((W.alloc (.cells C 5)).alloc (.cells #[x] 95)).cell? ((⟨W.heap.size+1,0,none⟩:Addr).add j)=some u:=by
 have:=World.news_of_block (w:=(W.alloc (.cells C 5)).alloc (.cells #[x] 95)) (heap_alloc_new _ _);simp_all
def FX(w:bW)(m k:Nat)(v:b8)(W:bW):Prop:=
 ∃h:Nat->Nat,W.ownsRow w.heap.size 95 1 v k (qJ h m k)/\(∀i,i<k->w.heap.size<=h i/\Row W (h i) m (λ_=>0))/\(∀i j,i<k->j<k->h i=h j->i=j)/\Below w.heap.size w W
def FX.step{w W x m k v D X h}(hrow:W.ownsRow w.heap.size 95 1 v k (qJ h m k))(z:∀i,i<k->w.heap.size<=h i/\Row W (h i) m (λ_=>0))
 (I:∀i j,i<k->j<k->h i=h j->i=j) (q:Below w.heap.size w W)
 (d:x.ownsRow w.heap.size 95 1 D (k+1) (qJ h m k++[.slice (some ⟨W.heap.size,0,none⟩) m m]))
 (hgrow:((W.alloc (.cells (madeCells #[Value.int .u8 0] m) 5)).alloc X).grownBy x v.ownBlock):FX w m (k+1) D x:=by
 have G:∀j,j<W.heap.size->((W.alloc (.cells (madeCells #[Value.int .u8 0] m) 5)).alloc X).heap[j]?=W.heap[j]?:=λj E=>
  (Below.heap_alloc _ _ _ (by simp;omega)).trans (Below.heap_alloc _ _ _ E)
 have B:∀j c,Row W j m c->some j≠v.ownBlock:=by
  rintro j c ⟨J,F,_⟩ e;rcases hrow.2 with⟨rfl,_⟩| ⟨g,cap,cur,rfl,_,K,_⟩
  .simp[Value.ownBlock]at e
  .obtain rfl:j=g:=by simpa[Value.ownBlock]using e
   simp_all
 have t:Row ((W.alloc (.cells (madeCells #[Value.int .u8 0] m) 5)).alloc X) W.heap.size m (λ_=>0):=(Row.UX W m).gl (Below.heap_alloc _ _ _ ch);refine⟨λi=>if i=k then W.heap.size else h i,by rw[aut];exact d,λi H=>?_,λi j H E e=>?_,?_⟩
 .show w.heap.size<=(if i=k then W.heap.size else h i)/\Row x (if i=k then W.heap.size else h i) m _;by_cases a:i=k
  .rw[bB a];refine⟨q.size,t.gl (hgrow.block _ (by simp;omega) (λe=>?_))⟩;have:=hrow.lt _ e.symm;omega
  .rw[bG a];obtain⟨F,y⟩:=z i om;exact⟨F,y.gl ((hgrow.block _ (by have:=y.lt;simp;omega) (B _ _ y)).trans (G _ y.lt))⟩
 .simp only at e;by_cases a:i=k<;>by_cases u:j=k
  .omega
  .rw[bB a,bG u]at e;have:=(z j om).2.lt;omega
  .rw[bG a,bB u]at e;have:=(z i om).2.lt;omega
  grind
 .exact((q.alloc q.size _).alloc (by have:=q.size;simp;omega) _).grown hgrow (by have:=q.size;simp;omega) (λr e=>(hrow.lt r e).1)
def sZ.step{W base G cap h m t s a f}(d:sZ W base G cap h m (fill f t))(B:ey t=s)(J:eE t=a)(N):
 sZ ((W.drewN N).setCell ⟨h s,a,none⟩ (.int .u8 (f t))) base G cap h m (fill f (t+1)):=by
 have k:=Fv t;rw[B]at k;have D:∀i j,i<4->fill f (t+1) i j=if i=s/\a<=j/\j<a+1 then f (t+(j-a))else fill f t i j:=λi j u=>by
  have:=XP f (t:=t) (p:=1) (i:=i) (j:=j) u om;simp_all
 have E:G≠h s:=λe=>(d.rows s k).2.1 e.symm
 obtain⟨cur,F,x,y⟩:=d.head;refine⟨⟨cur,?_,x,y⟩,⟨d.low.1,by simpa[World.setCell]using d.low.2⟩,λi u=>?_,d.apart⟩
 .simp_all[Below.heap_setCell]
 .obtain⟨H,I,z⟩:=d.rows i u;refine⟨H,I,?_⟩;by_cases q:i=s
  .subst q;refine(Row.set (w:=W.drewN N) z a (f t)).congr λj _=>?_
   grind
  .refine(z.gl (Below.heap_setCell (W.drewN N) _ _ _ (λe=>q (d.apart i s u k e)))).congr λj _=>?_
   simp_all
set_option maxRecDepth 100000 in
set_option maxHeartbeats 1000000 in
def adk(A)(L cap)(f)(w)(hL:L<=1048576)(hb:AQ w A L f):
 Calls Tryz.prog 187 #[.slice A L cap] w (Ys w (cU L) (fill f L)):=by
 obtain⟨i0,hi,hz0,hz1,hz2⟩:=info_parts ayp;obtain⟨m,hm⟩:∃m,cU L=m:=⟨_,rfl⟩
 have PY:m<=1048576:=by grind[cU]
 have zu:=Uf m PY;have Hm:=Lib.hid hm;rw[hm];clear hm
 go_enter Tryz.func187,Tryz.ntmps187
 go_wp2_with fail
 go_loopw [3,4] (λv i W=>∃k:Nat,k<=4/\i=.int .i64 k/\FX w m k v W) (λ_ i _=>4- (intOf i).toNat)
 case atStart=>exact⟨0,om,rfl,λ_=>0,World.ownsRow_nil _ _ _ _,λi hi=>absurd hi om,λi j hi=>absurd hi om,Below.refl _ _⟩
 case round=>
  obtain⟨k,hk,rfl,h,hrow,hr,ha,hB⟩:=hrel;have hBs:=hB.size;by_cases hlt:k<4
  .go_wp2_with (first| (go_at_call 248;refine(aBk L m _ hL Hm.out).mono ?_;rintro e w' ⟨rfl,rfl⟩)| (at_builtin;go_must (refine wpList_append_own _ rfl _ _ 29 rfl w.heap.size 95 i0 (.slice none 0 0) 1 24 Tryz.underlying29 hi hz0 hz1 hz2 rfl dc _ _ _ rfl ((hrow.alloc _).alloc _) ⟨wr.heap.size+1,0,none⟩ 1 1 [.slice (some ⟨wr.heap.size,0,none⟩) m m] rfl rfl (azn _ _ _) (by simp[Value.oneCell']) (by unfold maxLen;omega) om (by simp;omega) ?_);intro v' w1 hown' hgrow _))
   go_roundw
   case rel=>exact⟨k+1,om,by go_num,FX.step hrow hr ha hB hown' hgrow⟩
   case measure=>simp[intOf];omega
  .obtain rfl:k=4:=om;obtain⟨G,c4,aED,rfl,hG1,PZ,hc4,abt,hG5,hG6⟩:=hrow.2.resolve_left (λh=>absurd h.2 om);have aEG:c4<=9223372036854775807:=by simp only[maxLen]at abt;omega
   have hG2:=(kq.1 PZ).1;have hG4:True:=trivial;have hS0:sZ wr w.heap.size G c4 h m (fill f 0):=by
    refine⟨⟨aED,PZ,om,λi hi=>by
     have:=afs h m 4 hi;grind⟩,⟨hG1,hG2⟩,λi hi=>⟨(hr i hi).1,?_,(hr i hi).2.congr λj _=>(YE f i j).symm⟩,ha⟩
    rintro rfl;obtain⟨Lj,h1,_⟩:=(hr i hi).2;simp_all
   clear hrow hr ha hG1 hG2 PZ hG4 hG5 hG6 abt zu
   go_wp2_with fail
   simp only[Int.cast_ofNat_Int]
   go_loopw [5] (λi W=>∃t:Nat,t<=L/\i=.int .i64 t/\sZ W w.heap.size G c4 h m (fill f t)/\Below w.heap.size w W) (λi _=>L- (intOf i).toNat)
   case atStart=>grind
   case round=>
    obtain⟨t,ht,rfl,hS,hB⟩:=hrel;by_cases PM:t<L
    .obtain⟨ga,oa,rfl,H6⟩:=hb om;have oY:=Fv t;have P0:eE t+1<=m:=by have:=OR (L:=L) (t:=t) (p:=1) om om;have:=Hm.out;omega
     obtain⟨hr1,hr2,hr3⟩:=hS.rows (ey t) oY;have d0:=hS.cell oY;have d1:=hr3.cell (j:=eE t) om;have d2:=hr3.frozen (eE t);have d3:wr.cell? ⟨ga,oa+t,none⟩=some (.int .u8 (f t)):=(hB.cell (p:=⟨ga,oa+t,none⟩) (World.block_lt_of_cell? w _ (H6 t PM))).trans (H6 t PM);generalize zw:ey t=sn at*;generalize H7:eE t=an at*;have Hsn:=Lib.hid zw;have Han:=Lib.hid H7;have i1:(sn:Int)<4:=om;have i3:(an:Int)< (m:Int):=om
     go_wp2_with (go_at_call 249;refine(aha t _ om sn an Hsn.out Han.out).mono ?_;rintro e w' ⟨rfl,rfl⟩)
     go_still_tail 10,kr
     go_wp2
     go_roundw
     case rel=>exact⟨t+1,om,by go_num,hS.step Hsn.out Han.out 1,(hB.setCell (p:=⟨h sn,an,none⟩) (hS.rows sn oY).1 _).drew⟩
     case measure=>simp[intOf];omega
    .obtain rfl:t=L:=om
     go_wp2
     go_ret
     exact⟨G,c4,h,rfl,hc4,aEG,hS,hB⟩
def we(b:List Int)(i:Nat):List PV:=[.sl (fy ((List.range (cU b.length)).map λj=>fill (λt=>(b[t]?).getD 0) b.length i j))]
def nB(b:List Int):List (List PV):=(List.range 4).map (we b)
def JL{M w b v}(h:RP M w (.sl (fy b)) v):∃A cap,v=.slice A b.length cap/\b.length<=cap+b.length/\(b.length=0\/b.length<=cap/\cap<=maxLen)/\AQ w A b.length (λt=>(b[t]?).getD 0):=by
 rcases RP.rows h with⟨c,A,cap,rfl⟩| ⟨g,o,cap,sz,f,rfl,c,d,k,hR,m⟩
 .have:b=[]:=by cases b with|nil=>rfl|cons=>simp[fy]at c
  subst this;exact⟨A,cap,rfl,by simp,.inl rfl,λh=>absurd h ch⟩
 .rw[Fe];rw[Fe]at d;refine⟨_,cap,rfl,om,.inr ⟨d,k⟩,λhp=>⟨g,o,rfl,λi e=>?_⟩⟩;have a:sz=1:=by
   have j:=db (l:=fy b) (i:=i) (by rw[Fe];exact e);rw[<-hR _ (eN j),GI b _ (eN j)]
  subst a;have n:b[i]?=some b[i]:=db e;obtain⟨p,q⟩:=m i [.sc (.int .u8 b[i])] 0 (.sc (.int .u8 b[i])) (by rw[Lc,n];rfl) rfl;rw[RP.eM q]at p;simp_all
def Ub{M w g m c}(h:Row w g m c)(n:¬M g)(o:m<=maxLen):RP M w (.sl (fy ((List.range m).map c))) (.slice (some ⟨g,0,none⟩) m m):=by
 by_cases q:m=0
 .subst q;exact .nil
 .have s:(fy ((List.range m).map c)).length=m:=by simp[fy]
  have k:∀(i:Nat)(r:List PV),(fy ((List.range m).map c))[i]?=some r->i<m/\r=[.sc (.int .u8 (c i))]:=by
   intro i r b;have d:i<m:=by grind
   rw[Lc,cY,sG d]at b;simp_all
  rw[show(Value.slice (some ⟨g,0,none⟩) m m)=.slice (some ⟨g,0,none⟩) (fy ((List.range m).map c)).length m by rw[s]];refine .row (sz:=1) (f:=λi _=>.int .u8 (c i)) (by grind) om o (GI _) (λi r j p b e=>?_) (λi r j p b e=>?_)
  .obtain⟨l,rfl⟩:=k i r b;have a:j=0:=by grind
   subst a;refine⟨?_,n⟩;have:=h.cell l;simpa using this
  .obtain⟨l,rfl⟩:=k i r b;have a:j=0:=by grind
   subst a;simp at e;subst e;exact .sc rfl
def aiy(b)(t:b.length<=1048576):eX Tryz.prog 187 [.c (.p (.sl (fy b)))] [] (.v (.c (.own 0))) [(0,.row 95 (nB b))]:={
 own:=⟨_,Tryz.func187,by kernel_rfl,rfl⟩
 call :=λw M N vals K L O P Q R F=>by
  obtain⟨v,H,k⟩:=F 0 _ rfl;have c:vals= #[v]:=by
   grind
  subst c;obtain⟨A,cap,rfl,_,u,I⟩:=JL (show RP _ w (.sl (fy b)) v from k);refine(adk A b.length cap _ w t I).mono ?_;rintro e w' ⟨G,c4,S,rfl,k1,k2,l,d⟩;obtain⟨cur,q1,q2,q3⟩:=l.head;have y:=l.low;have z:∀g,w.heap.size<=g->g≠G->¬bad M ⟨λn=>if n=0 then some ⟨some G,4,c4,1⟩else none,[]⟩ g:=by
   rintro g B J (t| ⟨n,x,o,T⟩)
   .grind
   grind
  refine⟨_,⟨λn=>if n=0 then some ⟨some G,4,c4,1⟩else none,[]⟩,rfl,Frame.B9 d,⟨rfl,?_,?_,λm C=>absurd C (sK m)⟩,?_,?_⟩
  .grind
  .simp_all
  .intro n U a;simp only[gb,kJ]at a;split at a
   .rename_i o;simp at o;subst o;cases a;refine⟨⟨some G,4,c4,1⟩,cur,(0,0),by simp,.inl rfl,λg B=>by cases B;exact q1,by simp[nB],k1,by simp only[maxLen];omega,by simp only;omega,by kernel_rfl,by simp only;omega,λr D=>?_,λh=>(by cases h),λi r j p E q=>?_⟩
    .simp only[nB,gg]at D;obtain⟨i,_,rfl⟩:=D;rfl
    .have f:i<4:=by
      grind[nB]
     simp only[nB,cY,sG f,cg,ko]at E;subst E;have s:j=0:=by cases j with|zero=>rfl|succ j=>simp[we]at q
     subst s;simp[we]at q;subst q;obtain⟨V,W,X⟩:=l.rows i f;have C:cU b.length<=maxLen:=by simp only[maxLen];unfold cU;omega
     simp_all[Ub]
   .cases a
  .exact .inr ⟨⟨some G,4,c4,1⟩,by simp,rfl⟩}
end Sp
def L9{rows}:∀{b},mD rows=some b->rows=fy b:=by
 induction rows with
 |nil=>intro b h;simp[mD]at h;subst h;rfl
 |cons r rows ih=>
  intro b h;simp only[mD,pY]at h
  cases a:xU r with
  |none=>simp[a]at h
  |some n=>
   cases c:rows.mapM xU with
   |none=>simp[a,c]at h
   |some d=>
    simp[a,c]at h;subst h;rw[ih (b:=d) c];unfold xU at a;split at a
    .cases a;rfl
    .cases a
def w_:List L->Option (List L):=λls=>match ls with
 |[l]=>match mD l.bE with
  |some b=>if b.length<=1048576 then some [.r (Sp.nB b)]else none
  |none=>none
 |_=>none
def aiQ:bw:=⟨187,[.c (.p .sl U0)],[],1,1,.v (.c (.own 0)),[(0,.row 95 U1)],w_,2003⟩
def ase:aiQ.ok Tryz.prog:=by
 intro ls os f a c;have a:w_ ls=some os:=a;unfold w_ at a;split at a
 .split at a
  .rename_i b d;split at a
   .rename_i e;cases a;have:=Sp.aiy b e;rw[<-L9 d]at this;exact this
   .cases a
  .cases a
 .cases a
end
end
end Go.Proofs.YtiikkkhcolcebaaGreatDoor
