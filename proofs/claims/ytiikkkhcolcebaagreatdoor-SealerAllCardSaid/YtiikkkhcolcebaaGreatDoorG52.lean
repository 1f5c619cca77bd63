/- A part. -/
import Derived.Test.YtiikkkhcolcebaaGreatDoorG15
import Derived.WalkKit
import Derived.WalkSpells
import Derived.Deep.RegionHeld3
import Derived.Deep.AppendLies
import Derived.IntWalk
import Derived.StillTail
import Derived.StillTailTactics
import Derived.Laws.CopyOwn
import Derived.Lib.Hide
import Derived.WalkArith
set_option linter.all false
set_option maxHeartbeats 4000000
set_option maxRecDepth 100000
namespace Go.Proofs.YtiikkkhcolcebaaGreatDoor
noncomputable section
section
open Go.RowKit
namespace Sp
def pw(i j:Nat):Nat:=j/64*256+i*64+j%64
def ix(t:Nat):Nat:=t/64%4
def gl(t:Nat):Nat:=t/64/4*64+t%64
def dw(L:Nat):Nat:=(L+255) /256*64
theorem J_(t):ix t<4:=by unfold ix;omega
theorem acL{i j t p}(a:i<4)(hp:t%64+p<=64):(t<=pw i j/\pw i j<t+p)↔(i=ix t/\gl t<=j/\j<gl t+p):=by
 unfold pw ix gl;omega
theorem adE{j t p}(hp:t%64+p<=64)(h:gl t<=j/\j<gl t+p):pw (ix t) j=t+(j-gl t):=by
 grind[pw,ix,gl]
theorem XI{L t p}(hp:t%64+p<=64)(h:t+p<=L):gl t+p<=dw L:=by
 unfold gl dw;omega
def fill(f:Nat->Int)(t i j:Nat):Int:=if pw i j<t then f (pw i j)else 0
theorem Wq(f)(i j):fill f 0 i j=0:=by simp[fill]
theorem Vy(f){t p i j}(a:i<4)(hp:t%64+p<=64):
 fill f (t+p) i j=if i=ix t/\gl t<=j/\j<gl t+p then f (t+(j-gl t))else fill f t i j:=by
 have d:=acL (j:=j) a hp;unfold fill;by_cases b:i=ix t/\gl t<=j/\j<gl t+p
 .obtain⟨rfl,c⟩:=b;have e:=adE hp c;simp_all
 omega
def Jk(w:bX)(A:Option Addr)(len:Nat)(f:Nat->Int):Prop:=
 0<len->∃g o,A=some ⟨g,o,none⟩/\∀i,i<len->w.cell? ⟨g,o+i,none⟩=some (.int .u8 (f i))
def Row(w:bX)(g m:Nat)(c:Nat->Int):Prop:=
 ∃L:List b9,w.heap[g]?=some (.cells L.toArray 5 (0,0))/\L.length=m/\∀j,j<m->L[j]?=some (.int .u8 (c j))
theorem Row.lt{w g m c}(h:Row w g m c):g<w.heap.size:=by
 obtain⟨L,a,_⟩:=h;grind
theorem Row.fM{w w' g m c}(h:Row w g m c)(a:w'.heap[g]?=w.heap[g]?):Row w' g m c:=by
 obtain⟨L,d,k⟩:=h;exact⟨L,a.trans d,k⟩
theorem Row.congr{w g m c a}(h:Row w g m c)(q:∀j,j<m->c j=a j):Row w g m a:=by
 obtain⟨L,d,k,t⟩:=h;exact⟨L,d,k,λj u=>by simp_all⟩
theorem Row.cell{w g m c}(h:Row w g m c){j}(a:j<m):w.cell? ⟨g,j,none⟩=some (.int .u8 (c j)):=by
 obtain⟨L,d,q,k⟩:=h;rw[cell_of_row w g j _ _ _ d];simpa using k j a
theorem Row.frozen{w g m c}(h:Row w g m c)(j):w.frozen? ⟨g,j,none⟩=false:=by
 obtain⟨L,a,_⟩:=h;simp[World.frozen?,a]
theorem Row.made(w:bX)(m):Row (w.alloc (.cells (madeCells (Value.int .u8 0).cells (m*1)) 5)) w.heap.size m (λ_=>0):=by
 refine⟨(madeCells (Value.int .u8 0).cells (m*1)).toList,by simpa using heap_alloc_new w _,by simp[size_madeCells],λj a=>?_⟩;simp[madeCells,Value.cells,a,Nat.mod_one]
theorem Row.set{w g m c}(h:Row w g m c)(j)(x):Row (w.setCell ⟨g,j,none⟩ (.int .u8 x)) g m (λi=>if i=j then x else c i):=by
 obtain⟨L,a,d,k⟩:=h;rw[setCell_eq_setRow w g j _ 5 (0,0) _ a];refine⟨L.set j (.int .u8 x),by simpa using setRow_heap w g _ _ 5 (0,0) a,by simpa using d,λi q=>?_⟩;grind
theorem Row.copy{w:bX}{g m}{c:Nat->Int}(L:List b9)(h:w.heap[g]?=some (.cells L.toArray 5 (0,0)))(q:L.length=m)(t:∀j,j<m->L[j]?=some (.int .u8 (c j)))
 (off) (cs) (d:Nat->Int) (k:∀j,j<cs.length->cs[j]?=some (.int .u8 (d j))) (a:off+cs.length<=m):
 Row (w.setRow g (L.take off++(cs++L.drop (off+cs.length))).toArray) g m (λj=>if off<=j/\j<off+cs.length then d (j-off)else c j):=by
 refine⟨_,setRow_heap w g _ _ 5 (0,0) h,by simp;omega,λj u=>?_⟩;grind
theorem azW:(Tryz.prog.info? 5).map (λi=>(i.zero,i.size,i.bytes))=some (some (.int .u8 0),1,1):=kr
theorem auR:(Tryz.prog.info? 95).map (λi=>(i.zero,i.size,i.bytes))=some (some (.slice none 0 0),1,24):=kr
def wj(n:Int):Int:=if n<=0 then 0 else((n-1) /256+1)*64
theorem zR{k a b}(h:a=b):Ending.returned (.int k a)=.returned (.int k b):=by rw[h]
theorem afn(n)(w)(h0: -9223372036854775808<=n)(h1:n<=9223372036854775807):
 Calls Tryz.prog 248 #[.int .i64 n] w λe w'=>e=.returned (.int .i64 (wj n))/\w'=w:=by
 by_cases h:n<0
 .go_wp2
  go_ret
  exact⟨zR (by unfold wj;omega),rfl⟩
 .by_cases h2:0<n%256
  .go_wp2
   go_ret
   exact⟨zR (by unfold wj;omega),rfl⟩
  .go_wp2
   go_ret
   exact⟨zR (by grind[wj]),rfl⟩
theorem aac(n)(w)(h0:0<=n)(h1:n<=9223372036854775807):
 Calls Tryz.prog 249 #[.int .i64 n] w λe w'=>e=.returned (.tuple #[.int .i64 (n/64%4),.int .i64 (n/64/4*64+n%64),.int .i64 0])/\w'=w:=by
 go_wp2
 go_ret3
 simp_all
theorem axM(L m)(w)(a:L<=1048576)(h:dw L=m):
 Calls Tryz.prog 248 #[.int .i64 (L:Int)] w λe w'=>e=.returned (.int .i64 (m:Int))/\w=w':=by
 refine(afn (L:Int) w om om).mono ?_;rintro e w' ⟨rfl,rfl⟩;rw[show wj (L:Int)=(dw L:Int)by grind[wj,dw],h];simp_all
theorem adU(t)(w)(d:t<=1048576)(s a)(b:ix t=s)(c:gl t=a):
 Calls Tryz.prog 249 #[.int .i64 (t:Int)] w λe w'=>e=.returned (.tuple #[.int .i64 (s:Int),.int .i64 (a:Int),.int .i64 0])/\w=w':=by
 refine(aac (t:Int) w om om).mono ?_;rintro e w' ⟨rfl,rfl⟩;rw[show((t:Int) /64%4)=(ix t:Int)by unfold ix;omega,show((t:Int) /64/4*64+(t:Int)%64)=(gl t:Int)by unfold gl;omega,b,c];simp_all
theorem RX(m:Nat)(f:m<=1048576)(w):
 (Instr.makeSlice 95 (.int .i64 (m:Int)) (.int .i64 (m:Int))).run Tryz.prog w=.ok (.slice (some ⟨w.heap.size,0,none⟩) m m) (w.alloc (.cells (madeCells (Value.int .u8 0).cells (m*1)) 5)):=by
 obtain⟨c,d,a,e,b⟩:=info_parts azW;have h:=run_make (P:=Tryz.prog) w 95 5 c (.int .u8 0) Tryz.underlying95 d a .i64 .i64 (m:Int) (m:Int) om om (by rw[b];omega) om;simp_all
structure rM(w:bX)(base G cap:Nat)(h:Nat->Nat)(m:Nat)(c:Nat->Nat->Int):Prop where
 head:∃cur,w.heap[G]?=some (.cells cur 95 (0,0))/\cur.size=cap/\∀i,i<4->cur[i]?=some (.slice (some ⟨h i,0,none⟩) m m)
 low:base<=G/\G<w.heap.size
 rows:∀i,i<4->base<=h i/\h i≠G/\Row w (h i) m (c i)
 apart:∀i j,i<4->j<4->h i=h j->i=j
def Wd(w:bX)(m:Nat)(c:Nat->Nat->Int)(e:Ending)(w':bX):Prop:=
 ∃G cap h,e=.returned (.slice (some ⟨G,0,none⟩) 4 cap)/\4<=cap/\cap<=9223372036854775807/\rM w' w.heap.size G cap h m c/\Below w.heap.size w w'
theorem rM.cell{w base G cap h m c}(a:rM w base G cap h m c){i}(d:i<4):w.cell? ⟨G,i,none⟩=some (.slice (some ⟨h i,0,none⟩) m m):=by
 obtain⟨cur,k,_,q⟩:=a.head;rw[cell_of_row w G i cur 95 (0,0) k];exact q i d
theorem Row.SN(w:bX)(m):Row (w.alloc (.cells (madeCells #[Value.int .u8 0] m) 5)) w.heap.size m (λ_=>0):=by
 have:=Row.made w m
 rwa [x7]at this
def pH(h:Nat->Nat)(m k:Nat):List b9:=(List.range k).map λi=>.slice (some ⟨h i,0,none⟩) m m
theorem aqR(h)(m k g):pH (λi=>if i=k then g else h i) m (k+1)=pH h m k++[.slice (some ⟨g,0,none⟩) m m]:=by
 unfold pH;rw[Gy,dE];congr 1
 .apply gz;grind
 .simp
theorem acm(h)(m k){i}(a:i<k):(pH h m k)[i]?=some (.slice (some ⟨h i,0,none⟩) m m):=by simp[pH,a]
theorem avQ(W:bX)(C)(x):∀j u,[x][j]?=some u->((W.alloc (.cells C 5)).alloc (.cells #[x] 95)).cell? ((⟨W.heap.size+1,0,none⟩:Addr).add j)=some u:=by
 have:=World.news_of_block (w:=(W.alloc (.cells C 5)).alloc (.cells #[x] 95)) (heap_alloc_new _ _);simp_all
def DW(w:bX)(m k:Nat)(v:b9)(W:bX):Prop:=
 ∃h:Nat->Nat,W.ownsRow w.heap.size 95 1 v k (pH h m k)/\(∀i,i<k->w.heap.size<=h i/\Row W (h i) m (λ_=>0))/\(∀i j,i<k->j<k->h i=h j->i=j)/\Below w.heap.size w W
theorem DW.step{w W x m k v D X h}(hrow:W.ownsRow w.heap.size 95 1 v k (pH h m k))(z:∀i,i<k->w.heap.size<=h i/\Row W (h i) m (λ_=>0))
 (I:∀i j,i<k->j<k->h i=h j->i=j) (q:Below w.heap.size w W)
 (d:x.ownsRow w.heap.size 95 1 D (k+1) (pH h m k++[.slice (some ⟨W.heap.size,0,none⟩) m m]))
 (hgrow:((W.alloc (.cells (madeCells #[Value.int .u8 0] m) 5)).alloc X).grownBy x v.ownBlock):DW w m (k+1) D x:=by
 have G:∀j,j<W.heap.size->((W.alloc (.cells (madeCells #[Value.int .u8 0] m) 5)).alloc X).heap[j]?=W.heap[j]?:=λj E=>
  (Below.heap_alloc _ _ _ (by simp;omega)).trans (Below.heap_alloc _ _ _ E)
 have B:∀j c,Row W j m c->some j≠v.ownBlock:=by
  rintro j c ⟨J,F,_⟩ e;rcases hrow.2 with⟨rfl,_⟩| ⟨g,cap,cur,rfl,_,K,_⟩
  .simp[Value.ownBlock]at e
  .obtain rfl:j=g:=by simpa[Value.ownBlock]using e
   simp_all
 have t:Row ((W.alloc (.cells (madeCells #[Value.int .u8 0] m) 5)).alloc X) W.heap.size m (λ_=>0):=(Row.SN W m).fM (Below.heap_alloc _ _ _ (by simp));refine⟨λi=>if i=k then W.heap.size else h i,by rw[aqR];exact d,λi H=>?_,λi j H E e=>?_,?_⟩
 .show w.heap.size<=(if i=k then W.heap.size else h i)/\Row x (if i=k then W.heap.size else h i) m _;by_cases a:i=k
  .rw[bA a];refine⟨q.size,t.fM (hgrow.block _ (by simp;omega) (λe=>?_))⟩;have:=hrow.lt _ e.symm;omega
  .rw[bH a];obtain⟨F,y⟩:=z i om;exact⟨F,y.fM ((hgrow.block _ (by have:=y.lt;simp;omega) (B _ _ y)).trans (G _ y.lt))⟩
 .simp only at e;by_cases a:i=k<;>by_cases u:j=k
  .omega
  .rw[bA a,bH u]at e;have:=(z j om).2.lt;omega
  .rw[bH a,bA u]at e;have:=(z i om).2.lt;omega
  grind
 .exact((q.alloc q.size _).alloc (by have:=q.size;simp;omega) _).grown hgrow (by have:=q.size;simp;omega) (λr e=>(hrow.lt r e).1)
theorem rM.step{W base G cap h m t s a f}(d:rM W base G cap h m (fill f t))(B:ix t=s)(J:gl t=a)(N):
 rM ((W.drewN N).setCell ⟨h s,a,none⟩ (.int .u8 (f t))) base G cap h m (fill f (t+1)):=by
 have k:=J_ t;rw[B]at k;have D:∀i j,i<4->fill f (t+1) i j=if i=s/\a<=j/\j<a+1 then f (t+(j-a))else fill f t i j:=λi j u=>by
  have:=Vy f (t:=t) (p:=1) (i:=i) (j:=j) u om;simp_all
 have E:G≠h s:=λe=>(d.rows s k).2.1 e.symm
 obtain⟨cur,F,x,y⟩:=d.head;refine⟨⟨cur,?_,x,y⟩,⟨d.low.1,by simpa[World.setCell]using d.low.2⟩,λi u=>?_,d.apart⟩
 .simp_all[Below.heap_setCell]
 .obtain⟨H,I,z⟩:=d.rows i u;refine⟨H,I,?_⟩;by_cases q:i=s
  .subst q;refine(Row.set (w:=W.drewN N) z a (f t)).congr λj _=>?_
   grind
  .refine(z.fM (Below.heap_setCell (W.drewN N) _ _ _ (λe=>q (d.apart i s u k e)))).congr λj _=>?_
   simp_all
set_option maxRecDepth 100000 in
set_option maxHeartbeats 1000000 in
theorem aag(A)(L cap)(f)(w)(hL:L<=1048576)(hb:Jk w A L f):
 Calls Tryz.prog 187 #[.slice A L cap] w (Wd w (dw L) (fill f L)):=by
 obtain⟨i0,hi,hz0,hz1,hz2⟩:=info_parts auR;obtain⟨m,hm⟩:∃m,dw L=m:=⟨_,rfl⟩
 have NH:m<=1048576:=by grind[dw]
 have NI:=RX m NH;have Hm:=Lib.hid hm;rw[hm];clear hm
 go_enter Tryz.func187,Tryz.ntmps187
 go_wp2_with fail
 go_loopw [3,4] (λv i W=>∃k:Nat,k<=4/\i=.int .i64 k/\DW w m k v W) (λ_ i _=>4- (intOf i).toNat)
 case atStart=>exact⟨0,om,rfl,λ_=>0,World.ownsRow_nil _ _ _ _,λi hi=>absurd hi om,λi j hi=>absurd hi om,Below.refl _ _⟩
 case round=>
  obtain⟨k,hk,rfl,h,hrow,hr,ha,hB⟩:=hrel;have hBs:=hB.size;by_cases hlt:k<4
  .go_wp2_with (first| (go_at_call 248;refine(axM L m _ hL Hm.out).mono ?_;rintro e w' ⟨rfl,rfl⟩)| (at_builtin;go_must (refine wpList_append_own _ rfl _ _ 29 rfl w.heap.size 95 i0 (.slice none 0 0) 1 24 Tryz.underlying29 hi hz0 hz1 hz2 rfl dc _ _ _ rfl ((hrow.alloc _).alloc _) ⟨wr.heap.size+1,0,none⟩ 1 1 [.slice (some ⟨wr.heap.size,0,none⟩) m m] rfl rfl (avQ _ _ _) (by simp[Value.oneCell']) (by unfold maxLen;omega) om (by simp;omega) ?_);intro v' w1 hown' hgrow _))
   go_roundw
   case rel=>exact⟨k+1,om,by go_num,DW.step hrow hr ha hB hown' hgrow⟩
   case measure=>simp[intOf];omega
  .obtain rfl:k=4:=om;obtain⟨G,c4,aAG,rfl,YT,NJ,hc4,YU,hG5,hG6⟩:=hrow.2.resolve_left (λh=>absurd h.2 om);have aAK:c4<=9223372036854775807:=by simp only[maxLen]at YU;omega
   have YV:=(jW.1 NJ).1;have hG4:True:=trivial;have hS0:rM wr w.heap.size G c4 h m (fill f 0):=by
    refine⟨⟨aAG,NJ,om,λi hi=>by
     have:=acm h m 4 hi;grind⟩,⟨YT,YV⟩,λi hi=>⟨(hr i hi).1,?_,(hr i hi).2.congr λj _=>(Wq f i j).symm⟩,ha⟩
    rintro rfl;obtain⟨Lj,h1,_⟩:=(hr i hi).2;simp_all
   clear hrow hr ha YT YV NJ hG4 hG5 hG6 YU NI
   go_wp2_with fail
   simp only[Int.cast_ofNat_Int]
   go_loopw [5] (λi W=>∃t:Nat,t<=L/\i=.int .i64 t/\rM W w.heap.size G c4 h m (fill f t)/\Below w.heap.size w W) (λi _=>L- (intOf i).toNat)
   case atStart=>grind
   case round=>
    obtain⟨t,ht,rfl,hS,hB⟩:=hrel;by_cases NG:t<L
    .obtain⟨ga,oa,rfl,FU⟩:=hb om;have uW:=J_ t;have YW:gl t+1<=m:=by have:=XI (L:=L) (t:=t) (p:=1) om om;have:=Hm.out;omega
     obtain⟨hr1,hr2,hr3⟩:=hS.rows (ix t) uW;have d0:=hS.cell uW;have d1:=hr3.cell (j:=gl t) om;have d2:=hr3.frozen (gl t);have d3:wr.cell? ⟨ga,oa+t,none⟩=some (.int .u8 (f t)):=(hB.cell (p:=⟨ga,oa+t,none⟩) (World.block_lt_of_cell? w _ (FU t NG))).trans (FU t NG);generalize xO:ix t=sn at*;generalize FV:gl t=an at*;have Hsn:=Lib.hid xO;have Han:=Lib.hid FV;have i1:(sn:Int)<4:=om;have i3:(an:Int)< (m:Int):=om
     go_wp2_with (go_at_call 249;refine(adU t _ om sn an Hsn.out Han.out).mono ?_;rintro e w' ⟨rfl,rfl⟩)
     go_still_tail 10,kr
     go_wp2
     go_roundw
     case rel=>exact⟨t+1,om,by go_num,hS.step Hsn.out Han.out 1,(hB.setCell (p:=⟨h sn,an,none⟩) (hS.rows sn uW).1 _).drew⟩
     case measure=>simp[intOf];omega
    .obtain rfl:t=L:=om
     go_wp2
     go_ret
     exact⟨G,c4,h,rfl,hc4,aAK,hS,hB⟩
def uA(b:List Int)(i:Nat):List PV:=[.sl (gV ((List.range (dw b.length)).map λj=>fill (λt=>(b[t]?).getD 0) b.length i j))]
def mj(b:List Int):List (List PV):=(List.range 4).map (uA b)
theorem PT{M w b v}(h:RP M w (.sl (gV b)) v):∃A cap,v=.slice A b.length cap/\b.length<=cap+b.length/\(b.length=0\/b.length<=cap/\cap<=maxLen)/\Jk w A b.length (λt=>(b[t]?).getD 0):=by
 rcases RP.rows h with⟨c,A,cap,rfl⟩| ⟨g,o,cap,sz,f,rfl,c,d,k,hR,m⟩
 .have:b=[]:=by cases b with|nil=>rfl|cons=>simp[gV]at c
  subst this;exact⟨A,cap,rfl,by simp,.inl rfl,λh=>absurd h (by simp)⟩
 .rw[JR];rw[JR]at d;refine⟨_,cap,rfl,om,.inr ⟨d,k⟩,λhp=>⟨g,o,rfl,λi e=>?_⟩⟩;have a:sz=1:=by
   have j:=cY (l:=gV b) (i:=i) (by rw[JR];exact e);rw[<-hR _ (eb j),V4 b _ (eb j)]
  subst a;have n:b[i]?=some b[i]:=cY e;obtain⟨p,q⟩:=m i [.sc (.int .u8 b[i])] 0 (.sc (.int .u8 b[i])) (by rw[R3,n];rfl) rfl;rw[RP.ek q]at p;simp_all
theorem RR{M w g m c}(h:Row w g m c)(n:¬M g)(o:m<=maxLen):RP M w (.sl (gV ((List.range m).map c))) (.slice (some ⟨g,0,none⟩) m m):=by
 by_cases q:m=0
 .subst q;exact .nil
 .have s:(gV ((List.range m).map c)).length=m:=by simp[gV]
  have k:∀(i:Nat)(r:List PV),(gV ((List.range m).map c))[i]?=some r->i<m/\r=[.sc (.int .u8 (c i))]:=by
   intro i r b;have d:i<m:=by grind
   rw[R3,cX,vg d]at b;simp_all
  rw[show(Value.slice (some ⟨g,0,none⟩) m m)=.slice (some ⟨g,0,none⟩) (gV ((List.range m).map c)).length m by rw[s]];refine .row (sz:=1) (f:=λi _=>.int .u8 (c i)) (by grind) om o (V4 _) (λi r j p b e=>?_) (λi r j p b e=>?_)
  .obtain⟨l,rfl⟩:=k i r b;have a:j=0:=by grind
   subst a;refine⟨?_,n⟩;have:=h.cell l;simpa using this
  .obtain⟨l,rfl⟩:=k i r b;have a:j=0:=by grind
   subst a;simp at e;subst e;exact .sc rfl
theorem afv(b)(t:b.length<=1048576):eC Tryz.prog 187 [.c (.p (.sl (gV b)))] [] (.v (.c (.own 0))) [(0,.row 95 (mj b))]:={
 own:=⟨_,Tryz.func187,by kernel_rfl,rfl⟩
 call :=λw M N vals K L O P Q R F=>by
  obtain⟨v,H,k⟩:=F 0 _ rfl;have c:vals= #[v]:=by
   grind
  subst c;obtain⟨A,cap,rfl,_,u,I⟩:=PT (show RP _ w (.sl (gV b)) v from k);refine(aag A b.length cap _ w t I).mono ?_;rintro e w' ⟨G,c4,S,rfl,k1,k2,l,d⟩;obtain⟨cur,q1,q2,q3⟩:=l.head;have y:=l.low;have z:∀g,w.heap.size<=g->g≠G->¬bad M ⟨λn=>if n=0 then some ⟨some G,4,c4,1⟩else none,[]⟩ g:=by
   rintro g B J (t| ⟨n,x,o,T⟩)
   .grind
   grind
  refine⟨_,⟨λn=>if n=0 then some ⟨some G,4,c4,1⟩else none,[]⟩,rfl,Frame.ER d,⟨rfl,?_,?_,λm C=>absurd C (rn m)⟩,?_,?_⟩
  .grind
  .simp_all
  .intro n U a;simp only[fD,jS]at a;split at a
   .rename_i o;simp at o;subst o;cases a;refine⟨⟨some G,4,c4,1⟩,cur,(0,0),by simp,.inl rfl,λg B=>by cases B;exact q1,by simp[mj],k1,by simp only[maxLen];omega,by simp only;omega,by kernel_rfl,by simp only;omega,λr D=>?_,λh=>(by cases h),λi r j p E q=>?_⟩
    .simp only[mj,fE]at D;obtain⟨i,_,rfl⟩:=D;rfl
    .have f:i<4:=by
      grind[mj]
     simp only[mj,cX,vg f,b_,jq]at E;subst E;have s:j=0:=by cases j with|zero=>rfl|succ j=>simp[uA]at q
     subst s;simp[uA]at q;subst q;obtain⟨V,W,X⟩:=l.rows i f;have C:dw b.length<=maxLen:=by simp only[maxLen];unfold dw;omega
     simp_all[RR]
   .cases a
  .exact .inr ⟨⟨some G,4,c4,1⟩,by simp,rfl⟩}
end Sp
theorem TD{rows}:∀{b},mU rows=some b->rows=gV b:=by
 induction rows with
 |nil=>intro b h;simp[mU]at h;subst h;rfl
 |cons r rows ih=>
  intro b h;simp only[mU,rk]at h
  cases a:wh r with
  |none=>simp[a]at h
  |some n=>
   cases c:rows.mapM wh with
   |none=>simp[a,c]at h
   |some d=>
    simp[a,c]at h;subst h;rw[ih (b:=d) c];unfold wh at a;split at a
    .cases a;rfl
    .cases a
def vk:List L->Option (List L):=λls=>match ls with
 |[l]=>match mU l.bC with
  |some b=>if b.length<=1048576 then some [.r (Sp.mj b)]else none
  |none=>none
 |_=>none
def afQ:bw:=⟨187,[.c (.p .sl U0)],[],1,1,.v (.c (.own 0)),[(0,.row 95 U1)],vk,2003⟩
theorem aoT:afQ.ok Tryz.prog:=by
 intro ls os f a c;have a:vk ls=some os:=a;unfold vk at a;split at a
 .split at a
  .rename_i b d;split at a
   .rename_i e;cases a;have:=Sp.afv b e;rw[<-TD d]at this;exact this
   .cases a
  .cases a
 .cases a
end
end
end Go.Proofs.YtiikkkhcolcebaaGreatDoor
