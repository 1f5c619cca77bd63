/- A part. -/
import Derived.Test.YtiikkkhcolcebaaGreatDoorG13
import Derived.Test.YtiikkkhcolcebaaGreatDoorG31
import Derived.Test.YtiikkkhcolcebaaGreatDoorG41
import Derived.Test.YtiikkkhcolcebaaGreatDoorG42
import Derived.Test.YtiikkkhcolcebaaGreatDoorG43
import Derived.Test.YtiikkkhcolcebaaGreatDoorG44
set_option linter.all false
set_option maxHeartbeats 4000000
set_option maxRecDepth 100000
namespace Go.Proofs.YtiikkkhcolcebaaGreatDoor
noncomputable section
section
open Go.RowKit Pl AI
attribute [local irreducible] bl.wp
theorem aab(gs:List Ge):(gs.map Ge.gn).map wC=gs.map gR:=by rw[gp];rfl
theorem LR{gs:List Ge}{i:Nat}(h:i<gs.length)(c:i< (gs.map Ge.gn).length):(gs.map Ge.gn)[i]=gs[i].gn:=Z4 _
theorem asa{gs}(h:dG gs):Wk 1 9000 (gs.map Ge.gn)/\∀g∈gs.map Ge.gn,WM g.map:=by
 have o:=h.n1;have p:=h.n8;have q:(gs.map Ge.gn).length=gs.length:=bD _;refine⟨⟨⟨om,om,om⟩,λi j l=>?_,λj=>?_⟩,λg d=>?_⟩
 .have c:i<gs.length:=om;have d:=h.ok i c;rw[LR c l,q];refine⟨d.1.gv,d.2.2,λt=>?_,?_⟩
  .have m:=h.ok (i-1) om;rw[LR (show i-1<gs.length by omega) om,Ge.num,Ge.num,d.2.1,m.2.1];omega
  .have:=d.1.sz;show gs[i].size<=_;omega
 .have c:(gs.map Ge.gn).length-1<gs.length:=om;have d:=h.ok _ c;rw[LR c j];have u:=d.1.sz;have v:=d.1.s.len;show gs[(gs.map Ge.gn).length-1].size+24*(items (fI gs[(gs.map Ge.gn).length-1].l gs[(gs.map Ge.gn).length-1].dD)).length<=_;rw[wZ d.1.s.v];omega
 .obtain⟨e,r,rfl⟩:=fE.1 d;obtain⟨i,j,rfl⟩:=jG r;exact(h.ok i j).1.mb.wm
theorem B0{gs}(h:dG gs):tJ (sA gs)=some [.b true]:=by
 have c:=asa h;have:=amI (ro:=.b false) c.2 (by rw[bD];have:=h.n8;omega) (jt c.1)
 rwa [aab]at this
theorem azD{l g}(h:Mb l g):HE (fy (fI l g))=some (mW l):=by
 have hl:=h.s.len;have cli:∀s,kU [.r ((dC l s).map bt)]=some []:=λs=>bA ⟨fY _,by
  have h1:=AF l s;rw[bD];omega⟩
 refine bF ?_;refine bz (λxs=>xs=mW l) ?_ (by rintro _ rfl;refine nW ?_;exact bk rfl);refine wp_loop (I:=λa=>∃k:Nat,a=.i k::mW l/\k<=8) (mu:=λa=>match a with| .i k::_=>8-k.toNat|_=>0) ⟨0,rfl,om⟩ ?_;rintro a ⟨k,rfl,e1⟩;refine uR ?_;refine bO rfl (λhc=>?_) (λhc=>?_);rotate_left
 .exact bk rfl
 have hk:k<8:=om;refine bz (λxs=>xs=.i k::mW l) ?_ ?_;rotate_left
 .rintro _ rfl;refine nW ?_;refine b8 (i:=k) rfl om (nW ?_);refine bk ⟨⟨k+1,rfl,om⟩,?_⟩;show 8- ((k+1:Nat):Int).toNat<8-k;omega
 refine lK ⟨by show(0:Int)<=k;omega,by show(k:Int)< (8:Nat);omega⟩ (nW ?_);refine r8 (m:=fI l g) hk rfl rfl (nW ?_);refine bm (cli k) rfl rfl (nW ?_);have h8:k=0\/k=1\/k=2\/k=3\/k=4\/k=5\/k=6\/k=7:=om;rcases h8 with rfl|rfl|rfl|rfl|rfl|rfl|rfl|rfl<;>
  (repeat (first| (refine cP rfl dc ?_)| (refine bR rfl dc ?_)| (refine sT rfl ?_;try dsimp only[At.ev,d1,d2,d3,d4,d5,d6,d7,d8,d9,e0,List.map,db,Kd.pv])))<;>exact bk rfl
def jI(a b:Int):L:=.c [.sc (.int .i64 a),.sc (.int .i64 b)]
theorem PY(a b:Int):KF [.i a,.i b]=some [jI a b]:=rfl
theorem asu{a b:Int}(c:a.natAbs<9007199254740992)(d:b.natAbs<9007199254740992):YD [jI a b,jI 0 0]=some [jI a b]:=by
 show(if _ then _ else _)=_;rw[bA ⟨⟨c,dc,by show(a+0).natAbs<_;rw[GB];exact c⟩,d,dc,by show(b+0).natAbs<_;rw[GB];exact d⟩];show some [L.c [.sc (.int .i64 (a+0)),.sc (.int .i64 (b+0))]]=_;rw[GB,GB];rfl
theorem Yb{a:Int}(c:a.natAbs<9007199254740992):LM [.i a]=some [.i a]:=bA c
theorem Py{l g}(h:Mb l g):DY (fy (fI l g)++[.i 0])=some (fy (fI l g)):=by
 have j:=oH l;have o:=h.s.len;have p:=h.h0;have q:=h.h1;have c:(cS l).natAbs<9007199254740992:=om;have d:g.natAbs<9007199254740992:=om;refine bF ?_;refine bm (azD h) rfl rfl (nW ?_);refine bz (λxs=>xs=[.b false]) ?_ ?_
 .refine bm (H8 (m:=fI l g) h.wm (jt h.mv)) rfl rfl (uR ?_);refine cn rfl (uR ?_);refine bR rfl (by show¬(0:Int)<0;omega) ?_;refine di (n:=1099511627776-g) rfl om om (uR ?_);exact bk (dF (by show¬(0:Int)>1099511627776-g;omega))
 rintro _ rfl;refine nW ?_;refine cn rfl ?_;refine bm (l:=[jI (cS l) g]) ?_ rfl rfl (nW ?_)
 .refine bF ?_;refine bm (PY _ _) rfl rfl (nW ?_);exact bk rfl
 refine bm (PY _ _) rfl rfl (nW ?_);refine bm (asu c d) rfl rfl (nW ?_);refine bm (l:=[.i (cS l),.i g]) ?_ rfl rfl (nW ?_)
 .refine bF ?_;refine bm (l:=[.i (cS l)]) rfl rfl rfl (nW ?_);refine bm (Yb c) rfl rfl (nW ?_);refine bm (l:=[.i g]) rfl rfl rfl (nW ?_);refine bm (Yb d) rfl rfl (nW ?_);exact bk rfl
 exact bk rfl
theorem anC{e}(h:fp e):AN (fq e.gn)=some [.b true]:=XN (g:=e.gn) h.mb.wm (jt h.gv)
theorem axT{e}(h:fp e)(c:e.mode=2):KE (fq e.gn)=some (.i 0::fq (fo e).gn):=by
 refine bF ?_;refine bm (l:=.i 0::fq (fo e).gn) ?_ rfl rfl (nW ?_)
 .refine bF ?_;refine bm (anC h) rfl rfl (uR ?_);refine cn rfl (uR ?_);refine bR rfl (λh=>h c) ?_;refine dp (n:=3) (by show e.mode+1=3;omega) om om (nW ?_);refine bm (Py h.mb) rfl rfl (nW ?_);exact bk rfl
 exact bk rfl
theorem Wz{e}(h:fp e):CJ (fq e.gn)=some (fy e.gn.map):=by
 refine bF ?_;refine bm (Py h.mb) rfl rfl (nW ?_);exact bk rfl
theorem afy{gs}(h:dG gs):I1 (sA gs)=some [.r (gs.map gR)]:=by
 have hl:=h.n8;refine bF ?_;refine bm (l:=[]) (show Cj [.r (gs.map gR)]=some []from bA ⟨sg _,by rw[bD];omega⟩) rfl rfl (nW ?_);refine bz (λxs=>xs=[.r (gs.map gR)]) ?_ (by rintro _ rfl;refine nW ?_;exact bk rfl);refine uR ?_;rw[bD];refine wp_loop (I:=λa=>∃i:Nat,a=[.i i,.r (gs.map gR)]/\i<=gs.length) (mu:=λa=>match a with|[.i i,_]=>gs.length-i.toNat|_=>0) ⟨0,rfl,om⟩ ?_;rintro a ⟨i,rfl,g1⟩;refine uR ?_;refine bO rfl (λhc=>?_) (λhc=>?_);rotate_left
 .exact bk rfl
 have hi:i<gs.length:=om;refine bS (f:=gR) (l:=gs) (j:=i) rfl rfl hi rfl (nW ?_);refine cK (f:=gR) (l:=gs) (j:=i) rfl rfl hi rfl rfl (nW ?_);refine cK (f:=gR) (l:=gs) (j:=i) rfl rfl hi rfl rfl (nW ?_);refine cK (f:=gR) (l:=gs) (j:=i) rfl rfl hi rfl rfl (nW ?_);refine cK (f:=gR) (l:=gs) (j:=i) rfl rfl hi rfl rfl (nW ?_);refine cK (f:=gR) (l:=gs) (j:=i) rfl rfl hi rfl rfl (nW ?_);refine cK (f:=gR) (l:=gs) (j:=i) rfl rfl hi rfl rfl (nW ?_);refine cK (f:=gR) (l:=gs) (j:=i) rfl rfl hi rfl rfl (nW ?_);refine cK (f:=gR) (l:=gs) (j:=i) rfl rfl hi rfl rfl (nW ?_);refine cK (f:=gR) (l:=gs) (j:=i) rfl rfl hi rfl rfl (nW ?_);refine cK (f:=gR) (l:=gs) (j:=i) rfl rfl hi rfl rfl (nW ?_);refine cK (f:=gR) (l:=gs) (j:=i) rfl rfl hi rfl rfl (nW ?_);refine cK (f:=gR) (l:=gs) (j:=i) rfl rfl hi rfl rfl (nW ?_);refine cK (f:=gR) (l:=gs) (j:=i) rfl rfl hi rfl rfl (nW ?_);refine cK (f:=gR) (l:=gs) (j:=i) rfl rfl hi rfl rfl (nW ?_);refine bm (Wz (h.ok i hi).1) rfl rfl (nW ?_);refine bS (f:=gR) (l:=gs) (j:=i) rfl rfl hi rfl (nW ?_);refine lN (f:=gR) (l:=gs) (n:=i) rfl rfl hi (by show(14:Nat)<=14;omega) rfl (nW ?_);refine b8 (i:=i) rfl om (nW ?_);refine bk ⟨⟨i+1,rfl,om⟩,?_⟩;show gs.length- ((i+1:Nat):Int).toNat<gs.length-i;omega
theorem atB{gs}(h:dG gs){e:Ge}(hn:e.n<gs.length):L' (.r (gs.map gR)::fq e.gn)=some [.i e.n]:=by
 have Gj:=h.n8;refine bF ?_;refine bz (λxs=>False) ?_ (by rintro _ h;cases h);refine uR ?_;rw[bD];refine wp_loop (I:=λa=>∃j:Nat,a=[.i j]/\j<=e.n) (mu:=λa=>match a with|[.i j]=>gs.length-j.toNat|_=>0) ⟨0,rfl,om⟩ ?_;rintro a ⟨j,rfl,e1⟩;have hj:j<gs.length:=om;have A8:=(h.ok j hj).2.1;refine uR ?_;refine cP rfl om ?_;refine bS (f:=gR) (l:=gs) (j:=j) rfl rfl hj rfl (uR ?_);have aCj:Hf (fq gs[j].gn++fq e.gn)=some [.b (decide (gs[j].gn.num=e.gn.num))]:=rfl;refine bm aCj rfl rfl (nW ?_);refine iU rfl decide_eq_true_iff (λhq=>?_) λhq=>?_
 .rw[Ge.num,Ge.num,A8]at hq;obtain rfl:j=e.n:=om;exact bk rfl
 .rw[Ge.num,Ge.num,A8]at hq;refine b8 (i:=j) rfl om (nW ?_);refine bk ⟨⟨j+1,rfl,om⟩,?_⟩;show gs.length- ((j+1:Nat):Int).toNat<gs.length-j;omega
theorem ahI{gs}(h:dG gs){e:Ge}(c:e.n<gs.length)(d:fp e)(m:dG (gs.set e.n e)):Sl (sA gs++fq e.gn)=some (.i 0::sA (gs.set e.n e)):=by
 refine bF (f:=R7) ?_;refine bm (B0 h) rfl rfl (uR ?_);refine cn rfl ?_;refine bm (atB h c) rfl rfl (uR ?_);refine bR rfl om ?_;refine bm (afy h) rfl rfl (nW ?_);refine bm (Wz d) rfl rfl (nW ?_);refine bS (f:=gR) (l:=gs) (j:=e.n) rfl rfl c rfl (nW ?_);refine uL (f:=gR) (l:=gs) (j:=e.n) (v:=e) rfl rfl c rfl rfl (nW ?_);refine bm (B0 m) rfl rfl (uR ?_);refine cn rfl ?_;exact bk rfl
section
variable{a0 a1 a2 a3 a4 a5 a7 a9 A9 A_ a12 N6 N7 N8 N9 a17 N_ N' a20 a21:L}
theorem ahg{gs}(h:dG gs){i:Nat}(hi:i<gs.length):M3 [.r (gs.map gR),a0,a1,a2,a3,a4,a5,.r (gs.map gR),a7,.i (i+1:Nat),a9,A9,A_,a12,N6,N7,N8,N9,a17,N_,N',a20,a21]=some [.i i]:=by
 have Gj:=h.n8;refine bF ?_;refine bz (λxs=>False) ?_ (by rintro _ h;cases h);refine uR ?_;rw[bD];refine wp_loop (I:=λa=>∃j:Nat,a=[.i j]/\j<=i) (mu:=λa=>match a with|[.i j]=>gs.length-j.toNat|_=>0) ⟨0,rfl,om⟩ ?_;rintro a ⟨j,rfl,e1⟩;have hj:j<gs.length:=om;have A8:=(h.ok j hj).2.1;refine uR ?_;refine cP rfl om ?_;refine bS (f:=gR) (l:=gs) (j:=j) rfl rfl hj rfl (uR ?_);have aCk:Kl (fq gs[j].gn++[a0,a1,a2,a3,a4,a5,.r (gs.map gR),a7,.i (i+1:Nat),a9,A9,A_,a12,N6,N7,N8,N9,a17,N_,N',a20,a21])=some [.b (decide (gs[j].gn.num=((i+1:Nat):Int)))]:=rfl;refine bm aCk rfl rfl (nW ?_);refine iU rfl decide_eq_true_iff (λhq=>?_) λhq=>?_
 .rw[Ge.num,A8]at hq;obtain rfl:j=i:=om;exact bk rfl
 .rw[Ge.num,A8]at hq;refine b8 (i:=j) rfl om (nW ?_);refine bk ⟨⟨j+1,rfl,om⟩,?_⟩;show gs.length- ((j+1:Nat):Int).toNat<gs.length-j;omega
theorem C9{gs}(h:dG gs){i:Nat}(c:i<gs.length):As [a0,a1,a2,a3,a4,a5,.r (gs.map gR),a7,.i (i+1:Nat),a9,A9,A_,a12,N6,N7,N8,N9,a17,N_,N',a20,a21]=some [.i i]:=by
 refine bF ?_;refine bm (ahg h c) rfl rfl (nW ?_);exact bk rfl
end
theorem axI{gs}(hl:gs.length<=8){i:Nat}(hi:i<gs.length)(hm:gs[i].mode=2)(hb:∀j(h:j<i),(gs[j]'om).mode≠2):yo (sA gs)=some (.b true::fq gs[i].gn):=by
 refine bF ?_;refine bz (λxs=>False) ?_ (by rintro _ h;cases h);refine uR ?_;rw[bD];refine wp_loop (I:=λa=>∃j:Nat,a=[.i j]/\j<=i) (mu:=λa=>match a with|[.i j]=>gs.length-j.toNat|_=>0) ⟨0,rfl,om⟩ ?_;rintro a ⟨j,rfl,e1⟩;have hj:j<gs.length:=om;refine uR ?_;refine cP rfl om ?_;refine bS (f:=gR) (l:=gs) (j:=j) rfl rfl hj rfl (uR ?_);refine bO rfl (λhq=>?_) λhq=>?_
 .have hq:gs[j].mode=2:=hq;obtain rfl:j=i:=by
   rcases mP j i with q|q
   .exact absurd hq (hb j q)
   .omega
  exact bk rfl
 .have hq:¬gs[j].mode=2:=hq;have hne:j≠i:=λe=>by subst e;exact hq hm
  refine b8 (i:=j) rfl om (nW ?_);refine bk ⟨⟨j+1,rfl,om⟩,?_⟩;show gs.length- ((j+1:Nat):Int).toNat<gs.length-j;omega
theorem ahT{gs}(hl:gs.length<=8)(hb:∀j(h:j<gs.length),gs[j].mode≠2):yo (sA gs)=some [.b false,.i 0,.i 0,.i 0,.i 0,.r [],.r [],.r [],.r [],.r [],.r [],.r [],.r [],.i 0,.i 0]:=by
 refine bF ?_;refine bz (λxs=>xs=[]) ?_ (by rintro _ rfl;refine nW ?_;exact bk rfl);refine uR ?_;rw[bD];refine wp_loop (I:=λa=>∃j:Nat,a=[.i j]/\j<=gs.length) (mu:=λa=>match a with|[.i j]=>gs.length-j.toNat|_=>0) ⟨0,rfl,om⟩ ?_;rintro a ⟨j,rfl,e1⟩;refine uR ?_;refine bO rfl (λhc=>?_) (λhc=>?_);rotate_left
 .exact bk rfl
 have hj:j<gs.length:=om;refine bS (f:=gR) (l:=gs) (j:=j) rfl rfl hj rfl (uR ?_);refine bR rfl (hb j hj) ?_;refine b8 (i:=j) rfl om (nW ?_);refine bk ⟨⟨j+1,rfl,om⟩,?_⟩;show gs.length- ((j+1:Nat):Int).toNat<gs.length-j;omega
structure Hx where
 x0:L
 x1:L
 x2:L
 x3:L
 c0:L
 c1:L
 c2:L
 c3:L
 c4:L
 c5:L
 it:List It
 da:List (List Nat)
abbrev eS(R:List (List PV))(gs:List Ge)(s g k:Int)(h:Hx):List L:=[.i 0,.i (-1),.r R,.i 1,.i 9000,.b false,.r (gs.map gR),.i s,.i g,.i k,h.x0,h.x1,h.x2,h.x3,h.c0,h.c1,h.c2,h.c3,h.c4,h.c5,.r (h.it.map bt),.r (h.da.map fR)]
section
variable{R R':List (List PV)}{gs:List Ge}{s g k:Int}{h:Hx}{n:Nat}
theorem vQ{x y z:L}:pE (eS R gs s g k h++[x,y,z,.i 0])=some [x,y,z]:=by
 refine bF ?_;refine bz (λxs=>xs=[x,y,z]) ?_ (by rintro _ rfl;refine nW ?_;exact bk rfl);refine uR ?_;refine cP rfl rfl ?_;exact bk rfl
theorem aaj:nU (eS R gs 2 g k h)=some [.i 3,.i k]:=by
 refine bF ?_;refine uR ?_;refine bR rfl dc (uR ?_);refine bR rfl dc ?_;refine dp (n:=3) rfl om om (nW ?_);exact bk rfl
theorem ast:nU (eS R gs 3 g k h)=some [.i 4,.i k]:=by
 refine bF ?_;refine uR ?_;refine bR rfl dc (uR ?_);refine bR rfl dc ?_;refine dp (n:=4) rfl om om (nW ?_);exact bk rfl
theorem avP:nU (eS R gs 4 g k h)=some [.i 5,.i k]:=by
 refine bF ?_;refine uR ?_;refine bR rfl dc (uR ?_);refine bR rfl dc ?_;refine dp (n:=5) rfl om om (nW ?_);exact bk rfl
theorem anZ(c:n<6):nU (eS R gs 5 g (n:Int) h)=some [.i 2,.i ((n+1:Nat):Int)]:=by
 refine bF ?_;refine uR ?_;refine cP rfl rfl ?_;refine b8 (i:=n) rfl om (uR ?_);refine bR rfl om ?_;exact bk rfl
theorem afE:nU (eS R gs 5 g 6 h)=some [.i 6,.i 0]:=by
 refine bF ?_;refine uR ?_;refine cP rfl rfl ?_;refine dp (n:=7) rfl om om (uR ?_);refine cP rfl rfl ?_;exact bk rfl
theorem arw(c:n<5):nU (eS R gs 6 g (n:Int) h)=some [.i 6,.i ((n+1:Nat):Int)]:=by
 refine bF ?_;refine uR ?_;refine bR rfl dc (uR ?_);refine cP rfl rfl ?_;refine b8 (i:=n) rfl om (uR ?_);refine bR rfl om ?_;exact bk rfl
theorem akY:nU (eS R gs 6 g 5 h)=some [.i 7,.i 6]:=by
 refine bF ?_;refine uR ?_;refine bR rfl dc (uR ?_);refine cP rfl rfl ?_;refine dp (n:=6) rfl om om (uR ?_);refine cP rfl rfl ?_;exact bk rfl
theorem zM(c:s=2\/s=3\/s=4\/s=5)(d:n<7):tT (eS R gs s g (n:Int) h)=some [.b true]:=by
 refine bF ?_;refine bz (λxs=>xs=[.b true]) ?_ ?_
 .rcases c with rfl|rfl|rfl|rfl<;>
   (repeat (first| (refine cP rfl dc ?_)| (refine bR rfl dc ?_)| (refine sT rfl ?_;try dsimp only[At.ev,d1,d2,d3,d4,d5,d6,d7,d8,d9,e0,List.map,db,Kd.pv])))<;>exact bk rfl
 rintro _ rfl;refine nW ?_;refine fT rfl ?_;refine bz (λxs=>xs=[.b true]) ?_ (by rintro _ rfl;refine nW ?_;exact bk rfl);refine uR ?_;refine cP rfl om (uR ?_);exact bk (dT om)
theorem TY(c:n<6):tT (eS R gs 6 g (n:Int) h)=some [.b true]:=by
 refine bF ?_;refine bz (λxs=>xs=[.b false]) ?_ ?_
 . (repeat (first| (refine cP rfl dc ?_)| (refine bR rfl dc ?_)| (refine sT rfl ?_;try dsimp only[At.ev,d1,d2,d3,d4,d5,d6,d7,d8,d9,e0,List.map,db,Kd.pv])))
   exact bk rfl
 rintro _ rfl;refine nW ?_;refine cn rfl (uR ?_);refine cP rfl rfl ?_;refine bz (λxs=>xs=[.b true]) ?_ (by rintro _ rfl;refine nW ?_;exact bk rfl);refine uR ?_;refine cP rfl om (uR ?_);exact bk (dT om)
theorem PG(c:s=7\/s=8):tT (eS R gs s g k h)=some [.b true]:=by
 refine bF ?_;refine bz (λxs=>xs=[.b false]) ?_ ?_
 .rcases c with rfl|rfl<;>
   (repeat (first| (refine cP rfl dc ?_)| (refine bR rfl dc ?_)| (refine sT rfl ?_;try dsimp only[At.ev,d1,d2,d3,d4,d5,d6,d7,d8,d9,e0,List.map,db,Kd.pv])))<;>exact bk rfl
 rintro _ rfl;refine nW ?_;refine cn rfl (uR ?_);refine bR rfl om ?_;exact bk rfl
end
section
variable{e:Fs}{gs:List Ge}{h:Hx}{n k:Nat}
theorem ajy(c:dx e)(d:n<8)(j:k<7)(l:e (2*(9*n+(2+k))+1)=none):qB (eS ((dj e).map bJ) gs 2 (n+1:Nat) k h)=some (.i 0::dA (dj e)):=by
 refine bF ?_;refine bm (vz d j) rfl rfl (nW ?_);refine bz (λxs=>xs=[]) ?_ (by rintro _ rfl;refine nW ?_;exact bk rfl);refine uR ?_;refine cP rfl rfl ?_;refine bm (aiP (iX c)) rfl rfl (nW ?_);refine bm (aAc om l) rfl rfl (nW ?_);refine cn rfl ?_;exact bk rfl
theorem awx(c:dx e)(d:n<8)(j:k<7)(l:e (2*(9*n+(2+k))+1)=none):qB (eS ((dj e).map bJ) gs 3 (n+1:Nat) k h)=some (.i 0::dA (dj (ch e (2*(9*n+(2+k))+1) (some [])))):=by
 refine bF ?_;refine bm (vz d j) rfl rfl (nW ?_);refine bz (λ_=>False) ?_ (by rintro _ h;cases h);refine uR ?_;refine bR rfl dc ?_;refine uR ?_;refine cP rfl rfl ?_;refine bm (arK c om l) rfl rfl (nW ?_);refine bm vQ rfl rfl (nW ?_);exact bk rfl
theorem awr(c:dx e)(d:n<8)(m:k<7)(o:e (2*(9*n+(2+k))+1)=some [])(p:k<h.da.length)(q:okB h.da[k]):qB (eS ((dj e).map bJ) gs 4 (n+1:Nat) k h)=some [.i 0,.i 0,.i (-1),.r (BL e (2*(9*n+(2+k))+1) h.da[k])]:=by
 refine bF ?_;refine bm (vz d m) rfl rfl (nW ?_);refine bz (λ_=>False) ?_ (by rintro _ h;cases h);refine uR ?_;refine bR rfl dc ?_;refine uR ?_;refine bR rfl dc ?_;refine uR ?_;refine cP rfl rfl (uR ?_);rw[bD];refine bR rfl om ?_;refine bS (f:=fR) (l:=h.da) (j:=k) rfl rfl p rfl (uR ?_);refine bm (ahq c om o q) rfl rfl (nW ?_);refine bm vQ rfl rfl (nW ?_);exact bk rfl
theorem agM(c:dx e)(d:n<8)(j:k<7){x:List Nat}(l:okB x):qB (eS ((kl e (2*(9*n+(2+k))+1) (kI (2*(9*n+(2+k))+1) x)).map bJ) gs 5 (n+1:Nat) k h)=some (.i 0::dA (dj (ch e (2*(9*n+(2+k))+1) (some x)))):=by
 refine bF ?_;refine bm (vz d j) rfl rfl (nW ?_);refine bz (λ_=>False) ?_ (by rintro _ h;cases h);refine uR ?_;refine bR rfl dc ?_;refine uR ?_;refine bR rfl dc ?_;refine uR ?_;refine bR rfl dc ?_;refine uR ?_;refine cP rfl rfl ?_;refine bm (auc c om l) rfl rfl (nW ?_);refine bm vQ rfl rfl (nW ?_);exact bk rfl
theorem agH(j:dx e)(c:n<8)(d:k<7){x:List Nat}(l:e (2*(9*n+(2+k))+1)=some x)(m:e (2*(9*n+(2+k)))=none):qB (eS ((dj e).map bJ) gs 6 (n+1:Nat) k h)=some (.i 0::dA (dj (ch (ch e (2*(9*n+(2+k))+1) none) (2*(9*n+(2+k))) (some x)))):=by
 refine bF ?_;refine bm (vz c d) rfl rfl (nW ?_);refine bz (λ_=>False) ?_ (by rintro _ h;cases h);refine uR ?_;refine bR rfl dc ?_;refine uR ?_;refine bR rfl dc ?_;refine uR ?_;refine bR rfl dc ?_;refine uR ?_;refine bR rfl dc ?_;refine uR ?_;refine cP rfl rfl ?_;refine bm (QZ c d) rfl rfl (nW ?_);refine bm (UB j om l m) rfl rfl (nW ?_);refine bm vQ rfl rfl (nW ?_);exact bk rfl
end
section
variable{R R':List (List PV)}{gs:List Ge}{h:Hx}{n:Nat}
theorem tv{s c k d:Int}(j:s≠1/\s≠7/\s≠8)(l:dG gs)(m:n<gs.length)(o:tT (eS R gs s (n+1:Nat) k h)=some [.b true])(p:qB (eS R gs s (n+1:Nat) k h)=some [.i 0,.i 0,.i (-1),.r R'])(q:nU (eS R' gs s (n+1:Nat) k h)=some [.i c,.i d]):
 oz (eS R gs s (n+1:Nat) k h)=some (.r []::eS R' gs c (n+1:Nat) d h):=by
 refine bF ?_;refine uR ?_;refine bR rfl j.1 ?_;refine bz (λxs=>xs=[]) ?_ ?_
 .refine bz (λxs=>xs=[.b false]) ?_ ?_
  .refine bm (C9 l m) rfl rfl (uR ?_);refine bR rfl om ?_;refine bm o rfl rfl (uR ?_);exact bk rfl
  rintro _ rfl;refine nW ?_;refine cn rfl ?_;exact bk rfl
 rintro _ rfl;refine nW ?_;refine bz (λxs=>xs=[.i 0,.i (-1),.r R',.i 1,.i 9000,.b false,.r (gs.map gR),.i c,.i d]) ?_ (by rintro _ rfl;refine nW ?_;exact bk rfl);refine uR ?_;refine bR rfl j.2.1 (uR ?_);refine bR rfl j.2.2 ?_;refine bz (λxs=>xs=[.i 0,.i (-1),.r R']) ?_ ?_
 .refine bm p rfl rfl (uR ?_);refine bR rfl (λh=>h rfl) ?_;exact bk rfl
 rintro _ rfl;refine nW ?_;refine bm q rfl rfl (nW ?_);exact bk rfl
theorem ael{e:Fs}(d:dx e)(c:dG gs)(j:n<gs.length){k:Int}{b}(m:e (2*(9*n))=some b):
 oz (eS ((dj e).map bJ) gs 8 (n+1:Nat) k h)=some (.r [[.sc (.int .i64 (n+1:Nat)),.sc (.int .i64 0)]]::eS ((dj (ch e (2*(9*n)) none)).map bJ) gs 0 0 0 ⟨.i 0,.i 0,.i 0,.i 0,.i 0,.i 0,.i 0,.i 0,.i 0,.i 0,[],[]⟩):=by
 have o:=c.n8;refine bF ?_;refine uR ?_;refine bR rfl dc ?_;refine bz (λxs=>xs=[]) ?_ ?_
 .refine bz (λxs=>xs=[.b false]) ?_ ?_
  .refine bm (C9 c j) rfl rfl (uR ?_);refine bR rfl om ?_;refine bm (PG (.inr rfl)) rfl rfl (uR ?_);exact bk rfl
  rintro _ rfl;refine nW ?_;refine cn rfl ?_;exact bk rfl
 rintro _ rfl;refine nW ?_;refine bz (λ_=>False) ?_ (by rintro _ h;cases h);refine uR ?_;refine bR rfl dc (uR ?_);refine cP rfl rfl ?_;refine bz (λxs=>xs=dA (dj (ch e (2*(9*n)) none))) ?_ ?_
 .refine bm (WL om) rfl rfl (nW ?_);refine bm (avf d om m) rfl rfl (nW ?_);refine bm vQ rfl rfl (uR ?_);refine bR rfl (λh=>h rfl) ?_;exact bk rfl
 rintro _ rfl;refine nW ?_;refine bm (l:=[]) (show my []=some []from rfl) rfl rfl (uR ?_);exact bk rfl
theorem arq{e:Fs}(t:dx e)(d:dG gs){i:Nat}(m:i<gs.length)(u:gs[i].mode=2)(v:fp (fo gs[i]))(r:dG (gs.set i (fo gs[i]))){x:List Nat}(y:e (2*(9*i+(2+6))+1)=some x)(z:e (2*(9*i+(2+6)))=none):
 oz (eS ((dj e).map bJ) gs 7 (i+1:Nat) 6 h)=some (.r []::eS ((dj (ch (ch e (2*(9*i+(2+6))+1) none) (2*(9*i+(2+6))) (some x))).map bJ) (gs.set i (fo gs[i])) 8 (i+1:Nat) 6 h):=by
 have A:=d.n8;have o:=d.ok i m;have c:(fo gs[i]).n=i:=o.2.1;have p:=ahI d (e:=fo gs[i]) (by rw[c];exact m) v (by rw[c];exact r);rw[c]at p;have q:Ff (eS ((dj e).map bJ) gs 7 (i+1:Nat) 6 h)=some (.i 0::dA (dj (ch (ch e (2*(9*i+(2+6))+1) none) (2*(9*i+(2+6))) (some x)))++sA (gs.set i (fo gs[i]))):=by
  refine bF ?_;refine bm (C9 d m) rfl rfl (nW ?_);refine bS (f:=gR) (l:=gs) (j:=i) rfl rfl m rfl (uR ?_);refine bm (axT o.1 u) rfl rfl (uR ?_);refine bR rfl (λh=>h rfl) ?_;refine bm p rfl rfl (uR ?_);refine bR rfl (λh=>h rfl) ?_;refine bz (λxs=>xs=.i 0::dA (dj (ch (ch e (2*(9*i+(2+6))+1) none) (2*(9*i+(2+6))) (some x)))++sA (gs.set i (fo gs[i]))) ?_ (by rintro _ rfl;refine nW ?_;exact bk rfl);refine bm (vz (k:=6) (show i<8 by omega) dc) rfl rfl (nW ?_);refine bm (QZ (k:=6) (show i<8 by omega) dc) rfl rfl (nW ?_);refine bm (UB t om y z) rfl rfl (nW ?_);refine bm vQ rfl rfl (uR ?_);refine cP rfl rfl ?_;exact bk rfl
 refine bF ?_;refine uR ?_;refine bR rfl dc ?_;refine bz (λxs=>xs=[]) ?_ ?_
 .refine bz (λxs=>xs=[.b false]) ?_ ?_
  .refine bm (C9 d m) rfl rfl (uR ?_);refine bR rfl om ?_;refine bm (PG (.inl rfl)) rfl rfl (uR ?_);exact bk rfl
  rintro _ rfl;refine nW ?_;refine cn rfl ?_;exact bk rfl
 rintro _ rfl;refine nW ?_;refine bz (λxs=>xs=dA (dj (ch (ch e (2*(9*i+(2+6))+1) none) (2*(9*i+(2+6))) (some x)))++sA (gs.set i (fo gs[i]))++[.i 8,.i 6]) ?_ (by rintro _ rfl;refine nW ?_;exact bk rfl);refine uR ?_;refine cP rfl rfl ?_;refine bz (λxs=>xs=dA (dj (ch (ch e (2*(9*i+(2+6))+1) none) (2*(9*i+(2+6))) (some x)))++sA (gs.set i (fo gs[i]))) ?_ (by rintro _ rfl;refine nW ?_;exact bk rfl);refine bm q rfl rfl (uR ?_);refine bR rfl (λh=>h rfl) ?_;exact bk rfl
def kR(i:Nat)(D:List Nat)(l:List It):List (List Nat):=eT D++[jA 1 ((i+1:Nat):Int) 0 D.length (d_ D) l]
def gd(i:Nat)(D:List Nat)(l:List It):Hx:=⟨.i 1,.i (i+1:Nat),.i 0,.i D.length,.i (d_ D 0),.i (d_ D 1),.i (d_ D 2),.i (d_ D 3),.i (d_ D 4),.i (d_ D 5),l,kR i D l⟩
theorem avW{e:Fs}(p:dx e){i:Nat}(y:i<8){g:Ge}(q:g.n=i)(c:fp g){D r:List Nat}(t:e (2*(9*i))=some D)(z:B8 r)(j:D=gA 1 ((i+1:Nat):Int) 0++r)(v:ma 1 ((i+1:Nat):Int) 0 D.length g.l)(A:∀x∈g.l,sh x){s g7 k:Int}:
 D5 (eS ((dj e).map bJ) gs s g7 k h++fq g.gn)=some [.i 0,.i 1,.i (i+1:Nat),.i 0,.i D.length,.i (d_ D 0),.i (d_ D 1),.i (d_ D 2),.i (d_ D 3),.i (d_ D 4),.i (d_ D 5),.r (g.l.map bt),.r ((kR i D g.l).map fR)]:=by
 have C:=c.s.len;have o:=p _ _ t;have B:g.gn.num=((i+1:Nat):Int):=by rw[Ge.num,q]
 have u:r.length<=2097152:=by
  have:=o.2;rw[j,cD]at this;omega
 have d:=ayf (a:=1) (g:=((i+1:Nat):Int)) (r:=0) ⟨dc,dc,om,om,dc,dc⟩ z u;rw[<-j]at d;have hit:=Jg (m:=fI g.l g.dD) c.mb.wm c.mb.mv;rw[wZ c.s.v]at hit;refine bF ?_;refine bm (l:=[.s (eU (2*(9*i)))]) (by show r4 [.i 1,.i 1,.i g.gn.num]=_;rw[B];exact WL y) rfl rfl (nW ?_);refine bm (agu p om t) rfl rfl (uR ?_);refine bR rfl (λh=>h rfl) ?_;refine bm (acC p om t) rfl rfl (nW ?_);refine bm d rfl rfl (uR ?_);refine bR rfl (λh=>h rfl) ?_;refine bm hit rfl rfl (nW ?_);refine bm (apQ o.1 v om) rfl rfl (uR ?_);refine bR rfl (λh=>h rfl) ?_;refine nq (m:=jA 1 ((i+1:Nat):Int) 0 D.length (d_ D) g.l) (aid v (Rl D) A om) rfl rfl (uR ?_);refine er (r:=(kR i D g.l).map fR) (qb _) rfl (by show((eT D).map fR).length<=_;rw[bD,rP];omega) (by show(1:Nat)<=_;omega) dc (by unfold kR;rw[dE];rfl) (nW ?_);exact bk rfl
theorem agk{e:Fs}(q:dx e)(o:dG gs){i:Nat}(p:i<gs.length)(t:gs[i].mode=2)(u:∀j(h:j<i),(gs[j]'om).mode≠2){D r:List Nat}(v:e (2*(9*i))=some D)(y:B8 r)(l:D=gA 1 ((i+1:Nat):Int) 0++r)(z:ma 1 ((i+1:Nat):Int) 0 D.length gs[i].l)(A:∀x∈gs[i].l,sh x){g7 k:Int}:
 oz (eS ((dj e).map bJ) gs 1 g7 k h)=some (.r []::eS ((dj e).map bJ) gs 2 (i+1:Nat) 0 (gd i D gs[i].l)):=by
 have m:=o.n8;have c:=o.ok i p;refine bF ?_;refine uR ?_;refine cP rfl rfl ?_;refine bm (axI m p t u) rfl rfl (uR ?_);refine cn rfl ?_;refine bz (λxs=>xs=[.i 1,.i (i+1:Nat),.i 0,.i D.length,.i (d_ D 0),.i (d_ D 1),.i (d_ D 2),.i (d_ D 3),.i (d_ D 4),.i (d_ D 5),.r (gs[i].l.map bt),.r ((kR i D gs[i].l).map fR)]) ?_ ?_
 .refine bm (avW q (show i<8 by omega) c.2.1 c.1 v y l z A) rfl rfl (uR ?_);refine bR rfl (λh=>h rfl) ?_;exact bk rfl
 rintro _ rfl;refine nW ?_;refine bk ?_;have d:gs[i].gn.num=((i+1:Nat):Int):=by rw[Ge.num,c.2.1]
 show _::_::_::_::_::_::_::_::_::L.i gs[i].gn.num::_=_;rw[d];rfl
theorem XH{g7 k:Int}(c:dG gs)(d:∀j(h:j<gs.length),gs[j].mode≠2):oz (eS R gs 1 g7 k h)=some (.r [[.sc (.int .i64 0),.sc (.int .i64 6)]]::eS R gs 0 0 0 ⟨.i 0,.i 0,.i 0,.i 0,.i 0,.i 0,.i 0,.i 0,.i 0,.i 0,[],[]⟩):=by
 refine bF ?_;refine uR ?_;refine cP rfl rfl ?_;refine bm (ahT c.n8 d) rfl rfl (uR ?_);refine fT rfl ?_;refine bm (l:=[]) (show my []=some []from rfl) rfl rfl (uR ?_);exact bk rfl
end
theorem Lt{a0 a1 a2 a3 a4 a5 a6 a7 a8 a9 A9 A_ a12:L}{it:List It}{da:List (List Nat)}(hi:it.length<=1000)(hd:da.length<=1000)(hb:∀d∈da,d.length<=4294967296):zj [a0,a1,a2,a3,a4,a5,a6,a7,a8,a9,A9,A_,a12,.r (it.map bt),.r (da.map fR)]=some [.r (da.map fR)]:=by
 refine bF ?_;refine bm (HB it hi) rfl rfl (nW ?_);refine bm (l:=[]) (show PS [.r (da.map fR)]=some []from bA ⟨qb _,by rw[bD];omega⟩) rfl rfl (nW ?_);refine bz (λxs=>xs=[.r (da.map fR)]) ?_ (by rintro _ rfl;refine nW ?_;exact bk rfl);refine uR ?_;rw[bD];refine wp_loop (I:=λa=>∃i:Nat,a=[.i i,.r (da.map fR)]/\i<=da.length) (mu:=λa=>match a with|[.i i,_]=>da.length-i.toNat|_=>0) ⟨0,rfl,om⟩ ?_;rintro a ⟨i,rfl,g1⟩;refine uR ?_;refine bO rfl (λhc=>?_) (λhc=>?_);rotate_left
 .exact bk rfl
 have hi:i<da.length:=om;refine bS (f:=fR) (l:=da) (j:=i) rfl rfl hi rfl (nW ?_);refine cK (f:=fR) (l:=da) (j:=i) rfl rfl hi rfl rfl (nW ?_);refine bm (qe (nN _) (by rw[bD];exact hb _ (cQ hi))) rfl rfl (nW ?_);refine bS (f:=fR) (l:=da) (j:=i) rfl rfl hi rfl (nW ?_);refine lN (f:=fR) (l:=da) (n:=i) rfl rfl hi (by show(1:Nat)<=1;omega) rfl (nW ?_);refine b8 (i:=i) rfl om (nW ?_);refine bk ⟨⟨i+1,rfl,om⟩,?_⟩;show da.length- ((i+1:Nat):Int).toNat<da.length-i;omega
structure Cg where
 l:List Fl
 gs:List Ge
 s:Int
 g:Int
 k:Int
 h:Hx
abbrev Cg.A(c:Cg):List L:=eS (c.l.map bJ) c.gs c.s c.g c.k c.h
structure zd(c:Cg):Prop where
 l:jB c.l
 g:dG c.gs
 s1:1<=c.s
 s8:c.s<=8
 i:c.h.it.length<=1000
 d:c.h.da.length<=1000
 b:∀d∈c.h.da,d.length<=4294967296
theorem T9{c:Cg}(d:zd c){rows R':List (List PV)}{j:List Ge}{p g' q:Int}{r:Hx}(l:oz c.A=some (.r rows::eS R' j p g' q r)):KH c.A=some (.i 0::eS R' j p g' q r++[.r rows]):=by
 have m:=d.s1;have o:=d.s8;have hrun:uJ [.i c.s,.i c.g,.i c.k,c.h.x0,c.h.x1,c.h.x2,c.h.x3,c.h.c0,c.h.c1,c.h.c2,c.h.c3,c.h.c4,c.h.c5,.r (c.h.it.map bt),.r (c.h.da.map fR)]=some [.b true]:=by
  refine bF ?_;refine bz (λxs=>xs=[.b true]) ?_ (by rintro _ rfl;refine nW ?_;exact bk rfl);refine uR ?_;refine cP rfl m (uR ?_);exact bk (dT o)
 refine bF ?_;refine bz (λxs=>xs=[.i 0]) ?_ ?_
 .refine bm (B0 d.g) rfl rfl (uR ?_);refine cn rfl ?_;refine bm hrun rfl rfl (uR ?_);refine cn rfl (uR ?_);refine bR rfl oO ?_;exact bk rfl
 rintro _ rfl;refine uR ?_;refine bR rfl (λh=>h rfl) ?_;refine bm (Pt (by have:=d.l.len;omega) d.l.pn) rfl rfl (nW ?_);refine bm (V7 d.g) rfl rfl (nW ?_);refine bm (Lt d.i d.d d.b) rfl rfl (nW ?_);refine bm l rfl rfl (nW ?_);exact bk rfl
def Trn(c d:Cg):Prop:=∃R,oz c.A=some (.r []::eS R d.gs d.s d.g d.k d.h)/\ti [.i 0,.i (-1),.r R]=some [.r (d.l.map bJ)]
def Fin(c:Cg)(d:List Fl)(j:List Ge)(gn r:Int):Prop:=∃R l g' m o,oz c.A=some (.r [[.sc (.int .i64 gn),.sc (.int .i64 r)]]::eS R j l g' m o)/\ti [.i 0,.i (-1),.r R]=some [.r (d.map bJ)]
def z0:Hx:=⟨.i 0,.i 0,.i 0,.i 0,.i 0,.i 0,.i 0,.i 0,.i 0,.i 0,[],[]⟩
theorem Qz:EK [.i 0,.i 0,.i 0,.i 0,.i 0,.i 0,.i 0,.i 0,.i 0,.i 0,.i 0,.i 0,.i 0,.r [],.r []]=some [.i 1,.r []]:=by
 refine bF ?_;refine bm (Lt (it:=[]) (da:=[]) dc dc (λd c=>by cases c)) rfl rfl (nW ?_);refine bz (λxs=>xs=[.i 1]) ?_ (by rintro _ rfl;refine nW ?_;exact bk rfl);refine uR ?_;refine cP rfl rfl ?_;exact bk rfl
theorem QV(Cfg:Nat->Cg->Prop){lf:List Fl}{gf:List Ge}{gn r:Int}{data:L}{l0:List Fl}{ZC:List Ge}(h0:Cfg 0 ⟨l0,ZC,1,0,0,z0⟩)(hgf:gf.length<=8)(hs:∀n c,Cfg n c->n<60/\zd c/\((∃c',Trn c c'/\Cfg (n+1) c')\/Fin c lf gf gn r)):
 Ap (dA l0++sA ZC++[data,.i 0,.i (-1)])=some (.b true::dA lf++sA gf++[.i gn,.i r,data]):=by
 refine bF ?_;refine bm (l:=[]) (show my []=some []from rfl) rfl rfl (nW ?_);refine bm Qz rfl rfl (nW ?_);refine bz (λ_=>False) ?_ (by rintro _ h;cases h);refine wp_loop (I:=λa=>∃(n:Nat)(c:Cg),a=.i n::(c.A++[data])/\Cfg n c) (mu:=λa=>match a with| .i n::_=>60-n.toNat|_=>0) ⟨0,_,rfl,h0⟩ ?_;rintro a ⟨n,c,rfl,hc⟩;obtain⟨hn,dB,NU⟩:=hs n c hc;refine uR ?_;refine cP rfl om ?_;refine bz (λxs=>xs=[.i 0,.i (-1),.r (c.l.map bJ),.i 1,.i 9000,.b false,.r (c.gs.map gR),data]) ?_ ?_
 .refine uR ?_;refine bR rfl om ?_;exact bk rfl
 rintro _ rfl;refine nW ?_;refine bm (XT (l:=c.l) (by have:=dB.l.len;omega) dB.l.pn) rfl rfl (nW ?_);refine bm (QF dB.g.n8) rfl rfl (nW ?_);rcases NU with⟨c',⟨R,Oa,Ob⟩,hc'⟩| ⟨R,s',g',k',h',Oa,Ob⟩
 .refine bm (T9 dB Oa) rfl rfl (uR ?_);refine bR rfl (λh=>h rfl) ?_;refine bm Ob rfl rfl (nW ?_);refine bm (Pb (hs _ _ hc').2.1.g.n8) rfl rfl (uR ?_);refine bR rfl oO ?_;refine b8 (i:=n) rfl om (nW ?_);refine bk ⟨⟨n+1,c',rfl,hc'⟩,?_⟩;show 60- ((n+1:Nat):Int).toNat<60-n;omega
 .refine bm (T9 dB Oa) rfl rfl (uR ?_);refine bR rfl (λh=>h rfl) ?_;refine bm Ob rfl rfl (nW ?_);refine bm (Pb hgf) rfl rfl (uR ?_);refine cP rfl oO ?_;refine iG (r:=[.sc (.int .i64 gn),.sc (.int .i64 r)]) oO rfl rfl (nW ?_);refine qG (r:=[.sc (.int .i64 gn),.sc (.int .i64 r)]) rfl rfl rfl (nW ?_);refine qG (r:=[.sc (.int .i64 gn),.sc (.int .i64 r)]) rfl rfl rfl (nW ?_);exact bk rfl
def ew(f:Fs)(i:Nat)(w:Nat->List Nat)(a b:Nat):Fs:=λj=>
 if j%2=1/\2*(9*i+2+a)<j/\j<2*(9*i+2+b)then some (w (j/2- (9*i+2)))
 else if j%2=0/\2*(9*i+2)<=j/\j<2*(9*i+2+a)then some (w (j/2- (9*i+2)))
 else j_ f j
section
variable{f:Fs}{i:Nat}{w:Nat->List Nat}{a b k:Nat}
theorem amt:ew f i w 0 0=j_ f:=by
 funext j;unfold ew;rw[bH om,bH om]
theorem Jc(h:¬(a<=k/\k<b)):ew f i w a b (2*(9*i+(2+k))+1)=none:=by
 unfold ew;rw[bH om,bH om];exact DU f _
theorem Ih(c:a<=k)(d:k<b):ew f i w a b (2*(9*i+(2+k))+1)=some (w k):=by
 unfold ew;rw[bA om,show(2*(9*i+(2+k))+1) /2- (9*i+2)=k by omega]
theorem O5(h:a<=k):ew f i w a b (2*(9*i+(2+k)))=f (9*i+(2+k)):=by
 unfold ew;rw[bH om,bH om];exact uk f _
theorem azp:ew f i w a b (2*(9*i))=f (9*i):=by
 unfold ew;rw[bH om,bH om];exact uk f _
theorem asJ(l:dx f)(d:∀k,okB (w k)):dx (ew f i w a b):=λj x c=>by
 unfold ew at c;split at c
 .cases c;exact d _
 .split at c
  .cases c;exact d _
  .exact l.j_ _ _ c
theorem aor:ch (ch (ew f i w 0 k) (2*(9*i+(2+k))+1) (some [])) (2*(9*i+(2+k))+1) (some (w k))=ew f i w 0 (k+1):=by
 funext j;by_cases h:j=2*(9*i+(2+k))+1
 .subst h;rw[gj,Ih om om]
 .rw[dv h,dv h];unfold ew;by_cases c:j%2=1/\2*(9*i+2+0)<j/\j<2*(9*i+2+k)
  .rw[bA c,bA om]
  .rw[bH c,bH (show¬(j%2=1/\2*(9*i+2+0)<j/\j<2*(9*i+2+(k+1)))by omega)]
theorem UI(m:k<7):ch (ch (ew f i w k 7) (2*(9*i+(2+k))+1) none) (2*(9*i+(2+k))) (some (w k))=ew f i w (k+1) 7:=by
 funext j;by_cases h:j=2*(9*i+(2+k))
 .subst h;rw[gj];unfold ew;rw[bH om,bA om,show 2*(9*i+(2+k)) /2- (9*i+2)=k by omega]
 .rw [dv h];by_cases c:j=2*(9*i+(2+k))+1
  .subst c;rw[gj,Jc om]
  .rw[dv c];unfold ew;by_cases d:j%2=1/\2*(9*i+2+k)<j/\j<2*(9*i+2+7)
   .rw[bA d,bA om]
   .rw[bH d,bH (show¬(j%2=1/\2*(9*i+2+(k+1))<j/\j<2*(9*i+2+7))by omega)];by_cases l:j%2=0/\2*(9*i+2)<=j/\j<2*(9*i+2+k)
    .rw[bA l,bA om]
    .rw[bH l,bH om]
end
def fF(i:Nat)(D:List Nat)(l:List It)(k:Nat):List Nat:=(kR i D l).getD k []
theorem MN(i D l):(kR i D l).length=7:=by unfold kR;rw[cD,rP];rfl
theorem Wi{i D l k}(h:k<6):fF i D l k=(eT D).getD k []:=by
 unfold fF kR;rw[jZ,jZ,oY (by rw[rP];exact h)]
theorem RF{i D l}:fF i D l 6=jA 1 ((i+1:Nat):Int) 0 D.length (d_ D) l:=by
 unfold fF kR;rw[jZ,kF (by rw[rP];omega),rP];rfl
theorem aos{f:Fs}{i:Nat}{D:List Nat}{l:List It}:ch (ew f i (fF i D l) 7 7) (2*(9*i)) none=j_ (ch (ch (iW f i D 6) (9*i+8) (some (jA 1 ((i+1:Nat):Int) 0 D.length (d_ D) l))) (9*i) none):=by
 funext j;by_cases h:j=2*(9*i)
 .subst h;rw[gj,uk,gj]
 rw[dv h];by_cases o:j%2=0
 .obtain⟨m,rfl⟩:∃m,j=2*m:=⟨j/2,om⟩
  rw[uk,dv om];by_cases c:m=9*i+8
  .subst c;rw[gj];unfold ew;rw[bH om,bA om,show 2*(9*i+8) /2- (9*i+2)=6 by omega,RF]
  rw[dv c];unfold ew iW;by_cases d:9*i+2<=m/\m<9*i+2+6
  .rw[bH om,bA om,bA d,Wi om,show 2*m/2=m by omega]
  .rw[bH om,bH om,bH d,uk]
 .obtain⟨m,rfl⟩:∃m,j=2*m+1:=⟨j/2,om⟩
  rw[DU];unfold ew;rw[bH om,bH om,DU]
def Cf(f:Fs)(gs d:List Ge)(i:Nat)(D:List Nat)(l:List It)(n:Nat)(c:Cg):Prop:=
 (n=0/\c=⟨cM f,gs,1,0,0,z0⟩)\/
 (∃k:Nat,k<7/\n=4*k+1/\c=⟨dj (ew f i (fF i D l) 0 k),gs,2,(i+1:Nat),k,gd i D l⟩)\/
 (∃k:Nat,k<7/\n=4*k+2/\c=⟨dj (ew f i (fF i D l) 0 k),gs,3,(i+1:Nat),k,gd i D l⟩)\/
 (∃k:Nat,k<7/\n=4*k+3/\c=⟨dj (ch (ew f i (fF i D l) 0 k) (2*(9*i+(2+k))+1) (some [])),gs,4,(i+1:Nat),k,gd i D l⟩)\/
 (∃k:Nat,k<7/\n=4*k+4/\c=⟨kl (ch (ew f i (fF i D l) 0 k) (2*(9*i+(2+k))+1) (some [])) (2*(9*i+(2+k))+1) (kI (2*(9*i+(2+k))+1) (fF i D l k)),gs,5,(i+1:Nat),k,gd i D l⟩)\/
 (∃k:Nat,k<6/\n=29+k/\c=⟨dj (ew f i (fF i D l) k 7),gs,6,(i+1:Nat),k,gd i D l⟩)\/
 (n=35/\c=⟨dj (ew f i (fF i D l) 6 7),gs,7,(i+1:Nat),6,gd i D l⟩)\/
 (n=36/\c=⟨dj (ew f i (fF i D l) 7 7),d,8,(i+1:Nat),6,gd i D l⟩)
theorem GS{l:List Fl}{gs:List Ge}(c:jB l)(j:dG gs):zd ⟨l,gs,1,0,0,z0⟩:=⟨c,j,(by show(1:Int)<=1;decide),(by show(1:Int)<=8;decide),(by show(0:Nat)<=1000;decide),(by show(0:Nat)<=1000;decide),λd m=>by cases m⟩
theorem auG{f gs H B}(h:Inv f gs H B)(hB:B<=15700){i:Nat}(v:i<gs.length)(V:gs[i].mode=2)(hb:∀j(h:j<i),(gs[j]'om).mode≠2)(data:L):
 ∃f',Ap (dA (cM f)++sA gs++[data,.i 0,.i (-1)])=some (.b true::dA (cM f')++sA (gs.set i (fo gs[i]))++[.i (i+1:Nat),.i 0,data])/\Inv f' (gs.set i (fo gs[i])) H (B+248):=by
 have p:=h.s;have X:=p.n8;have t:=p.ok i v;have W:=h.vb i v;have F:=h.op i v (by rw[V];decide);have u:=h.HS om v V;have A:dx f:=h.okF om;obtain⟨r,hr,N⟩:=W.2.2.2;have Y:=h.ma om v;have ae:=t.1.s.len;have Z:fp (fo gs[i]):=⟨t.1.n8,(by show(1:Int)<=3;omega),(by show(3:Int)<=3;omega),t.1.s,t.1.cl,t.1.en,t.1.g0,t.1.g8,t.1.sz⟩
 obtain⟨D,aa⟩:∃D,H i=D:=⟨_,rfl⟩
 rw[aa]at W F u N Y;have ad:Sp.dw D.length<=1048576:=by have:=W.2.2.1;unfold Sp.dw;omega
 have M:∀k,okB (fF i D gs[i].l k):=λk=>by
  by_cases h6:k<6
  .rw[Wi h6];have:=FF W.1 k;exact⟨this.1,om⟩
  .by_cases h7:k=6
   .subst h7;rw[RF];have:=yC 1 ((i+1:Nat):Int) 0 D.length (d_ D) gs[i].l;refine⟨qH (FA _ _ _ _ _ _),?_⟩;unfold jA;rw[rE];omega
   .unfold fF;rw[jZ,o0 (by rw[MN];omega)];exact⟨λx O=>(by cases O),dc⟩
 have ab:∀d∈(gd i D gs[i].l).da,d.length<=4294967296:=λd hd=>by
  obtain⟨k,o,rfl⟩:=jG hd;have:=(M k).2;unfold fF at this;have o:k< (kR i D gs[i].l).length:=o;rw[jC o]at this;have this:(kR i D gs[i].l)[k].length<=1048576:=this;show(kR i D gs[i].l)[k].length<=_;omega
 have m:∀a b,dx (ew f i (fF i D gs[i].l) a b):=λa b=>asJ A M
 have z:∀k J,dx (ch (ew f i (fF i D gs[i].l) 0 k) J (some [])):=λk J=>(m 0 k).ch λx O=>by cases O;exact Q9
 have y:∀{l:List Fl}{P:List Ge}{s g k:Int},jB l->dG P->1<=s->s<=8->zd ⟨l,P,s,g,k,gd i D gs[i].l⟩:=λq h2 h3 h4=>⟨q,h2,h3,h4,by show gs[i].l.length<=1000;omega,by show(kR i D gs[i].l).length<=1000;rw[MN];omega,ab⟩
 have Q:∀k,k<7->f (9*i+(2+k))=none:=λk o=>F.2 (2+k) om om
 have C:∀{k},k<7->k< (gd i D gs[i].l).da.length:=λ{k}o=>by show k< (kR i D gs[i].l).length;rw[MN];exact o
 have G:∀{k}(o:k<7),(gd i D gs[i].l).da[k]'(C o)=fF i D gs[i].l k:=λ{k}o=>(jC (C o)).symm
 have E:i<8:=om;refine⟨_,?_,u⟩;rw[<-w6 (ch (ch (iW f i D 6) (9*i+8) _) (9*i) none),<-aos];refine QV (Cf f gs (gs.set i (fo gs[i])) i D gs[i].l) (.inl ⟨rfl,rfl⟩) (by rw[lr];exact X) ?_;rintro n c (⟨rfl,rfl⟩| ⟨k,o,rfl,rfl⟩| ⟨k,o,rfl,rfl⟩| ⟨k,o,rfl,rfl⟩| ⟨k,o,rfl,rfl⟩| ⟨k,o,rfl,rfl⟩| ⟨rfl,rfl⟩| ⟨rfl,rfl⟩)
 ·
  have q:=agk (h:=z0) A.j_ p v V hb (by rw[uk];exact F.1) hr N Y.1 Y.2 (g7:=0) (k:=0);rw[w6]at q;have hl:jB (cM f):=by rw[<-w6];exact iX A.j_
  have h2:dj (ew f i (fF i D gs[i].l) 0 0)=cM f:=by rw[amt,w6]
  refine⟨om,GS hl p,.inl ⟨⟨dj (ew f i (fF i D gs[i].l) 0 0),gs,2,(i+1:Nat),(0:Nat),gd i D gs[i].l⟩,⟨(cM f).map bJ,q,?_⟩,.inr (.inl ⟨0,dc,rfl,rfl⟩)⟩⟩;show ti [.i 0,.i (-1),.r ((cM f).map bJ)]=some [.r ((dj (ew f i (fF i D gs[i].l) 0 0)).map bJ)];rw[h2];exact o9 hl
 ·
  have q:=tv (s:=2) (h:=gd i D gs[i].l) dc p v (zM (.inl rfl) o) (ajy (m 0 k) E o (Jc om)) aaj;exact⟨om,y (s:=2) (iX (m 0 k)) p dc dc,.inl ⟨⟨dj (ew f i (fF i D gs[i].l) 0 k),gs,3,(i+1:Nat),k,gd i D gs[i].l⟩,⟨_,q,o9 (iX (m 0 k))⟩,.inr (.inr (.inl ⟨k,o,rfl,rfl⟩))⟩⟩
 ·
  have q:=tv (s:=3) (h:=gd i D gs[i].l) dc p v (zM (.inr (.inl rfl)) o) (awx (m 0 k) E o (Jc om)) ast;exact⟨om,y (s:=3) (iX (m 0 k)) p dc dc,.inl ⟨⟨dj (ch (ew f i (fF i D gs[i].l) 0 k) (2*(9*i+(2+k))+1) (some [])),gs,4,(i+1:Nat),k,gd i D gs[i].l⟩,⟨_,q,o9 (iX (z k _))⟩,.inr (.inr (.inr (.inl ⟨k,o,rfl,rfl⟩)))⟩⟩
 ·
  have S:=awr (gs:=gs) (h:=gd i D gs[i].l) (z k (2*(9*i+(2+k))+1)) E o gj (C o) (by rw[G o];exact M k);rw[G o]at S;have q:=tv (s:=4) dc p v (zM (.inr (.inr (.inl rfl))) o) S avP;exact⟨om,y (s:=4) (iX (z k _)) p dc dc,.inl ⟨⟨kl (ch (ew f i (fF i D gs[i].l) 0 k) (2*(9*i+(2+k))+1) (some [])) (2*(9*i+(2+k))+1) (kI (2*(9*i+(2+k))+1) (fF i D gs[i].l k)),gs,5,(i+1:Nat),k,gd i D gs[i].l⟩,⟨_,q,aya (z k _) om (M k)⟩,.inr (.inr (.inr (.inr (.inl ⟨k,o,rfl,rfl⟩))))⟩⟩
 ·
  have I:=agM (gs:=gs) (h:=gd i D gs[i].l) (z k (2*(9*i+(2+k))+1)) E o (M k);rw[aor]at I;have T:=y (s:=5) (g:=(i+1:Nat)) (k:=k) (K0 (z k (2*(9*i+(2+k))+1)) (DK (J:=(2*(9*i+(2+k))+1)) om (M k))) p dc dc;refine⟨om,T,.inl ?_⟩;by_cases h6:k=6
  .subst h6;have q:=tv (s:=5) (k:=((6:Nat):Int)) dc p v (zM (.inr (.inr (.inr rfl))) o) I afE;exact⟨⟨dj (ew f i (fF i D gs[i].l) 0 7),gs,6,(i+1:Nat),(0:Nat),gd i D gs[i].l⟩,⟨_,q,o9 (iX (m 0 7))⟩,.inr (.inr (.inr (.inr (.inr (.inl ⟨0,dc,rfl,rfl⟩)))))⟩
  .have q:=tv (s:=5) dc p v (zM (.inr (.inr (.inr rfl))) o) I (anZ om);exact⟨⟨dj (ew f i (fF i D gs[i].l) 0 (k+1)),gs,2,(i+1:Nat),(k+1:Nat),gd i D gs[i].l⟩,⟨_,q,o9 (iX (m 0 (k+1)))⟩,.inr (.inl ⟨k+1,om,om,rfl⟩)⟩
 ·
  have K:=agH (gs:=gs) (h:=gd i D gs[i].l) (m k 7) E (show k<7 by omega) (Ih (de k) om) (by rw[O5 (de k)];exact Q k om);rw[UI om]at K;refine⟨om,y (s:=6) (iX (m k 7)) p dc dc,.inl ?_⟩;by_cases h5:k=5
  .subst h5;have q:=tv (s:=6) (k:=((5:Nat):Int)) dc p v (TY o) K akY;exact⟨⟨dj (ew f i (fF i D gs[i].l) 6 7),gs,7,(i+1:Nat),6,gd i D gs[i].l⟩,⟨_,q,o9 (iX (m 6 7))⟩,.inr (.inr (.inr (.inr (.inr (.inr (.inl ⟨rfl,rfl⟩))))))⟩
  .have q:=tv (s:=6) dc p v (TY o) K (arw om);exact⟨⟨dj (ew f i (fF i D gs[i].l) (k+1) 7),gs,6,(i+1:Nat),(k+1:Nat),gd i D gs[i].l⟩,⟨_,q,o9 (iX (m (k+1) 7))⟩,.inr (.inr (.inr (.inr (.inr (.inl ⟨k+1,om,om,rfl⟩)))))⟩
 ·
  have U:=arq (h:=gd i D gs[i].l) (m 6 7) p v V Z u.s (Ih (k:=6) dc dc) (by rw[O5 (k:=6) (de 6)];exact Q 6 dc);rw[UI (k:=6) dc]at U;exact⟨om,y (s:=7) (iX (m 6 7)) p dc dc,.inl ⟨⟨dj (ew f i (fF i D gs[i].l) 7 7),(gs.set i (fo gs[i])),8,(i+1:Nat),6,gd i D gs[i].l⟩,⟨_,U,o9 (iX (m 7 7))⟩,.inr (.inr (.inr (.inr (.inr (.inr (.inr ⟨rfl,rfl⟩))))))⟩⟩
 ·
  have ac:=ael (h:=gd i D gs[i].l) (m 7 7) u.s (n:=i) (by rw[lr];exact v) (k:=6) (b:=D) (by rw[azp];exact F.1);exact⟨om,y (s:=8) (iX (m 7 7)) u.s dc dc,.inr ⟨_,_,_,_,_,ac,o9 (iX ((m 7 7).ch λx O=>by cases O))⟩⟩
theorem ayv{f gs d B}(h:Inv f gs d B)(p:B<=15700)(o:∀j(h:j<gs.length),gs[j].mode≠2)(data:L):
 Ap (dA (cM f)++sA gs++[data,.i 0,.i (-1)])=some (.b true::dA (cM f)++sA gs++[.i 0,.i 6,data]):=by
 have l:=h.s;have m:jB (cM f):=by rw[<-w6];exact iX (h.okF om).j_
 refine QV (λn c=>n=0/\c=⟨cM f,gs,1,0,0,z0⟩) ⟨rfl,rfl⟩ l.n8 ?_;rintro n c ⟨rfl,rfl⟩;exact⟨om,GS m l,.inr ⟨_,_,_,_,_,XH (h:=z0) l o,o9 m⟩⟩
def ED:Fs:=λ_=>none
def o3:Fs:=ch ED 0 (some (gA 1 1 0))
theorem Yt:∀n lo,gP ED lo n=[]
 |0,_=>rfl
 |n+1,lo=>by rw[gP,Yt n];rfl
theorem VZ:Inv o3 [jL 0] (λ_=>gA 1 1 0) 16:=by
 have m:=pz 1 1 0;have one:∀{i},i< [jL 0].length->i=0:=λ{i}h=>by have h:i<1:=h;omega
 refine⟨Ji,λj b c=>?_,λi d=>?_,λi d y o=>?_,λi d l=>?_,λi d l=>?_,λj c=>?_⟩
 .unfold o3 at c;by_cases e:j=0
  .subst e;rw[gj]at c;cases c;exact⟨tS _ _ _,om⟩
  .rw[dv e]at c;cases c
 .obtain rfl:=one d;exact⟨tS _ _ _,by rw[m];rfl,om,[],λx p=>(by cases p),by rw[fW];rfl⟩
 .obtain rfl:=one d;cases o
 .obtain rfl:=one d;exact⟨gj,λk r q=>by unfold o3;rw[dv om];rfl⟩
 .obtain rfl:=one d;have l:(1:Int)=3:=l;omega
 .have c:9*1<=j:=c;unfold o3;rw[dv om];rfl
theorem avM(k):has [jL 0] (λ_=>gA 1 1 0) k=none:=by
 unfold has;rw[EJ];rfl;intro i c;have c:i<1:=c;obtain rfl:i=0:=om;rfl
theorem TG:Fw [.i 1,.i 9000]=some [.i 0,.i (-1),.i 1,.i 9000,.r ([jL 0].map gR),.r ((cM o3).map bJ)]:=by
 have c:dx ED:=λj b m=>by cases m
 have l:=YH c [jL 0] (.r []) (n:=0) dc rfl;rw[show cM ED=[]from Yt 72 0]at l;have d:I5 [.i 0]=some [.i 0]:=by
  refine bF ?_;refine Jq (n:=0) rfl (nW ?_);exact bk rfl
 refine bF ?_;refine bm afr rfl rfl (nW ?_);refine bm d rfl rfl (nW ?_);refine bm l rfl rfl (nW ?_);exact bk rfl
theorem TU{a:Int}:∃v:Int,dV .and .u64 a 7=some (.i v)/\0<=v/\v<8:=by
 have h:(BitVec.ofInt 64 a&&&BitVec.ofInt 64 7).toNat<=7:=by
  rw[OF];exact Nat.and_le_right
 refine⟨_,rfl,?_⟩;show 0<=IntKind.wrap .u64 ((BitVec.ofInt 64 a&&&BitVec.ofInt 64 7).toNat:Int)/\IntKind.wrap .u64 ((BitVec.ofInt 64 a&&&BitVec.ofInt 64 7).toNat:Int)<8;rw[WS om om];omega
theorem avb{n:Int}(c:0<=n)(d:n<=4294967295):IntKind.wrap .u32 n=n:=Fp .u32 (by simp[IntKind.min,IntKind.signed];omega) (by simp[IntKind.max,IntKind.signed,IntKind.bits];omega)
theorem anO{a:Int}:∃v:Int,dV .and .u32 a 3=some (.i v)/\0<=v/\v<4:=by
 have h:(BitVec.ofInt 32 a&&&BitVec.ofInt 32 3).toNat<=3:=by
  rw[OF];exact Nat.and_le_right
 refine⟨_,rfl,?_⟩;show 0<=IntKind.wrap .u32 ((BitVec.ofInt 32 a&&&BitVec.ofInt 32 3).toNat:Int)/\IntKind.wrap .u32 ((BitVec.ofInt 32 a&&&BitVec.ofInt 32 3).toNat:Int)<4;rw[avb om om];omega
def p_:List AC:=[.int .u64 0 18446744073709551615,.int .u32 0 4294967295,.bool,.sl 9223372036854775807 [.int .u8 0 255]]
def tb:List AC:=[.int .i64 (-9223372036854775808) 9223372036854775807,.sl 9223372036854775807 p_,.int .i64 (-9223372036854775808) 9223372036854775807,.sl 9223372036854775807 [.int .u64 0 18446744073709551615]]
theorem Ss:∀{rows},AC.rows [.int .u8 0 255] rows->∃l:List Nat,B8 l/\rows=l.map b1
 |[],_=>⟨[],λx c=>(by cases c),rfl⟩
 |r ::rows,h=>by
  have d:=h r iA;obtain⟨l,j,rfl⟩:=Ss (rows:=rows) λr m=>h r (iz _ m)
  match r,d with
  |[q],⟨⟨n,o,p,t⟩,_⟩=>
   refine⟨n.toNat::l,λx c=>?_,?_⟩
   .rcases eG.1 c with rfl|c
    .omega
    .exact j x c
   .rw[o,dk,b1,Bd p]
theorem qq{c cs r}(h:AC.kG (c::cs) r):∃q l,r=q::l/\AC.ok c q/\AC.kG cs l:=by
 cases r with
 |nil=>cases h
 |cons q l=>exact⟨q,l,rfl,h.1,h.2⟩
theorem KQ{r}(h:AC.kG [] r):r=[]:=by
 cases r with
 |nil=>rfl
 |cons q l=>cases h
theorem agw{r}(h:AC.kG p_ r):∃(key cookie:Int)(del:Bool)(b:List Nat),r=[.sc (.int .u64 key),.sc (.int .u32 cookie),.sc (.bool del),.sl (b.map b1)]/\B8 b:=by
 obtain⟨q0,u,rfl,⟨j,e0,_⟩,c⟩:=qq h;obtain⟨q1,v,rfl,⟨l,m,_⟩,c⟩:=qq c;obtain⟨q2,x,rfl,⟨d,o⟩,c⟩:=qq c;obtain⟨q3,y,rfl,⟨rows,p,_,q⟩,c⟩:=qq c;obtain rfl:=KQ c;obtain⟨b,t,rfl⟩:=Ss q;exact⟨j,l,d,b,by rw[e0,m,o,p],t⟩
theorem adT{r}(h:AC.kG tb r):∃(kind g:Int)(l ks:List (List PV)),r=[.sc (.int .i64 kind),.sl l,.sc (.int .i64 g),.sl ks]/\AC.rows p_ l/\AC.rows [.int .u64 0 18446744073709551615] ks:=by
 obtain⟨q0,u,rfl,⟨d,e0,_⟩,c⟩:=qq h;obtain⟨q1,v,rfl,⟨l,j,_,m⟩,c⟩:=qq c;obtain⟨q2,x,rfl,⟨o,p,_⟩,c⟩:=qq c;obtain⟨q3,y,rfl,⟨ks,q,_,t⟩,c⟩:=qq c;obtain rfl:=KQ c;exact⟨d,o,l,ks,by rw[e0,j,p,q],m,t⟩
theorem Ts(l:List Nl):ct 4 (l.map Nl.row)=true:=by
 unfold ct;rw[cz];intro x c;obtain⟨y,_,rfl⟩:=fE.1 c;rfl
theorem JM{ρ Q k}{l:List (List PV)}{x i:At}{n j:Nat}(c:(x.ev ρ).bC=l)(d:(i.ev ρ).br=j)(m:j<l.length)(o:l[j].length=n)(p:k.wp (ρ++[.c l[j]]) Q):(bl.op (.row x i n) k).wp ρ Q:=
 iG om (by rw[c,d,ey,cY m]) o p
theorem Q7{l}(h:AC.rows p_ l){m:Nat}(hm:m<=12):∃ls:List Nl,MH [.r l,.i m]=some [.r (ls.map Nl.row)]/\ls.length<=m/\∀x∈ls,ka x:=by
 suffices q_:∃o,Fo Sa [.r l,.i m]=some o/\∃ls:List Nl,o=[.r (ls.map Nl.row)]/\ls.length<=m/\∀x∈ls,ka x by
  obtain⟨o,h1,ls,rfl,h2⟩:=q_;exact⟨ls,h1,h2⟩
 refine jR ?_;refine bz (λxs=>∃ls:List Nl,xs=[.r (ls.map Nl.row)]/\ls.length<=m/\∀x∈ls,ka x) ?_ (by rintro _ ⟨ls,rfl,h⟩;refine nW ?_;exact bk ⟨ls,rfl,h⟩);refine wp_loop (I:=λa=>∃(i:Nat)(ls:List Nl),a=[.i i,.r (ls.map Nl.row)]/\i<=m/\ls.length=i/\∀x∈ls,ka x) (mu:=λa=>match a with|[.i i,_]=>m-i.toNat|_=>0) ⟨0,[],rfl,om,rfl,λx hx=>by cases hx⟩ ?_;rintro a ⟨i,ls,rfl,e1,e2,e3⟩;refine bz (c8 (i<l.length/\i<m)) ?_ ?_
 .refine uR ?_;refine bO rfl (λhc=>?_) (λhc=>bk (e7 om));refine uR ?_;exact bk (e_ om)
 rintro _ ⟨t,rfl,ht⟩;refine nW ?_;refine iU rfl ht (λhc=>?_) (λhc=>?_);rotate_left
 .exact bk ⟨ls,rfl,om,e3⟩
 obtain⟨key,cookie,del,b,hr,hb⟩:=agw (h _ (cQ hc.1));refine JM (l:=l) (j:=i) rfl rfl hc.1 (by rw[hr];rfl) ?_;rw[hr];refine uR ?_;refine bz (λxs=>xs=[.r ((b.take 30).map b1)]) ?_ ?_
 .refine uR ?_;rw[bD];refine bO rfl (λhx=>?_) (λhx=>?_)
  .refine uR ?_;refine lT (a:=0) (c:=30) rfl rfl rfl om om (nW ?_);exact bk rfl
  .refine bk ?_;show[L.r (b.map b1)]=_;rw[eo om]
 rintro _ rfl;obtain⟨dt,Gm⟩:∃dt,(if del=true then[]else b.take 30)=dt:=⟨_,rfl⟩
 refine nW ?_;refine bz (λxs=>xs=[.r (dt.map b1)]) ?_ ?_
 .subst Gm
  cases del with
  |true=>exact fT rfl (bk rfl)
  |false=>exact cn rfl (bk rfl)
 rintro _ rfl;obtain⟨k',oP,hk2,hk3⟩:=TU (a:=key);obtain⟨c',hc1,hc2,hc3⟩:=anO (a:=cookie);refine nW ?_;refine dn (l:=.i k') oP (nW ?_);refine dn (l:=.i c') hc1 (uR ?_);refine er (r:=(ls++[(⟨k',c',del,dt⟩:Nl)]).map Nl.row) (Ts ls) rfl (by show(ls.map Nl.row).length<=_;rw[bD];omega) (by show(1:Nat)<=_;omega) dc (by rw[dE];rfl) (nW ?_);refine b8 (i:=i) rfl om (nW ?_);refine bk ⟨⟨i+1,ls++[⟨k',c',del,dt⟩],rfl,om,by rw[cD,e2];rfl,λx hx=>?_⟩,?_⟩
 .rcases gI.1 hx with hx|hx
  .exact e3 x hx
  .rw[jX.1 hx];refine⟨hk2,hk3,hc2,by show c'<=_;omega,λhd=>?_,λy hy=>?_,?_⟩
   .have hd:del=true:=hd;show dt=[]
    rw[<-Gm,bA hd]
   .have hy:y∈dt:=hy;rw[<-Gm]at hy;split at hy
    .cases hy
    .exact hb y (mO hy)
   .show dt.length<=30;rw[<-Gm];split
    .exact eM _
    .rw[dz];omega
 .show m- ((i+1:Nat):Int).toNat<m-i;omega
end
end
end Go.Proofs.YtiikkkhcolcebaaGreatDoor
