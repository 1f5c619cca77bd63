/- A part. -/
import Derived.Test.YtiikkkhcolcebaaGreatDoorG6
import Derived.Shelf.SlSortCmp.NoneTotal
import Derived.Shelf.SlicesG.Cmp
import Derived.Test.YtiikkkhcolcebaaGreatDoorProg
import Derived.WalkKit
set_option linter.all false
set_option maxHeartbeats 4000000
set_option maxRecDepth 100000
namespace Go.Proofs.YtiikkkhcolcebaaGreatDoor
noncomputable section
section
open Go.Shelf
def Tryz.auz:Go.Shelf.Ren:=⟨λ|6=>255|15=>304|14=>303|28=>346|29=>347|20=>338|21=>339|22=>340|23=>341|24=>342|25=>343|26=>344|27=>345|46=>374|47=>375|48=>376|49=>377|50=>378|57=>392|n=>n,λ|22=>26|24=>164|25=>357|3=>3|39=>269|0=>0|53=>24|55=>85|4=>4|46=>445|45=>444|50=>370|5=>5|9=>9|66=>471|70=>475|76=>493|77=>494|n=>n,λ|n=>n⟩
def Tryz.Yu:Go.Proofs.SlLaysF0.n6 Tryz.prog Tryz.auz:={
 mixed:=kr
 f6:=⟨Tryz.f255.name,dc,Tryz.func255.trans (cW some kr)⟩
 f14:=⟨Tryz.f303.name,dc,Tryz.func303.trans (cW some kr)⟩
 f15:=Tryz.func304.trans (cW some kr)
 f20:=⟨Tryz.f338.name,dc,Tryz.func338.trans (cW some kr)⟩
 f21:=⟨Tryz.f339.name,dc,Tryz.func339.trans (cW some kr)⟩
 f22:=⟨Tryz.f340.name,dc,Tryz.func340.trans (cW some kr)⟩
 f23:=⟨Tryz.f341.name,dc,Tryz.func341.trans (cW some kr)⟩
 f24:=⟨Tryz.f342.name,dc,Tryz.func342.trans (cW some kr)⟩
 f25:=⟨Tryz.f343.name,dc,Tryz.func343.trans (cW some kr)⟩
 f26:=⟨Tryz.f344.name,dc,Tryz.func344.trans (cW some kr)⟩
 f27:=⟨Tryz.f345.name,dc,Tryz.func345.trans (cW some kr)⟩
 f28:=Tryz.func346.trans (cW some kr)
 f29:=Tryz.func347.trans (cW some kr)
 f46:=⟨Tryz.f374.name,dc,Tryz.func374.trans (cW some kr)⟩
 f47:=Tryz.func375.trans (cW some kr)
 f48:=Tryz.func376.trans (cW some kr)
 f49:=⟨Tryz.f377.name,dc,Tryz.func377.trans (cW some kr)⟩
 f50:=⟨Tryz.f378.name,dc,Tryz.func378.trans (cW some kr)⟩
 f57:=⟨Tryz.f392.name,dc,Tryz.func392.trans (cW some kr)⟩
 t0:=Tryz.underlying0
 a0:=Tryz.isAgg0
 z0:=Tryz.sizeOf0
 v0:=Tryz.zeroValue0
 t3:=Tryz.underlying3
 a3:=Tryz.isAgg3
 z3:=Tryz.sizeOf3
 v3:=Tryz.zeroValue3
 t4:=Tryz.underlying4
 a4:=Tryz.isAgg4
 z4:=Tryz.sizeOf4
 v4:=Tryz.zeroValue4
 t5:=Tryz.underlying5
 a5:=Tryz.isAgg5
 z5:=Tryz.sizeOf5
 v5:=Tryz.zeroValue5
 t9:=Tryz.underlying9
 a9:=Tryz.isAgg9
 z9:=Tryz.sizeOf9
 v9:=Tryz.zeroValue9
 t22:=Tryz.underlying26
 a22:=Tryz.isAgg26
 z22:=Tryz.sizeOf26
 v22:=Tryz.zeroValue26
 t25:=Tryz.underlying357
 a25:=Tryz.isAgg357
 z25:=Tryz.sizeOf357
 v25:=Tryz.zeroValue357
 t39:=Tryz.underlying269
 a39:=Tryz.isAgg269
 z39:=Tryz.sizeOf269
 v39:=Tryz.zeroValue269
 t45:=Tryz.underlying444
 a45:=Tryz.isAgg444
 z45:=Tryz.sizeOf444
 v45:=Tryz.zeroValue444
 t46:=Tryz.underlying445
 a46:=Tryz.isAgg445
 z46:=Tryz.sizeOf445
 v46:=Tryz.zeroValue445
 t50:=Tryz.underlying370
 a50:=Tryz.isAgg370
 z50:=Tryz.sizeOf370
 v50:=Tryz.zeroValue370
 t53:=Tryz.underlying24
 a53:=Tryz.isAgg24
 z53:=Tryz.sizeOf24
 v53:=Tryz.zeroValue24
 t55:=Tryz.underlying85
 a55:=Tryz.isAgg85
 z55:=Tryz.sizeOf85
 v55:=Tryz.zeroValue85
 t66:=Tryz.underlying471
 a66:=Tryz.isAgg471
 z66:=Tryz.sizeOf471
 v66:=Tryz.zeroValue471
 t70:=Tryz.underlying475
 a70:=Tryz.isAgg475
 z70:=Tryz.sizeOf475
 v70:=Tryz.zeroValue475
 t76:=Tryz.underlying493
 a76:=Tryz.isAgg493
 z76:=Tryz.sizeOf493
 v76:=Tryz.zeroValue493
 t77:=Tryz.underlying494
 a77:=Tryz.isAgg494
 z77:=Tryz.sizeOf494
 v77:=Tryz.zeroValue494}
def Tryz.axs:Go.Shelf.Ren:=⟨λ|5=>257|7=>305|n=>n,λ|22=>2|3=>3|4=>4|n=>n,λ|n=>n⟩
def Tryz.atL:Go.Proofs.SlLaysC2.n5 Tryz.prog Tryz.axs:={
 mixed:=kr
 f5:=⟨Tryz.f257.name,dc,Tryz.func257.trans (cW some kr)⟩
 f7:=⟨Tryz.f305.name,dc,Tryz.func305.trans (cW some kr)⟩
 t3:=Tryz.underlying3
 a3:=Tryz.isAgg3
 z3:=Tryz.sizeOf3
 v3:=Tryz.zeroValue3
 t4:=Tryz.underlying4
 a4:=Tryz.isAgg4
 z4:=Tryz.sizeOf4
 v4:=Tryz.zeroValue4
 t22:=Tryz.underlying2
 a22:=Tryz.isAgg2
 z22:=Tryz.sizeOf2
 v22:=Tryz.zeroValue2}
section
open Go.RowKit Go.Lib Go.Sort
abbrev I4:=Int×Int×Int×Int
def encI(x:I4):List b8:=[.int .u64 x.1,.int .u32 x.2.1,.int .i64 x.2.2.1,.int .i64 x.2.2.2]
def qE(x y:I4):Int:=Lib.compareInt x.2.2.1 y.2.2.1
def HG(x y):ltOf qE x y=decide (x.2.2.1<y.2.2.1):=by
 unfold ltOf qE Lib.compareInt;by_cases a:x.2.2.1<y.2.2.1
 .simp[a]
 .by_cases b:y.2.2.1<x.2.2.1<;>simp[a,b]
def Y5:SWO (ltOf qE):={
 irrefl:=λx=>by rw[HG];simp
 trans:=λx y z a b=>by rw[HG]at*;simp at*;omega
 ntrans:=λx y z a b=>by rw[HG]at*;simp at*;omega}
set_option maxHeartbeats 1000000 in
def aqh(x y)(W):Calls Tryz.prog 256 #[.agg (encI x).toArray,.agg (encI y).toArray] W λe w'=>e=.returned (.int .i64 (qE x y))/\∃q os',w'=grow (W.drewN q) os':=by
 have hcon:=λW'=>AnyG.cmp_Compare_int Tryz.atL x.2.2.1 y.2.2.1 W'
 unfold qE encI
 go_enter Tryz.func256,Tryz.ntmps256
 go_wp2_with (go_at_call 257;refine(hcon _).mono ?_;rintro e w' ⟨rfl,rfl⟩)
 go_ret
 exact⟨rfl,0,_,by rw[alloc_eq_grow,alloc_eq_grow,grow_grow];rfl⟩
def ayb(a off size)(w):CmpLays Tryz.prog 256 #[] encI 4 qE a off size w:=λ_ _ _ _ x y=>aqh x y _
def EX:List PV->Option I4
 |[.sc (.int .u64 a),.sc (.int .u32 b),.sc (.int .i64 c),.sc (.int .i64 d)]=>some (a,b,c,d)
 |_=>none
def yl(x:I4):List PV:=[.sc (.int .u64 x.1),.sc (.int .u32 x.2.1),.sc (.int .i64 x.2.2.1),.sc (.int .i64 x.2.2.2)]
def awL{r x}(h:EX r=some x):r=yl x:=by
 unfold EX at h;split at h
 .cases h;rfl
 .cases h
def xM:List (List PV)->Option (List I4)
 |[]=>some []
 |r::rs=>match EX r,xM rs with
  |some x,some xs=>some (x::xs)
  |_,_=>none
def S7:∀{rows:List (List PV)}{xs:List I4},xM rows=some xs->rows=xs.map yl
 |[],xs,h=>by cases h;rfl
 |r::rs,xs,h=>by
  simp only[xM]at h;split at h
  .rename_i x ys a b;cases h;rw[awL a,S7 b];rfl
  .cases h
def yK(x:I4)(r:List I4):List I4:=(pdq (ltOf qE) (x::r).toArray 0 (r.length+1) (Lib.bitLen (r.length+1)) true true).toList
def oV:List I4->List I4
 |[]=>[]
 |x::r=>yK x r
def Wz(xs):(oV xs).Perm xs/\(∀(i j:Nat)(a b),i<j->(oV xs)[i]?=some a->(oV xs)[j]?=some b->a.2.2.1<=b.2.2.1):=by
 cases xs with
 |nil=>exact⟨IA _,λi j a b _ h=>by simp[oV]at h⟩
 |cons x r=>
  obtain⟨⟨f,_,g⟩,n⟩:=pdq_sorts (ltOf qE) Y5 (x::r).toArray 0 (r.length+1) (Lib.bitLen (r.length+1)) true true (fu _) ch (Or.inl rfl);show(yK x r).Perm (x::r)/\∀(i j:Nat)(a b:I4),i<j->(yK x r)[i]?=some a->(yK x r)[j]?=some b->_;unfold yK;refine⟨?_,λi j a b c k e=>?_⟩
  .have l:∀d:Array I4,d.size=r.length+1->d.extract 0 (r.length+1)=d:=λd o=>by rw[<-o];simp
   rw[l _ (by rw[f];simp),l _ ch]at g;exact g
  .rw[aco]at k e;have m:=(kq.1 e).1;have:=n i j (fu _) c (by rw[f]at m;simpa using m);rw[getElem!_def,getElem!_def,k,e,HG]at this;have:¬b.2.2.1<a.2.2.1:=gi this;omega
def xD:List L->Option (List L):=λls=>match ls with
 |[.r rows]=>match xM rows with
  |some xs=>if xs.length<=1048576 then some [.r ((oV xs).map yl)]else none
  |none=>none
 |_=>none
def ahb:bw:=⟨255,[.c (.own 0),.c (.fn 256 [])],[.row 164 (.v 0)],1,1,.bM [],[(0,.row 164 (.v 1))],xD,2060⟩
def aCl{w g n cur e fz d os}(a:w.heap[g]?=some (.cells cur e fz)):
 (sortWorldK encI 4 w g 0 n d os).heap[g]?=some (.cells (putCells id 0 (flatK encI 4 d) cur) e fz):=by
 have b:g<w.heap.size:=(kq.1 a).1;have:((mapBlock (Sort.ahead w n) g (putCells id 0 (flatK encI 4 d))).heap++os)[g]?=_:=wZ (by simpa[mapBlock,Sort.ahead]using b);refine this.trans ?_;show((Sort.ahead w n).heap.modify g (onCells _))[g]?=_;rw[Qq,bB rfl];show Option.map _ w.heap[g]?=_;rw[a];rfl
def axP{w g n q d os}(b:q<w.heap.size)(a:q≠g):(sortWorldK encI 4 w g 0 n d os).heap[q]?=w.heap[q]?:=by
 have:((mapBlock (Sort.ahead w n) g (putCells id 0 (flatK encI 4 d))).heap++os)[q]?=_:=wZ (by simpa[mapBlock,Sort.ahead]using b);refine this.trans ?_;show((Sort.ahead w n).heap.modify g (onCells _))[q]?=_;rw[Qq,bG (λh=>a h.symm)];rfl
def Xe{w g n d os}:w.heap.size<=(sortWorldK encI 4 w g 0 n d os).heap.size:=by
 show _<=((mapBlock (Sort.ahead w n) g (putCells id 0 (flatK encI 4 d))).heap++os).size;simp[mapBlock,Sort.ahead]
def Ws{d:List I4}{i j}(a)(b:j<4):∃v,(yl d[i])[j]?=some (.sc v)/\flat v=true/\(flatK encI 4 d.toArray)[i*4+j]! =v:=by
 have c:i*4+j<d.toArray.size*4:=by simp;omega
 rw[get_flatK encI 4 _ _ c,show(i*4+j) /4=i by omega,show(i*4+j)%4=j by omega,getElem!_pos d.toArray i (by simpa using a)]
 match j,b with
 |0,_=>exact⟨_,rfl,rfl,rfl⟩
 |1,_=>exact⟨_,rfl,rfl,rfl⟩
 |2,_=>exact⟨_,rfl,rfl,rfl⟩
 |3,_=>exact⟨_,rfl,rfl,rfl⟩
def atu:ahb.ok Tryz.prog:=by
 intro ls os hl s ak;change xD ls=some os at s;unfold xD at s;split at s
 .rename_i rows;split at s
  .rename_i xs aa;split at s
   .rename_i hn;cases s;show eX Tryz.prog 255 [.c (.own 0),.c (.fn 256 [])] [.row 164 rows] (.bM []) [(0,.row 164 ((oV xs).map yl))];obtain rfl:=S7 aa;refine⟨⟨_,Tryz.func255,by kernel_rfl,rfl⟩,λw M N vals hM al ab ac hH ad H=>?_⟩;obtain⟨u0,e0,r0⟩:=H 0 _ rfl;obtain⟨u1,e1,r1⟩:=H 1 _ rfl;obtain⟨x,cur,fz,O,P,I,hlen,D,Q,R,E,F,ae,hnil,A⟩:=hH 0 _ rfl;have O:N 0=some x:=O;have f:x.sz=4:=E.trans kr;rw[bA]at hlen;obtain⟨o,S,rfl⟩:∃y,N 0=some y/\u0=.slice (y.g.map λg=>⟨g,0,none⟩) y.len y.cap:=by
     rcases r0 with h|h
     .cases h
     .exact h
    obtain rfl:o=x:=by rw[O]at S;cases S;rfl
    obtain⟨us,rfl,af,_⟩:=r1;obtain rfl:us= #[]:=CY af;obtain rfl:vals= #[.slice (o.g.map λg=>⟨g,0,none⟩) o.len o.cap,.func (.func 256) #[] #[]]:=by
     obtain⟨l⟩:=vals
     match l,ad with
     |[a,b],_=>
      simp at e0 e1;rw[e0,e1]
    have T:∀w',w.heap.size<=w'.heap.size->LZ N 1 w w' ⟨N,[]⟩:=λw' hs=>⟨rfl,λn y g K X=>⟨nt (ab n y g K X).1 hs,.inl ⟨n,y,K,X⟩⟩,ac,λm _=>.inr rfl⟩
    have G:∀w',RV M ⟨N,[]⟩ w' (.bM []) (.tuple #[]):=λw'=>⟨#[],rfl,rfl,λi x h=>by cases h⟩
    cases xs with
    |nil=>
     rw[show o.len=0 from hlen];refine(AnyF.slices_SortFunc_none Tryz.Yu _ _ _ w).mono ?_;rintro e w' ⟨rfl,rfl⟩;exact⟨_,⟨N,[]⟩,rfl,Frame.refl _ _,T _ (dz _),λn b h=>hH n b (by
      simp only[gb,kJ]at h;split at h
      .rename_i U;simp at U;subst U;exact h
      .cases h),G _⟩
    |cons y ys=>
     obtain⟨g,L⟩:∃g,o.g=some g:=by
      cases L:o.g with
      |some g=>exact⟨g,rfl⟩
      |none=>have:=hnil L;simp at hlen;omega
     have B:=I g L;have am:cur.size=o.cap*4:=by rw[F,f]
     have an:ys.length+1<=o.cap:=by simpa[hlen]using D
     rw[L,hlen];have J:∀(i j:Nat)(v:b8)(C:i< (y::ys).length),j<4->(yl (y::ys)[i])[j]?=some (.sc v)->cur[i*4+j]?=some v:=λi j v C Y H=>by
      obtain⟨u,k1,k2⟩:=A i _ j _ (by rw[cY,db C];rfl) H;rw[f]at k1;rw[k1,RP.eM k2]
     have ag:HoldsK encI 4 w g 0 (y::ys).toArray:=by
      intro t ht;have ht:t< (ys.length+1)*4:=by simpa using ht
      obtain⟨v,K,_,Z⟩:=Ws (d:=y::ys) (i:=t/4) (j:=t%4) (by simp;omega) om;rw[show t/4*4+t%4=t by omega]at Z;have hc:=J _ _ _ (by simp;omega) om K;rw[show t/4*4+t%4=t by omega]at hc;constructor
      .rw[kp];show(match w.heap[g]? with|some (.cells c _ _)=>_|_=>none)=_;rw[B];rw[Z];exact hc
      .show(match w.heap[g]? with|some (.cells _ _ (lo,C))=>_|_=>false)=_;rw[B];obtain⟨lo,C⟩:=fz;rcases P with hf|hf
       .cases hf;simp
       .simp;omega
     have eg:∀args w,(callFunc 256 args).run Tryz.prog w=.ok (.enter 256 args) w:=enters_of Tryz.func256 kr rfl;refine(AnyQ.slices_SortFunc_eq Tryz.Yu 4 Tryz.isAgg164 Tryz.sizeOf164 encI (λ_=>rfl) (λx v H=>by simp[encI]at H;rcases H with rfl|rfl|rfl|rfl<;>rfl) qE Y5 256 #[] g 0 o.cap (y::ys).toArray w eg (ayb g 0 _ w) ag ((kq.1 B).1) (by simp;simp at hn;omega)).mono ?_;rintro e w' ⟨rfl,n,os,rfl⟩;have ah:pdq (ltOf qE) (y::ys).toArray 0 (y::ys).toArray.size (Lib.bitLen (y::ys).toArray.size) true true=(oV (y::ys)).toArray:=by simp[oV,yK]
     rw[ah];have V:(oV (y::ys)).length=ys.length+1:=by have:=(Wz (y::ys)).1.length_eq;simpa using this
     have hput:∀k,k< (ys.length+1)*4->(putCells id 0 (flatK encI 4 (oV (y::ys)).toArray) cur)[k]?=some (flatK encI 4 (oV (y::ys)).toArray)[k]!:=λk hk=>by
      have ai:k<cur.size:=om;unfold putCells;rw[Array.getElem?_mapIdx,sD ai];simp[V,hk]
     refine⟨_,⟨N,[]⟩,rfl,⟨rfl,rfl,rfl,Xe,λq hq hK=>axP hq λh=>hK ⟨0,o,O,by rw[L,h]⟩⟩,T _ Xe,λm b hb=>?_,G _⟩;simp only[gb,kJ]at hb;split at hb
     .rename_i hm;simp at hm;subst hm;cases hb;refine⟨o,_,fz,O,?_,λg' W=>by rw[L]at W;cases W;exact aCl B,by rw[bA,V];exact hlen,D,Q,R,E,?_,?_,hnil,?_⟩
      .simpa[putCells]using P
      .simpa[putCells]using F
      .intro r hr;simp only[gg]at hr;obtain⟨z,_,rfl⟩:=hr;exact f.symm
      .intro i r j p C Y;rw[cY,b9]at C;obtain⟨z,hz,rfl⟩:=C;obtain⟨C,rfl⟩:=ek.1 hz;have aj:j<4:=(ek.1 Y).1;obtain⟨v,K,X,Z⟩:=Ws C aj;rw[K]at Y;cases Y;refine⟨v,?_,RP.sc X⟩;rw[f,hput _ om,Z]
     .cases hb
   .cases s
  .cases s
 .cases s
end
end
end
end Go.Proofs.YtiikkkhcolcebaaGreatDoor
