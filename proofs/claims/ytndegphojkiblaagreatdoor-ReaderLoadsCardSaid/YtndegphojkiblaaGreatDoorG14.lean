/- Towards the last file's theorem: part 14. -/
import Derived.Test.YtndegphojkiblaaGreatDoorG13
import Derived.WalkKit
import Derived.WalkSpells
import Derived.Deep.RegionHeld3
import Derived.Deep.AppendLies
import Derived.IntWalk
import Derived.StillTail
import Derived.StillTailTactics
import Derived.Laws.CopyOwn
import Derived.Lib.Hide
import Derived.WalkArith
import Derived.RangeFuncBox
import Derived.RangeFuncCalls
import Derived.RangeFuncLeaves
import Derived.Shelf.Abstract
import Derived.OwnWalkIn
import Derived.TacticsInMore
import Derived.LoopNIn
import Derived.LoopIn
set_option linter.all false
set_option maxHeartbeats 4000000
set_option maxRecDepth 100000
namespace Go.Proofs.YtndegphojkiblaaGreatDoor
noncomputable section
section
open Go.RowKit
namespace Sp
def ot (i j:Nat):Nat:=j/64*256+i*64+j%64
def jX (t:Nat):Nat:=t/64%4
def gF (t:Nat):Nat:=t/64/4*64+t%64
def dH (L:Nat):Nat:=(L+255) /256*64
theorem acY (t:Nat):jX t<4:=by unfold jX;omega
theorem aCS {i j t p:Nat} (hi:i<4) (hp:t%64+p≤64):(t≤ot i j∧ot i j<t+p) ↔ (i=jX t∧gF t≤j∧j<gF t+p):=by
 unfold ot jX gF;omega
theorem aAx {j t p:Nat} (hp:t%64+p≤64) (h:gF t≤j∧j<gF t+p):ot (jX t) j=t+(j-gF t):=by
 unfold ot jX;unfold gF at*;omega
theorem aBf {L t p:Nat} (hp:t%64+p≤64) (h:t+p≤L):gF t+p≤dH L:=by
 unfold gF dH;omega
def fill (f:Nat→Int) (t i j:Nat):Int:=if ot i j<t then f (ot i j)else 0
theorem akd (f:Nat→Int) (i j:Nat):fill f 0 i j=0:=by simp[fill]
theorem aBX (f:Nat→Int) {t p i j:Nat} (hi:i<4) (hp:t%64+p≤64):
   fill f (t+p) i j=if i=jX t∧gF t≤j∧j<gF t+p then f (t+(j-gF t))else fill f t i j:=by
 have h1:=aCS (j:=j) hi hp;unfold fill;by_cases hc:i=jX t∧gF t≤j∧j<gF t+p
 · obtain⟨rfl,h2⟩:=hc;have h3:=aAx hp h2;rw[au (show ot (jX t) j<t+p by omega),au ⟨rfl,h2⟩,h3]
 · rw[aE hc];by_cases h2:ot i j<t
   · rw[au h2,au (show ot i j<t+p by omega)]
   · have h3:¬ot i j<t+p:=fun h=>hc (h1.1 ⟨om,h⟩)
     rw[aE h2,aE h3]
def XR (w:av) (A:Option Addr) (len:Nat) (f:Nat→Int):Prop:=
 0<len→∃g o,A=some ⟨g,o,none⟩∧∀i,i<len→w.cell? ⟨g,o+i,none⟩=some (.int .u8 (f i))
def Row (w:av) (g m:Nat) (c:Nat→Int):Prop:=
 ∃L:List aD,w.heap[g]? =some (.cells L.toArray 5 (0,0))∧L.length=m∧∀j,j<m→L[j]? =some (.int .u8 (c j))
theorem Row.lt {w:av} {g m:Nat} {c:Nat→Int} (h:Row w g m c):g<w.heap.size:=by
 obtain⟨L,h1,_⟩:=h;exact(dY.1 h1).1
theorem Row.dw {w w':av} {g m:Nat} {c:Nat→Int} (h:Row w g m c) (hk:w'.heap[g]? =w.heap[g]?):Row w' g m c:=by
 obtain⟨L,h1,h2⟩:=h;exact⟨L,hk.trans h1,h2⟩
theorem Row.congr {w:av} {g m:Nat} {c c':Nat→Int} (h:Row w g m c) (hc:∀j,j<m→c j=c' j):Row w g m c':=by
 obtain⟨L,h1,h2,h3⟩:=h;exact⟨L,h1,h2,fun j hj=>by rw[←hc j hj];exact h3 j hj⟩
theorem Row.cell {w:av} {g m:Nat} {c:Nat→Int} (h:Row w g m c) {j:Nat} (hj:j<m):w.cell? ⟨g,j,none⟩=some (.int .u8 (c j)):=by
 obtain⟨L,h1,h2,h3⟩:=h;rw[cell_of_row w g j _ _ _ h1];simpa using h3 j hj
theorem Row.frozen {w:av} {g m:Nat} {c:Nat→Int} (h:Row w g m c) (j:Nat):w.frozen? ⟨g,j,none⟩=false:=by
 obtain⟨L,h1,_⟩:=h;simp[World.frozen?,h1]
theorem Row.made (w:av) (m:Nat):Row (w.alloc (.cells (madeCells (Value.int .u8 0).cells (m*1)) 5)) w.heap.size m (fun _=>0):=by
 refine⟨(madeCells (Value.int .u8 0).cells (m*1)).toList,by simpa using heap_alloc_new w _,by simp[size_madeCells],fun j hj=> ?_⟩;simp[madeCells,Value.cells,hj,Nat.mod_one]
theorem Row.set {w:av} {g m:Nat} {c:Nat→Int} (h:Row w g m c) (j:Nat) (x:Int):Row (w.setCell ⟨g,j,none⟩ (.int .u8 x)) g m (fun i=>if i=j then x else c i):=by
 obtain⟨L,h1,h2,h3⟩:=h;rw[setCell_eq_setRow w g j _ 5 (0,0) _ h1];refine⟨L.set j (.int .u8 x),by simpa using setRow_heap w g _ _ 5 (0,0) h1,by simpa using h2,fun i hi=> ?_⟩;rw[IG];by_cases hj:j=i
 · subst hj;simp[h2,hi]
 · rw[aE hj,h3 i hi];show _=some (Value.int .u8 (if i=j then x else c i));rw[aE (fun e=>hj e.symm)]
theorem Row.copy {w:av} {g m:Nat} {c:Nat→Int} (L:List aD) (h1:w.heap[g]? =some (.cells L.toArray 5 (0,0))) (h2:L.length=m) (h3:∀j,j<m→L[j]? =some (.int .u8 (c j)))
   (off:Nat) (cs:List aD) (d:Nat→Int) (hcs:∀j,j<cs.length→cs[j]? =some (.int .u8 (d j))) (gx:off+cs.length≤m):
   Row (w.setRow g (L.take off++(cs++L.drop (off+cs.length))).toArray) g m (fun j=>if off≤j∧j<off+cs.length then d (j-off)else c j):=by
 refine⟨_,setRow_heap w g _ _ 5 (0,0) h1,by simp;omega,fun j hj=> ?_⟩;show _=some (Value.int .u8 (if off≤j∧j<off+cs.length then d (j-off)else c j));by_cases dr:j<off
 · rw[nS (by simp;omega),jD,au dr,h3 j hj,aE om]
 · rw[lR (by simp;omega)];have e1:(L.take off).length=off:=by simp;omega
   rw[e1];by_cases eC:j<off+cs.length
   · rw[nS om,hcs _ om,au ⟨om,eC⟩]
   · rw[lR om,kP,aE om];rw[show off+cs.length+(j-off-cs.length)=j by omega];exact h3 j hj
theorem avN:(Tryz.prog.info? 5).map (fun i=> (i.zero,i.size,i.bytes))=some (some (.int .u8 0),1,1):=kr
theorem aFY:(Tryz.prog.info? 71).map (fun i=> (i.zero,i.size,i.bytes))=some (some (.slice none 0 0),1,24):=kr
def yh (n:Int):Int:=if n≤0 then 0 else((n-1) /256+1)*64
theorem Jz {k:bS} {a b:Int} (h:a=b):Ending.returned (.int k a)= .returned (.int k b):=by rw[h]
theorem aDh (n:Int) (w:av) (h0: -9223372036854775808≤n) (h1:n≤9223372036854775807):
   Calls Tryz.prog 177 #[.int .i64 n] w fun e w'=>e= .returned (.int .i64 (yh n))∧w'=w:=by
 by_cases h:n<0
 · go_enter Tryz.func177,Tryz.ntmps177
   go_wp2
   go_ret
   exact⟨Jz (by unfold yh;rw[au om]),rfl⟩
 · have h':0≤n:=om;by_cases h2:0<n%256
   · go_enter Tryz.func177,Tryz.ntmps177
     go_wp2
     go_ret
     exact⟨Jz (by unfold yh;rw[aE om];omega),rfl⟩
   · have h3:n%256≤0:=om
     go_enter Tryz.func177,Tryz.ntmps177
     go_wp2
     go_ret
     exact⟨Jz (by unfold yh;split<;>omega),rfl⟩
theorem azl (n:Int) (w:av) (h0:0≤n) (h1:n≤9223372036854775807):
  Calls Tryz.prog 178 #[.int .i64 n] w fun e w'=>e= .returned (.tuple #[.int .i64 (n/64%4),.int .i64 (n/64/4*64+n%64),.int .i64 0])∧w'=w:=by
 go_enter Tryz.func178,Tryz.ntmps178
 go_wp2
 go_ret3
 exact⟨rfl,rfl⟩
theorem aFo (L m:Nat) (w:av) (hL:L≤1048576) (h:dH L=m):
  Calls Tryz.prog 177 #[.int .i64 (L:Int)] w fun e w'=>e= .returned (.int .i64 (m:Int))∧w=w':=by
 refine(aDh (L:Int) w om om).mono ?_;rintro e w' ⟨rfl,rfl⟩;rw[show yh (L:Int)=(dH L:Int)by unfold yh dH;split<;>omega,h];exact⟨rfl,rfl⟩
theorem asa (t:Nat) (w:av) (ht:t≤1048576) (s a:Nat) (hs:jX t=s) (ha:gF t=a):
  Calls Tryz.prog 178 #[.int .i64 (t:Int)] w fun e w'=>e= .returned (.tuple #[.int .i64 (s:Int),.int .i64 (a:Int),.int .i64 0])∧w=w':=by
 refine(azl (t:Int) w om om).mono ?_;rintro e w' ⟨rfl,rfl⟩;rw[show((t:Int) /64%4)=(jX t:Int)by unfold jX;omega,show((t:Int) /64/4*64+(t:Int)%64)=(gF t:Int)by unfold gF;omega,hs,ha];exact⟨rfl,rfl⟩
theorem apZ (m:Nat) (hm:m≤1048576) (w:av):
  (Instr.makeSlice 71 (.int .i64 (m:Int)) (.int .i64 (m:Int))).run Tryz.prog w= .ok (.slice (some ⟨w.heap.size,0,none⟩) m m) (w.alloc (.cells (madeCells (Value.int .u8 0).cells (m*1)) 5)):=by
 obtain⟨i0,hi,hz0,hz1,hz2⟩:=info_parts avN;have h:=run_make (P:=Tryz.prog) w 71 5 i0 (.int .u8 0) Tryz.underlying71 hi hz0 .i64 .i64 (m:Int) (m:Int) om om (by rw[hz2];omega) om;rw[hz1]at h;simpa only[gd]using h
structure tx (w:av) (base G cap:Nat) (h:Nat→Nat) (m:Nat) (c:Nat→Nat→Int):Prop where
 head:∃cur,w.heap[G]? =some (.cells cur 71 (0,0))∧cur.size=cap∧∀i,i<4→cur[i]? =some (.slice (some ⟨h i,0,none⟩) m m)
 low:base≤G∧G<w.heap.size
 rows:∀i,i<4→base≤h i∧h i≠G∧Row w (h i) m (c i)
 apart:∀i j,i<4→j<4→h i=h j→i=j
def akD (w:av) (m:Nat) (c:Nat→Nat→Int) (e:Ending) (w':av):Prop:=
 ∃G cap h,e= .returned (.slice (some ⟨G,0,none⟩) 4 cap)∧4≤cap∧cap≤9223372036854775807∧tx w' w.heap.size G cap h m c∧Below w.heap.size w w'
theorem tx.cell {w:av} {base G cap:Nat} {h:Nat→Nat} {m:Nat} {c:Nat→Nat→Int} (hS:tx w base G cap h m c) {i:Nat} (hi:i<4):w.cell? ⟨G,i,none⟩=some (.slice (some ⟨h i,0,none⟩) m m):=by
 obtain⟨cur,h1,_,h2⟩:=hS.head;rw[cell_of_row w G i cur 71 (0,0) h1];exact h2 i hi
theorem Row.aqB (w:av) (m:Nat):Row (w.alloc (.cells (madeCells #[Value.int .u8 0] m) 5)) w.heap.size m (fun _=>0):=by
 have:=Row.made w m
 rwa [IK]at this
def sb (h:Nat→Nat) (m k:Nat):List aD:=(List.range k).map fun i=> .slice (some ⟨h i,0,none⟩) m m
theorem amI (h:Nat→Nat) (m k g:Nat):sb (fun i=>if i=k then g else h i) m (k+1)=sb h m k++ [.slice (some ⟨g,0,none⟩) m m]:=by
 unfold sb;rw[SP,ej];congr 1
 · apply gO;intro i hi;have:=ko.1 hi;show Value.slice (some ⟨if i=k then g else h i,0,none⟩) m m=_;rw[aE om]
 · simp
theorem aCJ (h:Nat→Nat) (m k:Nat) {i:Nat} (hi:i<k):(sb h m k)[i]? =some (.slice (some ⟨h i,0,none⟩) m m):=by simp[sb,hi]
theorem atn (W:av) (C:Array aD) (x:aD):∀j u,[x][j]? =some u→((W.alloc (.cells C 5)).alloc (.cells #[x] 71)).cell? ((⟨W.heap.size+1,0,none⟩:Addr).add j)=some u:=by
 have:=World.news_of_block (w:=(W.alloc (.cells C 5)).alloc (.cells #[x] 71)) (heap_alloc_new _ _);rw[World.size_alloc]at this;exact this
def Dn (w:av) (m k:Nat) (v:aD) (W:av):Prop:=
 ∃h:Nat→Nat,W.ownsRow w.heap.size 71 1 v k (sb h m k)∧(∀i,i<k→w.heap.size≤h i∧Row W (h i) m (fun _=>0))∧(∀i j,i<k→j<k→h i=h j→i=j)∧Below w.heap.size w W
theorem Dn.step {w W w1:av} {m k:Nat} {v v':aD} {X:Obj} {h:Nat→Nat} (hrow:W.ownsRow w.heap.size 71 1 v k (sb h m k)) (hr:∀i,i<k→w.heap.size≤h i∧Row W (h i) m (fun _=>0))
   (ha:∀i j,i<k→j<k→h i=h j→i=j) (hB:Below w.heap.size w W)
   (hown':w1.ownsRow w.heap.size 71 1 v' (k+1) (sb h m k++ [.slice (some ⟨W.heap.size,0,none⟩) m m]))
   (hgrow:((W.alloc (.cells (madeCells #[Value.int .u8 0] m) 5)).alloc X).grownBy w1 v.ownBlock):Dn w m (k+1) v' w1:=by
 have o1:∀j,j<W.heap.size→((W.alloc (.cells (madeCells #[Value.int .u8 0] m) 5)).alloc X).heap[j]? =W.heap[j]?:=fun j hj=>
   (Below.heap_alloc _ _ _ (by simp;omega)).trans (Below.heap_alloc _ _ _ hj)
 have hne:∀j c,Row W j m c→some j≠v.ownBlock:=by
   rintro j c ⟨Lj,h1,_⟩ e;rcases hrow.2 with⟨rfl,_⟩| ⟨g,cap,cur,rfl,_,hg,_⟩
   · simp[Value.ownBlock]at e
   · obtain rfl:j=g:=by simpa[Value.ownBlock]using e
     rw[h1]at hg;cases hg
 have gw:Row ((W.alloc (.cells (madeCells #[Value.int .u8 0] m) 5)).alloc X) W.heap.size m (fun _=>0):=(Row.aqB W m).dw (Below.heap_alloc _ _ _ (by simp));refine⟨fun i=>if i=k then W.heap.size else h i,by rw[amI];exact hown',fun i hi=> ?_,fun i j hi hj e=> ?_,?_⟩
 · show w.heap.size≤(if i=k then W.heap.size else h i)∧Row w1 (if i=k then W.heap.size else h i) m _;by_cases hik:i=k
   · rw[au hik];refine⟨hB.size,gw.dw (hgrow.block _ (by simp;omega) (fun e=> ?_))⟩;have:=hrow.lt _ e.symm;omega
   · rw[aE hik];obtain⟨h1,h2⟩:=hr i om;exact⟨h1,h2.dw ((hgrow.block _ (by have:=h2.lt;simp;omega) (hne _ _ h2)).trans (o1 _ h2.lt))⟩
 · simp only at e;by_cases hik:i=k<;>by_cases hjk:j=k
   · omega
   · rw[au hik,aE hjk]at e;have:=(hr j om).2.lt;omega
   · rw[aE hik,au hjk]at e;have:=(hr i om).2.lt;omega
   · rw[aE hik,aE hjk]at e;exact ha i j om om e
 · exact((hB.alloc hB.size _).alloc (by have:=hB.size;simp;omega) _).grown hgrow (by have:=hB.size;simp;omega) (fun r e=> (hrow.lt r e).1)
theorem tx.step {W:av} {base G cap:Nat} {h:Nat→Nat} {m t s a:Nat} {f:Nat→Int} (hS:tx W base G cap h m (fill f t)) (hs:jX t=s) (ha:gF t=a) (N:Nat):
   tx ((W.drewN N).setCell ⟨h s,a,none⟩ (.int .u8 (f t))) base G cap h m (fill f (t+1)):=by
 have ze:=acY t;rw[hs]at ze;have hst:∀i j,i<4→fill f (t+1) i j=if i=s∧a≤j∧j<a+1 then f (t+(j-a))else fill f t i j:=fun i j hi=>by
   have:=aBX f (t:=t) (p:=1) (i:=i) (j:=j) hi om
   rwa [hs,ha]at this
 have hGn:G≠h s:=fun e=> (hS.rows s ze).2.1 e.symm
 obtain⟨cur,hh1,hh2,hh3⟩:=hS.head;refine⟨⟨cur,?_,hh2,hh3⟩,⟨hS.low.1,by simpa[World.setCell]using hS.low.2⟩,fun i hi=> ?_,hS.apart⟩
 · exact((Below.heap_setCell (W.drewN N) _ _ _ hGn)).trans hh1
 · obtain⟨h1,h2,h3⟩:=hS.rows i hi;refine⟨h1,h2,?_⟩;by_cases wD:i=s
   · subst wD;refine(Row.set (w:=W.drewN N) h3 a (f t)).congr fun j _=> ?_
     show(if j=a then f t else fill f t i j)=_;rw[hst i j hi];by_cases R1:j=a
     · rw[au R1,au ⟨rfl,om,om⟩,show t+(j-a)=t by omega]
     · rw[aE R1,aE (fun h=>R1 om)]
   · refine(h3.dw (Below.heap_setCell (W.drewN N) _ _ _ (fun e=>wD (hS.apart i s hi ze e)))).congr fun j _=> ?_
     rw[hst i j hi,aE (fun h=>wD h.1)]
set_option maxRecDepth 100000 in
set_option maxHeartbeats 1000000 in
theorem aAT (A:Option Addr) (L cap:Nat) (f:Nat→Int) (w:av) (hL:L≤1048576) (hb:XR w A L f):
  Calls Tryz.prog 127 #[.slice A L cap] w (akD w (dH L) (fill f L)):=by
 obtain⟨i0,hi,hz0,hz1,hz2⟩:=info_parts aFY;obtain⟨m,hm⟩:∃m,dH L=m:=⟨_,rfl⟩
 have H5:m≤1048576:=by rw[←hm];unfold dH;omega
 have wx:=apZ m H5;have Hm:=Lib.hid hm;rw[hm];clear hm
 go_enter Tryz.func127,Tryz.ntmps127
 go_wp2_with fail
 go_loopw [3,4] (fun v i W=>∃k:Nat,k≤4∧i= .int .i64 k∧Dn w m k v W) (fun _ i _=>4- (intOf i).toNat)
 case atStart=>exact⟨0,om,rfl,fun _=>0,World.ownsRow_nil _ _ _ _,fun i hi=>absurd hi om,fun i j hi=>absurd hi om,Below.refl _ _⟩
 case round=>
  obtain⟨k,hk,rfl,h,hrow,hr,ha,hB⟩:=hrel;have hBs:=hB.size;by_cases hlt:k<4
  · have k1:(k:Int)<4:=om
    go_wp2_with (first| (go_at_call 177;refine(aFo L m _ hL Hm.out).mono ?_;rintro e w' ⟨rfl,rfl⟩)| (at_builtin;go_must (refine wpList_append_own _ rfl _ _ 149 rfl w.heap.size 71 i0 (.slice none 0 0) 1 24 Tryz.underlying149 hi hz0 hz1 hz2 rfl dc _ _ _ rfl ((hrow.alloc _).alloc _) ⟨wr.heap.size+1,0,none⟩ 1 1 [.slice (some ⟨wr.heap.size,0,none⟩) m m] rfl rfl (atn _ _ _) (by simp[Value.oneCell']) (by unfold maxLen;omega) om (by simp;omega) ?_);intro v' w1 hown' hgrow _))
    go_roundw
    case rel=>exact⟨k+1,om,by go_num,Dn.step hrow hr ha hB hown' hgrow⟩
    case measure=>simp[intOf];omega
  · obtain rfl:k=4:=om;obtain⟨G,c4,aHR,rfl,hG1,R2,RN,ahI,hG5,hG6⟩:=hrow.2.resolve_left (fun h=>absurd h.2 om);have aHT:c4≤9223372036854775807:=by simp only[maxLen]at ahI;omega
    have hG2:=(dY.1 R2).1;have hG4:True:=trivial;have hS0:tx wr w.heap.size G c4 h m (fill f 0):=by
     refine⟨⟨aHR,R2,om,fun i hi=>by
       have:=aCJ h m 4 hi;rw[←hG6,jD,au om]at this;simpa using this⟩,⟨hG1,hG2⟩,fun i hi=> ⟨(hr i hi).1,?_,(hr i hi).2.congr fun j _=> (akd f i j).symm⟩,ha⟩
     rintro rfl;obtain⟨Lj,h1,_⟩:=(hr i hi).2;rcases hrow.2 with⟨h0,_⟩| ⟨g,cap',cur,h0,_,hg,_⟩
     · cases h0
     · cases h0;rw[h1]at hg;cases hg
    clear hrow hr ha hG1 hG2 R2 hG4 hG5 hG6 ahI wx
    go_wp2_with fail
    simp only[aiP];obtain⟨wo,rfl⟩:∃wo:av,wo=wr:=⟨_,rfl⟩
    go_loopw [5] (fun i W=>∃t:Nat,t≤L∧i= .int .i64 t∧tx W w.heap.size G c4 h m (fill f t)∧Below w.heap.size w W) (fun i _=>L- (intOf i).toNat)
    case atStart=>exact⟨0,om,rfl,hS0,hB⟩
    case round=>
     clear hS0 hB hBs;obtain⟨t,ht,rfl,hS,hB⟩:=hrel;by_cases oG:t<L
     · obtain⟨ga,oa,rfl,R3⟩:=hb om;have nJ:=acY t;have gx:gF t+1≤m:=by have:=aBf (L:=L) (t:=t) (p:=1) om om;have:=Hm.out;omega
       obtain⟨hr1,hr2,hr3⟩:=hS.rows (jX t) nJ;have d0:=hS.cell nJ;have d1:=hr3.cell (j:=gF t) om;have d2:=hr3.frozen (gF t);have d3:wr.cell? ⟨ga,oa+t,none⟩=some (.int .u8 (f t)):=(hB.cell (p:=⟨ga,oa+t,none⟩) (World.block_lt_of_cell? w _ (R3 t oG))).trans (R3 t oG);have d4:h (jX t)≠ga:=fun e=>by
        have:=World.block_lt_of_cell? w _ (R3 t oG);simp only at this;omega
       clear hr1 hr2 hr3;generalize pE:jX t=sn at*;generalize han:gF t=an at*;generalize fill f t sn an=old at d1;have Hsn:=Lib.hid pE;have Han:=Lib.hid han;clear pE han;have i0:(0:Int)≤(sn:Int):=om;have i1:(sn:Int)<4:=om;have i2:(0:Int)≤(an:Int):=om;have i3:(an:Int)< (m:Int):=om;have i4:(0:Int)≤(t:Int):=om;have i5:(t:Int)< (L:Int):=om
       go_wp2_with (go_at_call 178;refine(asa t _ om sn an Hsn.out Han.out).mono ?_;rintro e w' ⟨rfl,rfl⟩)
       go_still_tail 10,kr
       go_wp2
       go_roundw
       case rel=>exact⟨t+1,om,by go_num,hS.step Hsn.out Han.out 1,(hB.setCell (p:=⟨h sn,an,none⟩) (hS.rows sn nJ).1 _).drew⟩
       case measure=>simp[intOf];omega
     · obtain rfl:t=L:=om
       go_wp2
       go_ret
       exact⟨G,c4,h,rfl,RN,aHT,hS,hB⟩
def K_ (b:List Int) (i:Nat):List PV:=[.sl (fT ((List.range (dH b.length)).map fun j=>fill (fun t=> (b[t]?).getD 0) b.length i j))]
def pk (b:List Int):List (List PV):=(List.range 4).map (K_ b)
theorem arE {M:bY} {w:av} {b:List Int} {v:aD} (h:RP M w (.sl (fT b)) v):∃A cap,v= .slice A b.length cap∧b.length≤cap+b.length∧(b.length=0∨b.length≤cap∧cap≤maxLen)∧XR w A b.length (fun t=> (b[t]?).getD 0):=by
 rcases RP.rows h with⟨h0,A,cap,rfl⟩| ⟨g,o,cap,sz,f,rfl,h0,hl,hm,hR,hc⟩
 · have:b=[]:=by cases b with|nil=>rfl|cons=>simp[fT]at h0
   subst this;exact⟨A,cap,rfl,by simp,.inl rfl,fun h=>absurd h (by simp)⟩
 · rw[Cw];rw[Cw]at hl;refine⟨_,cap,rfl,om,.inr ⟨hl,hm⟩,fun hp=> ⟨g,o,rfl,fun i hi=> ?_⟩⟩;have bj:sz=1:=by
    have hr:=bX (l:=fT b) (i:=i) (by rw[Cw];exact hi);rw[←hR _ (cH hr),abA b _ (cH hr)]
   subst bj;have hb:b[i]? =some b[i]:=bX hi;obtain⟨h1,h2⟩:=hc i [.sc (.int .u8 b[i])] 0 (.sc (.int .u8 b[i])) (by rw[aab,hb];rfl) rfl;rw[RP.dv h2]at h1;simp only[IK,gb]at h1;rw[h1];simp only[hb,eN]
theorem alz {M:bY} {w:av} {g m:Nat} {c:Nat→Int} (h:Row w g m c) (hM:¬M g) (hm:m≤maxLen):RP M w (.sl (fT ((List.range m).map c))) (.slice (some ⟨g,0,none⟩) m m):=by
 by_cases h0:m=0
 · subst h0;exact .nil
 · have hl:(fT ((List.range m).map c)).length=m:=by simp[fT]
   have hg:∀(i:Nat) (r:List PV),(fT ((List.range m).map c))[i]? =some r→i<m∧r=[.sc (.int .u8 (c i))]:=by
     intro i r hi;have hlt:i<m:=by rw[←hl];exact(cN.1 hi).1
     rw[aab,bO,pY hlt]at hi;cases hi;exact⟨hlt,rfl⟩
   rw[show(Value.slice (some ⟨g,0,none⟩) m m)= .slice (some ⟨g,0,none⟩) (fT ((List.range m).map c)).length m by rw[hl]];refine .row (sz:=1) (f:=fun i _=> .int .u8 (c i)) (by intro he;rw[he]at hl;simp at hl;omega) om hm (abA _) (fun i r j p hi hj=> ?_) (fun i r j p hi hj=> ?_)
   · obtain⟨h1,rfl⟩:=hg i r hi;have rC:j=0:=by cases j with|zero=>rfl|succ j=>simp at hj
     subst rC;refine⟨?_,hM⟩;have:=h.cell h1;simpa using this
   · obtain⟨h1,rfl⟩:=hg i r hi;have rC:j=0:=by cases j with|zero=>rfl|succ j=>simp at hj
     subst rC;simp at hj;subst hj;exact .sc rfl
theorem akk (b:List Int) (hb:b.length≤1048576):eI Tryz.prog 127 [.c (.p (.sl (fT b)))] [] (.v (.c (.own 0))) [(0,.row 71 (pk b))]:={
 own:=⟨_,Tryz.func127,by kernel_rfl,rfl⟩
 call := fun w M N vals h1 h2 h3 h4 h5 h6 h7=>by
  obtain⟨v,kL,hv2⟩:=h7 0 _ rfl;have rz:vals= #[v]:=by
    have:vals.size=1:=h6;apply Array.ext_getElem?;intro i
    cases i with
    |zero=>rw[kL];rfl
    |succ i=>rw[Array.getElem?_eq_none om];rfl
  subst rz;have mI:∀n,N n=none:=fun n=>by
    cases hn:N n with
    |none=>rfl
    |some x=>exact absurd (h2 n x hn) (qb n)
  obtain⟨A,cap,rfl,_,lF,hB⟩:=arE (show RP _ w (.sl (fT b)) v from hv2);refine(aAT A b.length cap _ w hb hB).mono ?_;rintro e w' ⟨G,c4,hh,rfl,k1,k2,hS,aHV⟩;obtain⟨cur,q1,q2,q3⟩:=hS.head;have ahN:=hS.low;have eh:∀g,w.heap.size≤g→g≠G→¬bad M ⟨fun n=>if n=0 then some ⟨some G,4,c4,1⟩else none,[]⟩ g:=by
    rintro g hg hne (hb| ⟨n,x,hn,hx⟩)
    · have:=h1 g hb;omega
    · simp only at hn;split at hn
      · cases hn;cases hx;exact hne rfl
      · cases hn
  refine⟨_,⟨fun n=>if n=0 then some ⟨some G,4,c4,1⟩else none,[]⟩,rfl,Frame.En aHV,⟨rfl,?_,?_,fun m hm=>absurd hm (qb m)⟩,?_,?_⟩
  · intro n x g hx hg;simp only at hx;split at hx
    · cases hx;cases hg;exact⟨ahN.2,.inr ahN.1⟩
    · cases hx
  · intro n m x y g hx hy _ _;simp only at hx hy;split at hx<;>split at hy
    · omega
    · cases hy
    · cases hx
    · cases hx
  · intro n bl hbl;simp only[eR,oQ]at hbl;split at hbl
    · rename_i hn;simp at hn;subst hn;cases hbl;refine⟨⟨some G,4,c4,1⟩,cur,(0,0),by simp,.inl rfl,fun g hg=>by cases hg;exact q1,by simp[pk],k1,by simp only[maxLen];omega,by simp only;omega,by show 1=_;kernel_rfl,by simp only;omega,fun r hr=> ?_,fun h=> (by cases h),fun i r j p hi hj=> ?_⟩
      · simp only[pk,dy]at hr;obtain⟨i,_,rfl⟩:=hr;rfl
      · have CR:i<4:=by
         have:=(cN.1 hi).1;simpa[pk]using this
        simp only[pk,bO,pY CR,aJ,im]at hi;subst hi;have rC:j=0:=by cases j with|zero=>rfl|succ j=>simp[K_]at hj
        subst rC;simp[K_]at hj;subst hj;obtain⟨r1,r2,r3⟩:=hS.rows i CR;have hm:dH b.length≤maxLen:=by simp only[maxLen];unfold dH;omega
        exact⟨_,by simpa using q3 i CR,alz r3 (eh _ r1 r2) hm⟩
    · cases hbl
  · exact .inr ⟨⟨some G,4,c4,1⟩,by simp,rfl⟩}
end Sp
theorem ash {rows:List (List PV)}:∀{b:List Int},lj rows=some b→rows=fT b:=by
 induction rows with
 |nil=>intro b h;simp[lj]at h;subst h;rfl
 | cons r rows ih=>
  intro b h;simp only[lj,je]at h
  cases hr:u_ r with
  |none=>simp[hr]at h
  | some n=>
   cases hs:rows.mapM u_ with
   |none=>simp[hr,hs]at h
   |some ns=>
    simp[hr,hs]at h;subst h;rw[ih (b:=ns) hs];unfold u_ at hr;split at hr
    · cases hr;rfl
    · cases hr
noncomputable def uL:List L→Option (List L):=fun ls=>match ls with
 |[l]=>match lj l.ah with
  |some b=>if b.length≤1048576 then some [.r (Sp.pk b)]else none
  |none=>none
 |_=>none
def adb:az:=⟨127,[.c (.p .sl U0)],[],1,1,.v (.c (.own 0)),[(0,.row 71 U1)],uL,2003⟩
theorem aBv:adb.ok Tryz.prog:=by
 intro ls os hl hF dr;have hF:uL ls=some os:=hF;unfold uL at hF;split at hF
 · rename_i l;split at hF
   · rename_i b hb;split at hF
     · rename_i hc;cases hF;have:=Sp.akk b hc;rw[←ash hb]at this;exact this
     · cases hF
   · cases hF
 · cases hF
end
section
open Go.RowKit Go.Shelf
attribute [local go_sem] Oper.semAt_some
set_option maxRecDepth 100000 in
set_option maxHeartbeats 1000000 in
theorem asv (m:Nat) (hm:1≤m) (l gB N:Nat) (hN:N≤4611686018427387904) (J:Nat→av→Prop)
  (hJ:∀k W,J k W→k≤N→∃A cap,W.cell? ⟨gB,0,none⟩=some (.slice A N cap)∧(k<N→∃(g o:Nat) (f:Nat→aD),A=some ⟨g,o,none⟩∧(∀j,j<14→W.cell? ⟨g,o+(N-1-k)*14+j,none⟩=some (f j))∧
    YieldAt Fence.wide (m-1) Tryz.prog l #[.int .i64 ((N-1-k:Nat):Int),.agg #[f 0,f 1,f 2,f 3,f 4,f 5,f 6,f 7,f 8,f 9,f 10,f 11,f 12,f 13]] W (fun e W'=>e= .returned (.bool true)∧J (k+1) W')))
  (W:av) (h0:J 0 W):
  CallsIn Fence.wide m Tryz.prog 169 #[.func (.yield l) #[] #[],.pointer (some ⟨gB,0,none⟩)] W fun e W'=> (∃v,e= .returned v)∧J N W':=by
 obtain⟨A0,Ih,hc0,_⟩:=hJ 0 W h0 (p6 _);refine callsIn_of_wp Tryz.func169 rfl trivial ?_ rfl;simp only[Tryz.ntmps169,rT,km,oT,Nat.reduceAdd,Nat.reduceSub,SQ,SR,SS,SU,fa,fv]
 gi_wp2
 gi_loopw [3] (fun i wr=>∃(k:Nat) (q:Int),k≤N∧i= .int .i64 q∧Hid (q=(N:Int) -1-k)∧J k wr) (fun i _=> (intOf i+1).toNat)
 case atStart=>exact⟨0,_,p6 _,rfl,by show _=_;simp,h0⟩
 case round=>
  obtain⟨k,q,hk,rfl,hq,hJk⟩:=hrel;clear hc0 h0;obtain⟨A,cap,hc,hr⟩:=hJ k wr hJk hk;by_cases hlt:k<N
  · obtain⟨g,o,f,rfl,hf,hY⟩:=hr hlt;obtain⟨p,hp⟩:∃p,N-1-k=p:=⟨_,rfl⟩
    rw[hp]at hf hY;obtain rfl:q=(p:Int):=by have:=hq.out;omega
    obtain⟨fn,tmps,assign,body,hy,hR⟩:=hY;have d0:=hf 0 om;have d1:=hf 1 om;have d2:=hf 2 om;have d3:=hf 3 om;have d4:=hf 4 om;have d5:=hf 5 om;have d6:=hf 6 om;have d7:=hf 7 om;have d8:=hf 8 om;have d9:=hf 9 om;have d10:=hf 10 om;have d11:=hf 11 om;have d12:=hf 12 om;have d13:=hf 13 om;simp only[gb]at d0;generalize f 0=f0 at*;generalize f 1=f1 at*;generalize f 2=f2 at*;generalize f 3=f3 at*;generalize f 4=f4 at*;generalize f 5=f5 at*;generalize f 6=f6 at*;generalize f 7=f7 at*;generalize f 8=f8 at*;generalize f 9=f9 at*;generalize f 10=f10 at*;generalize f 11=f11 at*;generalize f 12=f12 at*;generalize f 13=f13 at*;have hp0:(0:Int)≤(p:Int):=om;have hpN:(p:Int)< (N:Int):=om;clear hf hJ
    gi_wp2
    refine hR.mono ?_;rintro e W3 ⟨rfl,hJ3⟩
    gi_wp2
    go_roundw
    case rel=>exact⟨k+1,_,om,rfl,by show _=_;omega,hJ3⟩
    case measure=>simp[intOf]
  · obtain rfl:k=N:=om;have hq0:q<0:=by have:=hq.out;omega
    gi_wp2
    go_end0
    exact⟨⟨_,rfl⟩,hJk⟩
end
section
open Go.RowKit
open Classical
section
variable {l n:Nat} {P:aQ} {Q:Exit→Act→av→Prop}
theorem akY {m:Nat} {row:String} {args:Array aD} {w:av} {R:aD→av→Prop} (h:Go.Rows P row args w R):RowsIn (Fence.wide.inRound l) m P row args w R:=fun c cs _=>by
 obtain⟨v,w',r,s⟩:=h c cs;exact⟨v,w',r,stepsIn_wide.2 s⟩
theorem anL {o:Oper} {a:Act} {w:av} {K:Act→av→Prop} (hd:∀c,o.op≠ .defer c) (h:o.wp P a w K Q):o.wpIn (Fence.wide.inRound l) n P a w K Q:=by
 unfold Oper.wp at h;unfold Oper.wpIn;refine⟨fun _ _=>trivial,?_⟩;rw[show(Fence.wide.inRound l).round=some l from rfl,Oper.semAt_eq _ _ _ hd];generalize (execOp a.eval o).run P w=r at h
 cases r with
 | ok x w'=>
  cases x<;>simp only[Oper.upon,Oper.uponIn]at h⊢<;>
   first
    |exact h
    |exact⟨fun e=> (by cases e),callsIn_wide.2 h⟩
    |exact⟨fun e=> (by cases e),akY h⟩
 |halt x w'=>cases x<;>simp only[Oper.upon,Oper.uponIn]at h⊢<;>exact h
end
def xD (ops:Array Oper):Bool:=ops.toList.all fun o=>match o.op with| .defer _=>false|_=>true
theorem axV {ops:Array Oper} (h:xD ops=true) (j:Nat) (o:Oper) (c:Call) (ho:ops[j]? =some o):o.op≠ .defer c:=by
 simp only[xD,bk]at h;have hm:o∈ops.toList:=aiv.2 (SD ho);intro he;have:=h o hm;rw[he]at this;cases this
theorem Vx {l n:Nat} {X:Fx} {Sp:Spec} {b:Nat} {ops:Array Oper} {Q:Exit→Act→av→Prop} (hd:xD ops=true):∀(ls:List Oper) (k:Nat) {E:Env} {st st':ak} {rs:List (Option bc)} {ts:gW} {a:Act} {w:av},
  (∀j,ls[j]? =ops[k+j]?)→Rel X E st a w→(∀j,k≤j→j<ops.size→qj X E st (b+8*j))→j_ X.P Sp b ops ls k st=some (rs,ts,st')→nj b k ts=true→
  (∀a' w' E',Rel X E' st' a' w'→Q .normal a' w')→wpOpsIn (Fence.wide.inRound l) n X.P ops Q (List.range' k ls.length) a w
 |[],k,E,st,st',rs,ts,a,w,_,h,_,he,_,hq=>by
  cases he;exact hq a w E h
 | o :: ls,k,E,st,st',rs,ts,a,w,hl,h,hF,he,wg,hq=>by
  have h0:ops[k]? =some o:=by simpa using(hl 0).symm
  have hk:k<ops.size:=(dY.1 h0).1;simp only[j_]at he;split at he
  · rename_i r hr;split at he
    · rename_i rs1 ts1 lI CK;cases he;simp only[nj,bt,bk,cg]at wg;simp only[km,List.range'_succ,wpOpsIn,h0];have:=I7 h (hF k (cT _) hk) (ops:=ops) hr (next:=wpOpsIn (Fence.wide.inRound l) n X.P ops Q (List.range' (k+1) ls.length)) (Q:=Q) (fun v w' E' k1 k2=>by
        refine Vx hd ls (k+1) (fun j=>by have:=hl (j+1);simpa[rQ,IP 1 j]using this) k2 ?_ CK wg.2 hq;intro j hj RH n h1 h2;obtain⟨f1,f2,f3,f4⟩:=hF j om RH n h1 h2;refine⟨k1 n om f1,?_,by rw[DQ];exact f3,f4⟩;rw[xW];rintro(h3|h3)
        · have:=wg.1 n (rR _ h3);omega
        · exact f2 h3)
      split
      · rename_i hw;rw[au hw]at this;exact anL (fun c=>axV hd k o c h0) this
      · rename_i hw;rw[aE hw]at this;exact⟨fun _ _=>trivial,this⟩
    · cases he
  · cases he
def ij (l n:Nat) (X:Fx) (c:Code) (Q:Exit→ak→Prop) (st:ak):Prop:=
 ∀a w,Told X st a w→c.wpIn (Fence.wide.inRound l) n X.P (fun e a' w'=>∃st',Q e st'∧Told X st' a' w') a w
section
variable {l n:Nat} {X:Fx} {Sp:Spec} {Q:Exit→ak→Prop} {st:ak}
theorem aFO {id:Nat} {ops:List Oper} {rs:List (Option bc)} {ts:gW} {st':ak} (hd:xD ops.toArray=true) (he:j_ X.P Sp st.next ops.toArray ops 0 (st.bump ops.length)=some (rs,ts,st')) (hs:nj st.next 0 ts=true) (h:Q .normal st'.settle):
  ij l n X (.region id ops.toArray false) Q st:=fun a w ht=>by
 obtain⟨E,hR,hg⟩:=ht;refine wpIn_region ?_;have:=Vx (l:=l) (n:=n) (X:=X) (ops:=ops.toArray) (Q:=fun e a' w'=>∃st',Q e st'∧Told X st' a' w') hd ops 0 (fun j=>by simp) (hR.bump ops.length) (fun j _ hj=>hR.free hg (by simpa using hj)) he hs (fun a' w' E' k1=>by
  obtain⟨E2,k3,k4⟩:=k1.settle;exact⟨_,h,E2,k3,k4⟩)
 rw[←List.range_eq_range']at this;simpa using this
theorem w8 {x y:Code} (h:ij l n X x (Br (ij l n X y Q) Q) st):ij l n X (.seq x y) Q st:=fun a w ht=>by
 refine wpIn_seq (wpIn_mono (h a w ht) ?_);rintro e a' w' ⟨st',h1,h2⟩;cases e<;>first|exact h1 a' w' h2|exact⟨st',h1,h2⟩
theorem T5 {c:aM} {x y:Code} {t:Bool} (hc:st.arg c=some (.sc (.bool t))) (h1:t=true→ij l n X x Q st) (h2:t=false→ij l n X y Q st):ij l n X (.cond c x y) Q st:=fun a w ht=>by
 obtain⟨E,hR,hg⟩:=ht;have k1:=RP.dv (hR.bU hc).1;exact wpIn_cond_split k1 (fun h=>h1 h a w ⟨E,hR,hg⟩) (fun h=>h2 h a w ⟨E,hR,hg⟩)
theorem X1 {id:Nat} {c:Code} (h:ij l n X c (B9 id Q) st):ij l n X (.block id c) Q st:=fun a w ht=>by
 refine wpIn_block (wpIn_mono (h a w ht) ?_);rintro e a' w' ⟨st',h1,h2⟩
 cases e with
 |exit wi=>
  simp only[B9]at h1;simp only[Exit.inBlock];split
  · rename_i he;rw[au he]at h1;exact⟨st',h1,h2⟩
  · rename_i he;rw[aE he]at h1;exact⟨st',h1,h2⟩
 |_=>exact⟨st',h1,h2⟩
theorem X8 (h:Q .normal st):ij l n X .skip Q st:=fun _ _ ht=>wpIn_skip ⟨st,h,ht⟩
end
theorem aDp {P:aQ} {T:aV} {C:cm} {k0:Nat} (hT:aV.ok P T) (hC:cm.ok P C) {id:Nat} {ops:Array Oper} {S:ag} {u:ad} {ρ ρ':List L} {x:Lf} (tT:xD ops=true)
   (h:dG T C ops false S=some u) (hl:ρ.length=S.nv) (hd:u.aa ρ=some (x,ρ')) {l n:Nat}:
   ∃S',x= .st .normal S'∧S'.nv=ρ'.length∧(∃ys,ρ'=ρ++ys)∧S'.ao=[]∧∀X:Fx,X.P=P→∀Q:Exit→ak→Prop,Q .normal (S'.aa ρ')→ij l n X (.region id ops false) Q (S.aa ρ):=by
 unfold dG at h;split at h
 · rename_i hc;obtain⟨bW,hg,hf⟩:=hc;simp only[gE]at h;obtain⟨t,ht,h⟩:=h;obtain⟨S1,ts,bE,v,k1,k2,k3⟩:=AA h hd;replace k2:(if(if false then nD ops ts&&qN S.next ops ts else nj S.next 0 ts)=true then some (ad.ar (Lf.st Ex.normal S1.settle))else none)=some v:=k2;have aX:(if false then nD ops ts&&qN S.next ops ts else nj S.next 0 ts)=true:=by
     apply Dj;intro hn;rw[aE hn]at k2;cases k2
   rw[au aX]at k2
   · cases k2;cases k3;obtain⟨e1,⟨ys,e2⟩,rs,zh,Sp,e3,e4⟩:=vH hT hC ht (by exact hl) k1;simp only[List.reverse_nil,fa]at e4;subst e4;refine⟨S1.settle,rfl,by rw[Te];exact e1,⟨ys,e2⟩,TR S1,fun X wz Q hQ=> ?_⟩;have oJ:S.aa ρ'=S.aa ρ:=by rw[e2];exact ag.ky bW om
     have hb:ag.aa ρ' {S with next:=S.next+8*ops.size}=(S.aa ρ).bump ops.toList.length:=by
      rw[←oJ];simp[ag.aa,ak.bump]
     rw[hb]at e3;rw[Tf]at hQ;have wA:ops.toList.toArray=ops:=by simp
     subst wz;simp only[lP,if_false]at aX;have:=aFO (l:=l) (n:=n) (X:=X) (Sp:=Sp) (Q:=Q) (id:=id) (ops:=ops.toList) (st:=S.aa ρ) (rs:=rs) (ts:=ts) (by rw[wA];exact tT) (by rw[wA];exact e3) aX hQ;rw[wA]at this;exact this
 · cases h
theorem Rel.other {X:Fx} {E:Env} {st:ak} {a:Act} {w w':av} (h:Rel X E st a w) (rB:w'.os=w.os) (Rx:w'.tape=w.tape) (hout:w'.output=w.output) (bj:w.heap.size≤w'.heap.size)
  (hb:∀g o,w.heap[g]? =some o→(g<X.w0.heap.size∨o.isCells=true∨∃en c,o= .map en c)→w'.heap[g]? =w.heap[g]?):Rel X E st a w':=by
 have hcell:∀g o u,w.cell? ⟨g,o,none⟩=some u→w'.cell? ⟨g,o,none⟩=some u:=by
  intro g o u hc;have hlt:=World.block_lt_of_cell? w ⟨g,o,none⟩ hc;have hg:w.heap[g]? =some w.heap[g]:=pW hlt;have hi:(w.heap[g]).isCells=true:=by
   unfold World.cell? at hc;rw[hg]at hc
   cases ho:w.heap[g]with
   |cells=>rfl
   |_=>rw[ho]at hc;simp at hc
  exact(World.cell?_of_block (w:=w) (a:=⟨g,o,none⟩) (hb g _ hg (.inr (.inl hi)))).trans hc
 have hG:gk X.M E E w w':=⟨fun g o u k1 k2=> ⟨hcell g o u k1,k2⟩,fun _ _ h=> .inr h,fun _ h=>h⟩
 have hblk:∀n x g o,E.N n=some x→x.g=some g→w.heap[g]? =some o→(o.isCells=true∨∃en c,o= .map en c)→w'.heap[g]? =some o:=fun n x g o _ _ ho hi=> (hb g o ho (.inr hi)).trans ho
 exact {
  defers:=h.defers
  ao:=h.ao
  frame:=h.frame.trans (K':=fun g=>X.w0.heap.size≤g) ⟨rB,Rx,hout,bj,fun g hg hn=>by
     have ho:w.heap[g]? =some w.heap[g]:=pW hg;exact hb g _ ho (.inl om)⟩ (fun g hg hK=>by omega)
  mlt:=h.mlt
  cR:=h.cR
  names:=fun n x g hx hg=>by
   obtain⟨h1,h2,h3⟩:=h.names n x g hx hg;exact⟨om,h2,h3⟩
  inj:=h.inj
  dw:=h.dw
  fh:=h.fh
  fe:=h.fe
  size:=h.size
  tmps:=fun i v hi=>let⟨u,h1,h2⟩:=h.tmps i v hi; ⟨u,h1,h2.goes hG⟩
  heap :=fun m b hm=>by
   rcases h.heap m b hm with h1|h1
   · exact .inl h1
   · by_cases hn:m∈E.ao
     · exact .inl (by rw[←h.ao];exact hn)
     · right
       cases b with
       |box cs=>
        obtain⟨x,g,cur,e,k1,k0,k2,k3,k4⟩:=h1;exact⟨x,g,cur,e,k1,k0,hblk m x g _ k1 k0 k2 (.inl rfl),k3,fun i c hi=>let⟨u,h5,h6,h7⟩:=k4 i c hi; ⟨u,h5,h6.goes hG,h7⟩⟩
       |row e rows=>
        obtain⟨x,cur,fz,k1,ca,k2,k3,k4,k5,k6,lE,k7,k8,ik,k9⟩:=h1;exact⟨x,cur,fz,k1,ca,fun g hg=>hblk m x g _ k1 hg (k2 g hg) (.inl rfl),k3,k4,k5,k6,lE,k7,k8,ik,fun i r j p hi hj=>let⟨u,q1,q2⟩:=k9 i r j p hi hj; ⟨u,q1,q2.goes hG⟩⟩
       |map es=>
        obtain⟨x,g,en,clock,k1,k0,k2,k3⟩:=h1;exact⟨x,g,en,clock,k1,k0,hblk m x g _ k1 k0 k2 (.inr ⟨en,clock,rfl⟩),k3⟩}
end
section
open Go.RowKit
def dd:SV:= .v (.c .dead)
def di (n:Nat):SV:= .v (.c (.p (.int .i64) (.v n)))
def ds (n:Nat):SV:= .v (.c (.p .sl (.v n)))
def P8:Array Oper:= #[⟨some 2,.box 64 (.tmp 0),0,"slot.go:97",#[],none⟩,⟨some 3,.box 22 (.tmp 1),0,"slot.go:97",#[],none⟩,⟨some 4,.assign (.const (.slice none 0 0)),162,"slot.go:97",#[],none⟩]
def aR1:Array Oper:= #[⟨some 10,.load 64 (.tmp 2),64,"slot.go:98",#[],none⟩,⟨some 11,.call {callee:= .value (.func 40),args:= #[.tmp 10],argTypes:= #[64]},4,"slot.go:98",#[⟨0,.data⟩],none⟩,⟨some 12,.unOp .not 4 (.tmp 11),4,"slot.go:98",#[⟨1,.data⟩],none⟩]
def aR2:Array Oper:= #[⟨some 4,.assign (.const (.slice none 0 0)),162,"slot.go:99",#[],none⟩]
def Pc:Array Oper:= #[⟨some 5,.alloc 162,0,"slot.go:101",#[],none⟩]
def J9:Array Oper:= #[⟨some 13,.fieldAddr 64 (.tmp 2) 3,0,"slot.go:102",#[],none⟩,⟨some 14,.load 62 (.tmp 13),62,"slot.go:102",#[⟨0,.data⟩],none⟩,⟨some 15,.call {callee:= .value (.func 112),args:= #[.tmp 14],argTypes:= #[62]},226,"slot.go:102",#[⟨1,.data⟩],none⟩]
def zO:Array Oper:= #[⟨some 6,.assign (.tmp 16),3,"slot.go:102",#[],none⟩]
def Ca:Array Oper:= #[⟨some 7,.alloc 131,0,"slot.go:102",#[],none⟩,⟨none,.store 131 (.tmp 7) (.tmp 17),0,"slot.go:102",#[⟨0,.data⟩,⟨0,.phase⟩],none⟩]
def AX:Array Oper:= #[⟨some 19,.fieldAddr 131 (.tmp 7) 4,0,"slot.go:103",#[],none⟩,⟨some 20,.load 129 (.tmp 19),129,"slot.go:103",#[⟨0,.data⟩],none⟩,⟨some 21,.load 22 (.tmp 3),22,"slot.go:103",#[],none⟩,⟨some 22,.call {callee:= .value (.func 113),args:= #[.tmp 20,.tmp 21],argTypes:= #[129,22]},119,"slot.go:103",#[⟨1,.data⟩,⟨2,.data⟩],none⟩,⟨some 18,.move (.tmp 22),119,"slot.go:103",#[⟨3,.data⟩],none⟩,⟨some 23,.extract (.tmp 18) 0,25,"slot.go:103",#[⟨4,.data⟩],none⟩,⟨some 24,.extract (.tmp 18) 1,4,"slot.go:103",#[⟨4,.data⟩,{on:=8,ground:=Ground.gcOnly Departure.lateStores}],none⟩,⟨some 8,.alloc 25,0,"slot.go:103",#[],none⟩,⟨none,.store 25 (.tmp 8) (.tmp 23),0,"slot.go:103",#[⟨7,.data⟩,⟨5,.data⟩,⟨3,.chain⟩,⟨0,.phase⟩,⟨1,.phase⟩,⟨2,.phase⟩,⟨3,.phase⟩,⟨4,.phase⟩,⟨5,.phase⟩,{on:=6,ground:=Ground.textOnly Departure.lateStores},⟨7,.phase⟩],none⟩,⟨some 9,.assign (.tmp 24),4,"slot.go:103",#[⟨6,.data⟩,⟨8,.chain⟩,⟨0,.phase⟩,⟨1,.phase⟩,⟨2,.phase⟩,⟨3,.phase⟩,⟨4,.phase⟩,⟨5,.phase⟩,⟨6,.phase⟩,⟨7,.phase⟩,⟨8,.phase⟩],none⟩]
def Ba:Array Oper:= #[⟨some 25,.move (.tmp 9),4,"slot.go:103",#[],none⟩]
def B5:Array Oper:= #[⟨some 26,.load 162 (.tmp 5),162,"slot.go:104",#[],none⟩,⟨some 27,.fieldAddr 131 (.tmp 7) 0,0,"slot.go:104",#[],none⟩,⟨some 28,.load 3 (.tmp 27),3,"slot.go:104",#[⟨1,.data⟩],none⟩,⟨some 29,.fieldAddr 131 (.tmp 7) 2,0,"slot.go:104",#[],none⟩,⟨some 30,.load 3 (.tmp 29),3,"slot.go:104",#[⟨3,.data⟩],none⟩,⟨some 31,.fieldAddr 131 (.tmp 7) 1,0,"slot.go:104",#[],none⟩,⟨some 32,.load 2 (.tmp 31),2,"slot.go:104",#[⟨5,.data⟩],none⟩,⟨some 33,.load 25 (.tmp 8),25,"slot.go:104",#[],none⟩,⟨some 34,.build 51 #[(0,.tmp 28),(1,.tmp 30),(2,.tmp 32),(3,.tmp 33)],51,"slot.go:104",#[⟨2,.data⟩,⟨4,.data⟩,⟨6,.data⟩,⟨7,.data⟩],none⟩,⟨some 35,.move (.tmp 6),3,"slot.go:104",#[],none⟩,⟨some 36,.build 165 #[(0,.tmp 34),(1,.tmp 35)],165,"slot.go:104",#[⟨8,.data⟩,⟨9,.data⟩],none⟩,⟨some 37,.buildSlice 162 1 #[(0,.tmp 36)],162,"slot.go:104",#[⟨10,.data⟩],none⟩,⟨some 38,.call {callee:= .builtin .append,args:= #[.tmp 26,.tmp 37],argTypes:= #[162,162]},162,"slot.go:104",#[⟨0,.data⟩,⟨11,.data⟩],none⟩,⟨none,.store 162 (.tmp 5) (.tmp 38),0,"slot.go:104",#[⟨12,.data⟩,⟨12,.chain⟩,⟨0,.phase⟩,⟨1,.phase⟩,⟨2,.phase⟩,⟨3,.phase⟩,⟨4,.phase⟩,⟨5,.phase⟩,⟨6,.phase⟩,⟨7,.phase⟩,⟨8,.phase⟩,⟨9,.phase⟩,⟨10,.phase⟩,⟨11,.phase⟩,⟨12,.phase⟩],none⟩]
def zM:Array Oper:= #[⟨some 39,.load 162 (.tmp 5),162,"slot.go:107",#[],none⟩,⟨some 4,.assign (.tmp 39),162,"slot.go:107",#[⟨0,.data⟩,⟨0,.phase⟩],none⟩]
def K4:Code:=((Code.region 1 aR1 false).seq (.cond (.tmp 12) ((Code.region 2 aR2 false).seq .ret) .skip))
def Xc:Code:= .rangeFunc (.tmp 15) #[16,17] ((Code.region 5 zO false).seq (.region 6 Ca false)) (.block 1 ((Code.region 7 AX false).seq ((Code.region 8 Ba false).seq (.cond (.tmp 25) (.region 9 B5 false) .skip))))
def c58:Code:=(Code.region 0 P8 false).seq (K4.seq ((Code.region 3 Pc false).seq (((Code.region 4 J9 false).seq (.block 0 Xc)).seq ((Code.region 10 zM false).seq .ret))))
theorem auZ:Tryz.f58.body=some c58:=kr
theorem aqr:Tryz.f58.ntmps=40:=kr
theorem aoy:Tryz.f58.results= #[.tmp 4]:=kr
def zP:List Kd:=[.int .i64,.int .i64,.int .i64,.int .i64,.sl,.sl,.sl,.sl,.sl,.sl,.sl,.sl,.int .i64,.int .i64]
def Uc (n:Nat) (ks:List Kd):SV:= .v (.agg (ks.zipIdx.map fun x=> .p x.1 (.v (n+x.2))))
def kS:ag:=⟨[dd,dd,dd,.v (.c (.ptr 0 0)),dd,.v (.c (.ptr 1 0)),dd,dd,dd,dd,dd,dd,dd,dd,dd,.v (.c (.fn 169 [2])),dd,dd,dd,dd,dd,dd,dd,dd,dd,dd,dd,dd,dd,dd,dd,dd,dd,dd,dd,dd,dd,dd,dd,dd],
 [(0,.box [.p (.int .u64) (.v 4)]),(1,.box [.own 3]),(2,.box [.p .sl (.v 3)]),(3,.row 165 (.v 7))],[],4,8⟩
def QT:ag:={kS with tmps:=(kS.tmps.set 16 (.v (.c (.p (.int .i64) (.v 8))))).set 17 (Uc 9 zP),nv:=23}
def vc (F:List L→Option (List L)) (t:Nat):az:=⟨40,[.agg [.p (.int .i64) (.v 0),.p (.int .i64) (.v 1),.p .bool (.v 2),.p .sl (.v 3)]],[],4,1,.v (.c (.p .bool (.v 4))),[],F,t⟩
def uN (F:List L→Option (List L)) (t:Nat):az:=⟨112,[.c (.p .sl (.v 0))],[],1,0,.v (.c (.fn 169 [0])),[(0,(.box [.p .sl (.v 0)]))],F,t⟩
def iD (F:List L→Option (List L)) (t:Nat):az:=⟨113,[.agg [.p .sl (.v 0),.p .sl (.v 1),.p .sl (.v 2),.p .sl (.v 3),.p .sl (.v 4),.p .sl (.v 5),.p .sl (.v 6),.p .sl (.v 7),.p (.int .i64) (.v 8),.p (.int .i64) (.v 9)],.c (.p (.int .u64) (.v 10))],[],11,5,.aj [.agg [.p (.int .u64) (.v 12),.p (.int .u32) (.v 13),.p (.int .i64) (.v 14),.p (.int .i64) (.v 15)],.c (.p .bool (.v 11))],[],F,t⟩
section
variable (F40 F112 F113:List L→Option (List L)) (t40 t112 t113:Nat)
def ku:cm:=[vc F40 t40,uN F112 t112,iD F113 t113]
def Jt:ag:=sJ 40 5 [.agg [.p (.int .i64) (.v 0),.p (.int .i64) (.v 1),.p .bool (.v 2),.p .sl (.v 3)],.c (.p (.int .u64) (.v 4))] []
def W9:ag:=⟨[.v (.agg [.p (.int .i64) (.v 0),.p (.int .i64) (.v 1),.p .bool (.v 2),.p .sl (.v 3)]),.v (.c (.p (.int .u64) (.v 4))),.v (.c (.ptr 0 0)),.v (.c (.ptr 8 0)),.v (.c .nil),.aj [],.aj [],.aj [],.aj [],.aj [],.aj [],.aj [],.aj [],.aj [],.aj [],.aj [],.aj [],.aj [],.aj [],.aj [],.aj [],.aj [],.aj [],.aj [],.aj [],.aj [],.aj [],.aj [],.aj [],.aj [],.aj [],.aj [],.aj [],.aj [],.aj [],.aj [],.aj [],.aj [],.aj [],.aj []],[(8,(.box [.p (.int .u64) (.v 4)])),(0,(.box [.p (.int .i64) (.v 0),.p (.int .i64) (.v 1),.p .bool (.v 2),.p .sl (.v 3)]))],[],24,5⟩
theorem axe:dG TT (ku F40 F112 F113 t40 t112 t113) P8 false Jt=some (.ar (.st .normal W9)):=kr
def zU:ag:=⟨[.v (.agg [.p (.int .i64) (.v 0),.p (.int .i64) (.v 1),.p .bool (.v 2),.p .sl (.v 3)]),.v (.c (.p (.int .u64) (.v 4))),.v (.c (.ptr 0 0)),.v (.c (.ptr 8 0)),.v (.c .nil),.aj [],.aj [],.aj [],.aj [],.aj [],.v (.agg [.p (.int .i64) (.v 0),.p (.int .i64) (.v 1),.p .bool (.v 2),.p .sl (.v 3)]),.v (.c (.p .bool (.v 5))),.v (.c (.p .bool (.v 6))),.aj [],.aj [],.aj [],.aj [],.aj [],.aj [],.aj [],.aj [],.aj [],.aj [],.aj [],.aj [],.aj [],.aj [],.aj [],.aj [],.aj [],.aj [],.aj [],.aj [],.aj [],.aj [],.aj [],.aj [],.aj [],.aj [],.aj []],[(8,(.box [.p (.int .u64) (.v 4)])),(0,(.box [.p (.int .i64) (.v 0),.p (.int .i64) (.v 1),.p .bool (.v 2),.p .sl (.v 3)]))],[],48,7⟩
def FA:ag:=⟨[.v (.agg [.p (.int .i64) (.v 0),.p (.int .i64) (.v 1),.p .bool (.v 2),.p .sl (.v 3)]),.v (.c (.p (.int .u64) (.v 4))),.v (.c (.ptr 0 0)),.v (.c (.ptr 8 0)),.v (.c .nil),.aj [],.aj [],.aj [],.aj [],.aj [],.v (.agg [.p (.int .i64) (.v 0),.p (.int .i64) (.v 1),.p .bool (.v 2),.p .sl (.v 3)]),.v (.c (.p .bool (.v 5))),.v (.c (.p .bool (.v 6))),.aj [],.aj [],.aj [],.aj [],.aj [],.aj [],.aj [],.aj [],.aj [],.aj [],.aj [],.aj [],.aj [],.aj [],.aj [],.aj [],.aj [],.aj [],.aj [],.aj [],.aj [],.aj [],.aj [],.aj [],.aj [],.aj [],.aj []],[(8,(.box [.p (.int .u64) (.v 4)])),(0,(.box [.p (.int .i64) (.v 0),.p (.int .i64) (.v 1),.p .bool (.v 2),.p .sl (.v 3)]))],[],56,7⟩
theorem aaO:exec TT (ku F40 F112 F113 t40 t112 t113) 0 K4 0xFFFFFFFFFF [] 16 W9=some (.op (.call t40 F40 [(.v 0),(.v 1),(.v 2),(.v 3)] 1 []) (.op (.not (.v 5)) (.ite (.v 6) (.ar (.st .ret FA)) (.ar (.st .normal zU))))):=kr
def OV:ag:=⟨[.v (.agg [.p (.int .i64) (.v 0),.p (.int .i64) (.v 1),.p .bool (.v 2),.p .sl (.v 3)]),.v (.c (.p (.int .u64) (.v 4))),.v (.c (.ptr 0 0)),.v (.c (.ptr 8 0)),.v (.c .nil),.v (.c (.ptr 48 0)),.aj [],.aj [],.aj [],.aj [],.v (.agg [.p (.int .i64) (.v 0),.p (.int .i64) (.v 1),.p .bool (.v 2),.p .sl (.v 3)]),.v (.c (.p .bool (.v 5))),.v (.c (.p .bool (.v 6))),.aj [],.aj [],.aj [],.aj [],.aj [],.aj [],.aj [],.aj [],.aj [],.aj [],.aj [],.aj [],.aj [],.aj [],.aj [],.aj [],.aj [],.aj [],.aj [],.aj [],.aj [],.aj [],.aj [],.aj [],.aj [],.aj [],.aj []],[(48,(.box [.nil])),(8,(.box [.p (.int .u64) (.v 4)])),(0,(.box [.p (.int .i64) (.v 0),.p (.int .i64) (.v 1),.p .bool (.v 2),.p .sl (.v 3)]))],[],56,7⟩
theorem amf:dG TT (ku F40 F112 F113 t40 t112 t113) Pc false zU=some (.ar (.st .normal OV)):=kr
def HB:ag:=⟨[.v (.agg [.p (.int .i64) (.v 0),.p (.int .i64) (.v 1),.p .bool (.v 2),.p .sl (.v 3)]),.v (.c (.p (.int .u64) (.v 4))),.v (.c (.ptr 0 0)),.v (.c (.ptr 8 0)),.v (.c .nil),.v (.c (.ptr 48 0)),.aj [],.aj [],.aj [],.aj [],.v (.agg [.p (.int .i64) (.v 0),.p (.int .i64) (.v 1),.p .bool (.v 2),.p .sl (.v 3)]),.v (.c (.p .bool (.v 5))),.v (.c (.p .bool (.v 6))),.v (.c (.ptr 0 3)),ds 3,.v (.c (.fn 169 [72])),.aj [],.aj [],.aj [],.aj [],.aj [],.aj [],.aj [],.aj [],.aj [],.aj [],.aj [],.aj [],.aj [],.aj [],.aj [],.aj [],.aj [],.aj [],.aj [],.aj [],.aj [],.aj [],.aj [],.aj []],[(72,(.box [.p .sl (.v 3)])),(48,(.box [.nil])),(8,(.box [.p (.int .u64) (.v 4)])),(0,(.box [.p (.int .i64) (.v 0),.p (.int .i64) (.v 1),.p .bool (.v 2),.p .sl (.v 3)]))],[],80,7⟩
theorem azk:dG TT (ku F40 F112 F113 t40 t112 t113) J9 false OV=some (.op (.call t112 F112 [(.v 3)] 0 []) (.ar (.st .normal HB))):=kr
def adU:ag:=⟨[dd,dd,dd,.v (.c (.ptr 0 0)),dd,.v (.c (.ptr 1 0)),di 8,dd,dd,dd,dd,dd,dd,dd,dd,.v (.c (.fn 169 [2])),di 8,.v (.agg [.p (.int .i64) (.v 9),.p (.int .i64) (.v 10),.p (.int .i64) (.v 11),.p (.int .i64) (.v 12),.p .sl (.v 13),.p .sl (.v 14),.p .sl (.v 15),.p .sl (.v 16),.p .sl (.v 17),.p .sl (.v 18),.p .sl (.v 19),.p .sl (.v 20),.p (.int .i64) (.v 21),.p (.int .i64) (.v 22)]),dd,dd,dd,dd,dd,dd,dd,dd,dd,dd,dd,dd,dd,dd,dd,dd,dd,dd,dd,dd,dd,dd],[(0,(.box [.p (.int .u64) (.v 4)])),(1,(.box [.own 3])),(2,(.box [.p .sl (.v 3)])),(3,(.row 165 (.v 7)))],[],12,23⟩
theorem anR:dG TT (ku F40 F112 F113 t40 t112 t113) zO false QT=some (.ar (.st .normal adU)):=kr
def Hr:ag:=⟨[dd,dd,dd,.v (.c (.ptr 0 0)),dd,.v (.c (.ptr 1 0)),di 8,.v (.c (.ptr 12 0)),dd,dd,dd,dd,dd,dd,dd,.v (.c (.fn 169 [2])),di 8,.v (.agg [.p (.int .i64) (.v 9),.p (.int .i64) (.v 10),.p (.int .i64) (.v 11),.p (.int .i64) (.v 12),.p .sl (.v 13),.p .sl (.v 14),.p .sl (.v 15),.p .sl (.v 16),.p .sl (.v 17),.p .sl (.v 18),.p .sl (.v 19),.p .sl (.v 20),.p (.int .i64) (.v 21),.p (.int .i64) (.v 22)]),dd,dd,dd,dd,dd,dd,dd,dd,dd,dd,dd,dd,dd,dd,dd,dd,dd,dd,dd,dd,dd,dd],[(12,(.box [.p (.int .i64) (.v 9),.p (.int .i64) (.v 10),.p (.int .i64) (.v 11),.p (.int .i64) (.v 12),.p .sl (.v 13),.p .sl (.v 14),.p .sl (.v 15),.p .sl (.v 16),.p .sl (.v 17),.p .sl (.v 18),.p .sl (.v 19),.p .sl (.v 20),.p (.int .i64) (.v 21),.p (.int .i64) (.v 22)])),(12,(.box [.p (.int .i64) (.i 0),.p (.int .i64) (.i 0),.p (.int .i64) (.i 0),.p (.int .i64) (.i 0),.nil,.nil,.nil,.nil,.nil,.nil,.nil,.nil,.p (.int .i64) (.i 0),.p (.int .i64) (.i 0)])),(0,(.box [.p (.int .u64) (.v 4)])),(1,(.box [.own 3])),(2,(.box [.p .sl (.v 3)])),(3,(.row 165 (.v 7)))],[],28,23⟩
theorem aAc:dG TT (ku F40 F112 F113 t40 t112 t113) Ca false adU=some (.ar (.st .normal Hr)):=kr
def Ew:ag:=⟨[dd,dd,dd,.v (.c (.ptr 0 0)),dd,.v (.c (.ptr 1 0)),di 8,.v (.c (.ptr 12 0)),.v (.c (.ptr 84 0)),.v (.c (.p .bool (.v 23))),dd,dd,dd,dd,dd,.v (.c (.fn 169 [2])),di 8,.v (.agg [.p (.int .i64) (.v 9),.p (.int .i64) (.v 10),.p (.int .i64) (.v 11),.p (.int .i64) (.v 12),.p .sl (.v 13),.p .sl (.v 14),.p .sl (.v 15),.p .sl (.v 16),.p .sl (.v 17),.p .sl (.v 18),.p .sl (.v 19),.p .sl (.v 20),.p (.int .i64) (.v 21),.p (.int .i64) (.v 22)]),.aj [.agg [.p (.int .u64) (.v 24),.p (.int .u32) (.v 25),.p (.int .i64) (.v 26),.p (.int .i64) (.v 27)],.c (.p .bool (.v 23))],.v (.c (.ptr 12 4)),.v (.agg [.p .sl (.v 13),.p .sl (.v 14),.p .sl (.v 15),.p .sl (.v 16),.p .sl (.v 17),.p .sl (.v 18),.p .sl (.v 19),.p .sl (.v 20),.p (.int .i64) (.v 21),.p (.int .i64) (.v 22)]),.v (.c (.p (.int .u64) (.v 4))),.aj [.agg [.p (.int .u64) (.v 24),.p (.int .u32) (.v 25),.p (.int .i64) (.v 26),.p (.int .i64) (.v 27)],.c (.p .bool (.v 23))],.v (.agg [.p (.int .u64) (.v 24),.p (.int .u32) (.v 25),.p (.int .i64) (.v 26),.p (.int .i64) (.v 27)]),.v (.c (.p .bool (.v 23))),dd,dd,dd,dd,dd,dd,dd,dd,dd,dd,dd,dd,dd,dd,dd],[(84,(.box [.p (.int .u64) (.v 24),.p (.int .u32) (.v 25),.p (.int .i64) (.v 26),.p (.int .i64) (.v 27)])),(84,(.box [.p (.int .u64) (.i 0),.p (.int .u32) (.i 0),.p (.int .i64) (.i 0),.p (.int .i64) (.i 0)])),(12,(.box [.p (.int .i64) (.v 9),.p (.int .i64) (.v 10),.p (.int .i64) (.v 11),.p (.int .i64) (.v 12),.p .sl (.v 13),.p .sl (.v 14),.p .sl (.v 15),.p .sl (.v 16),.p .sl (.v 17),.p .sl (.v 18),.p .sl (.v 19),.p .sl (.v 20),.p (.int .i64) (.v 21),.p (.int .i64) (.v 22)])),(12,(.box [.p (.int .i64) (.i 0),.p (.int .i64) (.i 0),.p (.int .i64) (.i 0),.p (.int .i64) (.i 0),.nil,.nil,.nil,.nil,.nil,.nil,.nil,.nil,.p (.int .i64) (.i 0),.p (.int .i64) (.i 0)])),(0,(.box [.p (.int .u64) (.v 4)])),(1,(.box [.own 3])),(2,(.box [.p .sl (.v 3)])),(3,(.row 165 (.v 7)))],[],108,28⟩
theorem aoi:dG TT (ku F40 F112 F113 t40 t112 t113) AX false Hr=some (.op (.call t113 F113 [(.v 13),(.v 14),(.v 15),(.v 16),(.v 17),(.v 18),(.v 19),(.v 20),(.v 21),(.v 22),(.v 4)] 5 []) (.ar (.st .normal Ew))):=kr
def KS:ag:=⟨[dd,dd,dd,.v (.c (.ptr 0 0)),dd,.v (.c (.ptr 1 0)),di 8,.v (.c (.ptr 12 0)),.v (.c (.ptr 84 0)),.v (.c (.p .bool (.v 23))),dd,dd,dd,dd,dd,.v (.c (.fn 169 [2])),di 8,.v (.agg [.p (.int .i64) (.v 9),.p (.int .i64) (.v 10),.p (.int .i64) (.v 11),.p (.int .i64) (.v 12),.p .sl (.v 13),.p .sl (.v 14),.p .sl (.v 15),.p .sl (.v 16),.p .sl (.v 17),.p .sl (.v 18),.p .sl (.v 19),.p .sl (.v 20),.p (.int .i64) (.v 21),.p (.int .i64) (.v 22)]),.aj [.agg [.p (.int .u64) (.v 24),.p (.int .u32) (.v 25),.p (.int .i64) (.v 26),.p (.int .i64) (.v 27)],.c (.p .bool (.v 23))],.v (.c (.ptr 12 4)),.v (.agg [.p .sl (.v 13),.p .sl (.v 14),.p .sl (.v 15),.p .sl (.v 16),.p .sl (.v 17),.p .sl (.v 18),.p .sl (.v 19),.p .sl (.v 20),.p (.int .i64) (.v 21),.p (.int .i64) (.v 22)]),.v (.c (.p (.int .u64) (.v 4))),.aj [.agg [.p (.int .u64) (.v 24),.p (.int .u32) (.v 25),.p (.int .i64) (.v 26),.p (.int .i64) (.v 27)],.c (.p .bool (.v 23))],.v (.agg [.p (.int .u64) (.v 24),.p (.int .u32) (.v 25),.p (.int .i64) (.v 26),.p (.int .i64) (.v 27)]),.v (.c (.p .bool (.v 23))),.v (.c (.p .bool (.v 23))),dd,dd,dd,dd,dd,dd,dd,dd,dd,dd,dd,dd,dd,dd],[(84,(.box [.p (.int .u64) (.v 24),.p (.int .u32) (.v 25),.p (.int .i64) (.v 26),.p (.int .i64) (.v 27)])),(84,(.box [.p (.int .u64) (.i 0),.p (.int .u32) (.i 0),.p (.int .i64) (.i 0),.p (.int .i64) (.i 0)])),(12,(.box [.p (.int .i64) (.v 9),.p (.int .i64) (.v 10),.p (.int .i64) (.v 11),.p (.int .i64) (.v 12),.p .sl (.v 13),.p .sl (.v 14),.p .sl (.v 15),.p .sl (.v 16),.p .sl (.v 17),.p .sl (.v 18),.p .sl (.v 19),.p .sl (.v 20),.p (.int .i64) (.v 21),.p (.int .i64) (.v 22)])),(12,(.box [.p (.int .i64) (.i 0),.p (.int .i64) (.i 0),.p (.int .i64) (.i 0),.p (.int .i64) (.i 0),.nil,.nil,.nil,.nil,.nil,.nil,.nil,.nil,.p (.int .i64) (.i 0),.p (.int .i64) (.i 0)])),(0,(.box [.p (.int .u64) (.v 4)])),(1,(.box [.own 3])),(2,(.box [.p .sl (.v 3)])),(3,(.row 165 (.v 7)))],[],116,28⟩
theorem aFC:dG TT (ku F40 F112 F113 t40 t112 t113) Ba false Ew=some (.ar (.st .normal KS)):=kr
def Qb:ag:=⟨[dd,dd,dd,.v (.c (.ptr 0 0)),dd,.v (.c (.ptr 1 0)),di 8,.v (.c (.ptr 12 0)),.v (.c (.ptr 84 0)),.v (.c (.p .bool (.v 23))),dd,dd,dd,dd,dd,.v (.c (.fn 169 [2])),di 8,.v (.agg [.p (.int .i64) (.v 9),.p (.int .i64) (.v 10),.p (.int .i64) (.v 11),.p (.int .i64) (.v 12),.p .sl (.v 13),.p .sl (.v 14),.p .sl (.v 15),.p .sl (.v 16),.p .sl (.v 17),.p .sl (.v 18),.p .sl (.v 19),.p .sl (.v 20),.p (.int .i64) (.v 21),.p (.int .i64) (.v 22)]),.aj [.agg [.p (.int .u64) (.v 24),.p (.int .u32) (.v 25),.p (.int .i64) (.v 26),.p (.int .i64) (.v 27)],.c (.p .bool (.v 23))],.v (.c (.ptr 12 4)),.v (.agg [.p .sl (.v 13),.p .sl (.v 14),.p .sl (.v 15),.p .sl (.v 16),.p .sl (.v 17),.p .sl (.v 18),.p .sl (.v 19),.p .sl (.v 20),.p (.int .i64) (.v 21),.p (.int .i64) (.v 22)]),.v (.c (.p (.int .u64) (.v 4))),.aj [.agg [.p (.int .u64) (.v 24),.p (.int .u32) (.v 25),.p (.int .i64) (.v 26),.p (.int .i64) (.v 27)],.c (.p .bool (.v 23))],.v (.agg [.p (.int .u64) (.v 24),.p (.int .u32) (.v 25),.p (.int .i64) (.v 26),.p (.int .i64) (.v 27)]),.v (.c (.p .bool (.v 23))),.v (.c (.p .bool (.v 23))),dd,.v (.c (.ptr 12 0)),di 9,.v (.c (.ptr 12 2)),di 11,.v (.c (.ptr 12 1)),di 10,.v (.agg [.p (.int .u64) (.v 24),.p (.int .u32) (.v 25),.p (.int .i64) (.v 26),.p (.int .i64) (.v 27)]),.v (.agg [.p (.int .i64) (.v 9),.p (.int .i64) (.v 11),.p (.int .i64) (.v 10),.p (.int .u64) (.v 24),.p (.int .u32) (.v 25),.p (.int .i64) (.v 26),.p (.int .i64) (.v 27)]),di 8,.v (.agg [.p (.int .i64) (.v 9),.p (.int .i64) (.v 11),.p (.int .i64) (.v 10),.p (.int .u64) (.v 24),.p (.int .u32) (.v 25),.p (.int .i64) (.v 26),.p (.int .i64) (.v 27),.p (.int .i64) (.v 8)]),.v (.c (.own 204)),.v (.c (.own 212)),dd],[(1,(.box [.own 212])),(212,(.row 165 (.v 29))),(204,(.row 165 (.v 28))),(84,(.box [.p (.int .u64) (.v 24),.p (.int .u32) (.v 25),.p (.int .i64) (.v 26),.p (.int .i64) (.v 27)])),(84,(.box [.p (.int .u64) (.i 0),.p (.int .u32) (.i 0),.p (.int .i64) (.i 0),.p (.int .i64) (.i 0)])),(12,(.box [.p (.int .i64) (.v 9),.p (.int .i64) (.v 10),.p (.int .i64) (.v 11),.p (.int .i64) (.v 12),.p .sl (.v 13),.p .sl (.v 14),.p .sl (.v 15),.p .sl (.v 16),.p .sl (.v 17),.p .sl (.v 18),.p .sl (.v 19),.p .sl (.v 20),.p (.int .i64) (.v 21),.p (.int .i64) (.v 22)])),(12,(.box [.p (.int .i64) (.i 0),.p (.int .i64) (.i 0),.p (.int .i64) (.i 0),.p (.int .i64) (.i 0),.nil,.nil,.nil,.nil,.nil,.nil,.nil,.nil,.p (.int .i64) (.i 0),.p (.int .i64) (.i 0)])),(0,(.box [.p (.int .u64) (.v 4)])),(1,(.box [.dead])),(2,(.box [.p .sl (.v 3)]))],[],228,30⟩
theorem aAm:dG TT (ku F40 F112 F113 t40 t112 t113) B5 false KS=some (.op (.lit [[((.int .i64),(.v 9)),((.int .i64),(.v 11)),((.int .i64),(.v 10)),((.int .u64),(.v 24)),((.int .u32),(.v 25)),((.int .i64),(.v 26)),((.int .i64),(.v 27)),((.int .i64),(.v 8))]]) (.op (.app (.v 7) (.v 28) 8 64) (.ar (.st .normal Qb)))):=kr
def NQ:ag:=⟨[dd,dd,dd,.v (.c (.ptr 0 0)),.v (.c (.own 3)),.v (.c (.ptr 1 0)),dd,dd,dd,dd,dd,dd,dd,dd,dd,.v (.c (.fn 169 [2])),dd,dd,dd,dd,dd,dd,dd,dd,dd,dd,dd,dd,dd,dd,dd,dd,dd,dd,dd,dd,dd,dd,dd,.v (.c (.own 3))],[(0,(.box [.p (.int .u64) (.v 4)])),(1,(.box [.own 3])),(2,(.box [.p .sl (.v 3)])),(3,(.row 165 (.v 7)))],[],20,8⟩
theorem aqc:dG TT (ku F40 F112 F113 t40 t112 t113) zM false kS=some (.ar (.st .normal NQ)):=kr
def Dz:ag:=⟨(List.replicate 40 (.v (.c .dead))).set 4 (.v (.c (.own 0))),[(0,.row 165 (.v 5))],[],1,6⟩
theorem aEu:jmp TT 0 7 kS 0 .normal HB=some (.ar (.jump 0 [.r0])):=kr
theorem alN:jmp TT 3 7 kS 0 .normal KS=some (.ar (.jump 0 [.v 7])):=kr
theorem atc:jmp TT 3 7 kS 0 .normal Qb=some (.ar (.jump 0 [.v 29])):=kr
theorem aBE:jmp TT 0 5 Dz 0 .normal FA=some (.ar (.jump 0 [.r0])):=kr
theorem arN:jmp TT 0 5 Dz 0 .normal NQ=some (.ar (.jump 0 [.v 7])):=kr
end
end
section
open Go.RowKit
open Classical
def JR (P:aQ) (rs:List ResultVar) (r:V) (H':Hp) (X:Fx) (e:Exit) (a':Act) (w':av):Prop:=
 (e= .normal∨e= .ret)∧∃st' D,Told {X with D:=D} st' a' w'∧sV P rs st'=some r∧(∀n b,H'.lookup n=some b→st'.heap.lookup n=some b)∧
  (D=[]∨∃d,D=[{target:= .collected d,args:= #[]}]∧X.w0.heap.size≤d∧w'.heap[d]? =some (.deferred (some [])))
theorem eI.Uu {P:aQ} {f:FuncId} {fn:Func} {c:Code} (hf:P.funcs[f]? =some fn) (hname:(fn.name== "runtime.NumGoroutine")=false) (hb:fn.body=some c) {n:Nat} (hn:fn.ntmps=n) {rs:List ResultVar} (jB:fn.results=rs.toArray) {args:List V1} {H:List cO} {r:V} {H':Hp}
  (h:∀X:Fx,X.P=P→X.k0=H.length→X.D=[]→∀a w,Told X (mN n args H) a w→c.wp P (JR P rs r H' X) a w):eI P f args H r H' := {
 own:=⟨fn,hf,hname,by rw[hb];rfl⟩
 call :=fun w M N vals hM rD mI nL hH bj hv=>by
  subst hn;have RI:rs=fn.results.toList:=by rw[jB]
  subst RI
  let X:Fx:=⟨P,M,fun g=>∃n x,N n=some x∧x.g=some g,w,N,H.length,[]⟩
  refine(callsIn_wide (n:=0)).1 (callsIn_of_wp_marks hf hb trivial (wpIn_wide.2 (wp_mono (h X rfl rfl rfl _ w ?_) ?_)) rfl)
  · refine ⟨⟨N,[]⟩,?_,rfl⟩;exact {
      defers:=rfl
      ao:=rfl
      frame:=Frame.refl _ _
      mlt:=hM
      cR:=rD
      names:=fun n x g h1 h2=> ⟨(mI n x g h1 h2).1,.inl ⟨n,x,h1,h2⟩,(mI n x g h1 h2).2⟩
      inj:=nL
      dw:=fun _ _=> .inr rfl
      fh:=cT _
      fe:=fun n hn=>by cases hn
      size:=by simp[mN,bj]
      tmps:=fun i v hi=>by
        simp only[mN]at hi;rw[ki]at hi;simp only[ax]at hi;split at hi
        · rename_i hlt;simp only[bO,aW]at hi;obtain⟨x,hx,rfl⟩:=hi;obtain⟨u,h1,h2⟩:=hv i x hx;exact⟨u,by rw[oU,au (by rw[bj];exact hlt)];exact h1,h2⟩
        · rename_i hlt;rw[aiF]at hi;split at hi
          · rename_i oG;simp at hi;subst hi;exact⟨undef,by simp only[oU,bj,hlt,if_false,SL,oG,if_true],OB _ _ _⟩
          · cases hi
      heap:=fun n b hl=>by
        simp only[mN,aaN]at hl;exact .inr (hH n b hl)}
  · rintro e a' w' ⟨he,st',D,⟨E,hR,hg⟩,hr,RJ,hD⟩;have key:∀w'',Rel {X with D:=D} E st' a' w''→∃u,(results fn a'.tmps).run P w''= .ok u w''∧∃(v:aD) (E':Env),Ending.returned u= .returned v∧Frame X.K w w''∧Cu N H.length w w'' E'∧(∀n b,H'.lookup n=some b→RB P M E' w'' n b)∧RV M E' w'' r v:=fun w'' hR=>by
      obtain⟨u,h1,h2⟩:=WX (X:={X with D:=D}) hR hg hr;exact⟨u,h1,u,E,rfl,hR.frame,{ao:=hR.ao.trans hg,names:=fun n x g k1 k2=> ⟨(hR.names n x g k1 k2).1,(hR.names n x g k1 k2).2.1⟩,inj:=hR.inj,dw:=hR.dw},fun n b hl=>hR.row (by rw[hg];simp) (RJ n b hl),h2⟩
    have fin:LeavesInM Fence.wide 0 P fn a'.tmps (fun e w'=>∃(v:aD) (E':Env),e= .returned v∧Frame X.K w w'∧Cu N H.length w w' E'∧(∀n b,H'.lookup n=some b→RB P M E' w' n b)∧RV M E' w' r v) a'.defers .returning w':=by
      have hd:a'.defers=D:=hR.defers;rw[hd];rcases hD with rfl| ⟨d,rfl,R4,hdd⟩
      · exact key w' hR
      · refine⟨by simp,.inl ⟨d,_,rfl,run_takeDeferred hdd,?_⟩⟩;refine key _ (hR.other rfl rfl rfl (by simp) fun g o ho hi=> ?_);refine World.putObj_heap_other fun hgd=> ?_
        subst hgd;rw[hdd]at ho;cases ho;rcases hi with hi|hi| ⟨_,_,hi⟩
        · have:X.w0.heap.size≤g:=R4;have:g<X.w0.heap.size:=hi;omega
        · cases hi
        · cases hi
    rcases he with rfl|rfl
    · exact fin
    · exact fin
 }
def Fx.base (X:Fx) (E:Env) (w:av):Fx:=⟨X.P,X.M,fun g=>∃n x,E.N n=some x∧x.g=some g,w,X.N0,X.k0,X.D⟩
theorem Rel.agR {X:Fx} {E:Env} {st:ak} {a:Act} {w:av} (h:Rel X E st a w):Rel (X.base E w) E st a w:={
 defers:=h.defers
 ao:=h.ao
 frame:=Frame.refl _ _
 mlt:=fun g hg=>nP (h.mlt g hg) h.frame.size
 cR:=h.cR
 names:=fun n x g h1 h2=> ⟨(h.names n x g h1 h2).1,.inl ⟨n,x,h1,h2⟩,(h.names n x g h1 h2).2.2⟩
 inj:=h.inj
 dw:=h.dw
 fh:=h.fh
 fe:=h.fe
 size:=h.size
 tmps:=h.tmps
 heap:=h.heap}
theorem Rel.Xz {X:Fx} {E E':Env} {st st':ak} {a a':Act} {w w':av} (h:Rel X E st a w) (k:Rel (X.base E w) E' st' a' w'):Rel X E' st' a' w':={
 defers:=k.defers
 ao:=k.ao
 frame:=h.frame.trans k.frame fun g hg ⟨n,x,h1,h2⟩=> (h.names n x g h1 h2).2.1.resolve_right om
 mlt:=h.mlt
 cR:=k.cR
 names:=fun n x g h1 h2=> ⟨(k.names n x g h1 h2).1,(by
  rcases(k.names n x g h1 h2).2.1 with⟨m,y,q1,q2⟩|q
  · exact(h.names m y g q1 q2).2.1
  · exact .inr (uf h.frame.size q)),(k.names n x g h1 h2).2.2⟩
 inj:=k.inj
 dw:=k.dw
 fh:=k.fh
 fe:=k.fe
 size:=k.size
 tmps:=k.tmps
 heap:=k.heap}
def Env.off (E:Env) (S:List Nat):Prop:=∀n x g,E.N n=some x→x.g=some g→g∉S
theorem Rel.TC {X:Fx} {E E':Env} {st st':ak} {a a':Act} {w w':av} {S:List Nat} (h:Rel X E st a w) (k:Rel (X.base E w) E' st' a' w') (hS:E.off S) (hl:∀g∈S,g<w.heap.size):
   E'.off S∧(∀g∈S,w'.heap[g]? =w.heap[g]?)∧w.heap.size≤w'.heap.size:=by
 refine⟨fun n x g h1 h2 hg=> ?_,fun g hg=>k.frame.block g (hl g hg) fun ⟨n,x,h1,h2⟩=>hS n x g h1 h2 hg,k.frame.size⟩;rcases(k.names n x g h1 h2).2.1 with⟨m,y,q1,q2⟩|q
 · exact hS m y g q1 q2 hg
 · have:=hl g hg;have:w.heap.size≤g:=q;omega
theorem Eb {l n:Nat} {X:Fx} {c:Code} {Q:Exit→ak→Prop} {st:ak} (hA:∀X':Fx,X'.P=X.P→X'.k0=X.k0→ij l n X' c Q st) {E:Env} {a:Act} {w:av} (h:Rel X E st a w) (hg:st.ao=[]) {S:List Nat} (hS:E.off S) (hl:∀g∈S,g<w.heap.size):
  c.wpIn (Fence.wide.inRound l) n X.P (fun e a' w'=>∃st' E',Q e st'∧st'.ao=[]∧Rel X E' st' a' w'∧E'.off S∧(∀g∈S,w'.heap[g]? =w.heap[g]?)∧w.heap.size≤w'.heap.size) a w:=by
 refine wpIn_mono (hA (X.base E w) rfl rfl a w ⟨E,h.agR,hg⟩) ?_;rintro e a' w' ⟨st',h1,E',h2,h3⟩;exact⟨st',E',h1,h3,h.Xz h2,h.TC h2 hS hl⟩
theorem seg {X:Fx} {c:Code} {Q:Exit→ak→Prop} {st:ak} (hA:∀X':Fx,X'.P=X.P→X'.k0=X.k0→Aw X' c Q st) {E:Env} {a:Act} {w:av} (h:Rel X E st a w) (hg:st.ao=[]) {S:List Nat} (hS:E.off S) (hl:∀g∈S,g<w.heap.size):
  c.wp X.P (fun e a' w'=>∃st' E',Q e st'∧st'.ao=[]∧Rel X E' st' a' w'∧E'.off S∧(∀g∈S,w'.heap[g]? =w.heap[g]?)∧w.heap.size≤w'.heap.size) a w:=by
 refine wp_mono (hA (X.base E w) rfl rfl a w ⟨E,h.agR,hg⟩) ?_;rintro e a' w' ⟨st',h1,E',h2,h3⟩;exact⟨st',E',h1,h3,h.Xz h2,h.TC h2 hS hl⟩
theorem Oz {l n:Nat} {X:Fx} {c:Code} {Q:Exit→ak→Prop} {st:ak} (h:ij l n X c (fun e st=>∃st',Le X st st'∧Q e st') st):ij l n X c Q st:=fun a w ht=>by
 refine wpIn_mono (h a w ht) ?_;rintro e a' w' ⟨st',⟨wj,h1,h2⟩,h3⟩;exact⟨wj,h2,h1 a' w' h3⟩
def V.Er (k:Nat):V→Bool
 | .v (.c .dead)=>true
 | .v (.c (.ptr n _))=>decide (n<k)
 | .v (.c (.fn _ cQ))=>cQ.all fun n=>decide (n<k)
 |_=>false
theorem Rel.again {X:Fx} {E0 E:Env} {st0 st:ak} {a0 a:Act} {w0 w:av} (h0:Rel X E0 st0 a0 w0) (h:Rel X E st a w) (hN:∀m,m<X.k0→E0.N m=X.N0 m) (hg0:st0.ao=[]) (hg:st.ao=[]) (hst:st.tmps=st0.tmps) (hp:st0.tmps.all (V.Er X.k0)=true):Rel X E st a0 w:={
 defers:=h0.defers
 ao:=h.ao
 frame:=h.frame
 mlt:=h.mlt
 cR:=h.cR
 names:=h.names
 inj:=h.inj
 dw:=h.dw
 fh:=h.fh
 fe:=h.fe
 size:=by rw[hst];exact h0.size
 heap:=h.heap
 tmps:=fun i v hi=>by
  obtain⟨u,h1,h2⟩:=h.tmps i v hi;rw[hst]at hi;obtain⟨u0,h3,h4⟩:=h0.tmps i v hi;refine⟨u0,h3,?_⟩;have hv:=bk.1 hp v (cH hi);have name:∀n (Q:Nm→Prop) (Q':Nm→Prop),n<X.k0→bT E0 n Q→bT E n Q'→bT E n Q:=fun n Q Q' hn hq hq'=>by
   obtain⟨x,k1,k2⟩:=bT.get hq (by rw[h0.ao,hg0];simp);obtain⟨x',k3,_⟩:=bT.get hq' (by rw[h.ao,hg];simp);refine .inr ⟨x,?_,k2⟩;rcases h.dw n hn with k4|k4
   · rw[k4]at k3;cases k3
   · rw[k4,←hN n hn,k1]
  cases v with
  |aj=>cases hv
  |v x=>
   cases x with
   |agg=>cases hv
   | c c=>
     cases c<;>first
       |trivial
       | (cases hv;done)
       |skip
     · rename_i n off;exact name n _ _ (by simpa[V.Er]using hv) h4 h2
     · rename_i f cQ;obtain⟨us,q1,q2,q3⟩:=h4;obtain⟨pJ,_,_,q6⟩:=h2;refine⟨us,q1,q2,fun j n hj=> ?_⟩;obtain⟨u,k1,k2⟩:=q3 j n hj;obtain⟨u',k3,k4⟩:=q6 j n hj;refine⟨u,k1,name n _ _ ?_ k2 k4⟩;have:=bk.1 (show cQ.all (fun n=>decide (n<X.k0))=true from hv) n (cH hj);simpa using this}
theorem piece {C:cm} (hC:cm.ok Tryz.prog C) {c:Code} {k0 n r:Nat} {ex:List (Nat×Nat)} {S S':ag} {u:ad} {ρ ρ':List L} {e:Ex} (h:exec TT C k0 c n ex r S=some u) (hg:S.ao=[]) (hl:ρ.length=S.nv) (hd:u.aa ρ=some (.st e S',ρ')) {X:Fx} (hP:X.P=Tryz.prog) (hk:X.k0=k0):
  S'.ao=[]∧S'.nv=ρ'.length∧Aw X c (fun e' st=>e'=e.to∧st=S'.aa ρ') (S.aa ρ):=by
 obtain⟨e1,S1,h1,h2,h3,h4,h5⟩:=mh iU hC AB c hg h ρ _ ρ' hl hd;cases h1;exact⟨h4,h2,h5 X hP hk _ ⟨rfl,rfl⟩⟩
theorem qo {C:cm} (hC:cm.ok Tryz.prog C) {id:Nat} {ops:Array Oper} (tT:xD ops=true) {S S':ag} {u:ad} {ρ ρ':List L} {e:Ex} (h:dG TT C ops false S=some u) (hl:ρ.length=S.nv) (hd:u.aa ρ=some (.st e S',ρ')) {X:Fx} (hP:X.P=Tryz.prog) {l n:Nat} {Q:Exit→ak→Prop} (hQ:Q .normal (S'.aa ρ')):
  ij l n X (.region id ops false) Q (S.aa ρ):=by
 obtain⟨S1,h1,h2,h3,h4,h5⟩:=aDp (k0:=0) (id:=id) iU hC tT h hl hd (l:=l) (n:=n);cases h1;exact h5 X hP _ hQ
end
end
end Go.Proofs.YtndegphojkiblaaGreatDoor
