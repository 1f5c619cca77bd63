/- Towards the last file's theorem: part 28. -/
import Derived.Test.YtndegphojkiblaaGreatDoorG27
set_option linter.all false
set_option maxHeartbeats 4000000
set_option maxRecDepth 100000
namespace Go.Proofs.YtndegphojkiblaaGreatDoor
noncomputable section
section
open Go.RowKit Pl AI
open Classical
attribute [local irreducible] ad.wp
theorem G3:∀{f:Nat} {c:List Nat} {acc:List It},c.length<f→(∃l:List It,dec f c acc=[.i 0,.r (l.map aU)]∧VL l∧l.length≤acc.length+c.length)∨∃e:Int,e≠0∧dec f c acc=[.i e,.r []]
 |0,_,_,h=>om
 |f+1,c,acc,h=>by
  rw[dec];split
  · split
    · exact .inl ⟨acc,rfl,by assumption,om⟩
    · exact .inr ⟨3,dc,rfl⟩
  · split
    · exact .inr ⟨4,dc,rfl⟩
    · split
      · exact .inr ⟨5,dc,rfl⟩
      · have hd:(c.drop 24).length=c.length-24:=fw;rcases G3 (f:=f) (c:=c.drop 24) (acc:=acc++ [yP c]) om with⟨l,h1,h2,h3⟩|h1
        · refine .inl ⟨l,h1,h2,?_⟩;rw[dL]at h3;simp only[um]at h3;omega
        · exact .inr h1
def ba (b:List Nat) (a c:Nat):List Nat:=(b.take c).drop a
theorem B8.cut {b:List Nat} (h:B8 b) (a c:Nat):B8 (ba b a c):=(h.take c).drop a
theorem sA (b:List Nat) (a c:Nat):(ba b a c).length≤b.length:=by unfold ba;rw[fw,dX];omega
def c9 (b:List Nat) (k:Nat):Int:=IntKind.wrap .u32 ((val (ba b (20+4*k) (24+4*k))).toNat:Int)
theorem wrap32 (v:BitVec 64):IntKind.wrap .u32 v.toInt=IntKind.wrap .u32 (v.toNat:Int):=by
 simp only[IntKind.wrap,IntKind.bits,IntKind.signed,BitVec.toInt_eq_toNat_bmod,Int.bmod];simp only[Bool.false_and,lP,if_false];have:=v.isLt;split<;>omega
def fU (b:List Nat) (k i:Nat):Int:=if k<i then c9 b k else 0
def ov (e:Int):List L:=[.i e,.i 0,.i 0,.i 0,.i 0,.i 0,.i 0,.i 0,.i 0,.i 0,.i 0,.r []]
def xO (b:List Nat):Int:=IntKind.wrap .i64 (52+IntKind.wrap .i64 (24*(val (ba b 44 48)).toInt))
noncomputable def pt (b:List Nat):List L:=
 if b.length<52 then ov 4 else if ba b 0 4≠ [78,73,68,88]then ov 3 else if(b.length:Int)<xO b then ov 4 else if xO b<b.length then ov 3 else
 if dN (ba b 0 (b.length-4))≠ba b (b.length-4) b.length then ov 5 else
 match dec ((ba b 48 (b.length-4)).length+1) (ba b 48 (b.length-4)) []with
 |[.i e,.r rows]=>if e≠0 then ov e else if∃l:List It,rows=l.map aU∧jo (val (ba b 4 6)).toInt (val (ba b 6 8)).toInt (val (ba b 8 12)).toInt (val (ba b 12 20)).toInt l then
  [.i 0,.i (val (ba b 4 6)).toInt,.i (val (ba b 6 8)).toInt,.i (val (ba b 8 12)).toInt,.i (val (ba b 12 20)).toInt,.i (c9 b 0),.i (c9 b 1),.i (c9 b 2),.i (c9 b 3),.i (c9 b 4),.i (c9 b 5),.r rows]else ov 3
 |_=> []
theorem Xg:∀{l m:List It},l.map aU=m.map aU→l=m
 |[],[],_=>rfl
 |[],_::_,h=>by simp at h
 |_::_,[],h=>by simp at h
 |a::l,b::m,h=>by
  simp only[bC,IQ]at h;rw[Xg h.2];have h1:=h.1;simp only[aU,IQ,PV.sc.injEq,Value.int.injEq,true_and,and_true]at h1;obtain⟨a1,a2,a3,a4⟩:=a;obtain⟨c1,c2,c3,c4⟩:=b;simp only at h1;obtain⟨rfl,rfl,rfl,rfl⟩:=h1;rfl
theorem acV {a g r n:Int} {l:List It}:(∃m:List It,l.map aU=m.map aU∧jo a g r n m) ↔ jo a g r n l:=⟨fun ⟨m,h1,h2⟩=>by rw[Xg h1];exact h2,fun h=> ⟨l,rfl,h⟩⟩
theorem auC (b:List Nat) (hb:B8 b) (h52:52≤b.length) (hl:b.length≤4294967296):K6 [.r (b.map b1)]=some [.i (val (ba b 4 6)).toInt,.i (val (ba b 6 8)).toInt,.i (val (ba b 8 12)).toInt,.i (val (ba b 12 20)).toInt,.i (c9 b 0),.i (c9 b 1),.i (c9 b 2),.i (c9 b 3),.i (c9 b 4),.i (c9 b 5)]:=by
 have hlen:∀a c,(ba b a c).length≤4294967296:=fun a c=>by have:=sA b a c;omega
 refine a_ ?_;unfold Xs;refine uR ?_;refine cM (a:=4) (c:=6) rfl rfl rfl om om (nW ?_);refine ay (xY (ba b 4 6) (hb.cut _ _) (hlen _ _)) rfl rfl (uR ?_);refine cM (a:=6) (c:=8) rfl rfl rfl om om (nW ?_);refine ay (xY (ba b 6 8) (hb.cut _ _) (hlen _ _)) rfl rfl (uR ?_);refine cM (a:=8) (c:=12) rfl rfl rfl om om (nW ?_);refine ay (xY (ba b 8 12) (hb.cut _ _) (hlen _ _)) rfl rfl (uR ?_);refine cM (a:=12) (c:=20) rfl rfl rfl om om (nW ?_);refine ay (xY (ba b 12 20) (hb.cut _ _) (hlen _ _)) rfl rfl (nW ?_);refine aH (fun xs=>xs=[.i (c9 b 0),.i (c9 b 1),.i (c9 b 2),.i (c9 b 3),.i (c9 b 4),.i (c9 b 5)]) ?_ ?_;rotate_left
 · rintro _ rfl;refine nW ?_;exact ae rfl
 refine wp_loop (I:=fun a=>∃i:Nat,a=[.i i,.i (fU b 0 i),.i (fU b 1 i),.i (fU b 2 i),.i (fU b 3 i),.i (fU b 4 i),.i (fU b 5 i)]∧i≤6) (mu:=fun a=>match a with| .i i::_=>6-i.toNat|_=>0) ⟨0,rfl,om⟩ ?_;rintro a ⟨i,rfl,e1⟩;refine uR ?_;refine aP rfl (fun hc=> ?_) (fun hc=> ?_);rotate_left
 · obtain rfl:i=6:=om;exact ae rfl
 refine aH (fun xs=>xs=[.i i,.i (fU b 0 (i+1)),.i (fU b 1 (i+1)),.i (fU b 2 (i+1)),.i (fU b 3 (i+1)),.i (fU b 4 (i+1)),.i (fU b 5 (i+1))]) ?_ ?_;rotate_left
 · rintro _ rfl;refine nW ?_;refine bP (i:=i) rfl om (nW ?_);refine ae ⟨⟨i+1,rfl,om⟩,?_⟩;show 6- ((i+1:Nat):Int).toNat<6-i;omega
 refine kY (n:=((4*i:Nat):Int)) oO om om (nW ?_);refine dt (n:=((20+4*i:Nat):Int)) oO om om (nW ?_);refine dt (n:=((24+4*i:Nat):Int)) oO om om (uR ?_);refine cM (a:=20+4*i) (c:=24+4*i) rfl rfl rfl om om (nW ?_);refine ay (xY (ba b (20+4*i) (24+4*i)) (hb.cut _ _) (hlen _ _)) rfl rfl (nW ?_);refine ra (n:=c9 b i) (wrap32 _) (nW ?_);have hi:i=0∨i=1∨i=2∨i=3∨i=4∨i=5:=om;rcases hi with rfl|rfl|rfl|rfl|rfl|rfl<;>
   (repeat (first| (refine iy rfl dc ?_)| (refine cJ rfl dc ?_)| (refine sT rfl ?_;try dsimp only[At.ev,d1,d2,d3,d4,d5,d6,d7,d8,d9,e0,List.map,bp,Kd.pv])))<;>exact ae rfl
theorem aBz (b:List Nat) (hb:B8 b) (hl:b.length≤4294967296):MM [.r (b.map b1)]=some (pt b):=by
 have hlen:∀a c,(ba b a c).length≤4294967296:=fun a c=>by have:=sA b a c;omega
 obtain⟨o,ho⟩:∃o,pt b=o:=⟨_,rfl⟩
 rw[ho];unfold pt at ho;refine a_ ?_;unfold V3;refine uR ?_;refine aP rfl (fun h1=> ?_) (fun h1=> ?_)
 · rw[ax]at h1;rw[au om]at ho;refine ae ?_;exact ho
 rw[ax]at h1;rw[aE om]at ho;refine uR ?_;refine cM (a:=0) (c:=4) rfl rfl rfl om om (nW ?_);refine pw rfl (nW ?_);obtain⟨t,ht⟩:=du (ba b 0 4≠ [78,73,68,88]);refine BK (a:=ba b 0 4) (b:=[78,73,68,88]) rfl (by rfl) (hb.cut _ _) (by unfold B8;decide) ht (nW ?_);refine bg (fun h2=> ?_) (fun h2=> ?_)
 · rw[au (ht.1 h2)]at ho;refine ae ?_;exact ho
 have h2:t=false:=h2;rw[aE fun h=>by rw[ht.2 h]at h2;cases h2]at ho;refine uR ?_;refine cM (a:=44) (c:=48) rfl rfl rfl om om (nW ?_);refine ay (xY (ba b 44 48) (hb.cut _ _) (hlen _ _)) rfl rfl (nW ?_);refine b5 (l:= .i (IntKind.wrap .i64 (24*(val (ba b 44 48)).toInt))) rfl (nW ?_);refine b5 (l:= .i (xO b)) rfl (uR ?_);refine gY (n:=((b.length-4:Nat):Int)) (by show((b.map b1).length:Int) -4=_;rw[ax];omega) om om (uR ?_);refine aP rfl (fun h3=> ?_) (fun h3=> ?_)
 · rw[ax]at h3;rw[au h3]at ho;refine ae ?_;exact ho
 rw[ax]at h3;rw[aE h3]at ho;refine uR ?_;refine aP rfl (fun h4=> ?_) (fun h4=> ?_)
 · rw[ax]at h4;rw[au h4]at ho;refine ae ?_;exact ho
 rw[ax]at h4;rw[aE h4]at ho;refine uR ?_;refine cM (a:=0) (c:=b.length-4) rfl rfl rfl om om (nW ?_);refine ay (Tl (ba b 0 (b.length-4)) (hlen _ _)) rfl rfl (uR ?_);refine cM (a:=b.length-4) (c:=b.length) rfl rfl (by show((b.map b1).length:Int)=_;rw[ax]) om om (nW ?_);obtain⟨u,hu⟩:=du (dN (ba b 0 (b.length-4))=ba b (b.length-4) b.length);refine ay (LB _ (ba b (b.length-4) b.length) (xZ _) (hb.cut _ _) (by show 4≤_;omega) hu) rfl rfl (uR ?_);refine bg (fun h5=> ?_) (fun h5=> ?_)
 · have h5:(!u)=true:=h5;rw[au fun h=>by rw[hu.2 h]at h5;cases h5]at ho;refine ae ?_;exact ho
 have h5:(!u)=false:=h5;rw[aE (gP.2 (hu.1 (by simpa using h5)))]at ho;refine uR ?_;refine cM (a:=48) (c:=b.length-4) rfl rfl rfl om om (nW ?_);have hd:=atz (ba b 48 (b.length-4)) (hb.cut _ _) (hlen _ _);have pN:=sA b 48 (b.length-4);rcases G3 (f:=(ba b 48 (b.length-4)).length+1) (c:=ba b 48 (b.length-4)) (acc:=[]) om with⟨l,eE,hl2,kh⟩| ⟨e,he,eE⟩
 · rw[eE]at hd ho;simp only[ne_eq,not_true_eq_false,if_false]at ho;rw[acV]at ho;refine ay hd rfl rfl (uR ?_);refine cJ rfl dc ?_;refine ay (auC b hb om hl) rfl rfl (nW ?_);obtain⟨v,hv⟩:=du (jo (val (ba b 4 6)).toInt (val (ba b 6 8)).toInt (val (ba b 8 12)).toInt (val (ba b 12 20)).toInt l);refine ay (aeu _ _ _ _ (.i (c9 b 0)) (.i (c9 b 1)) (.i (c9 b 2)) (.i (c9 b 3)) (.i (c9 b 4)) (.i (c9 b 5)) l (by simp only[oT]at kh;omega) hv) rfl rfl (uR ?_);refine bg (fun h6=> ?_) (fun h6=> ?_)
   · have h6:(!v)=true:=h6;rw[aE fun h=>by rw[hv.2 h]at h6;cases h6]at ho;refine ae ?_;exact ho
   · have h6:(!v)=false:=h6;rw[au (hv.1 (by simpa using h6))]at ho;refine ae ?_;exact ho
 · rw[eE]at hd ho;simp only[ne_eq,he,not_false_eq_true,if_true]at ho;refine ay hd rfl rfl (uR ?_);refine iy rfl he ?_;refine ae ?_;exact ho
theorem aDo (b:List Nat) (hb:B8 b) (hl:b.length≤4294967296):Jk [.r (b.map b1)]=some (pt b):=by
 have hlen:∀a c,(ba b a c).length≤4294967296:=fun a c=>by have:=sA b a c;omega
 obtain⟨o,ho⟩:∃o,pt b=o:=⟨_,rfl⟩
 rw[ho];unfold pt at ho;refine a_ ?_;unfold abW;refine uR ?_;refine aP rfl (fun h1=> ?_) (fun h1=> ?_)
 · rw[ax]at h1;rw[au om]at ho;refine ae ?_;exact ho
 rw[ax]at h1;rw[aE om]at ho;refine uR ?_;refine cM (a:=0) (c:=4) rfl rfl rfl om om (nW ?_);refine pw rfl (nW ?_);obtain⟨t,ht⟩:=du (ba b 0 4≠ [78,73,68,88]);refine BK (a:=ba b 0 4) (b:=[78,73,68,88]) rfl (by rfl) (hb.cut _ _) (by unfold B8;decide) ht (nW ?_);refine bg (fun h2=> ?_) (fun h2=> ?_)
 · rw[au (ht.1 h2)]at ho;refine ae ?_;exact ho
 have h2:t=false:=h2;rw[aE fun h=>by rw[ht.2 h]at h2;cases h2]at ho;refine uR ?_;refine cM (a:=44) (c:=48) rfl rfl rfl om om (nW ?_);refine ay (me (ba b 44 48) (hb.cut _ _) (hlen _ _)) rfl rfl (nW ?_);refine qq rfl (nW ?_);refine b5 (l:= .i (IntKind.wrap .i64 (24*(val (ba b 44 48)).toInt))) rfl (nW ?_);refine b5 (l:= .i (xO b)) rfl (uR ?_);refine aP rfl (fun h3=> ?_) (fun h3=> ?_)
 · rw[ax]at h3;rw[au h3]at ho;refine ae ?_;exact ho
 rw[ax]at h3;rw[aE h3]at ho;refine uR ?_;refine aP rfl (fun h4=> ?_) (fun h4=> ?_)
 · rw[ax]at h4;rw[au h4]at ho;refine ae ?_;exact ho
 rw[ax]at h4;rw[aE h4]at ho;refine gY (n:=((b.length-4:Nat):Int)) (by show((b.map b1).length:Int) -4=_;rw[ax];omega) om om (uR ?_);refine cM (a:=0) (c:=b.length-4) rfl rfl rfl om om (nW ?_);refine ay (P6 (ba b 0 (b.length-4)) (hlen _ _)) rfl rfl (nW ?_);refine pw rfl (nW ?_);refine gY (n:=((b.length-4:Nat):Int)) (by show((b.map b1).length:Int) -4=_;rw[ax];omega) om om (uR ?_);refine cM (a:=b.length-4) (c:=b.length) rfl rfl (by show((b.map b1).length:Int)=_;rw[ax]) om om (nW ?_);refine pw rfl (nW ?_);obtain⟨u,hu⟩:=du (dN (ba b 0 (b.length-4))≠ba b (b.length-4) b.length);refine BK (a:=dN (ba b 0 (b.length-4))) (b:=ba b (b.length-4) b.length) rfl rfl (xZ _) (hb.cut _ _) hu (nW ?_);refine bg (fun h5=> ?_) (fun h5=> ?_)
 · rw[au (hu.1 h5)]at ho;refine ae ?_;exact ho
 have h5:u=false:=h5;rw[aE fun h=>by rw[hu.2 h]at h5;cases h5]at ho;refine gY (n:=((b.length-4:Nat):Int)) (by show((b.map b1).length:Int) -4=_;rw[ax];omega) om om (uR ?_);refine cM (a:=48) (c:=b.length-4) rfl rfl rfl om om (nW ?_);have hd:=apT (ba b 48 (b.length-4)) (hb.cut _ _) (hlen _ _);have pN:=sA b 48 (b.length-4);rcases G3 (f:=(ba b 48 (b.length-4)).length+1) (c:=ba b 48 (b.length-4)) (acc:=[]) om with⟨l,eE,hl2,kh⟩| ⟨e,he,eE⟩
 rotate_left
 · rw[eE]at hd ho;simp only[ne_eq,he,not_false_eq_true,if_true]at ho;refine ay hd rfl rfl (uR ?_);refine iy rfl he ?_;refine ae ?_;exact ho
 rw[eE]at hd ho;simp only[ne_eq,not_true_eq_false,if_false]at ho;rw[acV]at ho;refine ay hd rfl rfl (uR ?_);refine cJ rfl dc (uR ?_);refine cM (a:=4) (c:=6) rfl rfl rfl om om (nW ?_);refine ay (me (ba b 4 6) (hb.cut _ _) (hlen _ _)) rfl rfl (nW ?_);refine qq rfl (uR ?_);refine cM (a:=6) (c:=8) rfl rfl rfl om om (nW ?_);refine ay (me (ba b 6 8) (hb.cut _ _) (hlen _ _)) rfl rfl (nW ?_);refine qq rfl (uR ?_);refine cM (a:=8) (c:=12) rfl rfl rfl om om (nW ?_);refine ay (me (ba b 8 12) (hb.cut _ _) (hlen _ _)) rfl rfl (nW ?_);refine qq rfl (uR ?_);refine cM (a:=12) (c:=20) rfl rfl rfl om om (nW ?_);refine ay (me (ba b 12 20) (hb.cut _ _) (hlen _ _)) rfl rfl (nW ?_);refine qq rfl (nW ?_);refine aH (fun xs=>xs=[.i (c9 b 0),.i (c9 b 1),.i (c9 b 2),.i (c9 b 3),.i (c9 b 4),.i (c9 b 5)]) ?_ ?_;rotate_left
 · rintro _ rfl;refine nW ?_;obtain⟨v,hv⟩:=du (jo (val (ba b 4 6)).toInt (val (ba b 6 8)).toInt (val (ba b 8 12)).toInt (val (ba b 12 20)).toInt l);refine ay (apu _ _ _ _ (.i (c9 b 0)) (.i (c9 b 1)) (.i (c9 b 2)) (.i (c9 b 3)) (.i (c9 b 4)) (.i (c9 b 5)) l (by simp only[oT]at kh;omega) hv) rfl rfl (uR ?_);refine bg (fun h6=> ?_) (fun h6=> ?_)
   · have h6:(!v)=true:=h6;rw[aE fun h=>by rw[hv.2 h]at h6;cases h6]at ho;refine ae ?_;exact ho
   · have h6:(!v)=false:=h6;rw[au (hv.1 (by simpa using h6))]at ho;refine ae ?_;exact ho
 refine wp_loop (I:=fun a=>∃i:Nat,a=[.i i,.i (fU b 0 i),.i (fU b 1 i),.i (fU b 2 i),.i (fU b 3 i),.i (fU b 4 i),.i (fU b 5 i)]∧i≤6) (mu:=fun a=>match a with| .i i::_=>6-i.toNat|_=>0) ⟨0,rfl,om⟩ ?_;rintro a ⟨i,rfl,e1⟩;refine uR ?_;refine aP rfl (fun hc=> ?_) (fun hc=> ?_);rotate_left
 · obtain rfl:i=6:=om;exact ae rfl
 refine aH (fun xs=>xs=[.i i,.i (fU b 0 (i+1)),.i (fU b 1 (i+1)),.i (fU b 2 (i+1)),.i (fU b 3 (i+1)),.i (fU b 4 (i+1)),.i (fU b 5 (i+1))]) ?_ ?_;rotate_left
 · rintro _ rfl;refine nW ?_;refine bP (i:=i) rfl om (nW ?_);refine ae ⟨⟨i+1,rfl,om⟩,?_⟩;show 6- ((i+1:Nat):Int).toNat<6-i;omega
 refine kY (n:=((4*i:Nat):Int)) oO om om (nW ?_);refine dt (n:=((20+4*i:Nat):Int)) oO om om (nW ?_);refine kY (n:=((4*i:Nat):Int)) oO om om (nW ?_);refine dt (n:=((24+4*i:Nat):Int)) oO om om (uR ?_);refine cM (a:=20+4*i) (c:=24+4*i) rfl rfl rfl om om (nW ?_);refine ay (me (ba b (20+4*i) (24+4*i)) (hb.cut _ _) (hlen _ _)) rfl rfl (nW ?_);refine ra (n:=c9 b i) rfl (nW ?_);have hi:i=0∨i=1∨i=2∨i=3∨i=4∨i=5:=om;rcases hi with rfl|rfl|rfl|rfl|rfl|rfl<;>
   (repeat (first| (refine iy rfl dc ?_)| (refine cJ rfl dc ?_)| (refine sT rfl ?_;try dsimp only[At.ev,d1,d2,d3,d4,d5,d6,d7,d8,d9,e0,List.map,bp,Kd.pv])))<;>exact ae rfl
def xu (e:Int):List L:=[.i 0,.i e,.i 0,.i 0,.b false,.r []]
def lz (b:List Nat):Nat:=(val (ba b 16 20)).toNat
def qW (b:List Nat):Prop:=b.getD 0 0≠78∨b.getD 1 0≠165∨1<b.getD 2 0∨b.getD 3 0≠0∨4096<lz b∨(b.getD 2 0=1∧0<lz b)
def dH (n:Nat):Nat:=(n+31) /8*8
def qt (b:List Nat):Prop:=∀i,lz b+24≤i→i<dH (lz b)→b.getD i 0=0
noncomputable def nB (b:List Nat):List L:=
 if b.length<20 then xu 4 else if qW b then xu 3 else if b.length<dH (lz b)then xu 4 else
 if dN (ba b 0 (lz b+20))≠ba b (lz b+20) (lz b+24)then xu 5 else if¬qt b then xu 3 else
 [.i (dH (lz b)),.i 0,.i ((val (ba b 8 16)).toNat:Int),.i (IntKind.wrap .u32 ((val (ba b 4 8)).toNat:Int)),.b (decide (b.getD 2 0=1)),.r ((ba b 20 (lz b+20)).map b1)]
theorem aaH {n:Nat} (h:n≤4096):b6 (n:Int)=((dH n:Nat):Int):=by unfold b6 dH;rw[aE om];omega
theorem getD_at {b:List Nat} {i:Nat} (h:i<b.length):b[i]=b.getD i 0:=by rw[rX,bX h];rfl
theorem anM {b:List Nat} {a c j:Nat} (h:j< (ba b a c).length):(ba b a c)[j]=b.getD (a+j) 0:=by
 have h1:(ba b a c).length=min c b.length-a:=by unfold ba;rw[fw,dX]
 rw[←getD_at (show a+j<b.length by omega)];simp only[ba,List.getElem_drop,List.getElem_take]
theorem FT {b:List Nat} {a c:Nat} (h:c≤b.length):(ba b a c).length=c-a:=by unfold ba;rw[fw,dX,De h]
theorem kW {ρ:List L} {Q:Lf×List L→Prop} {k:ad} {b:List Nat} {x i:At} {j:Nat} (hx:(x.ev ρ).ah=b.map b1) (hi:(i.ev ρ).af=j) (hj:j<b.length) (hk:k.wp (ρ++ [.c (b1 (b.getD j 0))]) Q):(ad.op (.row x i 1) k).wp ρ Q:=
 bz (f:=b1) (j:=j) hx hi hj rfl (by rw[getD_at hj];exact hk)
theorem axr (b:List Nat) (hb:B8 b) (hl:b.length≤4294967296):Ji [.r (b.map b1)]=some (nB b):=by
 have hlen:∀a c,(ba b a c).length≤4294967296:=fun a c=>by have:=sA b a c;omega
 obtain⟨o,ho⟩:∃o,nB b=o:=⟨_,rfl⟩
 rw[ho];unfold nB at ho;refine a_ ?_;unfold Z0;refine uR ?_;refine aP rfl (fun h1=> ?_) (fun h1=> ?_)
 · rw[ax]at h1;rw[au om]at ho;refine ae ?_;exact ho
 rw[ax]at h1;rw[aE om]at ho;refine uR ?_;refine cM (a:=16) (c:=20) rfl rfl rfl om om (nW ?_);refine ay (Pv (ba b 16 20) (hb.cut _ _) (hlen _ _)) rfl rfl ?_;show ad.wp _ (_++ [L.i ((lz b:Nat):Int)]) _;obtain⟨n,hn⟩:∃n,lz b=n:=⟨_,rfl⟩
 have eh:qW b ↔ b.getD 0 0≠78∨b.getD 1 0≠165∨1<b.getD 2 0∨b.getD 3 0≠0∨4096<n∨(b.getD 2 0=1∧0<n):=by unfold qW;rw[hn]
 have C2:qt b ↔∀i,n+24≤i→i<dH n→b.getD i 0=0:=by unfold qt;rw[hn]
 rw[hn]at ho⊢;refine nW ?_;refine aH (cV (qW b)) ?_ ?_
 · refine kW (j:=0) rfl rfl om (uR ?_);refine aP rfl (fun c0=> ?_) (fun c0=> ?_)
   · exact ae (cz (by rw[eh];omega))
   refine kW (j:=1) rfl rfl om (uR ?_);refine aP rfl (fun c1=> ?_) (fun c1=> ?_)
   · exact ae (cz (by rw[eh];omega))
   refine kW (j:=2) rfl rfl om (uR ?_);refine aP rfl (fun c2=> ?_) (fun c2=> ?_)
   · exact ae (cz (by rw[eh];omega))
   refine kW (j:=3) rfl rfl om (uR ?_);refine aP rfl (fun c3=> ?_) (fun c3=> ?_)
   · exact ae (cz (by rw[eh];omega))
   refine uR ?_;refine aP rfl (fun c4=> ?_) (fun c4=> ?_)
   · exact ae (cz (by rw[eh];omega))
   refine kW (j:=2) rfl rfl om (uR ?_);refine aP rfl (fun c5=> ?_) (fun c5=> ?_)
   · refine uR ?_;exact ae (fG (show(0:Int)< (n:Int) ↔ _ by rw[eh];omega))
   · exact ae (fl (by rw[eh];omega))
 rintro _ ⟨t,rfl,ht⟩;refine nW ?_;refine bg (fun h2=> ?_) (fun h2=> ?_)
 · rw[au (ht.1 h2)]at ho;refine ae ?_;exact ho
 have h2:t=false:=h2;have aX:¬qW b:=fun h=>by rw[ht.2 h]at h2;cases h2
 rw[aE aX]at ho;have C3:n≤4096:=by rw[eh]at aX;omega
 have bj:n+24≤dH n∧dH n≤n+31:=by unfold dH;omega
 refine sI (n:=(n:Int)) rfl om om (nW ?_);refine ay (Rh (n:Int)) rfl rfl ?_;rw[aaH C3];refine nW ?_;refine sI (n:=(n:Int)) rfl om om (nW ?_);refine dt (n:=((n+20:Nat):Int)) oO om om (uR ?_);refine aP rfl (fun h3=> ?_) (fun h3=> ?_)
 · rw[ax]at h3;rw[au om]at ho;refine ae ?_;exact ho
 rw[ax]at h3;rw[aE om]at ho;refine uR ?_;refine cM (a:=0) (c:=n+20) rfl rfl rfl om om (nW ?_);refine ay (Ww (ba b 0 (n+20)) (hlen _ _)) rfl rfl (nW ?_);have rN:=YN (ba b 0 (n+20));refine qp (n:=fH (ba b 0 (n+20))) rfl om om (nW ?_);refine ay (avC (ba b 0 (n+20))) rfl rfl (nW ?_);refine dt (n:=((n+24:Nat):Int)) oO om om (uR ?_);refine cM (a:=n+20) (c:=n+24) rfl rfl rfl om om (nW ?_);obtain⟨u,hu⟩:=du (dN (ba b 0 (n+20))=ba b (n+20) (n+24));refine ay (LB _ (ba b (n+20) (n+24)) (xZ _) (hb.cut _ _) (by show 4≤_;omega) hu) rfl rfl (uR ?_);refine bg (fun h5=> ?_) (fun h5=> ?_)
 · rw[au (fun h=>by have h5:(!u)=true:=h5;rw[hu.2 h]at h5;cases h5)]at ho;refine ae ?_;exact ho
 have h5:(!u)=false:=h5;rw[aE (gP.2 (hu.1 (by simpa using h5)))]at ho;refine aH (fun xs=>xs=[]∧qt b) ?_ ?_
 · refine dt (n:=((n+24:Nat):Int)) oO om om (uR ?_);refine cM (a:=n+24) (c:=dH n) rfl rfl rfl om om ?_;show ad.wp _ (_++ [L.r ((ba b (n+24) (dH n)).map b1)]) _;have lK:=FT (b:=b) (a:=n+24) (c:=dH n) om;have hsa:=fun j h=>anM (b:=b) (a:=n+24) (c:=dH n) (j:=j) h
   generalize ba b (n+24) (dH n)=s at lK hsa;refine uR ?_;refine wp_loop (I:=fun a=>∃i:Nat,a=[.i i]∧i≤s.length∧∀j,j<i→b.getD (n+24+j) 0=0) (mu:=fun a=>match a with|[.i i]=>s.length-i.toNat|_=>0) ⟨0,rfl,om,fun j hj=>by omega⟩ ?_;rintro a ⟨i,rfl,e1,e2⟩;refine uR ?_;refine aP rfl (fun hc=> ?_) (fun hc=> ?_);rotate_left
   · rw[ax]at hc;exact ae ⟨rfl,C2.2 fun i h1 h2=>by have:=e2 (i- (n+24)) om;rwa [show n+24+(i- (n+24))=i by omega]at this⟩
   rw[ax]at hc;have hi:i<s.length:=om;refine kW (j:=i) rfl rfl hi ?_;rw[←getD_at hi,hsa i hi];refine uR ?_;refine aP rfl (fun hx=> ?_) (fun hx=> ?_)
   · rw[au fun h=>hx (by rw[C2.1 h _ om om];rfl)]at ho;refine ae ?_;exact ho
   · refine bP (i:=i) rfl om (nW ?_);refine ae ⟨⟨i+1,rfl,om,fun j hj=> ?_⟩,?_⟩
     · by_cases he:j=i
       · subst he;omega
       · exact e2 j om
     · show s.length- ((i+1:Nat):Int).toNat<s.length-i;omega
 rintro _ ⟨rfl,hz⟩;have hz:qt b:=hz;rw[aE (gP.2 hz)]at ho;refine uR ?_;refine cM (a:=8) (c:=16) rfl rfl rfl om om (nW ?_);refine ay (Pv (ba b 8 16) (hb.cut _ _) (hlen _ _)) rfl rfl (uR ?_);refine cM (a:=4) (c:=8) rfl rfl rfl om om (nW ?_);refine ay (Pv (ba b 4 8) (hb.cut _ _) (hlen _ _)) rfl rfl (nW ?_);refine jz (nW ?_);refine kW (j:=2) rfl rfl om (uR ?_);refine cM (a:=20) (c:=n+20) rfl rfl rfl om om (nW ?_);refine ay (l:=[]) (show qT [.r ((ba b 20 (n+20)).map b1)]=_ from au ⟨kZ _,by rw[ax];have:=hlen 20 (n+20);omega⟩) rfl rfl (nW ?_);refine ae ?_;rw[←ho];show[L.i _,L.i 0,L.i _,L.i _,L.b (decide (((b.getD 2 0:Nat):Int)=1)),L.r _]=_;rw[show decide (((b.getD 2 0:Nat):Int)=1)=decide (b.getD 2 0=1)by rw[decide_eq_decide];omega]
 try rfl
theorem aEO (b:List Nat) (hb:B8 b) (hl:b.length≤4294967296):Na [.r (b.map b1)]=some (nB b):=by
 have hlen:∀a c,(ba b a c).length≤4294967296:=fun a c=>by have:=sA b a c;omega
 obtain⟨o,ho⟩:∃o,nB b=o:=⟨_,rfl⟩
 rw[ho];unfold nB at ho;refine a_ ?_;unfold afu;refine uR ?_;refine aP rfl (fun h1=> ?_) (fun h1=> ?_)
 · rw[ax]at h1;rw[au om]at ho;refine ae ?_;exact ho
 rw[ax]at h1;rw[aE om]at ho;refine uR ?_;refine cM (a:=16) (c:=20) rfl rfl rfl om om (nW ?_);refine ay (me (ba b 16 20) (hb.cut _ _) (hlen _ _)) rfl rfl ?_;show ad.wp _ (_++ [L.i ((lz b:Nat):Int)]) _;obtain⟨n,hn⟩:∃n,lz b=n:=⟨_,rfl⟩
 have eh:qW b ↔ b.getD 0 0≠78∨b.getD 1 0≠165∨1<b.getD 2 0∨b.getD 3 0≠0∨4096<n∨(b.getD 2 0=1∧0<n):=by unfold qW;rw[hn]
 have C2:qt b ↔∀i,n+24≤i→i<dH n→b.getD i 0=0:=by unfold qt;rw[hn]
 rw[hn]at ho⊢;refine nW ?_;refine aH (cV (qW b)) ?_ ?_
 · refine kW (j:=0) rfl rfl om (uR ?_);refine aP rfl (fun c0=> ?_) (fun c0=> ?_)
   · exact ae (cz (by rw[eh];omega))
   refine kW (j:=1) rfl rfl om (uR ?_);refine aP rfl (fun c1=> ?_) (fun c1=> ?_)
   · exact ae (cz (by rw[eh];omega))
   refine kW (j:=2) rfl rfl om (uR ?_);refine aP rfl (fun c2=> ?_) (fun c2=> ?_)
   · exact ae (cz (by rw[eh];omega))
   refine kW (j:=3) rfl rfl om (uR ?_);refine aP rfl (fun c3=> ?_) (fun c3=> ?_)
   · exact ae (cz (by rw[eh];omega))
   refine uR ?_;refine aP rfl (fun c4=> ?_) (fun c4=> ?_)
   · exact ae (cz (by rw[eh];omega))
   refine kW (j:=2) rfl rfl om (uR ?_);refine aP rfl (fun c5=> ?_) (fun c5=> ?_)
   · refine uR ?_;exact ae (fG (show(0:Int)< (n:Int) ↔ _ by rw[eh];omega))
   · exact ae (fl (by rw[eh];omega))
 rintro _ ⟨t,rfl,ht⟩;refine nW ?_;refine bg (fun h2=> ?_) (fun h2=> ?_)
 · rw[au (ht.1 h2)]at ho;refine ae ?_;exact ho
 have h2:t=false:=h2;have aX:¬qW b:=fun h=>by rw[ht.2 h]at h2;cases h2
 rw[aE aX]at ho;have C3:n≤4096:=by rw[eh]at aX;omega
 have bj:n+24≤dH n∧dH n≤n+31:=by unfold dH;omega
 refine sI (n:=(n:Int)) rfl om om (nW ?_);refine ay (E4 (n:Int)) rfl rfl ?_;rw[aaH C3];refine nW ?_;refine sI (n:=(n:Int)) rfl om om (nW ?_);refine dt (n:=((n+20:Nat):Int)) oO om om (uR ?_);refine aP rfl (fun h3=> ?_) (fun h3=> ?_)
 · rw[ax]at h3;rw[au om]at ho;refine ae ?_;exact ho
 rw[ax]at h3;rw[aE om]at ho;refine uR ?_;refine cM (a:=0) (c:=n+20) rfl rfl rfl om om (nW ?_);refine ay (P6 (ba b 0 (n+20)) (hlen _ _)) rfl rfl (nW ?_);refine pw rfl (nW ?_);refine dt (n:=((n+24:Nat):Int)) oO om om (uR ?_);refine cM (a:=n+20) (c:=n+24) rfl rfl rfl om om (nW ?_);refine pw rfl (nW ?_);obtain⟨u,hu⟩:=du (dN (ba b 0 (n+20))≠ba b (n+20) (n+24));refine BK (a:=dN (ba b 0 (n+20))) (b:=ba b (n+20) (n+24)) rfl rfl (xZ _) (hb.cut _ _) hu (nW ?_);refine bg (fun h5=> ?_) (fun h5=> ?_)
 · rw[au (hu.1 h5)]at ho;refine ae ?_;exact ho
 have h5:u=false:=h5;rw[aE fun h=>by rw[hu.2 h]at h5;cases h5]at ho;refine aH (fun xs=>xs=[]∧qt b) ?_ ?_
 · refine dt (n:=((n+24:Nat):Int)) oO om om (nW ?_);refine wp_loop (I:=fun a=>∃i:Nat,a=[.i i]∧n+24≤i∧i≤dH n∧∀j,n+24≤j→j<i→b.getD j 0=0) (mu:=fun a=>match a with|[.i i]=>dH n-i.toNat|_=>0) ⟨n+24,rfl,om,om,fun j h1 h2=>by omega⟩ ?_;rintro a ⟨i,rfl,e0,e1,e2⟩;refine uR ?_;refine aP rfl (fun hc=> ?_) (fun hc=> ?_);rotate_left
   · exact ae ⟨rfl,C2.2 fun i h1 h2=>e2 i h1 om⟩
   have hi:i<b.length:=om;refine kW (j:=i) rfl rfl hi (uR ?_);refine aP rfl (fun hx=> ?_) (fun hx=> ?_)
   · rw[au fun h=>hx (by rw[C2.1 h _ om om];rfl)]at ho;refine ae ?_;exact ho
   · refine bP (i:=i) rfl om (nW ?_);refine ae ⟨⟨i+1,rfl,om,om,fun j h1 hj=> ?_⟩,?_⟩
     · by_cases he:j=i
       · subst he;omega
       · exact e2 j h1 om
     · show dH n- ((i+1:Nat):Int).toNat<dH n-i;omega
 rintro _ ⟨rfl,hz⟩;have hz:qt b:=hz;rw[aE (gP.2 hz)]at ho;refine uR ?_;refine cM (a:=8) (c:=16) rfl rfl rfl om om (nW ?_);refine ay (me (ba b 8 16) (hb.cut _ _) (hlen _ _)) rfl rfl (uR ?_);refine cM (a:=4) (c:=8) rfl rfl rfl om om (nW ?_);refine ay (me (ba b 4 8) (hb.cut _ _) (hlen _ _)) rfl rfl (nW ?_);refine jz (nW ?_);refine kW (j:=2) rfl rfl om (uR ?_);refine cM (a:=20) (c:=n+20) rfl rfl rfl om om (nW ?_);refine ee (r:=(ba b 20 (n+20)).map b1) rfl (kZ _) oO (by show((ba b 20 (n+20)).map b1).length≤_;rw[ax];have:=hlen 20 (n+20);omega) om rfl (nW ?_);refine ae ?_;rw[←ho];show[L.i _,L.i 0,L.i _,L.i _,L.b (decide (((b.getD 2 0:Nat):Int)=1)),L.r _]=_;rw[show decide (((b.getD 2 0:Nat):Int)=1)=decide (b.getD 2 0=1)by rw[decide_eq_decide];omega]
 try rfl
theorem lu {ρ:List L} {Q:Lf×List L→Prop} {k:ad} {α:Type} {f:α→List PV} {l:List α} {x i:At} {ps:List (Kd×At)} {j:Nat} {v:α} (hx:(x.ev ρ).ah=l.map f) (hi:(i.ev ρ).af=j) (hj:j<l.length) (hn:(f l[j]).length=ps.length) (hv:bp ρ ps=f v) (hk:k.wp (ρ++ [.r ((l.set j v).map f)]) Q):(ad.op (.set x i 0 ps) k).wp ρ Q:=
 afa (r:=f l[j]) (by rw[hx,hi,gd,bO,bX hj];rfl) om (by
  rw[hx,hi,gd,hv,List.take_zero,fa,uk om,kj,←List.map_set];exact hk)
theorem aqH (l:List It) (hl:l.length≤4294967296) (x:It):∃r:Int,Ms [.r (l.map aU),.i x.key,.i x.cookie,.i x.off,.i x.size]=some [.i r]∧(0≤r ↔ x∈l):=by
 have run:ad.wp QU [.r (l.map aU),.i x.key,.i x.cookie,.i x.off,.i x.size] (b8 fun y=>∃r:Int,y=[.i r]∧(0≤r ↔ x∈l)):=by
  unfold QU;refine aH (fun xs=>xs=[]∧x∉l) ?_ ?_;rotate_left
  · rintro _ ⟨rfl,h⟩;refine nW ?_;exact ae ⟨-1,rfl,fun h=>by omega,fun h'=>absurd h' h⟩
  refine uR ?_;refine wp_loop (I:=fun a=>∃i:Nat,a=[.i i]∧i≤l.length∧∀(j:Nat) (h:j<l.length),j<i→l[j]≠x) (mu:=fun a=>match a with|[.i i]=>l.length-i.toNat|_=>0) ⟨0,rfl,om,fun j _ hj=>by omega⟩ ?_;rintro a ⟨i,rfl,e1,e2⟩;refine uR ?_;refine aP rfl (fun hc=> ?_) (fun hc=> ?_);rotate_left
  · rw[ax]at hc;exact ae ⟨rfl,fun h=>by obtain⟨j,hj,h⟩:=lQ h;exact e2 j hj om h⟩
  rw[ax]at hc;have hi:i<l.length:=om;refine bz (f:=aU) (j:=i) rfl rfl hi rfl (uR ?_);refine bg (fun hy=> ?_) (fun hy=> ?_)
  · have hy:(((decide (x.key=l[i].key)&&decide (x.cookie=l[i].cookie))&&decide (x.off=l[i].off))&&decide (x.size=l[i].size))=true:=hy;simp only[bt,cg]at hy;refine ae ⟨i,rfl,fun _=> ?_,fun _=>by omega⟩;have:x=l[i]:=by obtain⟨⟨⟨h1,h2⟩,h3⟩,h4⟩:=hy;cases x;cases h:l[i];simp only[h]at*;subst h1 h2 h3 h4;rfl
    rw[this];exact b9 hi
  · have hg:l[i]≠x:=fun h=>by
      have hy:(((decide (x.key=l[i].key)&&decide (x.cookie=l[i].cookie))&&decide (x.off=l[i].off))&&decide (x.size=l[i].size))=false:=hy;rw[←h]at hy;simp at hy
    refine bP (i:=i) rfl om (nW ?_);refine ae ⟨⟨i+1,rfl,om,fun j hj wh=> ?_⟩,?_⟩
    · by_cases he:j=i
      · subst he;exact hg
      · exact e2 j hj om
    · show l.length- ((i+1:Nat):Int).toNat<l.length-i;omega
 obtain⟨o,h1,r,rfl,h2⟩:=iS run;exact⟨r,h1,h2⟩
theorem aAG (l:List It) (hl:l.length≤4294967296) (x:It) {b:Bool} (hb:b=true ↔ x∈l):vK [.r (l.map aU),.i x.key,.i x.cookie,.i x.off,.i x.size]=some [.b b]:=by
 obtain⟨r,h1,h2⟩:=aqH l hl x;refine a_ ?_;unfold adQ;refine ay h1 rfl rfl (uR ?_);refine ae ?_;show[L.b (decide (r≥0))]=[L.b b]
 rw[iN.2 (show decide (r≥0)=true ↔ b=true by rw[cg,hb,←h2])]
def fR (f:List Nat):List PV:=[.sl (f.map b1)]
def hR (t:Bool):List PV:=[.sc (.bool t)]
def kR (a:Nat):List PV:=[.sc (.int .i64 (a:Nat))]
theorem O0 (k:Nat):kE k=(nY.getD k []).map kR:=rfl
theorem afU (a g r n:Int) (m4 m5 m6 m7 m8 m9:L) (l:List It) (hl:l.length≤4294967296) (fs:List (List Nat)) (hf:fs.length=6) (hv:List Bool) (hh:hv.length=6) {b:Bool} (hb:b=true ↔ jo a g r n l):tA [.i a,.i g,.i r,.i n,m4,m5,m6,m7,m8,m9,.r (l.map aU),.r (fs.map fR),.r (hv.map hR)]=some [.b b]:=by
 refine a_ ?_;unfold Ua;refine aH (fun xs=>xs=[.b b]) ?_ ?_
 · refine ay (aeu a g r n m4 m5 m6 m7 m8 m9 l hl hb) rfl rfl (nW ?_);refine bg (fun hx=> ?_) (fun hx=> ?_)
   · have hx:b=true:=hx;subst hx;refine uR ?_;refine iy rfl (by rw[ax,hf];rfl) (uR ?_);refine ae ?_;exact dT (by rw[ax,hh];rfl)
   · have hx:b=false:=hx;subst hx;exact ae rfl
 rintro _ rfl;refine nW ?_;exact ae rfl
theorem aCc (n:Int) (h0:0≤n) (h1:n≤1048576):Jq [.i n]=some [.i (iV n)]:=by
 refine a_ ?_;unfold aaW;refine uR ?_;refine aP rfl (fun hc=> ?_) (fun hc=> ?_)
 · refine ae ?_;show[L.i 0]=[L.i (iV n)]
   unfold iV;rw[au hc]
 refine gY (n:=n-1) rfl om om (nW ?_);refine b5 (l:= .i ((n-1) /256)) (by
   show(if(256:Int)≠0 then some (L.i (IntKind.wrap .i64 ((n-1).tdiv 256)))else none)=_;rw[au dc,Di om,wrap64 om om]) ?_
 refine nW ?_;refine dt (n:=(n-1) /256+1) rfl om om (nW ?_);refine kY (n:=((n-1) /256+1)*64) rfl om om (nW ?_);refine ae ?_;show[L.i _]=[L.i (iV n)]
 unfold iV;rw[aE hc]
theorem anE (n:Int) (h0:0≤n) (h1:n≤1048576):Qw [.i n]=some [.i (iV n)]:=by
 refine a_ ?_;unfold aci;refine uR ?_;refine cJ rfl om ?_;refine b5 (l:= .i (n/256)) (by
   show(if(256:Int)≠0 then some (L.i (IntKind.wrap .i64 (n.tdiv 256)))else none)=_;rw[au dc,Di om,wrap64 om om]) ?_
 refine nW ?_;refine aH (fun xs=>xs=[.i ((n+255) /256)]) ?_ ?_
 · refine b5 (l:= .i (n%256)) (by
     show(if(256:Int)≠0 then some (L.i (n.tmod 256))else none)=_;rw[au dc,IT om]) ?_
   refine uR ?_;refine aP rfl (fun hc=> ?_) (fun hc=> ?_)
   · refine dt (n:=(n+255) /256) (by try dsimp only[At.ev,d1,d2,d3,d4,d5,d6,d7,d8,d9,e0,List.map,bp,Kd.pv];omega) om om (nW ?_);exact ae rfl
   · refine ae ?_;show[L.i (n/256)]=[L.i _]
     rw[show n/256=(n+255) /256 by omega]
 rintro _ rfl;refine nW ?_;refine kY (n:=(n+255) /256*64) rfl om om (nW ?_);refine ae ?_;show[L.i _]=[L.i (iV n)]
 unfold iV;split
 · rw[show(n+255) /256*64=0 by omega]
 · rw[show(n+255) /256*64=((n-1) /256+1)*64 by omega]
theorem awd (s:List Nat) (hs:s.length≤4294967296) (k:Nat):∃r:Int,Kz [.r (s.map kR),.i k]=some [.i r]∧(0≤r ↔ k∈s):=by
 have run:ad.wp K3 [.r (s.map kR),.i k] (b8 fun y=>∃r:Int,y=[.i r]∧(0≤r ↔ k∈s)):=by
  unfold K3;refine aH (fun xs=>xs=[]∧k∉s) ?_ ?_;rotate_left
  · rintro _ ⟨rfl,h⟩;refine nW ?_;exact ae ⟨-1,rfl,fun h=>by omega,fun h'=>absurd h' h⟩
  refine uR ?_;refine wp_loop (I:=fun a=>∃i:Nat,a=[.i i]∧i≤s.length∧∀(j:Nat) (h:j<s.length),j<i→s[j]≠k) (mu:=fun a=>match a with|[.i i]=>s.length-i.toNat|_=>0) ⟨0,rfl,om,fun j _ hj=>by omega⟩ ?_;rintro a ⟨i,rfl,e1,e2⟩;refine uR ?_;refine aP rfl (fun hc=> ?_) (fun hc=> ?_);rotate_left
  · rw[ax]at hc;exact ae ⟨rfl,fun h=>by obtain⟨j,hj,h⟩:=lQ h;exact e2 j hj om h⟩
  rw[ax]at hc;have hi:i<s.length:=om;refine bz (f:=kR) (j:=i) rfl rfl hi rfl (uR ?_);refine aP rfl (fun hy=> ?_) (fun hy=> ?_)
  · refine ae ⟨i,rfl,fun _=> ?_,fun _=>by omega⟩;have:k=s[i]:=Int.ofNat_inj.1 hy;rw[this];exact b9 hi
  · have hg:s[i]≠k:=fun h=>hy (by subst h;rfl)
    refine bP (i:=i) rfl om (nW ?_);refine ae ⟨⟨i+1,rfl,om,fun j hj wh=> ?_⟩,?_⟩
    · by_cases he:j=i
      · subst he;exact hg
      · exact e2 j hj om
    · show s.length- ((i+1:Nat):Int).toNat<s.length-i;omega
 obtain⟨o,h1,r,rfl,h2⟩:=iS run;exact⟨r,h1,h2⟩
theorem alA (s:List Nat) (hs:s.length≤4294967296) (k:Nat) {b:Bool} (hb:b=true ↔ k∈s):QG [.r (s.map kR),.i k]=some [.b b]:=by
 obtain⟨r,h1,h2⟩:=awd s hs k;refine a_ ?_;unfold ads;refine ay h1 rfl rfl (uR ?_);refine ae ?_;show[L.b (decide (r≥0))]=[L.b b]
 rw[iN.2 (show decide (r≥0)=true ↔ b=true by rw[cg,hb,←h2])]
noncomputable def B_ (fs:List (List Nat)) (hv:List Bool) (sk:List Nat) (n:Int) (i:Nat):Bool:=decide (hv.getD i false=true∧i∉sk∧((fs.getD i []).length:Int)=iV n)
noncomputable def gV (fs:List (List Nat)) (hv:List Bool) (sk:List Nat) (n:Int):List Bool:=(List.range 6).map (B_ fs hv sk n)
theorem ZW (fs:List (List Nat)) (hv:List Bool) (sk:List Nat) (n:Int):(gV fs hv sk n).length=6:=rfl
theorem L7 {fs:List (List Nat)} {hv:List Bool} {sk:List Nat} {n:Int} {i:Nat} (h:i< (gV fs hv sk n).length):(gV fs hv sk n)[i]=B_ fs hv sk n i:=by simp[gV]
def fill (us:List Bool) (i:Nat):List Bool:=us.take i++List.replicate (6-i) false
theorem OZ {us:List Bool} (h:us.length=6) {i:Nat} (hi:i≤6):(fill us i).length=6:=by simp only[fill,dL,dX,pZ];omega
theorem Vq {us:List Bool} (h:us.length=6) {i:Nat} (hi:i<6) (hi':i<us.length):(fill us i).set i us[i]=fill us (i+1):=by
 match us,h with
 |[a,b,c,d,e,f],_=>
  match i,hi with
  |0,_=>rfl
  |1,_=>rfl
  |2,_=>rfl
  |3,_=>rfl
  |4,_=>rfl
  |5,_=>rfl
theorem Yi {us:List Bool} (h:us.length=6):fill us 6=us:=by
 match us,h with
 |[a,b,c,d,e,f],_=>rfl
theorem S4 (us:List Bool) (i:Nat):(us.take i).count true≤i:=uf (List.count_le_length) (by rw[dX];omega)
theorem DH {α:Type} {d:α} {l:List α} {i:Nat} (h:i<l.length):l[i]=l.getD i d:=by rw[rX,bX h];rfl
theorem arY (a g r n:Int) (m4 m5 m6 m7 m8 m9 m10:L) (h0:0≤n) (h1:n≤1048576) (fs:List (List Nat)) (hf:fs.length=6) (hv:List Bool) (hh:hv.length=6) (sk:List Nat) (hs:sk.length≤6):
   aay [.i a,.i g,.i r,.i n,m4,m5,m6,m7,m8,m9,m10,.r (fs.map fR),.r (hv.map hR),.r (sk.map kR)]=some [.i ((gV fs hv sk n).count true:Nat),.r ((gV fs hv sk n).map hR)]:=by
 show Ef _=_;obtain⟨us,cS⟩:∃us,gV fs hv sk n=us:=⟨_,rfl⟩
 have hlen:us.length=6:=by rw[←cS];rfl
 have hat:∀i (h:i<us.length),us[i]=true ↔ hv.getD i false=true∧i∉sk∧((fs.getD i []).length:Int)=iV n:=fun i h=>by subst cS;rw[L7 h];unfold B_;rw[cg]
 rw[cS];refine a_ ?_;unfold T7;refine pB (r:=List.replicate 6 (hR false)) (by try dsimp only[At.ev,d1,d2,d3,d4,d5,d6,d7,d8,d9,e0,List.map,bp,Kd.pv];exact⟨dc,dc,dc⟩) rfl (nW ?_);refine aH (fun xs=>xs=[.i ((us.count true:Nat):Int),.r (us.map hR)]) ?_ ?_;rotate_left
 · rintro _ rfl;refine nW ?_;exact ae rfl
 refine uR ?_;refine wp_loop (I:=fun x=>∃i:Nat,x=[.i ((us.take i).count true:Nat),.i i,.r ((fill us i).map hR)]∧i≤6) (mu:=fun x=>match x with|[_,.i i,_]=>6-i.toNat|_=>0) ⟨0,rfl,om⟩ ?_;rintro x ⟨i,rfl,e1⟩;have oP:=OZ hlen e1;have hct:=S4 us i;refine uR ?_;refine aP rfl (fun hc=> ?_) (fun hc=> ?_);rotate_left
 · rw[ax,hf]at hc;obtain rfl:i=6:=om;refine ae ?_;show[L.i ((List.count true (us.take 6):Nat):Int),L.r ((fill us 6).map hR)]=_;rw[Yi hlen,ir om]
 rw[ax,hf]at hc;have hi:i<us.length:=om;have hst:((fill us i).set i us[i])=fill us (i+1):=Vq hlen om hi;have iM:(fs[i]'om)=fs.getD i []:=DH _;have C4:(hv[i]'om)=hv.getD i false:=DH _;refine aH (fun xs=>xs=[.i ((us.take (i+1)).count true:Nat),.r ((fill us (i+1)).map hR)]) ?_ ?_
 · refine bz (f:=fR) (j:=i) rfl rfl om rfl (uR ?_);refine aH (fun xs=>xs=[.r ((fill us (i+1)).map hR)]) ?_ ?_
   · refine bz (f:=hR) (j:=i) rfl rfl om rfl (uR ?_);refine bg (fun hy=> ?_) (fun hy=> ?_)
     · have hy:hv[i]'om=true:=hy;obtain⟨b,hb⟩:=du (i∈sk);refine ay (alA sk om i hb) rfl rfl (uR ?_);refine bg (fun hz=> ?_) (fun hz=> ?_)
       · have hz:i∉sk:=fun h=>by have hz:(!b)=true:=hz;rw[hb.2 h]at hz;cases hz
         refine uR ?_;refine ay (aCc n h0 h1) rfl rfl (uR ?_);refine bz (f:=hR) (j:=i) rfl rfl om rfl (nW ?_);have hu:us[i]=decide (((((fs[i]'om).map b1).length:Nat):Int)=iV n):=by
          rw[iN,hat i hi,cg,ax,iM,←C4];exact⟨fun h=>h.2.2,fun h=> ⟨hy,hz,h⟩⟩
         refine lu (f:=hR) (j:=i) (v:=us[i]) rfl rfl om rfl (by rw[hu];rfl) ?_;rw[hst];refine nW ?_;exact ae rfl
       · have hz:i∈sk:=hb.1 (by have hz:(!b)=false:=hz;simpa using hz);refine bz (f:=hR) (j:=i) rfl rfl om rfl (nW ?_);have hu:us[i]=false:=by
          rw[IX,Ne,hat i hi];exact fun h=>h.2.1 hz
         refine lu (f:=hR) (j:=i) (v:=us[i]) rfl rfl om rfl (by rw[hu];rfl) ?_;rw[hst];refine nW ?_;exact ae rfl
     · have hy:hv[i]'om=false:=hy;refine bz (f:=hR) (j:=i) rfl rfl om rfl (nW ?_);have hu:us[i]=false:=by
         rw[IX,Ne,hat i hi,←C4,hy];exact fun h=>by cases h.1
       refine lu (f:=hR) (j:=i) (v:=us[i]) rfl rfl om rfl (by rw[hu];rfl) ?_;rw[hst];refine nW ?_;exact ae rfl
   rintro _ rfl;refine nW ?_;have aKm:=OZ hlen (i:=i+1) om;refine bz (f:=hR) (j:=i) rfl rfl om rfl (nW ?_);have hg:(fill us (i+1))[i]'om=us[i]:=by
     have:(fill us (i+1))[i]? =some us[i]:=by rw[←hst,List.getElem?_set_self om]
     rw[bX om]at this;exact p9 this
   refine dV (f:=hR) (j:=i) rfl rfl om rfl rfl (nW ?_);rw[hg];have eZ:us.take (i+1)=us.take i++ [us[i]]:=iQ hi;refine bg (fun hy=> ?_) (fun hy=> ?_)
   · have hy:us[i]=true:=hy;refine bP (i:=(us.take i).count true) rfl om (nW ?_);refine ae ?_;show[L.i _,L.r _]=_;rw[eZ,hy,SY];rfl
   · have hy:us[i]=false:=hy;refine ae ?_;show[L.i _,L.r _]=_;rw[eZ,hy,SY];rfl
 rintro _ rfl;refine nW ?_;refine bP (i:=i) rfl om (nW ?_);refine ae ⟨⟨i+1,rfl,om⟩,?_⟩;show 6- ((i+1:Nat):Int).toNat<6-i;omega
theorem anx (a g r n:Int) (m4 m5 m6 m7 m8 m9 m10:L) (h0:0≤n) (h1:n≤1048576) (fs:List (List Nat)) (hf:fs.length=6) (hv:List Bool) (hh:hv.length=6) (sk:List Nat) (hs:sk.length≤6):
   Qq [.i a,.i g,.i r,.i n,m4,m5,m6,m7,m8,m9,m10,.r (fs.map fR),.r (hv.map hR),.r (sk.map kR)]=some [.r ((gV fs hv sk n).map hR)]:=by
 obtain⟨us,cS⟩:∃us,gV fs hv sk n=us:=⟨_,rfl⟩
 have hlen:us.length=6:=by rw[←cS];rfl
 have hat:∀i (h:i<us.length),us[i]=true ↔ hv.getD i false=true∧i∉sk∧((fs.getD i []).length:Int)=iV n:=fun i h=>by subst cS;rw[L7 h];unfold B_;rw[cg]
 rw[cS];refine a_ ?_;unfold Z_;refine pB (r:=List.replicate 6 (hR false)) (by try dsimp only[At.ev,d1,d2,d3,d4,d5,d6,d7,d8,d9,e0,List.map,bp,Kd.pv];exact⟨dc,dc,dc⟩) rfl (nW ?_);refine aH (fun xs=>xs=[.r (us.map hR)]) ?_ ?_;rotate_left
 · rintro _ rfl;refine nW ?_;exact ae rfl
 refine wp_loop (I:=fun x=>∃i:Nat,x=[.i i,.r ((fill us i).map hR)]∧i≤6) (mu:=fun x=>match x with|[.i i,_]=>6-i.toNat|_=>0) ⟨0,rfl,om⟩ ?_;rintro x ⟨i,rfl,e1⟩;have oP:=OZ hlen e1;refine uR ?_;refine aP rfl (fun hc=> ?_) (fun hc=> ?_);rotate_left
 · obtain rfl:i=6:=om;refine ae ?_;show[L.r ((fill us 6).map hR)]=_;rw[Yi hlen]
 have hi:i<us.length:=om;have hst:((fill us i).set i us[i])=fill us (i+1):=Vq hlen om hi;have iM:(fs[i]'om)=fs.getD i []:=DH _;have C4:(hv[i]'om)=hv.getD i false:=DH _;refine aH (fun xs=>xs=[.r ((fill us (i+1)).map hR)]) ?_ ?_
 · refine aH (fun xs=>∃t:Bool,xs=[.r (((fill us i).set i t).map hR)]∧(t=true ↔ hv.getD i false=true∧((fs.getD i []).length:Int)=iV n)) ?_ ?_
   · refine bz (f:=hR) (j:=i) rfl rfl om rfl (uR ?_);refine bg (fun hy=> ?_) (fun hy=> ?_)
     · have hy:hv[i]'om=true:=hy;refine bz (f:=fR) (j:=i) rfl rfl om rfl (uR ?_);refine ay (anE n h0 h1) rfl rfl (uR ?_);refine bz (f:=hR) (j:=i) rfl rfl om rfl (nW ?_);refine lu (f:=hR) (j:=i) (v:=decide (((((fs[i]'om).map b1).length:Nat):Int)=iV n)) rfl rfl om rfl rfl (nW ?_);exact ae ⟨_,rfl,by rw[cg,ax,iM,←C4];exact⟨fun h=> ⟨hy,h⟩,fun h=>h.2⟩⟩
     · have hy:hv[i]'om=false:=hy;refine bz (f:=hR) (j:=i) rfl rfl om rfl (nW ?_);refine lu (f:=hR) (j:=i) (v:=false) rfl rfl om rfl rfl (nW ?_);exact ae ⟨_,rfl,by rw[←C4,hy];exact⟨fun h=> (by cases h),fun h=> (by cases h.1)⟩⟩
   rintro _ ⟨t,rfl,ht⟩;refine nW ?_;refine wp_loop (I:=fun x=>∃(j:Nat) (u:Bool),x=[.i j,.r (((fill us i).set i u).map hR)]∧j≤sk.length∧(u=true ↔ t=true∧i∉sk.take j)) (mu:=fun x=>match x with|[.i j,_]=>sk.length-j.toNat|_=>0) ⟨0,t,rfl,om,by simp⟩ ?_;rintro x ⟨j,u,rfl,e2,hu⟩;have kK:((fill us i).set i u).length=6:=by rw[zI];exact oP
   have hg:((fill us i).set i u)[i]'om=u:=List.getElem_set_self _;refine uR ?_;refine aP rfl (fun hy=> ?_) (fun hy=> ?_);rotate_left
   · rw[ax]at hy;refine ae ?_;show[L.r _]=[L.r _]
     rw[←hst,show us[i]=u by
       rw[iN,hat i hi,hu,ht,ir om];exact⟨fun h=> ⟨⟨h.1,h.2.2⟩,h.2.1⟩,fun h=> ⟨h.1.1,h.2,h.1.2⟩⟩]
   rw[ax]at hy;have hj:j<sk.length:=om;have eZ:sk.take (j+1)=sk.take j++ [sk[j]]:=iQ hj;refine aH (fun xs=>∃v:Bool,xs=[.r (((fill us i).set i v).map hR)]∧(v=true ↔ t=true∧i∉sk.take (j+1))) ?_ ?_
   · refine bz (f:=hR) (j:=i) rfl rfl om rfl (nW ?_);refine dV (f:=hR) (j:=i) rfl rfl om rfl rfl (nW ?_);rw[hg];refine bg (fun hz=> ?_) (fun hz=> ?_)
     · have hz:u=true:=hz;refine bz (f:=kR) (j:=j) rfl rfl hj rfl (uR ?_);refine bz (f:=hR) (j:=i) rfl rfl om rfl (nW ?_);refine lu (f:=hR) (j:=i) (v:=decide (((sk[j]:Nat):Int)≠(i:Int))) rfl rfl om rfl rfl ?_;rw[SZ];refine nW ?_;refine ae ⟨_,rfl,?_⟩;rw[cg,eZ,ei,eS,not_or];have:=hu.1 hz;exact⟨fun h=> ⟨this.1,this.2,fun h'=>h (by rw[←h'])⟩,fun h h'=>h.2.2 (Int.ofNat_inj.1 h').symm⟩
     · have hz:u=false:=hz;refine bz (f:=hR) (j:=i) rfl rfl om rfl (nW ?_);refine lu (f:=hR) (j:=i) (v:=false) rfl rfl om rfl rfl ?_;rw[SZ];refine nW ?_;refine ae ⟨_,rfl,?_⟩;rw[eZ,ei,not_or];exact⟨fun h=> (by cases h),fun h=>by rw[hu.2 ⟨h.1,h.2.1⟩]at hz;cases hz⟩
   rintro _ ⟨v,rfl,hv'⟩;refine nW ?_;refine bP (i:=j) rfl om (nW ?_);refine ae ⟨⟨j+1,v,rfl,om,hv'⟩,?_⟩;show sk.length- ((j+1:Nat):Int).toNat<sk.length-j;omega
 rintro _ rfl;refine nW ?_;refine bP (i:=i) rfl om (nW ?_);refine ae ⟨⟨i+1,rfl,om⟩,?_⟩;show 6- ((i+1:Nat):Int).toNat<6-i;omega
end
section
open Go.RowKit AI
def mW (a b:Nat):Nat→Nat
 |0=>0
 |k+1=>if(b>>>k)%2=1 then mW a b k^^^ (a<<<k)else mW a b k
def jO (p:Nat):Nat→Nat
 |0=>p
 |n+1=>if(jO p n>>> (14-n))%2=1 then jO p n^^^ (285<<< (6-n))else jO p n
def gm (a b:Nat):Nat:=jO (mW a b 8) 7%256
theorem I4 {a b:Nat} (ha:a<256):∀k,k≤8→mW a b k<2^15
 |0,_=>by show 0<2^15;decide
 |k+1,h=>by
  have h1:=I4 (b:=b) ha k om;unfold mW;split
  · refine zK h1 ?_;rw[zJ];have:2^k≤2^7:=IY dc om;have:a*2^k≤255*2^7:=IV om this;omega
  · exact h1
theorem J2 {p:Nat} (hp:p<2^15):∀n,n≤7→jO p n<2^15
 |0,_=>hp
 |n+1,h=>by
  have h1:=J2 hp n om;unfold jO;split
  · refine zK h1 ?_;rw[zJ];have:2^ (6-n)≤2^6:=IY dc om;have:285*2^ (6-n)≤285*2^6:=IV om this;omega
  · exact h1
theorem Kc (a b:Nat):gm a b<256:=Nat.mod_lt _ dc
theorem BZ {p:Nat→Bool} {n:Nat} (h:(List.range n).all p=true) {i:Nat} (hi:i<n):p i=true:=bk.1 h i (ko.2 hi)
theorem T8 {b:Nat} (h:b<256):gm 0 b=0:=p_ (BZ (p:=fun b=>Nat.beq (gm 0 b) 0) (n:=256) kr h)
theorem aBc {b:Nat} (h:b<256):gm 1 b=b:=p_ (BZ (p:=fun b=>Nat.beq (gm 1 b) b) (n:=256) kr h)
theorem aqd {b:Nat} (h:b<256):gm b 0=0:=p_ (BZ (p:=fun b=>Nat.beq (gm b 0) 0) (n:=256) kr h)
theorem Hb {kd:bS} {x k:Nat} (h:k≤kd.bits):bF .shr kd (x:Int) (k:Int)=some (.i ((x>>>k:Nat):Int)):=by
 show(if 0≤(k:Int)then some (L.i ((x:Int).fdiv (2^ (min (k:Int).toNat kd.bits))))else none)=_;rw[au om,gd,De h,SO _ (Int.pow_nonneg dc),aiT,show(2:Int) ^k=((2^k:Nat):Int)by rw[Int.natCast_pow];rfl,←Int.natCast_ediv]
theorem QE {x k:Nat} (h:k≤62) (hx:x*2^k≤4611686018427387904):bF .shl .i64 (x:Int) (k:Int)=some (.i ((x<<<k:Nat):Int)):=by
 show(if 0≤(k:Int)then some (L.i (IntKind.wrap .i64 ((x:Int)*2^ (min (k:Int).toNat IntKind.i64.bits))))else none)=_;rw[au om,gd,De (show k≤IntKind.i64.bits by show k≤64;omega),zJ];have e:(x:Int)*2^k=((x*2^k:Nat):Int):=by rw[zA,Int.natCast_pow];rfl
 rw[e,wrap64 om om]
theorem ofInt8 {x:Nat} (h:x<256):(BitVec.ofInt 8 (x:Int)).toNat=x:=by rw[wL];omega
theorem ofInt64 {x:Nat} (h:x<4611686018427387904):(BitVec.ofInt 64 (x:Int)).toNat=x:=by rw[wL];omega
theorem BH {x:Nat} (h:x<256):IntKind.wrap .u8 (x:Int)=x:=r9 .u8 (by simp[IntKind.min,IntKind.signed]) (by simp[IntKind.max,IntKind.signed,IntKind.bits];omega)
theorem LW {a b:Nat} (ha:a<256) (hb:b<256):bF .xor .u8 (a:Int) (b:Int)=some (.i ((a^^^b:Nat):Int)):=by
 show some (L.i (IntKind.wrap .u8 ((BitVec.ofInt 8 (a:Int) ^^^BitVec.ofInt 8 (b:Int)).toNat:Int)))=_;rw[BitVec.toNat_xor,ofInt8 ha,ofInt8 hb,BH (zK (n:=8) ha hb)]
theorem G_ {a b:Nat} (ha:a<2^15) (hb:b<2^15):bF .xor .i64 (a:Int) (b:Int)=some (.i ((a^^^b:Nat):Int)):=by
 have:=zK ha hb;show some (L.i (IntKind.wrap .i64 ((BitVec.ofInt 64 (a:Int) ^^^BitVec.ofInt 64 (b:Int)).toNat:Int)))=_;rw[BitVec.toNat_xor,ofInt64 om,ofInt64 om,wrap64 om om]
theorem adD {a:Nat} (ha:a<256):bF .and .u8 (a:Int) 1=some (.i ((a%2:Nat):Int)):=by
 show some (L.i (IntKind.wrap .u8 ((BitVec.ofInt 8 (a:Int)&&&BitVec.ofInt 8 ((1:Nat):Int)).toNat:Int)))=_;rw[aiM,ofInt8 ha,ofInt8 dc,Nat.and_one_is_mod,BH om]
theorem akE {a:Nat} (ha:a<2^15):bF .and .i64 (a:Int) 1=some (.i ((a%2:Nat):Int)):=by
 show some (L.i (IntKind.wrap .i64 ((BitVec.ofInt 64 (a:Int)&&&BitVec.ofInt 64 ((1:Nat):Int)).toNat:Int)))=_;rw[aiM,ofInt64 om,ofInt64 dc,Nat.and_one_is_mod,wrap64 om om]
def dW (c:Nat) (d s:List Nat):List Nat:=List.zipWith (fun x y=>x^^^gm c y) d s
theorem Aq {c:Nat} {d s:List Nat} (h:d.length=s.length):(dW c d s).length=s.length:=by unfold dW;rw[List.length_zipWith];omega
theorem AK {c:Nat} {d s:List Nat} {i:Nat} (h:i< (dW c d s).length) (hd:i<d.length) (hs:i<s.length):(dW c d s)[i]=d[i] ^^^gm c s[i]:=by simp only[dW,List.getElem_zipWith]
theorem amZ {c:Nat} {d s:List Nat} (hd:B8 d):B8 (dW c d s):=fun x hx=>by
 obtain⟨i,hi,rfl⟩:=lQ hx;have h:i<d.length∧i<s.length:=by unfold dW at hi;rw[List.length_zipWith]at hi;omega
 rw[AK hi h.1 h.2];exact zK (n:=8) (hd _ (b9 h.1)) (Kc _ _)
def jq (o d:List Nat) (i:Nat):List Nat:=o.take i++d.drop i
theorem arw {o d:List Nat} (h:o.length=d.length) (i:Nat):(jq o d i).length=d.length:=by unfold jq;rw[dL,dX,fw];omega
theorem VT {o d:List Nat} (h:o.length=d.length) {i:Nat} (hi:i<d.length) (h':i< (jq o d i).length):(jq o d i)[i]=d[i]:=by
 have e:(jq o d i)[i]? =some d[i]:=by
  unfold jq;rw[lR (by rw[dX];omega),kP,dX,show i+(i-min i o.length)=i by omega,bX hi]
 rw[bX h']at e;exact p9 e
theorem aat {o d:List Nat} (h:o.length=d.length) {i:Nat} (hi:i<d.length) {v:Nat} (hv:v=o[i]'om):(jq o d i).set i v=jq o d (i+1):=by
 unfold jq;rw[List.set_append_right _ _ (by rw[dX];omega),iQ om,e_,dX];congr 1;rw[show i-min i o.length=0 by omega,zF hi,aiU,hv];rfl
theorem aqN {o d:List Nat} (h:o.length=d.length):jq o d d.length=o:=by unfold jq;rw[ir om,List.drop_length,kj]
def gL (c:Nat):Nat:=cond (Nat.blt (wS.getD c 0) 255) (wS.getD c 0) 0
def Co (n:Nat):Nat:=(ld++ld).getD n 0
theorem Nj (c:Nat):gL c<255:=by
 unfold gL
 cases h:Nat.blt (wS.getD c 0) 255 with
 |true=>exact IZ h
 |false=>exact(by decide:0<255)
theorem aft {c:Nat} (h:c<256):yu[c]? =some (.i (gL c:Nat)):=by
 have hl:wS.length=256:=kr;unfold yu gL;rw[bO,rX,bX om];rfl
theorem asz {n:Nat} (h:n<510):As[n]? =some (.i (Co n:Nat)):=by
 have hl:(ld++ld).length=510:=kr;unfold As Co;rw[bO,rX,bX om];rfl
def HF (c:Nat):List Nat→List Nat→Bool
 |a::l,b::m=>Nat.beq a (gm c b)&&HF c l m
 |_,[]=>true
 |[],_=>false
def uQ (c:Nat):Bool:=HF c ((ld++ld).drop (gL c)) ld
theorem aaC {c:Nat}:∀{l m:List Nat},HF c l m=true→∀{n:Nat},n<m.length→l.getD n 0=gm c (m.getD n 0)
 |a::l,b::m,h,n,hn=>by
  rw[HF,bt]at h
  cases n with
  |zero=>exact p_ h.1
  |succ n=>exact aaC (l:=l) (m:=m) h.2 (by simpa using hn)
 |[],[],_,n,hn=>absurd hn (qb _)
 |_::_,[],_,n,hn=>absurd hn (qb _)
 |[],_::_,h,_,_=>by cases h
theorem aFe {y:Nat} (h:y<256) (h0:y≠0):ld.getD (gL y) 0=y:=by
 have:=BZ (p:=fun y=>Nat.beq y 0||Nat.beq (ld.getD (gL y) 0) y) (n:=256) kr h;rw[rV]at this;rcases this with h|h
 · exact absurd (p_ h) h0
 · exact p_ h
theorem auW {c y:Nat} (h:uQ c=true) (hy:y<256) (h0:y≠0):Co (gL c+gL y)=gm c y:=by
 have hl:ld.length=255:=kr;have h1:=aaC h (n:=gL y) (by have:=Nj y;omega);rw[aFe hy h0]at h1;rw[←h1];unfold Co;rw[rX,rX,kP]
end
section
open Go.RowKit AI
attribute [local irreducible] ad.wp
theorem Rg {a b:Nat} (ha:a<256) (hb:b<256):my [.i a,.i b]=some [.i (gm a b:Nat)]:=by
 refine a_ ?_;unfold Th;refine aH (fun xs=>xs=[.i (mW a b 8:Nat)]) ?_ ?_
 · refine wp_loop (I:=fun x=>∃k:Nat,x=[.i (mW a b k:Nat),.i k]∧k≤8) (mu:=fun x=>match x with|[_,.i k]=>8-k.toNat|_=>0) ⟨0,rfl,om⟩ ?_;rintro x ⟨k,rfl,e1⟩;refine uR ?_;refine aP rfl (fun hc=> ?_) (fun hc=> ?_);rotate_left
   · obtain rfl:k=8:=om;exact ae rfl
   have hp:=I4 (b:=b) ha k e1;refine aH (fun xs=>xs=[.i (mW a b (k+1):Nat)]) ?_ ?_
   · refine qp (n:=(k:Int)) rfl om om (nW ?_);refine b5 (l:= .i ((b>>>k:Nat):Int)) (Hb (show k≤8 by omega)) (nW ?_);refine b5 (l:= .i ((b>>>k%2:Nat):Int)) (adD (Nat.lt_of_le_of_lt (Nat.shiftRight_le _ _) hb)) (uR ?_);refine aP rfl (fun hx=> ?_) (fun hx=> ?_)
     · refine sI (n:=(a:Int)) rfl om om (nW ?_);refine qp (n:=(k:Int)) rfl om om (nW ?_);have h2:2^k≤2^7:=IY dc om;have h3:a*2^k≤255*2^7:=IV om h2;refine b5 (l:= .i ((a<<<k:Nat):Int)) (QE om om) (nW ?_);refine b5 (l:= .i ((mW a b k^^^ (a<<<k):Nat):Int)) (G_ hp (by rw[zJ];omega)) (nW ?_);refine ae ?_;show[L.i _]=[L.i _]
       rw[mW,au om]
     · refine ae ?_;show[L.i _]=[L.i _]
       rw[mW,aE om]
   rintro _ rfl;refine nW ?_;refine bP (i:=k) rfl om (nW ?_);refine ae ⟨⟨k+1,rfl,om⟩,?_⟩;show 8- ((k+1:Nat):Int).toNat<8-k;omega
 rintro _ rfl;refine nW ?_;have hq:=I4 (b:=b) ha 8 om;obtain⟨p,C5⟩:∃p,mW a b 8=p:=⟨_,rfl⟩
 unfold gm;rw[C5]at hq⊢;refine aH (fun xs=>xs=[.i (jO p 7:Nat)]) ?_ ?_
 · refine wp_loop (I:=fun x=>∃n:Nat,x=[.i (jO p n:Nat),.i ((14:Int) -n)]∧n≤7) (mu:=fun x=>match x with|[_,.i k]=>k.toNat-7|_=>0) ⟨0,rfl,om⟩ ?_;rintro x ⟨n,rfl,e1⟩;refine uR ?_;refine aP rfl (fun hc=> ?_) (fun hc=> ?_);rotate_left
   · obtain rfl:n=7:=om;exact ae rfl
   have hp:=J2 hq n e1;have e14:(14:Int) -n=((14-n:Nat):Int):=om;refine aH (fun xs=>xs=[.i (jO p (n+1):Nat)]) ?_ ?_
   · refine qp (n:=((14-n:Nat):Int)) e14 om om (nW ?_);refine b5 (l:= .i ((jO p n>>> (14-n):Nat):Int)) (Hb (show 14-n≤64 by omega)) (nW ?_);refine b5 (l:= .i ((jO p n>>> (14-n)%2:Nat):Int)) (akE (Nat.lt_of_le_of_lt (Nat.shiftRight_le _ _) hp)) (uR ?_);refine aP rfl (fun hx=> ?_) (fun hx=> ?_)
     · refine gY (n:=((6-n:Nat):Int)) oO om om (nW ?_);refine qp (n:=((6-n:Nat):Int)) rfl om om (nW ?_);have h2:2^ (6-n)≤2^6:=IY dc om;have h3:285*2^ (6-n)≤285*2^6:=IV om h2;refine b5 (l:= .i ((285<<< (6-n):Nat):Int)) (QE (x:=285) om om) (nW ?_);refine b5 (l:= .i ((jO p n^^^ (285<<< (6-n)):Nat):Int)) (G_ hp (by rw[zJ];omega)) (nW ?_);refine ae ?_;show[L.i _]=[L.i _]
       rw[jO,au om]
     · refine ae ?_;show[L.i _]=[L.i _]
       rw[jO,aE om]
   rintro _ rfl;refine nW ?_;refine gY (n:=(14:Int) - ((n+1:Nat):Int)) oO om om (nW ?_);refine ae ⟨⟨n+1,rfl,om⟩,?_⟩;show((14:Int) - ((n+1:Nat):Int)).toNat-7< ((14:Int) - (n:Int)).toNat-7;omega
 rintro _ rfl;refine nW ?_;have hr:=J2 hq 7 om;refine ra (n:=((jO p 7%256:Nat):Int)) (by
   show IntKind.wrap .u8 ((jO p 7:Nat):Int)=_;simp[IntKind.wrap,IntKind.bits,IntKind.signed]) ?_
 refine nW ?_;exact ae rfl
theorem abF {c:Nat} (hc:c<256) (d s:List Nat) (hd:B8 d) (hs:B8 s) (hl:d.length=s.length) (hn:s.length≤4294967296):uF [.r (d.map b1),.r (s.map b1),.i c]=some [.i 0,.r ((dW c d s).map b1)]:=by
 refine a_ ?_;unfold afs;refine uR ?_;refine cJ rfl (by rw[ax,ax];omega) ?_;obtain⟨o,ho⟩:∃o,dW c d s=o:=⟨_,rfl⟩
 have pQ:o.length=s.length:=by rw[←ho];exact Aq hl
 have rO:∀i (h:i<o.length) (h1:i<d.length) (h2:i<s.length),o[i]=d[i] ^^^gm c s[i]:=by subst ho;exact fun i h h1 h2=>AK h h1 h2
 rw[ho];refine aH (fun xs=>xs=[.r (o.map b1)]) ?_ ?_;rotate_left
 · rintro _ rfl;refine nW ?_;exact ae rfl
 refine wp_loop (I:=fun x=>∃i:Nat,x=[.i i,.r ((o.take i).map b1)]∧i≤o.length) (mu:=fun x=>match x with|[.i i,_]=>o.length-i.toNat|_=>0) ⟨0,rfl,om⟩ ?_;rintro x ⟨i,rfl,e1⟩;refine uR ?_;refine aP rfl (fun hc'=> ?_) (fun hc'=> ?_);rotate_left
 · rw[ax]at hc';refine ae ?_;show[L.r ((o.take i).map b1)]=_;rw[ir om]
 rw[ax]at hc';have hi:i<d.length:=om;refine bz (f:=b1) (j:=i) rfl rfl hi rfl (uR ?_);refine bz (f:=b1) (j:=i) rfl rfl (show i<s.length by omega) rfl (uR ?_);refine ay (Rg hc (hs _ (b9 (show i<s.length by omega)))) rfl rfl (nW ?_);refine b5 (l:= .i ((o[i]'om:Nat):Int)) (by rw[rO i om hi om];exact LW (hd _ (b9 hi)) (Kc _ _)) (uR ?_);refine ee (r:=(o.take (i+1)).map b1) (kZ _) rfl oO oO dc (by rw[iQ om,ej];rfl) (nW ?_);refine bP (i:=i) rfl om (nW ?_);refine ae ⟨⟨i+1,rfl,om⟩,?_⟩;show o.length- ((i+1:Nat):Int).toNat<o.length-i;omega
theorem azF:qi []=some []:=rfl
theorem aFN {c:Nat} (hc:c<256) (ht:c=0∨uQ c=true) (d s:List Nat) (hd:B8 d) (hs:B8 s) (hl:d.length=s.length) (hn:s.length≤4294967296):JZ [.r (d.map b1),.r (s.map b1),.i c]=some [.i 0,.r ((dW c d s).map b1)]:=by
 refine a_ ?_;unfold aaV;refine uR ?_;refine cJ rfl (by rw[ax,ax];omega) ?_;refine ay azF rfl rfl (nW ?_);refine ee (r:=d.map b1) rfl (kZ _) oO oO dc rfl (nW ?_);obtain⟨o,ho⟩:∃o,dW c d s=o:=⟨_,rfl⟩
 have pQ:o.length=s.length:=by rw[←ho];exact Aq hl
 have rO:∀i (h:i<o.length) (h1:i<d.length) (h2:i<s.length),o[i]=d[i] ^^^gm c s[i]:=by subst ho;exact fun i h h1 h2=>AK h h1 h2
 rw[ho];have zm:o.length=d.length:=om;refine aH (fun xs=>xs=[.r (o.map b1)]) ?_ ?_;rotate_left
 · rintro _ rfl;refine nW ?_;exact ae rfl
 refine uR ?_;refine wp_loop (I:=fun x=>∃i:Nat,x=[.i i,.r ((jq o d i).map b1)]∧i≤o.length) (mu:=fun x=>match x with|[.i i,_]=>o.length-i.toNat|_=>0) ⟨0,rfl,om⟩ ?_;rintro x ⟨i,rfl,e1⟩;have nH:=arw zm i;refine uR ?_;refine aP rfl (fun hc'=> ?_) (fun hc'=> ?_);rotate_left
 · rw[ax]at hc';obtain rfl:i=d.length:=om;refine ae ?_;show[L.r ((jq o d d.length).map b1)]=_;rw[aqN zm]
 rw[ax]at hc';have hi:i<d.length:=om;have wD:i<s.length:=om;have hy:=hs _ (b9 wD);have hdx:=hd _ (b9 hi);refine aH (fun xs=>xs=[.r ((jq o d (i+1)).map b1)]) ?_ ?_
 · refine bz (f:=b1) (j:=i) rfl rfl wD rfl (uR ?_);have kO:=rO i om hi wD;refine aH (cV (c≠0∧s[i]≠0)) ?_ ?_
   · refine uR ?_;refine aP rfl (fun hx=> ?_) (fun hx=> ?_)
     · refine uR ?_;exact ae (fG om)
     · exact ae (fl om)
   rintro _ ⟨t,rfl,hT⟩;refine nW ?_;refine bg (fun hz=> ?_) (fun hz=> ?_)
   · have hz:=hT.1 hz;refine bz (f:=b1) (j:=i) rfl rfl om rfl (nW ?_);refine dV (f:=b1) (j:=i) rfl rfl om rfl rfl ?_;rw[VT zm hi];refine nW ?_;refine B3 ⟨by show(0:Int)≤(c:Int);omega,by show(c:Int)<256;omega⟩ (nW ?_);refine Gy (x:= .i (gL c:Nat)) (aft hc) (nW ?_);refine B3 ⟨by show(0:Int)≤(s[i]:Int);omega,by show(s[i]:Int)<256;omega⟩ (nW ?_);refine Gy (x:= .i (gL s[i]:Nat)) (aft hy) (nW ?_);have h1:=Nj c;have h2:=Nj s[i];refine dt (n:=((gL c+gL s[i]:Nat):Int)) rfl om om (nW ?_);refine B3 ⟨by show(0:Int)≤((gL c+gL s[i]:Nat):Int);omega,by show((gL c+gL s[i]:Nat):Int)<510;omega⟩ (nW ?_);refine Gy (x:= .i (Co (gL c+gL s[i]):Nat)) (asz (n:=gL c+gL s[i]) om) ?_;rw[auW (ht.resolve_left hz.1) hy hz.2];refine nW ?_;refine b5 (l:= .i ((d[i] ^^^gm c s[i]:Nat):Int)) (LW hdx (Kc _ _)) (nW ?_);refine bz (f:=b1) (j:=i) rfl rfl om rfl (nW ?_);refine lu (f:=b1) (j:=i) (v:=d[i] ^^^gm c s[i]) rfl rfl om rfl rfl ?_;rw[aat zm hi kO.symm];refine nW ?_;exact ae rfl
   · have hz:¬(c≠0∧s[i]≠0):=fun h=>by have hz:t=false:=hz;rw[hT.2 h]at hz;cases hz
     have hg:gm c s[i]=0:=by
       by_cases h0:c=0
       · rw[h0,T8 hy]
       · rw[show s[i]=0 by omega,aqd hc]
     refine ae ?_;show[L.r ((jq o d i).map b1)]=_;rw[←aat zm hi (v:=d[i]) (by rw[kO,hg,Nat.xor_zero])];rw[show(jq o d i).set i d[i]=jq o d i by
       rw[←VT zm hi om];exact List.set_getElem_self _]
 rintro _ rfl;refine nW ?_;refine bP (i:=i) rfl om (nW ?_);refine ae ⟨⟨i+1,rfl,om⟩,?_⟩;show o.length- ((i+1:Nat):Int).toNat<o.length-i;omega
def xC (a:Nat):Nat→Nat→Option Nat
 |0,_=>none
 |n+1,b=>cond (Nat.beq (gm a b) 1) (some b) (xC a n (b+1))
def P0 (o:Option Nat):List L:=match o with|some b=> [.i (b:Nat),.i 0]|none=> [.i 0,.i 1]
theorem aou {a:Nat} (ha:a<256):BR [.i a]=some (P0 (xC a 255 1)):=by
 obtain⟨o,ho⟩:∃o,xC a 255 1=o:=⟨_,rfl⟩
 rw[ho];refine a_ ?_;unfold Xi;refine aH (fun xs=>xs=[]∧o=none) ?_ ?_;rotate_left
 · rintro _ ⟨rfl,rfl⟩;refine nW ?_;exact ae rfl
 refine wp_loop (I:=fun x=>∃i:Nat,x=[.i i]∧i≤256∧1≤i∧xC a (256-i) i=o) (mu:=fun x=>match x with|[.i i]=>256-i.toNat|_=>0) ⟨1,rfl,om,om,ho⟩ ?_;rintro x ⟨i,rfl,e1,e0,e2⟩;refine uR ?_;refine aP rfl (fun hc=> ?_) (fun hc=> ?_);rotate_left
 · obtain rfl:i=256:=om;exact ae ⟨rfl,e2.symm⟩
 have hi:i<256:=om;rw[show 256-i=(255-i)+1 by omega,xC]at e2;refine ra (n:=(i:Int)) (BH hi) (nW ?_);refine ay (Rg ha hi) rfl rfl (uR ?_);refine aP rfl (fun hx=> ?_) (fun hx=> ?_)
 · have hx:gm a i=1:=om;rw[hx]at e2;refine ra (n:=(i:Int)) (BH hi) (nW ?_);refine ae ?_;show[L.i _,L.i 0]=P0 o;rw[←e2];rfl
 · have hx:Nat.beq (gm a i) 1=false:=by rw[IX];exact fun h=>hx (by rw[p_ h];rfl)
   rw[hx]at e2;refine bP (i:=i) rfl om (nW ?_);refine ae ⟨⟨i+1,rfl,om,om,?_⟩,?_⟩
   · rw[show 256- (i+1)=255-i by omega];exact e2
   · show 256- ((i+1:Nat):Int).toNat<256-i;omega
def vz (x:Nat):Nat:=if x*2/256=1 then(x*2) ^^^285 else x*2
def pm:Nat→Nat→Nat→Nat→Nat
 |0,_,_,_=>0
 |n+1,b,p,x=>if b=0 then p else pm n (b/2) (if b%2=1 then p^^^x else p) (vz x)
theorem ald {x:Nat} (h:x<256):vz x<256:=by
 have:∀x,x<256→vz x<256:=fun x h=>IZ (BZ (p:=fun x=>Nat.blt (vz x) 256) (n:=256) kr h)
 exact this x h
theorem aqI {a b:Nat} (ha:a<256) (hb:b<256):qI [.i a,.i b]=some [.i (pm 9 b 0 a:Nat)]:=by
 obtain⟨o,ho⟩:∃o,pm 9 b 0 a=o:=⟨_,rfl⟩
 rw[ho];refine a_ ?_;unfold TP;refine sI (n:=(a:Int)) rfl om om (nW ?_);refine aH (fun xs=>xs=[.i (o:Nat)]∧o<256) ?_ ?_;rotate_left
 · rintro _ ⟨rfl,h⟩;refine nW ?_;refine ra (n:=(o:Int)) (BH h) (nW ?_);exact ae rfl
 refine wp_loop (I:=fun y=>∃n b p x:Nat,y=[.i b,.i p,.i x]∧b<2^n∧n≤8∧p<256∧x<256∧pm (n+1) b p x=o) (mu:=fun y=>match y with|[.i b,_,_]=>b.toNat|_=>0) ⟨8,b,0,a,rfl,hb,om,om,ha,ho⟩ ?_;rintro y ⟨n,b,p,x,rfl,hb,hn,hp,hx,e⟩;have hb8:b<256:=nP hb (IY dc hn);refine uR ?_;refine aP rfl (fun hc=> ?_) (fun hc=> ?_);rotate_left
 · obtain rfl:b=0:=om;refine ae ⟨?_,?_⟩
   · show[L.i (p:Int)]=[L.i (o:Int)]
     rw[←e,pm,au rfl]
   · rw[←e,pm,au rfl];exact hp
 rw[pm,aE om]at e;have hxp:=zK (n:=8) hp hx;refine aH (fun xs=>xs=[.i ((if b%2=1 then p^^^x else p:Nat):Int),.i (vz x:Nat)]) ?_ ?_
 · refine aH (fun xs=>xs=[.i ((if b%2=1 then p^^^x else p:Nat):Int)]) ?_ ?_
   · refine b5 (l:= .i ((b%2:Nat):Int)) (adD hb8) (uR ?_);refine aP rfl (fun hy=> ?_) (fun hy=> ?_)
     · refine b5 (l:= .i ((p^^^x:Nat):Int)) (G_ om om) (nW ?_);refine ae ?_;show[L.i _]=[L.i _]
       rw[au om]
     · refine ae ?_;show[L.i _]=[L.i _]
       rw[aE om]
   rintro _ rfl;refine nW ?_;refine b5 (l:= .i ((x*2:Nat):Int)) ((QE (x:=x) (k:=1) om om).trans (by rw[zJ])) (nW ?_);refine b5 (l:= .i ((x*2/256:Nat):Int)) ((Hb (x:=x*2) (k:=8) dc).trans (by rw[aiT])) (uR ?_);refine aP rfl (fun hy=> ?_) (fun hy=> ?_)
   · refine b5 (l:= .i (((x*2) ^^^285:Nat):Int)) (G_ (a:=x*2) (b:=285) om om) (nW ?_);refine ae ?_;show[L.i _,L.i _]=[L.i _,L.i _]
     rw[show vz x=(x*2) ^^^285 from au om]
   · refine ae ?_;show[L.i _,L.i _]=[L.i _,L.i _]
     rw[show vz x=x*2 from aE om]
 rintro _ rfl;refine nW ?_;refine b5 (l:= .i ((b/2:Nat):Int)) ((Hb (x:=b) (k:=1) dc).trans (by rw[aiT])) (nW ?_);refine ae ⟨?_,?_⟩
 · match n,hb,e with
   |0,hb,_=>exact absurd hb om
   |n+1,hb,e=>exact⟨n,b/2,_,_,rfl,by rw[Nat.pow_succ]at hb;omega,om,by split<;>omega,ald hx,e⟩
 · show((b/2:Nat):Int).toNat<b;omega
end
end
end Go.Proofs.YtndegphojkiblaaGreatDoor
