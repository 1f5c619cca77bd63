/- A part of the proof. -/
import Derived.Test.YtndegphojkiblaaGreatDoorG12
import Derived.Test.YtndegphojkiblaaGreatDoorG39
import Derived.Test.YtndegphojkiblaaGreatDoorG40
import Derived.Test.YtndegphojkiblaaGreatDoorRows
import Derived.ProofKit
import Derived.LaidMore
import Derived.OpenShut
import Derived.Below
import Derived.Stop.Joined
set_option linter.all false
set_option maxHeartbeats 4000000
set_option maxRecDepth 100000
namespace Go.Proofs.YtndegphojkiblaaGreatDoor
noncomputable section
section
open Go.RowKit Pl AI
attribute [local irreducible] ae.wp
theorem Tv (key cookie) (del) (b:List Nat):GR [.i key,.i cookie,.b del,.r (b.map b1),.i key,.i cookie,.b del,.r (b.map b1)]=some [.b true]:=by
 refine aH ?_;refine aB (fun xs=>xs=[.b true]) ?_ (by rintro _ rfl;refine nW ?_;exact ad rfl);refine uR ?_;refine cS rfl rfl (uR ?_);refine cS rfl rfl (uR ?_);refine dX (by cases del<;>rfl) ?_;refine wv rfl (nW ?_);refine wv rfl (nW ?_);refine mM (l:= .b true) (by
  show some (L.b ((na b).toList==(na b).toList))=_;rw[show((na b).toList==(na b).toList)=true from beq_self_eq_true _]) ?_
 refine nW ?_;exact ad rfl
abbrev gA (f:Fs) (gs:List Ge) (ds:List Nl) (k c:Int):List L:=[.i 0,.i (-1),.r ((bL f).map aQ),.i 1,.i 9000,.b false,.r (gs.map gR),.r (ds.map dR),.i 1,.i 9000,.b false,.r (gs.map gR),.i k,.i c]
theorem UW {f gs vol B} (h:Inv f gs vol B) (ds) {k c:Int} (hn:∀p,gi gs k gs.length=some p→p.2.cookie≠c):Bh (gA f gs ds k c)=some [.b true,.i 0,.i 0,.b false,.r [],.i 6]:=by
 have hd:=Tn (l:=bL f) (by have:=nq f 72 0;show(fQ f 0 72).length≤_;omega) Yo;have hst:=YJ (f:=f) (y:=⟨0,0,0,0⟩) h.s (asH h.s hn);refine aH ?_;refine ag (Qu (.i k) (.i c)) rfl rfl (nW ?_);refine aB (fun xs=>False) ?_ (by rintro _ h;cases h);refine wp_loop (I:=fun a=>a= .i 0::rA (r0 k c)) (mu:=fun _=>0) rfl ?_;rintro a rfl;refine uR ?_;refine cS rfl oO ?_;refine ag hd rfl rfl (nW ?_);refine ag hst rfl rfl (nW ?_);refine aB (fun xs=>xs=[.b false]) ?_ ?_
 · refine uR ?_;refine ba rfl (fun h=>h rfl) (uR ?_);exact ad (dF oO)
 rintro _ rfl;refine uR ?_;refine bj rfl (uR ?_);refine cS rfl oO ?_;refine iC (r:=aR 0 0 [] 6) oO rfl rfl (nW ?_);refine kF (r:=aR 0 0 [] 6) rfl rfl rfl (nW ?_);refine kF (r:=aR 0 0 [] 6) rfl rfl rfl (nW ?_);refine kF (r:=aR 0 0 [] 6) rfl rfl rfl (nW ?_);refine kF (r:=aR 0 0 [] 6) rfl rfl rfl (nW ?_);refine kF (r:=aR 0 0 [] 6) rfl rfl rfl (nW ?_);exact ad rfl
theorem apf {f gs vol B} (h:Inv f gs vol B) (hB:B≤16000) (ds) {k c:Int} {i:Nat} {x} (hs:gi gs k gs.length=some (i,x)) (hc:x.cookie=c):Bh (gA f gs ds k c)=some [.b true,.i x.key,.i x.cookie,.b false,.r ((eH (vol i) x).map b1),.i 0]:=by
 have hd:=Tn (l:=bL f) (by have:=nq f 72 0;show(fQ f 0 72).length≤_;omega) Yo;obtain⟨hi,hl⟩:=ach h.s hs hc;have hx:=NO (AJ hs).2 hi;have hst:=YJ (f:=f) h.s hl;have aEx:=aiZ (f:=f) h.s (avg h hB hi hx (m:=gs[i].mode) (fun e=>e) k c);refine aH ?_;refine ag (Qu (.i k) (.i c)) rfl rfl (nW ?_);refine aB (fun xs=>False) ?_ (by rintro _ h;cases h);refine wp_loop (I:=fun a=>a= .i 0::rA (r0 k c)∨a= .i 1::rA (r1 k c i gs[i].mode x)) (mu:=fun a=>match a with| .i n::_=>1-n.toNat|_=>0) (.inl rfl) ?_;rintro a (rfl|rfl)
 · refine uR ?_;refine cS rfl oO ?_;refine ag hd rfl rfl (nW ?_);refine ag hst rfl rfl (nW ?_);refine aB (fun xs=>xs=[.b false]) ?_ ?_
   · refine uR ?_;refine ba rfl (fun h=>h rfl) (uR ?_);exact ad (dF oO)
   rintro _ rfl;refine uR ?_;refine bj rfl (uR ?_);refine ba rfl oO ?_;refine bg (i:=0) rfl om (nW ?_);exact ad ⟨.inr rfl,by show 1- (1:Int).toNat<1- (0:Int).toNat;decide⟩
 · refine uR ?_;refine cS rfl oO ?_;refine ag hd rfl rfl (nW ?_);refine ag aEx rfl rfl (nW ?_);refine aB (fun xs=>xs=[.b false]) ?_ ?_
   · refine uR ?_;refine ba rfl (fun h=>h rfl) (uR ?_);exact ad (dF oO)
   rintro _ rfl;refine uR ?_;refine bj rfl (uR ?_);refine cS rfl oO ?_;refine iC (r:=aR x.key x.cookie (eH (vol i) x) 0) oO rfl rfl (nW ?_);refine kF (r:=aR x.key x.cookie (eH (vol i) x) 0) rfl rfl rfl (nW ?_);refine kF (r:=aR x.key x.cookie (eH (vol i) x) 0) rfl rfl rfl (nW ?_);refine kF (r:=aR x.key x.cookie (eH (vol i) x) 0) rfl rfl rfl (nW ?_);refine kF (r:=aR x.key x.cookie (eH (vol i) x) 0) rfl rfl rfl (nW ?_);refine kF (r:=aR x.key x.cookie (eH (vol i) x) 0) rfl rfl rfl (nW ?_);exact ad rfl
def zN:Nl:=⟨0,0,false,[]⟩
theorem arc {A} (hA:AC.rows wH A) (cookie:Int):AA [.r A,.i cookie]=some [.b true]:=by
 obtain⟨f,gs,vol,ds,aEy,aO⟩:=adp hA (most:=12) om;refine aH ?_;refine ag aEy rfl rfl (nW ?_);refine ag (adG aO.i.s.n8) rfl rfl (nW ?_);refine aB (fun xs=>xs=[]) ?_ ?_;rotate_left
 · rintro _ rfl;refine nW ?_;refine ag acJ rfl rfl (nW ?_);exact ad rfl
 refine wp_loop (I:=fun a=>∃k:Nat,a=[.i k]∧k≤8) (mu:=fun a=>match a with|[.i k]=>8-k.toNat|_=>0) ⟨0,rfl,om⟩ ?_;rintro a ⟨k,rfl,k8⟩;refine uR ?_;refine aI rfl (fun hc=> ?_) (fun hc=>ad rfl);have hk:k<8:=om;refine aB (fun xs=>xs=[]) ?_ ?_;rotate_left
 · rintro _ rfl;refine nW ?_;refine cv (l:= .i ((k+1:Nat):Int)) (by show some (L.i (IntKind.wrap .u64 ((k:Int)+1)))=_;rw[MK om om];rfl) (nW ?_);refine ad ⟨⟨k+1,rfl,om⟩,?_⟩;show 8- ((k+1:Nat):Int).toNat<8-k;omega
 obtain⟨w,hw⟩:∃w,(gl (k:Int) ds).getD zN=w:=⟨_,rfl⟩
 obtain⟨b,hb⟩:∃b,(gl (k:Int) ds).isSome=b:=⟨_,rfl⟩
 have jF:TR [.r (ds.map dR),.i k,.r [[.sc (.int .u64 0),.sc (.int .u32 0),.sc (.bool false),.sl []]]]=some [.c w.row,.b b]:=by
   show(if((hZ (k:Int) (ds.map dR)).getD zN.row).length=zN.row.length then some [L.c ((hZ (k:Int) (ds.map dR)).getD zN.row),.b (hZ (k:Int) (ds.map dR)).isSome]else none)=_;rw[XX,←hw,←hb]
   cases gl (k:Int) ds with
   |none=>rfl
   |some y=>rfl
 have aEz:∀c:Int,Bh (gA f gs ds k c)=some (if b=true∧c=w.cookie then[.b true,.i w.key,.i w.cookie,.b w.del,.r (w.data.map b1),.i 0]else[.b true,.i 0,.i 0,.b false,.r [],.i 6]):=fun c=>by
   have hh:=aO.h (k:Int);unfold has at hh
   cases hs:gi gs k gs.length with
   | none=>
     rw[hs]at hh;have hh:gl (k:Int) ds=none:=hh;rw[hh]at hb;rw[aC (fun h=>by rw[←hb]at h;cases h.1)];exact UW aO.i ds fun p hp=>by rw[hs]at hp;cases hp
   | some p=>
     rw[hs]at hh;have hh:gl (k:Int) ds=some (kK (vol p.1) p.2):=hh;rw[hh]at hb hw;have hw:kK (vol p.1) p.2=w:=hw;have hb:true=b:=hb;by_cases hc:p.2.cookie=c
     · rw[ay ⟨hb.symm,by rw[←hc,←hw];rfl⟩,apf aO.i om ds hs hc,←hw];rfl
     · rw[aC (fun h=>hc (by rw[h.2,←hw];rfl))];exact UW aO.i ds fun p' Hj=>by rw[hs]at Hj;cases Hj;exact hc
 refine uR ?_;refine ag jF rfl rfl (uR ?_);refine cv rfl (uR ?_);generalize IntKind.wrap .u32 _=c2;refine wp_loop (I:=fun a=>∃j:Nat,a=[.i j]∧j≤3) (mu:=fun a=>match a with|[.i j]=>3-j.toNat|_=>0) ⟨0,rfl,om⟩ ?_;rintro a ⟨j,rfl,j3⟩;refine uR ?_;refine aI rfl (fun hx=> ?_) (fun hx=>ad rfl);have hx:(j:Int)<3:=hx;have hrow:∃c:Int,([[.sc (.int .u32 cookie)],[.sc (.int .u32 w.cookie)],[.sc (.int .u32 c2)]]:List (List PV))[j]? =some [.sc (.int .u32 c)]:=by
   match j,hx with
   |0,_=>exact⟨_,rfl⟩
   |1,_=>exact⟨_,rfl⟩
   |2,_=>exact⟨_,rfl⟩
   |j+3,h=>omega
 obtain⟨c,hrow⟩:=hrow;refine aB (fun xs=>xs=[]) ?_ ?_;rotate_left
 · rintro _ rfl;refine nW ?_;refine bg (i:=j) rfl om (nW ?_);refine ad ⟨⟨j+1,rfl,om⟩,?_⟩;show 3- ((j+1:Nat):Int).toNat<3-j;omega
 refine iC (r:=[.sc (.int .u32 c)]) (by show(0:Int)≤(j:Int);omega) hrow rfl (nW ?_);refine kF (r:=[.sc (.int .u32 c)]) hrow rfl rfl (nW ?_);have hg:=aEz c;by_cases hq:b=true∧c=w.cookie
 · rw[ay hq]at hg;refine ag hg rfl rfl (uR ?_);refine bj rfl ?_;refine aB (fun xs=>xs=[.b true]) ?_ ?_
   · refine dX hq.1 (uR ?_);exact ad (dT hq.2)
   rintro _ rfl;refine nW ?_;refine dX rfl ?_;refine aB (fun xs=>xs=[.b false]) ?_ ?_
   · refine uR ?_;refine ba rfl (fun h=>h rfl) ?_;refine ag (Tv w.key w.cookie w.del w.data) rfl rfl (uR ?_);exact ad rfl
   rintro _ rfl;refine nW ?_;refine bj rfl ?_;exact ad rfl
 · rw[aC hq]at hg;refine ag hg rfl rfl (uR ?_);refine bj rfl ?_;refine aB (fun xs=>xs=[.b false]) ?_ ?_
   · refine bc (fun hb1=> ?_) (fun hb1=>ad rfl);refine uR ?_;exact ad (dF fun h=>hq ⟨hb1,h⟩)
   rintro _ rfl;refine nW ?_;refine bj rfl ?_;refine aB (fun xs=>xs=[.b false]) ?_ ?_
   · refine uR ?_;refine ba rfl (fun h=>h rfl) ?_;refine ag (Tv 0 0 false []) rfl rfl (uR ?_);exact ad rfl
   rintro _ rfl;refine nW ?_;refine bj rfl ?_;exact ad rfl
end
section
attribute [local irreducible] AA
open Go.Deep Go.ChangeShapes Go.WideShapes Go.ChangeAt Go.RowKit AI
theorem awe:ownKnob Tryz.prog.godebug=none:=kr
section
variable {H:Type} {enc:a6×bh→H} {w:a7} {base:Nat} {spare:Nat→Bool} {held:Bool}
def M0:eS:=fun _=>False
theorem aAv:m_ enc Tryz.prog w base spare held M0 71 (.sl 9223372036854775807 [.int .u8 0 255]):=
 EL Tryz.underlying71 kr dc (fun _ h=>h) (Z7 (ya Tryz.underlying5 fun _=>bounds_u8))
theorem aiX:m_ enc Tryz.prog w base spare held M0 81 (.sl 9223372036854775807 [.int .u64 0 18446744073709551615]):=
 EL Tryz.underlying81 kr dc (fun _ h=>h) (Z7 (ya Tryz.underlying22 fun _=>bounds_u64))
theorem ajs:El enc Tryz.prog w base spare held M0 73 4 wP:=
 V2 Tryz.underlying73 kr rfl rfl rfl rfl kr kr kr kr (ya Tryz.underlying22 fun _=>bounds_u64) (ya Tryz.underlying23 fun _=>bounds_u32) (axS Tryz.underlying4) aAv
theorem aiy:m_ enc Tryz.prog w base spare held M0 80 (.sl 9223372036854775807 wP):=
 EL Tryz.underlying80 kr dc (fun _ h=>h) ajs
theorem apv:El enc Tryz.prog w base spare held M0 83 4 wH:=
 V2 Tryz.underlying83 kr rfl rfl rfl rfl kr kr kr kr (ya Tryz.underlying3 fun _=>bounds_i64) aiy (ya Tryz.underlying3 fun _=>bounds_i64) aiX
theorem awl:m_ enc Tryz.prog w base spare held M0 30 (.sl 9223372036854775807 wH):=
 EL Tryz.underlying30 kr dc (fun _ h=>h) apv
end
theorem azn {w:a7} {v0:bh} {rows:List (List PV)} {cookie:Int} (h0:RP M0 w (.sl rows) v0) (hr:AC.rows wH rows):
   Calls Tryz.prog 5 #[v0,.int .u32 cookie] w fun e w'=>e= .returned (.bool true)∧Below w.heap.size w w':=by
 have eF:EF.F=AA:=rfl;have hp:AA [.r rows,.i cookie]=some [.b true]:=arc hr cookie;have hA:=adq [.r rows,.i cookie] [.b true] rfl (by rw[eF];exact hp) rfl;have hb:bad M0 ⟨fun _=>none,[]⟩=M0:=by
   funext g;simp[bad,M0]
 refine(hA.call w M0 (fun _=>none) #[v0,.int .u32 cookie] (fun g h=>h.elim) (fun n x h=>by cases h) (fun n x g h=>by cases h) (fun n m x y g h=>by cases h) (fun n b h=>by simp[EF]at h) rfl (fun i x hi=> ?_)).mono ?_
 · match i with
   |0=>
    cases hi;refine⟨v0,rfl,?_⟩;show RP (bad M0 _) w (.sl rows) v0;rw[hb];exact h0
   |1=>
    cases hi;refine⟨_,rfl,?_⟩;show RP (bad M0 _) w (.sc (.int .u32 cookie)) _;exact .sc rfl
   |i+2=>simp[EF]at hi
 · rintro e w' ⟨v,E',rfl,hF,-,-,hv⟩;have hv:RP _ w' (.sc (.bool true)) v:=hv;cases hv;exact⟨rfl,hF.os,hF.tape,hF.output,hF.size,fun k hk=>hF.block k hk (fun ⟨n,x,h,_⟩=>by cases h)⟩
end
end
end Go.Proofs.YtndegphojkiblaaGreatDoor
