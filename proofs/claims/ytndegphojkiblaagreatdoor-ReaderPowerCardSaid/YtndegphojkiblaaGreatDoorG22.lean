/- Towards the last file's theorem: part 22. -/
import Derived.Test.YtndegphojkiblaaGreatDoorG21
import Derived.Test.YtndegphojkiblaaGreatDoorProg
import Derived.WalkKit
import Derived.WalkSpells
import Derived.Deep.RegionHeld3
import Derived.Deep.AppendLies
import Derived.IntWalk
import Derived.StillTail
import Derived.StillTailTactics
import Derived.Laws.CopyOwn
import Derived.Lib.Hide
import Derived.WalkArith
import Derived.RangeFuncBox
import Derived.RangeFuncCalls
import Derived.RangeFuncLeaves
import Derived.Shelf.Abstract
import Derived.OwnWalkIn
import Derived.TacticsInMore
import Derived.LoopNIn
import Derived.LoopIn
set_option linter.unusedSimpArgs false
set_option linter.unusedVariables false
namespace Go.Proofs.YtndegphojkiblaaGreatDoor
section
open Go.RowKit
set_option maxRecDepth 100000
set_option maxHeartbeats 4000000
def TT : TTab := [
 (2,⟨1,false,true,true,(some [(.int .i64)]),[],none,none,none,(some (1,8)),false,(some .i64),false,none,none,false⟩),
 (3,⟨1,false,true,true,(some [(.int .i64)]),[],none,none,none,(some (1,8)),false,(some .i64),false,none,none,false⟩),
 (4,⟨1,false,true,true,(some [.bool]),[],none,none,none,(some (1,1)),true,none,false,none,none,false⟩),
 (5,⟨1,false,true,true,(some [(.int .u8)]),[],none,none,none,(some (1,1)),false,(some .u8),false,none,none,false⟩),
 (9,⟨1,false,true,true,(some [.str]),[],none,none,none,(some (1,16)),false,none,true,none,none,false⟩),
 (22,⟨1,false,true,true,(some [(.int .u64)]),[],none,none,none,(some (1,8)),false,(some .u64),false,none,none,false⟩),
 (23,⟨1,false,true,true,(some [(.int .u32)]),[],none,none,none,(some (1,4)),false,(some .u32),false,none,none,false⟩),
 (25,⟨4,true,true,true,(some [(.int .u64),(.int .u32),(.int .i64),(.int .i64)]),[(some 0),(some 1),(some 2),(some 3)],(some [(0,1),(1,1),(2,1),(3,1)]),none,none,(some (4,32)),false,none,false,none,none,false⟩),
 (27,⟨7,true,true,true,(some [(.int .i64),(.int .i64),(.int .i64),(.int .u64),(.int .u32),(.int .i64),(.int .i64)]),[(some 0),(some 1),(some 2),(some 3)],(some [(0,1),(1,1),(2,1),(3,4)]),none,none,(some (7,56)),false,none,false,none,none,false⟩),
 (30,⟨1,false,true,true,(some [.sl]),[],none,(some 83),none,(some (1,24)),false,none,false,(some 83),none,false⟩),
 (31,⟨1,false,true,true,(some [.sl]),[],none,(some 94),none,(some (1,24)),false,none,false,(some 94),none,false⟩),
 (33,⟨4,true,true,true,(some [(.int .i64),(.int .i64),.bool,.sl]),[(some 0),(some 1),(some 2),(some 3)],(some [(0,1),(1,1),(2,1),(3,1)]),none,none,(some (4,48)),false,none,false,none,none,false⟩),
 (34,⟨1,false,true,true,(some [.sl]),[],none,(some 109),none,(some (1,24)),false,none,false,(some 109),none,false⟩),
 (36,⟨3,true,true,true,(some [(.int .i64),(.int .i64),.sl]),[(some 0),(some 1),(some 2)],(some [(0,1),(1,1),(2,1)]),none,none,(some (3,40)),false,none,false,none,none,false⟩),
 (40,⟨1,false,true,true,(some [.mp]),[],none,none,none,(some (1,8)),false,none,false,none,none,true⟩),
 (42,⟨8,true,true,true,(some [(.int .i64),(.int .i64),.sl,(.int .i64),(.int .i64),.bool,.sl,.mp]),[(some 0),(some 3),(some 7)],(some [(0,3),(3,4),(7,1)]),none,none,(some (8,96)),false,none,false,none,none,false⟩),
 (51,⟨7,true,true,true,(some [(.int .i64),(.int .i64),(.int .i64),(.int .u64),(.int .u32),(.int .i64),(.int .i64)]),[(some 0),(some 1),(some 2),(some 3)],(some [(0,1),(1,1),(2,1),(3,4)]),none,none,(some (7,56)),false,none,false,none,none,false⟩),
 (53,⟨11,true,true,true,(some [(.int .u64),(.int .u32),(.int .i64),(.int .i64),(.int .i64),(.int .i64),(.int .u64),(.int .u32),(.int .i64),(.int .i64),(.int .i64)]),[(some 0),(some 1),(some 2),(some 3),(some 10)],(some [(0,1),(1,1),(2,1),(3,7),(10,1)]),none,none,(some (11,88)),false,none,false,none,none,false⟩),
 (54,⟨1,false,true,true,(some [.sl]),[],none,(some 75),none,(some (1,24)),false,none,false,(some 75),none,false⟩),
 (55,⟨1,false,true,true,(some [(.int .i64)]),[],none,none,none,(some (1,8)),false,(some .i64),false,none,none,false⟩),
 (58,⟨1,false,true,true,(some [.sl]),[],none,(some 127),none,(some (1,24)),false,none,false,(some 127),none,false⟩),
 (60,⟨3,true,true,true,(some [(.int .i64),(.int .i64),.sl]),[(some 0),(some 1),(some 2)],(some [(0,1),(1,1),(2,1)]),none,none,(some (3,40)),false,none,false,none,none,false⟩),
 (62,⟨1,false,true,true,(some [.sl]),[],none,(some 131),none,(some (1,24)),false,none,false,(some 131),none,false⟩),
 (64,⟨4,true,true,true,(some [(.int .i64),(.int .i64),.bool,.sl]),[(some 0),(some 1),(some 2),(some 3)],(some [(0,1),(1,1),(2,1),(3,1)]),none,none,(some (4,48)),false,none,false,none,none,false⟩),
 (71,⟨1,false,true,true,(some [.sl]),[],none,(some 5),none,(some (1,24)),false,none,false,(some 5),none,false⟩),
 (73,⟨4,true,true,true,(some [(.int .u64),(.int .u32),.bool,.sl]),[(some 0),(some 1),(some 2),(some 3)],(some [(0,1),(1,1),(2,1),(3,1)]),none,none,(some (4,40)),false,none,false,none,none,false⟩),
 (75,⟨5,true,true,true,(some [(.int .u64),(.int .u32),.bool,.sl,(.int .i64)]),[(some 0),(some 4)],(some [(0,4),(4,1)]),none,none,(some (5,48)),false,none,false,none,none,false⟩),
 (80,⟨1,false,true,true,(some [.sl]),[],none,(some 73),none,(some (1,24)),false,none,false,(some 73),none,false⟩),
 (81,⟨1,false,true,true,(some [.sl]),[],none,(some 22),none,(some (1,24)),false,none,false,(some 22),none,false⟩),
 (83,⟨4,true,true,true,(some [(.int .i64),.sl,(.int .i64),.sl]),[(some 0),(some 1),(some 2),(some 3)],(some [(0,1),(1,1),(2,1),(3,1)]),none,none,(some (4,64)),false,none,false,none,none,false⟩),
 (84,⟨1,false,true,true,(some [.sl]),[],none,(some 9),none,(some (1,24)),false,none,false,(some 9),none,false⟩),
 (89,⟨1,false,true,true,(some [.sl]),[],none,(some 25),none,(some (1,24)),false,none,false,(some 25),none,false⟩),
 (90,⟨8,true,true,true,(some [.sl,.sl,.sl,.sl,.sl,.sl,.sl,.sl]),[],(some [(0,1),(1,1),(2,1),(3,1),(4,1),(5,1),(6,1),(7,1)]),none,(some (8,89)),(some (8,192)),false,none,false,none,none,false⟩),
 (92,⟨10,true,true,true,(some [.sl,.sl,.sl,.sl,.sl,.sl,.sl,.sl,(.int .i64),(.int .i64)]),[(some 0),(some 8),(some 9)],(some [(0,8),(8,1),(9,1)]),none,none,(some (10,208)),false,none,false,none,none,false⟩),
 (94,⟨14,true,true,true,(some [(.int .i64),(.int .i64),(.int .i64),(.int .i64),.sl,.sl,.sl,.sl,.sl,.sl,.sl,.sl,(.int .i64),(.int .i64)]),[(some 0),(some 1),(some 2),(some 3),(some 4)],(some [(0,1),(1,1),(2,1),(3,1),(4,10)]),none,none,(some (14,240)),false,none,false,none,none,false⟩),
 (107,⟨1,false,true,true,(some [.sl]),[],none,(some 111),none,(some (1,24)),false,none,false,(some 111),none,false⟩),
 (109,⟨3,true,true,true,(some [.str,.sl,.sl]),[(some 0),(some 1),(some 2)],(some [(0,1),(1,1),(2,1)]),none,none,(some (3,64)),false,none,false,none,none,false⟩),
 (111,⟨3,true,true,true,(some [(.int .i64),.sl,.bool]),[(some 0),(some 1),(some 2)],(some [(0,1),(1,1),(2,1)]),none,none,(some (3,40)),false,none,false,none,none,false⟩),
 (125,⟨1,false,true,true,(some [.sl]),[],none,(some 128),none,(some (1,24)),false,none,false,(some 128),none,false⟩),
 (127,⟨3,true,true,true,(some [.str,.sl,.sl]),[(some 0),(some 1),(some 2)],(some [(0,1),(1,1),(2,1)]),none,none,(some (3,64)),false,none,false,none,none,false⟩),
 (128,⟨3,true,true,true,(some [(.int .i64),.sl,.bool]),[(some 0),(some 1),(some 2)],(some [(0,1),(1,1),(2,1)]),none,none,(some (3,40)),false,none,false,none,none,false⟩),
 (129,⟨10,true,true,true,(some [.sl,.sl,.sl,.sl,.sl,.sl,.sl,.sl,(.int .i64),(.int .i64)]),[(some 0),(some 8),(some 9)],(some [(0,8),(8,1),(9,1)]),none,none,(some (10,208)),false,none,false,none,none,false⟩),
 (131,⟨14,true,true,true,(some [(.int .i64),(.int .i64),(.int .i64),(.int .i64),.sl,.sl,.sl,.sl,.sl,.sl,.sl,.sl,(.int .i64),(.int .i64)]),[(some 0),(some 1),(some 2),(some 3),(some 4)],(some [(0,1),(1,1),(2,1),(3,1),(4,10)]),none,none,(some (14,240)),false,none,false,none,none,false⟩),
 (135,⟨1,false,true,true,(some [(.int .u64)]),[],none,none,none,(some (1,8)),false,(some .u64),false,none,none,false⟩),
 (143,⟨3,true,true,true,(some [(.int .i64),(.int .i64),(.int .i64)]),[(some 0),(some 1),(some 2)],(some [(0,1),(1,1),(2,1)]),none,none,(some (3,24)),false,none,false,none,none,false⟩),
 (144,⟨6,true,true,true,(some [(.int .u32),(.int .u32),(.int .u32),(.int .u32),(.int .u32),(.int .u32)]),[],(some [(0,1),(1,1),(2,1),(3,1),(4,1),(5,1)]),none,(some (6,23)),(some (6,24)),false,none,false,none,none,false⟩),
 (149,⟨1,false,true,true,(some [.sl]),[],none,(some 71),none,(some (1,24)),false,none,false,(some 71),none,false⟩),
 (156,⟨11,true,true,true,(some [(.int .i64),(.int .i64),(.int .i64),(.int .i64),(.int .u32),(.int .u32),(.int .u32),(.int .u32),(.int .u32),(.int .u32),.sl]),[(some 0),(some 3),(some 4),(some 10)],(some [(0,3),(3,1),(4,6),(10,1)]),none,none,(some (11,80)),false,none,false,none,none,false⟩),
 (162,⟨1,false,true,true,(some [.sl]),[],none,(some 165),none,(some (1,24)),false,none,false,(some 165),none,false⟩),
 (165,⟨8,true,true,true,(some [(.int .i64),(.int .i64),(.int .i64),(.int .u64),(.int .u32),(.int .i64),(.int .i64),(.int .i64)]),[(some 0),(some 7)],(some [(0,7),(7,1)]),none,none,(some (8,64)),false,none,false,none,none,false⟩),
 (166,⟨1,false,true,true,(some [.ptr]),[],none,none,none,(some (1,8)),false,none,false,none,(some 42),false⟩),
 (185,⟨1,false,true,true,(some [.sl]),[],none,(some 3),none,(some (1,24)),false,none,false,(some 3),none,false⟩),
 (233,⟨5,true,true,true,(some [(.int .i64),(.int .i64),(.int .i64),(.int .i64),.bool]),[(some 0),(some 1),(some 2),(some 3),(some 4)],(some [(0,1),(1,1),(2,1),(3,1),(4,1)]),none,none,(some (5,40)),false,none,false,none,none,false⟩),
 (263,⟨1,false,true,true,(some [.fn]),[],none,none,none,(some (1,8)),false,none,false,none,none,false⟩),
 (295,⟨1,false,true,true,(some [.fn]),[],none,none,none,(some (1,8)),false,none,false,none,none,false⟩),
 (298,⟨1,false,true,true,(some [.sl]),[],none,(some 89),none,(some (1,24)),false,none,false,(some 89),none,false⟩),
 (328,⟨3,true,true,true,(some [(.int .i64),(.int .i64),.sl]),[(some 0),(some 1),(some 2)],(some [(0,1),(1,1),(2,1)]),none,none,(some (3,40)),false,none,false,none,none,false⟩),
 (356,⟨1,false,true,true,(some [.fn]),[],none,none,none,(some (1,8)),false,none,false,none,none,false⟩),
 (362,⟨1,false,true,true,(some [(.int .i64)]),[],none,none,none,(some (1,8)),false,(some .i64),false,none,none,false⟩)]
theorem TT_ok : TTab.ok Tryz.prog TT := TTab.ok_of (by kernel_rfl)
def TTx : TTab := (999999,⟨0,false,false,false,none,[],none,none,none,none,false,none,false,none,none,false⟩) :: TT
theorem TTx_ok : TTab.ok Tryz.prog TTx := TTab.ok_of (by kernel_rfl)
def TTy : TTab := (999998,⟨0,false,false,false,none,[],none,none,none,none,false,none,false,none,none,false⟩) :: TT
theorem TTy_ok : TTab.ok Tryz.prog TTy := TTab.ok_of (by kernel_rfl)
theorem mo_ok : Tryz.prog.follows .mixedOrders = true := by kernel_rfl
theorem CTab.ok.nil : CTab.ok Tryz.prog [] := fun s hs => by cases hs
theorem CTab.ok.cons {s : Sig} {C : CTab} (h : s.ok Tryz.prog) (hC : CTab.ok Tryz.prog C) : CTab.ok Tryz.prog (s :: C) := fun x hx => by
 rcases List.mem_cons.1 hx with rfl | hx
 · exact h
 · exact hC x hx
def w (a n : Nat) : List At := (List.range n).map fun i => .v (a + i)
def pi (n : Nat) : SC := .p (.int .i64) (.v n)
def ps (n : Nat) : SC := .p .sl (.v n)
def ci (n : Nat) : SV1 := .c (pi n)
def cs (n : Nat) : SV1 := .c (ps n)
def wpi (a n : Nat) : List SC := (List.range n).map fun i => pi (a + i)
def wps (a n : Nat) : List SC := (List.range n).map fun i => ps (a + i)
theorem okS {s : Sig} (x : Fir) {T : TTab} {C : CTab} {fn : Func} (hT : TTab.ok Tryz.prog T) (hC : CTab.ok Tryz.prog C) (hf : Tryz.prog.funcs[s.f]? = some fn) (hname : (fn.name == "runtime.NumGoroutine") = false) (h : execF T C fn s.nin s.params s.H = some ⟨x,s.res,s.out,s.nout⟩) (hF : s.F = Fo x) : s.ok Tryz.prog :=
 execF_ok hT hC mo_ok hf hname h (F := s.F) (fun ls => by rw [hF]; rfl) s.tag
end
section
open Go.RowKit
open Classical
def cloneS (b : Bool) : SSt := ⟨[.v (.c (.p .sl (.v 0))),.tup [],.v (.c .nil),.v (.c (.p .sl (.v 0))),.v (.c (.p .bool (.b b))),.tup [],.tup [],.tup []],[],[],8,1⟩
def cloneC : Code :=
          (Code.region 3
                #[{ dst := some 5,op := Op.buildSlice 89 0 #[],type := 89,pos := "slices.go:362",after := #[],
                    guard := none },
                  { dst := some 6,op := Op.move (Operand.tmp 0),type := 89,pos := "slices.go:362",after := #[],
                    guard := none },
                  { dst := some 7,
                    op :=
                      Op.call
                        { callee := Callee.builtin Builtin.append,args := #[Operand.tmp 5,Operand.tmp 6],
                          argTypes := #[89,89] },
                    type := 89,pos := "slices.go:362",
                    after := #[{ on := 0,ground := Ground.data },{ on := 1,ground := Ground.data }],guard := none },
                  { dst := some 2,op := Op.assign (Operand.tmp 7),type := 89,pos := "slices.go:362",
                    after :=
                      #[{ on := 2,ground := Ground.data },{ on := 2,ground := Ground.chain },
                        { on := 0,ground := Ground.phase },{ on := 1,ground := Ground.phase },
                        { on := 2,ground := Ground.phase }],
                    guard := none }]
                false).seq
            Code.ret
def cloneF : Fir := .op (.lit []) (.op (.app (.v 1) (.v 0) 4 32) (.leaf (.jump 0 [(.v 2)])))
theorem cloneE : execC TT [] cloneC 0 [.tmp 2] (cloneS false) = some ⟨cloneF,(.v (.c (.own 0))),[(0,(.row 25 (.v 1)))],1⟩ := by kernel_rfl
theorem clone_a (rows : List (List PV)) (hR : rectB 4 rows = true) (hb : rows.length * 32 ≤ 140737488355328) :
    ACalls Tryz.prog 246 [.c (.p (.sl rows))] [] (.v (.c (.own 0))) [(0,.row 25 rows)] := by
  refine ACalls.intro Tryz.func246 (by kernel_rfl) rfl rfl rfl fun X hP hk0 => aw_post ?_
  refine aw_seq ?_
  refine aw_region (Sp := fun _ => none) rfl rfl ?_
  refine aw_seq ?_
  refine aw_seq ?_
  refine aw_nilcmp (rows := rows) (e := 25) rfl (by show 3 < 8; decide) (by rw [hP]; exact Tryz.underlying89) ?_
  intro b hbn
  show Aw X (.cond _ _ _) _ ((cloneS b).den [.r rows])
  refine aw_cond (t := b) rfl (fun h => ?_) (fun h => ?_)
  · subst h
    cases hbn rfl
    refine aw_seq (aw_region (Sp := fun _ => none) rfl rfl (aw_ret ?_))
    show ∃ st',_
    refine ⟨⟨[.v (.c .dead),.v (.c .dead),.v (.c (.own 0)),.v (.c .dead),.v (.c .dead),.v (.c .dead),.v (.c .dead),.v (.c .dead)],[(0,.row 25 [])],[],16⟩,LeS.le (ι := []) (Z := [0]) rfl ?_,trivial,rfl,fun n b h => h⟩
    have hk0' : X.k0 = 0 := hk0
    rw [hk0',hP]
    exact { gone := rfl,old := by simp [Ren.old],new := by simp [Ren.new],zs := fun n hn => by
              simp at hn; subst hn
              exact ⟨by simp [Ren.new],Nat.zero_le _,by simp,25,rfl,of_decide_eq_true (by kernel_rfl)⟩
            lt := fun x hx => by simp at hx
            k0 := Nat.zero_le _
            tmps := by
              refine ⟨trivial,trivial,?_,trivial,trivial,trivial,trivial,trivial,trivial⟩
              exact List.mem_singleton.2 rfl
            heap := fun n b h => .inl (by
              simp only [List.lookup_cons,List.lookup_nil] at h
              split at h
              · rename_i hn; simp at hn; subst hn; simp
              · cases h) }
  · subst h
    refine aw_skip ?_
    show Aw X cloneC _ ((cloneS false).den [.r rows])
    have hd : outO (cloneF.den [.r rows]) = some [.r rows] := by
      simp [cloneF,Fir.den,Nd.ev,At.ev,L.asR,outO]
      rw [if_pos ⟨by omega,hb,rfl,hR⟩]
      rfl
    refine aw_mono (execC_ok TT_ok .nil mo_ok rfl cloneE (ls := [.r rows]) (os := [.r rows]) rfl hd hP hk0) fun e st h => ⟨st,fun _ _ h => h,h⟩
def F2000 : List L → Option (List L) := fun ls => match ls with
  | [.r rows] => if rectB 4 rows = true ∧ rows.length * 32 ≤ 140737488355328 then some [] else none
  | _ => none
def s2000 : Sig := ⟨246,[.c (.p .sl (.v 0))],[],1,0,.v (.c (.own 0)),[(0,.row 25 (.v 0))],F2000,2000⟩
theorem ok2000 : s2000.ok Tryz.prog := by
  intro ls os hl hF hlo
  have hF : F2000 ls = some os := hF
  unfold F2000 at hF
  split at hF
  · rename_i rows
    split at hF
    · rename_i hc
      cases hF
      exact clone_a _ hc.1 hc.2
    · cases hF
  · cases hF
theorem freeze_ok {s : Sig} (h : s.ok Tryz.prog) (hH : s.H = []) (hr : s.res = .v (.c (.own 0))) {x : At} {e : TypeId} (ho : s.out = [(0,.row e x)]) (tag : Nat) :
    Sig.ok Tryz.prog ⟨s.f,s.params,[],s.nin,s.nout,.v (.c (.p .sl x)),[],s.F,tag⟩ := by
  intro ls os hl hF hlo
  have := h ls os hl hF hlo
  rw [hH,hr,ho] at this
  exact ACalls.freeze0 this
theorem grow_ok {s : Sig} (h : s.ok Tryz.prog) (hH : s.H = []) (hr : s.res = .v (.c (.sub 0 (.i 0) (.i 0)))) {x : At} (ho : s.out = [(0,.row 25 x)]) (tag : Nat) :
    Sig.ok Tryz.prog ⟨s.f,s.params,[],s.nin,0,.v (.c (.own 0)),[(0,.row 25 .r0)],fun ls => match s.F ls with | some os => if os.length = s.nout then some [] else none | none => none,tag⟩ := by
  intro ls os hl hF hlo
  have hF : (match s.F ls with | some os => if os.length = s.nout then some [] else none | none => none) = some os := hF
  split at hF
  · rename_i os' hos
    split at hF
    · rename_i hlen
      cases hF
      have := h ls os' hl hos hlen
      rw [hH,hr,ho] at this
      exact ACalls.cut0 this
    · cases hF
  · cases hF
end
section
open Go.RowKit
namespace Sp
def vof (i j : Nat) : Nat := j / 64 * 256 + i * 64 + j % 64
def shN (t : Nat) : Nat := t / 64 % 4
def atN (t : Nat) : Nat := t / 64 / 4 * 64 + t % 64
def szN (L : Nat) : Nat := (L + 255) / 256 * 64
theorem shN_lt (t : Nat) : shN t < 4 := by unfold shN; omega
theorem vof_in {i j t p : Nat} (hi : i < 4) (hp : t % 64 + p ≤ 64) : (t ≤ vof i j ∧ vof i j < t + p) ↔ (i = shN t ∧ atN t ≤ j ∧ j < atN t + p) := by
 unfold vof shN atN; omega
theorem vof_at {j t p : Nat} (hp : t % 64 + p ≤ 64) (h : atN t ≤ j ∧ j < atN t + p) : vof (shN t) j = t + (j - atN t) := by
 unfold vof shN; unfold atN at *; omega
theorem at_fits {L t p : Nat} (hp : t % 64 + p ≤ 64) (h : t + p ≤ L) : atN t + p ≤ szN L := by
 unfold atN szN; omega
def fill (f : Nat → Int) (t i j : Nat) : Int := if vof i j < t then f (vof i j) else 0
theorem fill_zero (f : Nat → Int) (i j : Nat) : fill f 0 i j = 0 := by simp [fill]
theorem fill_step (f : Nat → Int) {t p i j : Nat} (hi : i < 4) (hp : t % 64 + p ≤ 64) :
   fill f (t + p) i j = if i = shN t ∧ atN t ≤ j ∧ j < atN t + p then f (t + (j - atN t)) else fill f t i j := by
 have h1 := vof_in (j := j) hi hp
 unfold fill
 by_cases hc : i = shN t ∧ atN t ≤ j ∧ j < atN t + p
 · obtain ⟨rfl,h2⟩ := hc
   have h3 := vof_at hp h2
   rw [if_pos (show vof (shN t) j < t + p by omega),if_pos ⟨rfl,h2⟩,h3]
 · rw [if_neg hc]
   by_cases h2 : vof i j < t
   · rw [if_pos h2,if_pos (show vof i j < t + p by omega)]
   · have h3 : ¬ vof i j < t + p := fun h => hc (h1.1 ⟨by omega,h⟩)
     rw [if_neg h2,if_neg h3]
def Byt (w : World) (A : Option Addr) (len : Nat) (f : Nat → Int) : Prop :=
 0 < len → ∃ g o,A = some ⟨g,o,none⟩ ∧ ∀ i,i < len → w.cell? ⟨g,o + i,none⟩ = some (.int .u8 (f i))
def Row (w : World) (g m : Nat) (c : Nat → Int) : Prop :=
 ∃ L : List Value,w.heap[g]? = some (.cells L.toArray 5 (0,0)) ∧ L.length = m ∧ ∀ j,j < m → L[j]? = some (.int .u8 (c j))
theorem Row.lt {w : World} {g m : Nat} {c : Nat → Int} (h : Row w g m c) : g < w.heap.size := by
 obtain ⟨L,h1,_⟩ := h; exact (Array.getElem?_eq_some_iff.1 h1).1
theorem Row.keep {w w' : World} {g m : Nat} {c : Nat → Int} (h : Row w g m c) (hk : w'.heap[g]? = w.heap[g]?) : Row w' g m c := by
 obtain ⟨L,h1,h2⟩ := h; exact ⟨L,hk.trans h1,h2⟩
theorem Row.congr {w : World} {g m : Nat} {c c' : Nat → Int} (h : Row w g m c) (hc : ∀ j,j < m → c j = c' j) : Row w g m c' := by
 obtain ⟨L,h1,h2,h3⟩ := h; exact ⟨L,h1,h2,fun j hj => by rw [← hc j hj]; exact h3 j hj⟩
theorem Row.cell {w : World} {g m : Nat} {c : Nat → Int} (h : Row w g m c) {j : Nat} (hj : j < m) : w.cell? ⟨g,j,none⟩ = some (.int .u8 (c j)) := by
 obtain ⟨L,h1,h2,h3⟩ := h
 rw [cell_of_row w g j _ _ _ h1]
 simpa using h3 j hj
theorem Row.frozen {w : World} {g m : Nat} {c : Nat → Int} (h : Row w g m c) (j : Nat) : w.frozen? ⟨g,j,none⟩ = false := by
 obtain ⟨L,h1,_⟩ := h
 simp [World.frozen?,h1]
theorem Row.made (w : World) (m : Nat) : Row (w.alloc (.cells (madeCells (Value.int .u8 0).cells (m * 1)) 5)) w.heap.size m (fun _ => 0) := by
 refine ⟨(madeCells (Value.int .u8 0).cells (m * 1)).toList,by simpa using heap_alloc_new w _,by simp [size_madeCells],fun j hj => ?_⟩
 simp [madeCells,Value.cells,hj,Nat.mod_one]
theorem Row.set {w : World} {g m : Nat} {c : Nat → Int} (h : Row w g m c) (j : Nat) (x : Int) : Row (w.setCell ⟨g,j,none⟩ (.int .u8 x)) g m (fun i => if i = j then x else c i) := by
 obtain ⟨L,h1,h2,h3⟩ := h
 rw [setCell_eq_setRow w g j _ 5 (0,0) _ h1]
 refine ⟨L.set j (.int .u8 x),by simpa using setRow_heap w g _ _ 5 (0,0) h1,by simpa using h2,fun i hi => ?_⟩
 rw [List.getElem?_set]
 by_cases hj : j = i
 · subst hj
   simp [h2,hi]
 · rw [if_neg hj,h3 i hi]
   show _ = some (Value.int .u8 (if i = j then x else c i))
   rw [if_neg (fun e => hj e.symm)]
theorem Row.copy {w : World} {g m : Nat} {c : Nat → Int} (L : List Value) (h1 : w.heap[g]? = some (.cells L.toArray 5 (0,0))) (h2 : L.length = m) (h3 : ∀ j,j < m → L[j]? = some (.int .u8 (c j)))
   (off : Nat) (cs : List Value) (d : Nat → Int) (hcs : ∀ j,j < cs.length → cs[j]? = some (.int .u8 (d j))) (hfit : off + cs.length ≤ m) :
   Row (w.setRow g (L.take off ++ (cs ++ L.drop (off + cs.length))).toArray) g m (fun j => if off ≤ j ∧ j < off + cs.length then d (j - off) else c j) := by
 refine ⟨_,setRow_heap w g _ _ 5 (0,0) h1,by simp; omega,fun j hj => ?_⟩
 show _ = some (Value.int .u8 (if off ≤ j ∧ j < off + cs.length then d (j - off) else c j))
 by_cases hlo : j < off
 · rw [List.getElem?_append_left (by simp; omega),List.getElem?_take,if_pos hlo,h3 j hj,if_neg (by omega)]
 · rw [List.getElem?_append_right (by simp; omega)]
   have e1 : (L.take off).length = off := by simp; omega
   rw [e1]
   by_cases hhi : j < off + cs.length
   · rw [List.getElem?_append_left (by omega),hcs _ (by omega),if_pos ⟨by omega,hhi⟩]
   · rw [List.getElem?_append_right (by omega),List.getElem?_drop,if_neg (by omega)]
     rw [show off + cs.length + (j - off - cs.length) = j by omega]
     exact h3 j hj
theorem info5 : (Tryz.prog.info? 5).map (fun i => (i.zero,i.size,i.bytes)) = some (some (.int .u8 0),1,1) := by kernel_rfl
theorem info71 : (Tryz.prog.info? 71).map (fun i => (i.zero,i.size,i.bytes)) = some (some (.slice none 0 0),1,24) := by kernel_rfl
def shardLen (n : Int) : Int := if n ≤ 0 then 0 else ((n - 1) / 256 + 1) * 64
theorem ret_int {k : IntKind} {a b : Int} (h : a = b) : Ending.returned (.int k a) = .returned (.int k b) := by rw [h]
theorem rShardLen_any (n : Int) (w : World) (h0 : -9223372036854775808 ≤ n) (h1 : n ≤ 9223372036854775807) :
   Calls Tryz.prog 177 #[.int .i64 n] w fun e w' => e = .returned (.int .i64 (shardLen n)) ∧ w' = w := by
 by_cases h : n < 0
 · go_enter Tryz.func177,Tryz.ntmps177
   go_wp2
   go_ret
   exact ⟨ret_int (by unfold shardLen; rw [if_pos (by omega)]),rfl⟩
 · have h' : 0 ≤ n := by omega
   by_cases h2 : 0 < n % 256
   · go_enter Tryz.func177,Tryz.ntmps177
     go_wp2
     go_ret
     exact ⟨ret_int (by unfold shardLen; rw [if_neg (by omega)]; omega),rfl⟩
   · have h3 : n % 256 ≤ 0 := by omega
     go_enter Tryz.func177,Tryz.ntmps177
     go_wp2
     go_ret
     exact ⟨ret_int (by unfold shardLen; split <;> omega),rfl⟩
theorem rPlace_yes (n : Int) (w : World) (h0 : 0 ≤ n) (h1 : n ≤ 9223372036854775807) :
  Calls Tryz.prog 178 #[.int .i64 n] w fun e w' => e = .returned (.tuple #[.int .i64 (n / 64 % 4),.int .i64 (n / 64 / 4 * 64 + n % 64),.int .i64 0]) ∧ w' = w := by
 go_enter Tryz.func178,Tryz.ntmps178
 go_wp2
 go_ret3
 exact ⟨rfl,rfl⟩
theorem rSize_nat (L m : Nat) (w : World) (hL : L ≤ 1048576) (h : szN L = m) :
  Calls Tryz.prog 177 #[.int .i64 (L : Int)] w fun e w' => e = .returned (.int .i64 (m : Int)) ∧ w = w' := by
 refine (rShardLen_any (L : Int) w (by omega) (by omega)).mono ?_
 rintro e w' ⟨rfl,rfl⟩
 rw [show shardLen (L : Int) = (szN L : Int) by unfold shardLen szN; split <;> omega,h]
 exact ⟨rfl,rfl⟩
theorem rPlace_nat (t : Nat) (w : World) (ht : t ≤ 1048576) (s a : Nat) (hs : shN t = s) (ha : atN t = a) :
  Calls Tryz.prog 178 #[.int .i64 (t : Int)] w fun e w' => e = .returned (.tuple #[.int .i64 (s : Int),.int .i64 (a : Int),.int .i64 0]) ∧ w = w' := by
 refine (rPlace_yes (t : Int) w (by omega) (by omega)).mono ?_
 rintro e w' ⟨rfl,rfl⟩
 rw [show ((t : Int) / 64 % 4) = (shN t : Int) by unfold shN; omega,show ((t : Int) / 64 / 4 * 64 + (t : Int) % 64) = (atN t : Int) by unfold atN; omega,hs,ha]
 exact ⟨rfl,rfl⟩
theorem make_bytes (m : Nat) (hm : m ≤ 1048576) (w : World) :
  (Instr.makeSlice 71 (.int .i64 (m : Int)) (.int .i64 (m : Int))).run Tryz.prog w = .ok (.slice (some ⟨w.heap.size,0,none⟩) m m) (w.alloc (.cells (madeCells (Value.int .u8 0).cells (m * 1)) 5)) := by
 obtain ⟨i0,hi,hz0,hz1,hz2⟩ := info_parts info5
 have h := run_make (P := Tryz.prog) w 71 5 i0 (.int .u8 0) Tryz.underlying71 hi hz0 .i64 .i64 (m : Int) (m : Int) (by omega) (by omega) (by rw [hz2]; omega) (by omega)
 rw [hz1] at h
 simpa only [Int.toNat_natCast] using h
structure Shards (w : World) (base G cap : Nat) (h : Nat → Nat) (m : Nat) (c : Nat → Nat → Int) : Prop where
 head : ∃ cur,w.heap[G]? = some (.cells cur 71 (0,0)) ∧ cur.size = cap ∧ ∀ i,i < 4 → cur[i]? = some (.slice (some ⟨h i,0,none⟩) m m)
 low : base ≤ G ∧ G < w.heap.size
 rows : ∀ i,i < 4 → base ≤ h i ∧ h i ≠ G ∧ Row w (h i) m (c i)
 apart : ∀ i j,i < 4 → j < 4 → h i = h j → i = j
def SplitPost (w : World) (m : Nat) (c : Nat → Nat → Int) (e : Ending) (w' : World) : Prop :=
 ∃ G cap h,e = .returned (.slice (some ⟨G,0,none⟩) 4 cap) ∧ 4 ≤ cap ∧ cap ≤ 9223372036854775807 ∧ Shards w' w.heap.size G cap h m c ∧ Below w.heap.size w w'
theorem Shards.cell {w : World} {base G cap : Nat} {h : Nat → Nat} {m : Nat} {c : Nat → Nat → Int} (hS : Shards w base G cap h m c) {i : Nat} (hi : i < 4) : w.cell? ⟨G,i,none⟩ = some (.slice (some ⟨h i,0,none⟩) m m) := by
 obtain ⟨cur,h1,_,h2⟩ := hS.head
 rw [cell_of_row w G i cur 71 (0,0) h1]; exact h2 i hi
theorem Row.made' (w : World) (m : Nat) : Row (w.alloc (.cells (madeCells #[Value.int .u8 0] m) 5)) w.heap.size m (fun _ => 0) := by
 have := Row.made w m
 rwa [Nat.mul_one] at this
def heads (h : Nat → Nat) (m k : Nat) : List Value := (List.range k).map fun i => .slice (some ⟨h i,0,none⟩) m m
theorem heads_succ (h : Nat → Nat) (m k g : Nat) : heads (fun i => if i = k then g else h i) m (k + 1) = heads h m k ++ [.slice (some ⟨g,0,none⟩) m m] := by
 unfold heads
 rw [List.range_succ,List.map_append]
 congr 1
 · apply List.map_congr_left
   intro i hi
   have := List.mem_range.1 hi
   show Value.slice (some ⟨if i = k then g else h i,0,none⟩) m m = _
   rw [if_neg (by omega)]
 · simp
theorem heads_at (h : Nat → Nat) (m k : Nat) {i : Nat} (hi : i < k) : (heads h m k)[i]? = some (.slice (some ⟨h i,0,none⟩) m m) := by simp [heads,hi]
theorem news2 (W : World) (C : Array Value) (x : Value) : ∀ j u,[x][j]? = some u → ((W.alloc (.cells C 5)).alloc (.cells #[x] 71)).cell? ((⟨W.heap.size + 1,0,none⟩ : Addr).add j) = some u := by
 have := World.news_of_block (w := (W.alloc (.cells C 5)).alloc (.cells #[x] 71)) (heap_alloc_new _ _)
 rw [World.size_alloc] at this
 exact this
def RMid (w : World) (m k : Nat) (v : Value) (W : World) : Prop :=
 ∃ h : Nat → Nat,W.ownsRow w.heap.size 71 1 v k (heads h m k) ∧ (∀ i,i < k → w.heap.size ≤ h i ∧ Row W (h i) m (fun _ => 0)) ∧ (∀ i j,i < k → j < k → h i = h j → i = j) ∧ Below w.heap.size w W
theorem RMid.step {w W w1 : World} {m k : Nat} {v v' : Value} {X : Obj} {h : Nat → Nat} (hrow : W.ownsRow w.heap.size 71 1 v k (heads h m k)) (hr : ∀ i,i < k → w.heap.size ≤ h i ∧ Row W (h i) m (fun _ => 0))
   (ha : ∀ i j,i < k → j < k → h i = h j → i = j) (hB : Below w.heap.size w W)
   (hown' : w1.ownsRow w.heap.size 71 1 v' (k + 1) (heads h m k ++ [.slice (some ⟨W.heap.size,0,none⟩) m m]))
   (hgrow : ((W.alloc (.cells (madeCells #[Value.int .u8 0] m) 5)).alloc X).grownBy w1 v.ownBlock) : RMid w m (k + 1) v' w1 := by
 have o1 : ∀ j,j < W.heap.size → ((W.alloc (.cells (madeCells #[Value.int .u8 0] m) 5)).alloc X).heap[j]? = W.heap[j]? := fun j hj =>
   (Below.heap_alloc _ _ _ (by simp; omega)).trans (Below.heap_alloc _ _ _ hj)
 have hne : ∀ j c,Row W j m c → some j ≠ v.ownBlock := by
   rintro j c ⟨Lj,h1,_⟩ e
   rcases hrow.2 with ⟨rfl,_⟩ | ⟨g,cap,cur,rfl,_,hg,_⟩
   · simp [Value.ownBlock] at e
   · obtain rfl : j = g := by simpa [Value.ownBlock] using e
     rw [h1] at hg; cases hg
 have hnew : Row ((W.alloc (.cells (madeCells #[Value.int .u8 0] m) 5)).alloc X) W.heap.size m (fun _ => 0) := (Row.made' W m).keep (Below.heap_alloc _ _ _ (by simp))
 refine ⟨fun i => if i = k then W.heap.size else h i,by rw [heads_succ]; exact hown',fun i hi => ?_,fun i j hi hj e => ?_,?_⟩
 · show w.heap.size ≤ (if i = k then W.heap.size else h i) ∧ Row w1 (if i = k then W.heap.size else h i) m _
   by_cases hik : i = k
   · rw [if_pos hik]
     refine ⟨hB.size,hnew.keep (hgrow.block _ (by simp; omega) (fun e => ?_))⟩
     have := hrow.lt _ e.symm
     omega
   · rw [if_neg hik]
     obtain ⟨h1,h2⟩ := hr i (by omega)
     exact ⟨h1,h2.keep ((hgrow.block _ (by have := h2.lt; simp; omega) (hne _ _ h2)).trans (o1 _ h2.lt))⟩
 · simp only at e
   by_cases hik : i = k <;> by_cases hjk : j = k
   · omega
   · rw [if_pos hik,if_neg hjk] at e
     have := (hr j (by omega)).2.lt; omega
   · rw [if_neg hik,if_pos hjk] at e
     have := (hr i (by omega)).2.lt; omega
   · rw [if_neg hik,if_neg hjk] at e
     exact ha i j (by omega) (by omega) e
 · exact ((hB.alloc hB.size _).alloc (by have := hB.size; simp; omega) _).grown hgrow (by have := hB.size; simp; omega) (fun r e => (hrow.lt r e).1)
theorem Shards.step {W : World} {base G cap : Nat} {h : Nat → Nat} {m t s a : Nat} {f : Nat → Int} (hS : Shards W base G cap h m (fill f t)) (hs : shN t = s) (ha : atN t = a) (N : Nat) :
   Shards ((W.drewN N).setCell ⟨h s,a,none⟩ (.int .u8 (f t))) base G cap h m (fill f (t + 1)) := by
 have hs4 := shN_lt t
 rw [hs] at hs4
 have hst : ∀ i j,i < 4 → fill f (t + 1) i j = if i = s ∧ a ≤ j ∧ j < a + 1 then f (t + (j - a)) else fill f t i j := fun i j hi => by
   have := fill_step f (t := t) (p := 1) (i := i) (j := j) hi (by omega)
   rwa [hs,ha] at this
 have hGn : G ≠ h s := fun e => (hS.rows s hs4).2.1 e.symm
 obtain ⟨cur,hh1,hh2,hh3⟩ := hS.head
 refine ⟨⟨cur,?_,hh2,hh3⟩,⟨hS.low.1,by simpa [World.setCell] using hS.low.2⟩,fun i hi => ?_,hS.apart⟩
 · exact ((Below.heap_setCell (W.drewN N) _ _ _ hGn)).trans hh1
 · obtain ⟨h1,h2,h3⟩ := hS.rows i hi
   refine ⟨h1,h2,?_⟩
   by_cases his : i = s
   · subst his
     refine (Row.set (w := W.drewN N) h3 a (f t)).congr fun j _ => ?_
     show (if j = a then f t else fill f t i j) = _
     rw [hst i j hi]
     by_cases hja : j = a
     · rw [if_pos hja,if_pos ⟨rfl,by omega,by omega⟩,show t + (j - a) = t by omega]
     · rw [if_neg hja,if_neg (fun h => hja (by omega))]
   · refine (h3.keep (Below.heap_setCell (W.drewN N) _ _ _ (fun e => his (hS.apart i s hi hs4 e)))).congr fun j _ => ?_
     rw [hst i j hi,if_neg (fun h => his h.1)]
set_option maxRecDepth 100000 in
set_option maxHeartbeats 1000000 in
theorem rSplit_any (A : Option Addr) (L cap : Nat) (f : Nat → Int) (w : World) (hL : L ≤ 1048576) (hb : Byt w A L f) :
  Calls Tryz.prog 127 #[.slice A L cap] w (SplitPost w (szN L) (fill f L)) := by
 obtain ⟨i0,hi,hz0,hz1,hz2⟩ := info_parts info71
 obtain ⟨m,hm⟩ : ∃ m,szN L = m := ⟨_,rfl⟩
 have hm2 : m ≤ 1048576 := by rw [← hm]; unfold szN; omega
 have hmk := make_bytes m hm2
 have Hm := Lib.hid hm
 rw [hm]
 clear hm
 go_enter Tryz.func127,Tryz.ntmps127
 go_wp2_with fail
 go_loopw [3,4] (fun v i W => ∃ k : Nat,k ≤ 4 ∧ i = .int .i64 k ∧ RMid w m k v W) (fun _ i _ => 4 - (intOf i).toNat)
 case atStart => exact ⟨0,by omega,rfl,fun _ => 0,World.ownsRow_nil _ _ _ _,fun i hi => absurd hi (by omega),fun i j hi => absurd hi (by omega),Below.refl _ _⟩
 case round =>
  obtain ⟨k,hk,rfl,h,hrow,hr,ha,hB⟩ := hrel
  have hBs := hB.size
  by_cases hlt : k < 4
  · have k1 : (k : Int) < 4 := by omega
    go_wp2_with (first | (go_at_call 177; refine (rSize_nat L m _ hL Hm.out).mono ?_; rintro e w' ⟨rfl,rfl⟩) | (at_builtin; go_must (refine wpList_append_own _ rfl _ _ 149 rfl w.heap.size 71 i0 (.slice none 0 0) 1 24 Tryz.underlying149 hi hz0 hz1 hz2 rfl (by decide) _ _ _ rfl ((hrow.alloc _).alloc _) ⟨wr.heap.size + 1,0,none⟩ 1 1 [.slice (some ⟨wr.heap.size,0,none⟩) m m] rfl rfl (news2 _ _ _) (by simp [Value.oneCell']) (by unfold maxLen; omega) (by omega) (by simp; omega) ?_); intro v' w1 hown' hgrow _))
    go_roundw
    case rel => exact ⟨k + 1,by omega,by go_num,RMid.step hrow hr ha hB hown' hgrow⟩
    case measure => simp [intOf]; omega
  · obtain rfl : k = 4 := by omega
    obtain ⟨G,c4,cur4,rfl,hG1,hG3,hc4,hcm4',hG5,hG6⟩ := hrow.2.resolve_left (fun h => absurd h.2 (by omega))
    have hcm4 : c4 ≤ 9223372036854775807 := by simp only [maxLen] at hcm4'; omega
    have hG2 := (Array.getElem?_eq_some_iff.1 hG3).1
    have hG4 : True := trivial
    have hS0 : Shards wr w.heap.size G c4 h m (fill f 0) := by
     refine ⟨⟨cur4,hG3,by omega,fun i hi => by
       have := heads_at h m 4 hi
       rw [← hG6,List.getElem?_take,if_pos (by omega)] at this
       simpa using this⟩,⟨hG1,hG2⟩,fun i hi => ⟨(hr i hi).1,?_,(hr i hi).2.congr fun j _ => (fill_zero f i j).symm⟩,ha⟩
     rintro rfl
     obtain ⟨Lj,h1,_⟩ := (hr i hi).2
     rcases hrow.2 with ⟨h0,_⟩ | ⟨g,cap',cur,h0,_,hg,_⟩
     · cases h0
     · cases h0
       rw [h1] at hg; cases hg
    clear hrow hr ha hG1 hG2 hG3 hG4 hG5 hG6 hcm4' hmk
    go_wp2_with fail
    simp only [Int.cast_ofNat_Int]
    obtain ⟨wo,rfl⟩ : ∃ wo : World,wo = wr := ⟨_,rfl⟩
    go_loopw [5] (fun i W => ∃ t : Nat,t ≤ L ∧ i = .int .i64 t ∧ Shards W w.heap.size G c4 h m (fill f t) ∧ Below w.heap.size w W) (fun i _ => L - (intOf i).toNat)
    case atStart => exact ⟨0,by omega,rfl,hS0,hB⟩
    case round =>
     clear hS0 hB hBs
     obtain ⟨t,ht,rfl,hS,hB⟩ := hrel
     by_cases hlt2 : t < L
     · obtain ⟨ga,oa,rfl,hfb⟩ := hb (by omega)
       have hsh := shN_lt t
       have hfit : atN t + 1 ≤ m := by have := at_fits (L := L) (t := t) (p := 1) (by omega) (by omega); have := Hm.out; omega
       obtain ⟨hr1,hr2,hr3⟩ := hS.rows (shN t) hsh
       have d0 := hS.cell hsh
       have d1 := hr3.cell (j := atN t) (by omega)
       have d2 := hr3.frozen (atN t)
       have d3 : wr.cell? ⟨ga,oa + t,none⟩ = some (.int .u8 (f t)) := (hB.cell (p := ⟨ga,oa + t,none⟩) (World.block_lt_of_cell? w _ (hfb t hlt2))).trans (hfb t hlt2)
       have d4 : h (shN t) ≠ ga := fun e => by
        have := World.block_lt_of_cell? w _ (hfb t hlt2)
        simp only at this
        omega
       clear hr1 hr2 hr3
       generalize hsn : shN t = sn at *
       generalize han : atN t = an at *
       generalize fill f t sn an = old at d1
       have Hsn := Lib.hid hsn
       have Han := Lib.hid han
       clear hsn han
       have i0 : (0 : Int) ≤ (sn : Int) := by omega
       have i1 : (sn : Int) < 4 := by omega
       have i2 : (0 : Int) ≤ (an : Int) := by omega
       have i3 : (an : Int) < (m : Int) := by omega
       have i4 : (0 : Int) ≤ (t : Int) := by omega
       have i5 : (t : Int) < (L : Int) := by omega
       go_wp2_with (go_at_call 178; refine (rPlace_nat t _ (by omega) sn an Hsn.out Han.out).mono ?_; rintro e w' ⟨rfl,rfl⟩)
       go_still_tail 10,(by kernel_rfl)
       go_wp2
       go_roundw
       case rel => exact ⟨t + 1,by omega,by go_num,hS.step Hsn.out Han.out 1,(hB.setCell (p := ⟨h sn,an,none⟩) (hS.rows sn hsh).1 _).drew⟩
       case measure => simp [intOf]; omega
     · obtain rfl : t = L := by omega
       go_wp2
       go_ret
       exact ⟨G,c4,h,rfl,hc4,hcm4,hS,hB⟩
def shardRow (b : List Int) (i : Nat) : List PV := [.sl (bys ((List.range (szN b.length)).map fun j => fill (fun t => (b[t]?).getD 0) b.length i j))]
def splitRows (b : List Int) : List (List PV) := (List.range 4).map (shardRow b)
theorem byt_of {M : Bad} {w : World} {b : List Int} {v : Value} (h : RP M w (.sl (bys b)) v) : ∃ A cap,v = .slice A b.length cap ∧ b.length ≤ cap + b.length ∧ (b.length = 0 ∨ b.length ≤ cap ∧ cap ≤ maxLen) ∧ Byt w A b.length (fun t => (b[t]?).getD 0) := by
 rcases RP.rows h with ⟨h0,A,cap,rfl⟩ | ⟨g,o,cap,sz,f,rfl,h0,hl,hm,hR,hc⟩
 · have : b = [] := by cases b with | nil => rfl | cons => simp [bys] at h0
   subst this
   exact ⟨A,cap,rfl,by simp,.inl rfl,fun h => absurd h (by simp)⟩
 · rw [length_bys]
   rw [length_bys] at hl
   refine ⟨_,cap,rfl,by omega,.inr ⟨hl,hm⟩,fun hp => ⟨g,o,rfl,fun i hi => ?_⟩⟩
   have hsz : sz = 1 := by
    have hr := List.getElem?_eq_getElem (l := bys b) (i := i) (by rw [length_bys]; exact hi)
    rw [← hR _ (List.mem_of_getElem? hr),Rect_bys b _ (List.mem_of_getElem? hr)]
   subst hsz
   have hb : b[i]? = some b[i] := List.getElem?_eq_getElem hi
   obtain ⟨h1,h2⟩ := hc i [.sc (.int .u8 b[i])] 0 (.sc (.int .u8 b[i])) (by rw [bys_get,hb]; rfl) rfl
   rw [RP.sc_eq h2] at h1
   simp only [Nat.mul_one,Nat.add_zero] at h1
   rw [h1]; simp only [hb,Option.getD_some]
theorem rp_row {M : Bad} {w : World} {g m : Nat} {c : Nat → Int} (h : Row w g m c) (hM : ¬ M g) (hm : m ≤ maxLen) : RP M w (.sl (bys ((List.range m).map c))) (.slice (some ⟨g,0,none⟩) m m) := by
 by_cases h0 : m = 0
 · subst h0; exact .nil
 · have hl : (bys ((List.range m).map c)).length = m := by simp [bys]
   have hg : ∀ (i : Nat) (r : List PV),(bys ((List.range m).map c))[i]? = some r → i < m ∧ r = [.sc (.int .u8 (c i))] := by
     intro i r hi
     have hlt : i < m := by rw [← hl]; exact (List.getElem?_eq_some_iff.1 hi).1
     rw [bys_get,List.getElem?_map,List.getElem?_range hlt] at hi
     cases hi
     exact ⟨hlt,rfl⟩
   rw [show (Value.slice (some ⟨g,0,none⟩) m m) = .slice (some ⟨g,0,none⟩) (bys ((List.range m).map c)).length m by rw [hl]]
   refine .row (sz := 1) (f := fun i _ => .int .u8 (c i)) (by intro he; rw [he] at hl; simp at hl; omega) (by omega) hm (Rect_bys _) (fun i r j p hi hj => ?_) (fun i r j p hi hj => ?_)
   · obtain ⟨h1,rfl⟩ := hg i r hi
     have hj0 : j = 0 := by cases j with | zero => rfl | succ j => simp at hj
     subst hj0
     refine ⟨?_,hM⟩
     have := h.cell h1
     simpa using this
   · obtain ⟨h1,rfl⟩ := hg i r hi
     have hj0 : j = 0 := by cases j with | zero => rfl | succ j => simp at hj
     subst hj0
     simp at hj; subst hj
     exact .sc rfl
theorem split_a (b : List Int) (hb : b.length ≤ 1048576) : ACalls Tryz.prog 127 [.c (.p (.sl (bys b)))] [] (.v (.c (.own 0))) [(0,.row 71 (splitRows b))] := {
 own := ⟨_,Tryz.func127,by kernel_rfl,rfl⟩
 call := fun w M N vals h1 h2 h3 h4 h5 h6 h7 => by
  obtain ⟨v,hv1,hv2⟩ := h7 0 _ rfl
  have hvals : vals = #[v] := by
    have : vals.size = 1 := h6
    apply Array.ext_getElem?
    intro i
    cases i with
    | zero => rw [hv1]; rfl
    | succ i => rw [Array.getElem?_eq_none (by omega)]; rfl
  subst hvals
  have hNn : ∀ n,N n = none := fun n => by
    cases hn : N n with
    | none => rfl
    | some x => exact absurd (h2 n x hn) (Nat.not_lt_zero n)
  obtain ⟨A,cap,rfl,_,hcap,hB⟩ := byt_of (show RP _ w (.sl (bys b)) v from hv2)
  refine (rSplit_any A b.length cap _ w hb hB).mono ?_
  rintro e w' ⟨G,c4,hh,rfl,k1,k2,hS,hBel⟩
  obtain ⟨cur,q1,q2,q3⟩ := hS.head
  have hlow := hS.low
  have hbad : ∀ g,w.heap.size ≤ g → g ≠ G → ¬ bad M ⟨fun n => if n = 0 then some ⟨some G,4,c4,1⟩ else none,[]⟩ g := by
    rintro g hg hne (hb | ⟨n,x,hn,hx⟩)
    · have := h1 g hb; omega
    · simp only at hn
      split at hn
      · cases hn; cases hx; exact hne rfl
      · cases hn
  refine ⟨_,⟨fun n => if n = 0 then some ⟨some G,4,c4,1⟩ else none,[]⟩,rfl,Frame.of_below hBel,⟨rfl,?_,?_,fun m hm => absurd hm (Nat.not_lt_zero m)⟩,?_,?_⟩
  · intro n x g hx hg
    simp only at hx
    split at hx
    · cases hx; cases hg
      exact ⟨hlow.2,.inr hlow.1⟩
    · cases hx
  · intro n m x y g hx hy _ _
    simp only at hx hy
    split at hx <;> split at hy
    · omega
    · cases hy
    · cases hx
    · cases hx
  · intro n bl hbl
    simp only [List.lookup_cons,List.lookup_nil] at hbl
    split at hbl
    · rename_i hn
      simp at hn; subst hn
      cases hbl
      refine ⟨⟨some G,4,c4,1⟩,cur,(0,0),by simp,.inl rfl,fun g hg => by cases hg; exact q1,by simp [splitRows],k1,by simp only [maxLen]; omega,by simp only; omega,by show 1 = _; kernel_rfl,by simp only; omega,fun r hr => ?_,fun h => (by cases h),fun i r j p hi hj => ?_⟩
      · simp only [splitRows,List.mem_map] at hr
        obtain ⟨i,_,rfl⟩ := hr
        rfl
      · have hi4 : i < 4 := by
         have := (List.getElem?_eq_some_iff.1 hi).1
         simpa [splitRows] using this
        simp only [splitRows,List.getElem?_map,List.getElem?_range hi4,Option.map_some,Option.some.injEq] at hi
        subst hi
        have hj0 : j = 0 := by cases j with | zero => rfl | succ j => simp [shardRow] at hj
        subst hj0
        simp [shardRow] at hj; subst hj
        obtain ⟨r1,r2,r3⟩ := hS.rows i hi4
        have hm : szN b.length ≤ maxLen := by simp only [maxLen]; unfold szN; omega
        exact ⟨_,by simpa using q3 i hi4,rp_row r3 (hbad _ r1 r2) hm⟩
    · cases hbl
  · exact .inr ⟨⟨some G,4,c4,1⟩,by simp,rfl⟩
 }
end Sp
theorem bys_of {rows : List (List PV)} : ∀ {b : List Int},byIs rows = some b → rows = bys b := by
 induction rows with
 | nil => intro b h; simp [byIs] at h; subst h; rfl
 | cons r rows ih =>
  intro b h
  simp only [byIs,List.mapM_cons] at h
  cases hr : byI r with
  | none => simp [hr] at h
  | some n =>
   cases hs : rows.mapM byI with
   | none => simp [hr,hs] at h
   | some ns =>
    simp [hr,hs] at h
    subst h
    rw [ih (b := ns) hs]
    unfold byI at hr
    split at hr
    · cases hr; rfl
    · cases hr
noncomputable def F2003 : List L → Option (List L) := fun ls => match ls with
 | [l] => match byIs l.asR with
  | some b => if b.length ≤ 1048576 then some [.r (Sp.splitRows b)] else none
  | none => none
 | _ => none
noncomputable def s2003 : Sig := ⟨127,[.c (.p .sl (.v 0))],[],1,1,.v (.c (.own 0)),[(0,.row 71 (.v 1))],F2003,2003⟩
theorem ok2003 : s2003.ok Tryz.prog := by
 intro ls os hl hF hlo
 have hF : F2003 ls = some os := hF
 unfold F2003 at hF
 split at hF
 · rename_i l
   split at hF
   · rename_i b hb
     split at hF
     · rename_i hc
       cases hF
       have := Sp.split_a b hc
       rw [← bys_of hb] at this
       exact this
     · cases hF
   · cases hF
 · cases hF
end
section
open Go.RowKit Go.Shelf
attribute [local go_sem] Oper.semAt_some
set_option maxRecDepth 100000 in
set_option maxHeartbeats 1000000 in
theorem backward_in (m : Nat) (hm : 1 ≤ m) (l gB N : Nat) (hN : N ≤ 4611686018427387904) (J : Nat → World → Prop)
  (hJ : ∀ k W,J k W → k ≤ N → ∃ A cap,W.cell? ⟨gB,0,none⟩ = some (.slice A N cap) ∧ (k < N → ∃ (g o : Nat) (f : Nat → Value),A = some ⟨g,o,none⟩ ∧ (∀ j,j < 14 → W.cell? ⟨g,o + (N - 1 - k) * 14 + j,none⟩ = some (f j)) ∧
    YieldAt Fence.wide (m - 1) Tryz.prog l #[.int .i64 ((N - 1 - k : Nat) : Int),.agg #[f 0,f 1,f 2,f 3,f 4,f 5,f 6,f 7,f 8,f 9,f 10,f 11,f 12,f 13]] W (fun e W' => e = .returned (.bool true) ∧ J (k + 1) W')))
  (W : World) (h0 : J 0 W) :
  CallsIn Fence.wide m Tryz.prog 169 #[.func (.yield l) #[] #[],.pointer (some ⟨gB,0,none⟩)] W fun e W' => (∃ v,e = .returned v) ∧ J N W' := by
 obtain ⟨A0,cap0,hc0,_⟩ := hJ 0 W h0 (Nat.zero_le _)
 refine callsIn_of_wp Tryz.func169 rfl trivial ?_ rfl
 simp only [Tryz.ntmps169,List.size_toArray,List.length_cons,List.length_nil,Nat.reduceAdd,Nat.reduceSub,Array.replicate_succ,Array.replicate_zero,List.push_toArray,List.append_toArray,List.nil_append,List.cons_append]
 gi_wp2
 gi_loopw [3] (fun i wr => ∃ (k : Nat) (q : Int),k ≤ N ∧ i = .int .i64 q ∧ Hid (q = (N : Int) - 1 - k) ∧ J k wr) (fun i _ => (intOf i + 1).toNat)
 case atStart => exact ⟨0,_,Nat.zero_le _,rfl,by show _ = _; simp,h0⟩
 case round =>
  obtain ⟨k,q,hk,rfl,hq,hJk⟩ := hrel
  clear hc0 h0
  obtain ⟨A,cap,hc,hr⟩ := hJ k wr hJk hk
  by_cases hlt : k < N
  · obtain ⟨g,o,f,rfl,hf,hY⟩ := hr hlt
    obtain ⟨p,hp⟩ : ∃ p,N - 1 - k = p := ⟨_,rfl⟩
    rw [hp] at hf hY
    obtain rfl : q = (p : Int) := by have := hq.out; omega
    obtain ⟨fn,tmps,assign,body,hy,hR⟩ := hY
    have d0 := hf 0 (by omega); have d1 := hf 1 (by omega); have d2 := hf 2 (by omega); have d3 := hf 3 (by omega); have d4 := hf 4 (by omega); have d5 := hf 5 (by omega); have d6 := hf 6 (by omega)
    have d7 := hf 7 (by omega); have d8 := hf 8 (by omega); have d9 := hf 9 (by omega); have d10 := hf 10 (by omega); have d11 := hf 11 (by omega); have d12 := hf 12 (by omega); have d13 := hf 13 (by omega)
    simp only [Nat.add_zero] at d0
    generalize f 0 = f0 at *; generalize f 1 = f1 at *; generalize f 2 = f2 at *; generalize f 3 = f3 at *; generalize f 4 = f4 at *; generalize f 5 = f5 at *; generalize f 6 = f6 at *
    generalize f 7 = f7 at *; generalize f 8 = f8 at *; generalize f 9 = f9 at *; generalize f 10 = f10 at *; generalize f 11 = f11 at *; generalize f 12 = f12 at *; generalize f 13 = f13 at *
    have hp0 : (0 : Int) ≤ (p : Int) := by omega
    have hpN : (p : Int) < (N : Int) := by omega
    clear hf hJ
    gi_wp2
    refine hR.mono ?_
    rintro e W3 ⟨rfl,hJ3⟩
    gi_wp2
    go_roundw
    case rel => exact ⟨k + 1,_,by omega,rfl,by show _ = _; omega,hJ3⟩
    case measure => simp [intOf]
  · obtain rfl : k = N := by omega
    have hq0 : q < 0 := by have := hq.out; omega
    gi_wp2
    go_end0
    exact ⟨⟨_,rfl⟩,hJk⟩
end
end Go.Proofs.YtndegphojkiblaaGreatDoor
