/- Towards the last file's theorem: part 32. -/
import Derived.Test.YtndegphojkiblaaGreatDoorG31
import Derived.WalkKit
set_option linter.unusedSimpArgs false
set_option linter.unusedVariables false
set_option maxHeartbeats 4000000
namespace Go.Proofs.YtndegphojkiblaaGreatDoor
section
open Go.RowKit Pl
def itR (x : It) : List PV := [.sc (.int .u64 x.key),.sc (.int .u32 x.cookie),.sc (.int .i64 x.off),.sc (.int .i64 x.size)]
theorem rect_it (l : List It) : rectB 4 (l.map itR) = true := by
 rw [rectB_iff]; intro r hr
 obtain ⟨x,_,rfl⟩ := List.mem_map.1 hr
 rfl
def icnt (x : It) : List It → Nat
 | [] => 0
 | a :: l => if a.key < x.key then icnt x l + 1 else 0
theorem icnt_le (x : It) : ∀ l : List It,icnt x l ≤ l.length
 | [] => Nat.le_refl _
 | a :: l => by
  have := icnt_le x l
  simp only [icnt,List.length_cons]; split <;> omega
theorem icnt_lt {x : It} : ∀ {l : List It} {k : Nat} (h : k < icnt x l),∃ y,l[k]? = some y ∧ y.key < x.key
 | [],k,h => absurd h (Nat.not_lt_zero k)
 | a :: l,k,h => by
  simp only [icnt] at h
  split at h
  · rename_i ha
    cases k with
    | zero => exact ⟨a,rfl,ha⟩
    | succ k => exact icnt_lt (l := l) (k := k) (by omega)
  · omega
theorem icnt_ge {x : It} : ∀ {l : List It} {y : It},l[icnt x l]? = some y → ¬ y.key < x.key
 | [],y,h => by cases h
 | a :: l,y,h => by
  simp only [icnt] at h
  split at h
  · exact icnt_ge (l := l) (by simpa using h)
  · rename_i ha
    cases h; exact ha
theorem ins_icnt (x : It) : ∀ l : List It,ins x l = l.take (icnt x l) ++ x :: (match l.drop (icnt x l) with | y :: r => if y.key = x.key then r else y :: r | [] => [])
 | [] => rfl
 | a :: l => by
  simp only [icnt,ins]
  split
  · simp only [List.take_succ_cons,List.drop_succ_cons,List.cons_append]
    rw [ins_icnt x l]
  · simp only [List.take_zero,List.drop_zero,List.nil_append]
    split <;> rfl
theorem ins_length (x : It) : ∀ l : List It,(ins x l).length ≤ l.length + 1
 | [] => Nat.le_refl _
 | a :: l => by
  have := ins_length x l
  simp only [ins]; split
  · simp only [List.length_cons]; omega
  · split <;> simp only [List.length_cons] <;> omega
namespace AI
theorem sorted_law (l0 : L) (l : List It) (hr : l0.asR = l.map itR) (hn : l.length ≤ 1000000) : ∃ o,F46 [l0] = some o ∧ o = [.r ((srt l).map itR)] := by
 have hlen : l0.asR.length = l.length := by rw [hr,List.length_map]
 refine outO_of_wp ?_
 unfold fir46
 simp only [wp_join]
 refine wp_loop (I := fun a => ∃ (i : Nat) (out : List It),a = [.i i,.r (out.map itR)] ∧ i ≤ l.length ∧ out.length ≤ i ∧ srt l = (l.drop i).foldl (fun out x => ins x out) out) (mu := fun a => match a with | [.i i,_] => l.length - i.toNat | _ => 0) (by exact ⟨0,[],rfl,by omega,by simp,by simp [srt]⟩) ?_
 rintro a ⟨i,out,rfl,e1,e2,e3⟩
 by_cases hi : i < l.length
 rotate_left
 · have hi' : ¬ (i : Int) < (l0.asR.length : Int) := by omega
   have : l.drop i = [] := List.drop_eq_nil_of_le (by omega)
   rw [this] at e3
   simp only [List.foldl_nil] at e3
   simp [w_bi,w_bs,w_bb,w_not,w_conv,w_len,w_row,w_rc,w_cl,w_bnd,w_sel,w_upd,w_part,w_cut,w_vw,w_tk,w_app,w_set,w_lit,w_mn,w_mx,w_call,wp_ite,wp_leaf,wp_join,binI,binB,At.ev,d6,d7,d8,e0,d9,joinQ,loopQ,outQ,pvsOf,Kd.pv,Kd.of,List.map_cons,List.map_nil,d1,d2,d3,d4,d5,Option.map_some,hlen,hi,e3]
 have hi0 : i < l0.asR.length := by omega
 have hx : l0.asR[i] = itR l[i] := by
   have : l0.asR[i]? = some (itR l[i]) := by rw [hr,List.getElem?_map,List.getElem?_eq_getElem hi]; rfl
   rw [List.getElem?_eq_getElem hi0] at this
   exact Option.some.inj this
 have hd : l.drop i = l[i] :: l.drop (i + 1) := List.drop_eq_getElem_cons hi
 rw [hd] at e3
 simp only [List.foldl_cons] at e3
 generalize l[i] = x at hx e3
 unfold itR at hx
 simp [w_bi,w_bs,w_bb,w_not,w_conv,w_len,w_row,w_rc,w_cl,w_bnd,w_sel,w_upd,w_part,w_cut,w_vw,w_tk,w_app,w_set,w_lit,w_mn,w_mx,w_call,wp_ite,wp_leaf,wp_join,binI,binB,At.ev,d6,d7,d8,e0,d9,joinQ,loopQ,outQ,pvsOf,Kd.pv,Kd.of,List.map_cons,List.map_nil,d1,d2,d3,d4,d5,Option.map_some,hlen,hi]
 refine wp_loop (I := fun a => ∃ k : Nat,a = [.i k] ∧ k ≤ icnt x out) (mu := fun a => match a with | [.i k] => out.length - k.toNat | _ => 0) (by exact ⟨0,rfl,by omega⟩) ?_
 rintro a ⟨k,rfl,f1⟩
 have hc := icnt_le x out
 by_cases hk : k < icnt x out
 · obtain ⟨y,y1,y2⟩ := icnt_lt hk
   have hk' : k < out.length := by omega
   have y1' : out[k] = y := Option.some.inj ((List.getElem?_eq_getElem hk').symm.trans y1)
   have w : IntKind.wrap .i64 ((k : Int) + 1) = (k : Int) + 1 := AI.wrap64 (by omega) (by omega)
   simp [w_bi,w_bs,w_bb,w_not,w_conv,w_len,w_row,w_rc,w_cl,w_bnd,w_sel,w_upd,w_part,w_cut,w_vw,w_tk,w_app,w_set,w_lit,w_mn,w_mx,w_call,wp_ite,wp_leaf,wp_join,binI,binB,At.ev,d6,d7,d8,e0,d9,joinQ,loopQ,outQ,pvsOf,Kd.pv,Kd.of,List.map_cons,List.map_nil,d1,d2,d3,d4,d5,Option.map_some,hk',y1',itR,Kd.of,hi0,hx,y2,w]
   exact ⟨⟨k + 1,by omega,by omega⟩,by omega⟩
 have hk0 : k = icnt x out := by omega
 subst hk0
 have hi1 := ins_icnt x out
 have hil := ins_length x out
 have hR := rect_it out
 have hh := head_of_rect hR
 have w : IntKind.wrap .i64 ((i : Int) + 1) = (i : Int) + 1 := AI.wrap64 (by omega) (by omega)
 have hN : rectB 4 [] = true := rfl
 have hRt : rectB 4 (List.take (icnt x out) (out.map itR)) = true := by rw [← List.map_take]; exact rect_it _
 have hL : rectB 4 [[PV.sc (.int .u64 x.key),PV.sc (.int .u32 x.cookie),PV.sc (.int .i64 x.off),PV.sc (.int .i64 x.size)]] = true := rfl
 have n1 : out.length ≤ 9223372036854775806 := by omega
 have n2 : (out.length + 1) * 32 ≤ 140737488355328 := by omega
 have n3 : out.length + 1 ≤ 9223372036854775807 := by omega
 have hRx : rectB 4 (List.take (icnt x out) (out.map itR) ++ [[PV.sc (.int .u64 x.key),PV.sc (.int .u32 x.cookie),PV.sc (.int .i64 x.off),PV.sc (.int .i64 x.size)]]) = true := by
   have := rect_it (out.take (icnt x out) ++ [x])
   rw [List.map_append,List.map_take] at this; exact this
 by_cases hk' : icnt x out < out.length
 · have hdr : out.drop (icnt x out) = out[icnt x out] :: out.drop (icnt x out + 1) := List.drop_eq_getElem_cons hk'
   have hge := icnt_ge (List.getElem?_eq_getElem hk')
   rw [hdr] at hi1
   simp only at hi1
   have hdr2 : List.drop (icnt x out) (out.map itR) = itR out[icnt x out] :: (out.drop (icnt x out + 1)).map itR := by rw [← List.map_drop,hdr,List.map_cons]
   generalize hy : out[icnt x out] = y at hge hi1 hdr2 hdr
   have hRd : rectB 4 (itR y :: (out.drop (icnt x out + 1)).map itR) = true := rect_it (y :: out.drop (icnt x out + 1))
   have hhd := head_of_rect hRd
   have hld : (out.drop (icnt x out + 1)).length = out.length - (icnt x out + 1) := List.length_drop
   have htk : List.take (out.length - icnt x out) (List.drop (icnt x out) (out.map itR)) = itR y :: (out.drop (icnt x out + 1)).map itR := by
     rw [List.take_of_length_le (by rw [List.length_drop,List.length_map]; omega),hdr2]
   have hrl : (List.drop (icnt x out + 1) out).length = out.length - icnt x out - 1 := by rw [List.length_drop]; omega
   have htk2 : List.take (out.length - icnt x out - 1) ((out.drop (icnt x out + 1)).map itR) = (out.drop (icnt x out + 1)).map itR := List.take_of_length_le (by rw [List.length_map]; omega)
   have q1 : out.length ≤ 9223372036854775807 + icnt x out := by omega
   have q2 : (out.length - icnt x out) * 32 ≤ 140737488355328 := by omega
   have q3 : 0 < out.length - icnt x out := by omega
   have q4 : icnt x out ≤ 9223372036854775806 := by omega
   have q5 : (icnt x out + 1) * 32 ≤ 140737488355328 := by omega
   have q6 : icnt x out + 1 + (out.length - icnt x out - 1) ≤ 9223372036854775807 := by omega
   have q7 : (icnt x out + 1 + (out.length - icnt x out - 1)) * 32 ≤ 140737488355328 := by omega
   have q8 : (1 : Int) ≤ ((out.length - icnt x out : Nat) : Int) := by omega
   have q9 : icnt x out + 1 + (out.length - icnt x out) ≤ 9223372036854775807 := by omega
   have q10 : (icnt x out + 1 + (out.length - icnt x out)) * 32 ≤ 140737488355328 := by omega
   have hRr := rect_it (out.drop (icnt x out + 1))
   by_cases hyx : y.key = x.key
   · rw [if_pos hyx] at hi1
     have hi1' : (ins x out).map itR = List.take (icnt x out) (out.map itR) ++ [PV.sc (.int .u64 x.key),PV.sc (.int .u32 x.cookie),PV.sc (.int .i64 x.off),PV.sc (.int .i64 x.size)] :: (out.drop (icnt x out + 1)).map itR := by
      rw [hi1,List.map_append,List.map_take,List.map_cons]; rfl
     generalize (out.drop (icnt x out + 1)) = r at htk htk2 hrl hRr hRd hhd hi1'
     simp only [itR] at htk hRd hhd
     have htr : List.take r.length (r.map itR) = r.map itR := List.take_of_length_le (by rw [List.length_map]; exact Nat.le_refl _)
     simp [w_bi,w_bs,w_bb,w_not,w_conv,w_len,w_row,w_rc,w_cl,w_bnd,w_sel,w_upd,w_part,w_cut,w_vw,w_tk,w_app,w_set,w_lit,w_mn,w_mx,w_call,wp_ite,wp_leaf,wp_join,binI,binB,At.ev,d6,d7,d8,e0,d9,joinQ,loopQ,outQ,pvsOf,Kd.pv,Kd.of,List.map_cons,List.map_nil,d1,d2,d3,d4,d5,Option.map_some,hk',hy,itR,hi0,hx,hge,hh,hN,hc,htk,hRd,hhd,htk2,hRr,hRt,hRx,hL,q1,q2,q3,q4,q5,q6,q7,q8,hyx,w,htr]
     and_intros
     all_goals first | omega | assumption | exact ⟨i + 1,ins x out,⟨by omega,hi1'.symm⟩,by omega,by omega,e3⟩ | trace_state
   · rw [if_neg hyx] at hi1
     have hi1' : (ins x out).map itR = List.take (icnt x out) (out.map itR) ++ [PV.sc (.int .u64 x.key),PV.sc (.int .u32 x.cookie),PV.sc (.int .i64 x.off),PV.sc (.int .i64 x.size)] :: itR y :: (out.drop (icnt x out + 1)).map itR := by
      rw [hi1,List.map_append,List.map_take,List.map_cons]; rfl
     generalize (out.drop (icnt x out + 1)) = r at htk htk2 hrl hRr hRd hhd hi1'
     simp only [itR] at htk hRd hhd hi1'
     simp [w_bi,w_bs,w_bb,w_not,w_conv,w_len,w_row,w_rc,w_cl,w_bnd,w_sel,w_upd,w_part,w_cut,w_vw,w_tk,w_app,w_set,w_lit,w_mn,w_mx,w_call,wp_ite,wp_leaf,wp_join,binI,binB,At.ev,d6,d7,d8,e0,d9,joinQ,loopQ,outQ,pvsOf,Kd.pv,Kd.of,List.map_cons,List.map_nil,d1,d2,d3,d4,d5,Option.map_some,hk',hy,itR,hi0,hx,hge,hh,hN,hc,htk,hRd,hhd,htk2,hRr,hRt,hRx,hL,q1,q2,q3,q4,q5,q6,q7,q8,q9,q10,hyx,w]
     and_intros <;> first | omega | exact ⟨i + 1,ins x out,⟨by omega,hi1'.symm⟩,by omega,by omega,e3⟩
 · have hcl : icnt x out = out.length := by omega
   rw [List.drop_eq_nil_of_le (by omega)] at hi1
   simp only at hi1
   rw [hcl] at hi1 hRt hRx ⊢
   have hi1' : (ins x out).map itR = List.take out.length (out.map itR) ++ [[PV.sc (.int .u64 x.key),PV.sc (.int .u32 x.cookie),PV.sc (.int .i64 x.off),PV.sc (.int .i64 x.size)]] := by
     rw [hi1,List.map_append,List.map_take]; rfl
   simp [w_bi,w_bs,w_bb,w_not,w_conv,w_len,w_row,w_rc,w_cl,w_bnd,w_sel,w_upd,w_part,w_cut,w_vw,w_tk,w_app,w_set,w_lit,w_mn,w_mx,w_call,wp_ite,wp_leaf,wp_join,binI,binB,At.ev,d6,d7,d8,e0,d9,joinQ,loopQ,outQ,pvsOf,Kd.pv,Kd.of,List.map_cons,List.map_nil,d1,d2,d3,d4,d5,Option.map_some,hi0,hx,Kd.of,hh,hN,hRt,hL,w,n1,n2,n3,hRx]
   exact ⟨⟨i + 1,ins x out,⟨by omega,hi1'.symm⟩,by omega,by omega,e3⟩,by omega⟩
theorem foldl_ins_length : ∀ (l out : List It),(l.foldl (fun out x => ins x out) out).length ≤ l.length + out.length
 | [],out => by simp
 | x :: l,out => by
  have h1 := foldl_ins_length l (ins x out)
  have h2 := ins_length x out
  simp only [List.foldl_cons,List.length_cons]; omega
theorem srt_length (l : List It) : (srt l).length ≤ l.length := by
 have := foldl_ins_length l []
 simpa [srt] using this
def cIt : List AC := [.int .u64 0 7,.int .u32 0 3,.int .i64 16 1048576,.int .i64 0 30]
def itOk (x : It) : Prop := (0 ≤ x.key ∧ x.key ≤ 7) ∧ (0 ≤ x.cookie ∧ x.cookie ≤ 3) ∧ (16 ≤ x.off ∧ x.off ≤ 1048576) ∧ (0 ≤ x.size ∧ x.size ≤ 30)
theorem its_of : ∀ {rows : List (List PV)},AC.rows cIt rows → ∃ l : List It,rows = l.map itR ∧ ∀ x ∈ l,itOk x
 | [],_ => ⟨[],rfl,fun x hx => by cases hx⟩
 | r :: rows,h => by
  obtain ⟨l,rfl,h3⟩ := its_of (rows := rows) fun r hr => h r (List.mem_cons_of_mem _ hr)
  have h0 := h r List.mem_cons_self
  have hlen := AC.oks_length h0
  match r,hlen,h0 with
  | [q0,q1,q2,q3],_,h0 =>
   obtain ⟨⟨a,rfl,a1,a2⟩,⟨b,rfl,b1,b2⟩,⟨c,rfl,c1,c2⟩,⟨d,rfl,d1,d2⟩,_⟩ := h0
   refine ⟨⟨a,b,c,d⟩ :: l,rfl,fun x hx => ?_⟩
   rcases List.mem_cons.1 hx with rfl | hx
   · exact ⟨⟨a1,a2⟩,⟨b1,b2⟩,⟨c1,c2⟩,⟨d1,d2⟩⟩
   · exact h3 x hx
theorem its_rows {l : List It} (h : ∀ x ∈ l,itOk x) : AC.rows cIt (l.map itR) := fun r hr => by
 obtain ⟨x,hx,rfl⟩ := List.mem_map.1 hr
 obtain ⟨⟨a1,a2⟩,⟨b1,b2⟩,⟨c1,c2⟩,⟨d1,d2⟩⟩ := h x hx
 exact ⟨⟨_,rfl,a1,a2⟩,⟨_,rfl,b1,b2⟩,⟨_,rfl,c1,c2⟩,⟨_,rfl,d1,d2⟩,trivial⟩
def sm46 : Summ := ⟨1,1,⟨[⟨2,0,64⟩,⟨0,2,0⟩],[(0,some cIt)],[],[]⟩,[⟨[⟨5,2,0⟩,⟨5,0,8⟩,⟨0,5,0⟩],[(1,some cIt)],[],[]⟩]⟩
theorem so46 : sm46.ok F46 := by
 intro ls hl hp
 match ls,hl with
 | [l0],_ =>
  have a1 := hp.fs ⟨2,0,64⟩ (by simp [sm46])
  have b1 := hp.rw (0,some cIt) (by simp [sm46])
  simp [Fa.holds,tmV] at a1
  obtain ⟨l,h1,h2⟩ := its_of (rows := l0.asR) b1
  have hn : l.length ≤ 64 := by rw [h1,List.length_map] at a1; omega
  obtain ⟨o,h3,rfl⟩ := sorted_law l0 l h1 (by omega)
  have k1 := srt_length l
  have k2 := asc_length (asc_srt l) 0 8 fun x hx => by have := (h2 x (mem_srt hx)).1; omega
  refine ⟨_,h3,rfl,_,List.mem_singleton.2 rfl,⟨fun f hf => ?_,fun x hx => ?_,fun x hx => (by cases hx),fun x hx => (by cases hx)⟩⟩
  · simp at hf
    rcases hf with rfl | rfl | rfl <;> simp [Fa.holds,tmV,asR_r,h1] <;> omega
  · simp at hx
    subst hx
    exact its_rows fun x hx => h2 x (mem_srt hx)
end AI
end
section
open Go.RowKit
set_option maxRecDepth 100000
set_option maxHeartbeats 4000000
noncomputable section
def fir185 : Fir :=
 .op (.len (.v 0)) <|
 .op (.conv .u64 (.v 1)) <|
 .op (.call 89 F89 [.v 2] 1 []) <|
 .op (.call 177 F177 [.v 0,.i 0,.v 1,.v 3] 1 []) <|
 .leaf (.jump 0 [.v 4])
def F185 := Fo fir185
def s185 : Sig := ⟨189,[.c (.own 0),.c (.fn 190 [])],[.row 25 (.v 0)],1,1,.tup [],[(0,(.row 25 (.v 1)))],F185,185⟩
theorem ok185 : s185.ok Tryz.prog := okS fir185 TT_ok (.cons ok177 (.cons ok89 .nil)) Tryz.func189 (by kernel_rfl) (by kernel_rfl) rfl
def fir186 : Fir :=
 .op (.call 185 F185 [.v 0] 1 []) <|
 .join
 (.op (.len (.v 2)) <|
 .loop [.i 16,.i 0]
 (.op (.bi .lss .i64 (.v 5) (.v 3)) <|
 .ite (.v 6)
 (.op (.row (.v 2) (.v 5) 4) <|
 .op (.rc (.v 2) (.v 5) 0 (.int .u64)) <|
 .op (.rc (.v 2) (.v 5) 1 (.int .u32)) <|
 .op (.rc (.v 2) (.v 5) 2 (.int .i64)) <|
 .op (.rc (.v 2) (.v 5) 3 (.int .i64)) <|
 .op (.bi .lss .i64 (.v 10) (.v 4)) <|
 .ite (.v 12)
 (.leaf (.jump 2 [.b false,.v 2]))
 (.op (.call 5 F5 [.v 11] 1 []) <|
 .op (.bi .add .i64 (.v 10) (.v 13)) <|
 .op (.bi .add .i64 (.v 5) (.i 1)) <|
 .leaf (.jump 0 [.v 14,.v 15])))
 (.leaf (.jump 1 [.v 4]))))
 (.op (.bi .leq .i64 (.v 3) (.v 1)) <|
 .leaf (.jump 0 [.v 4,.v 2]))
def F186 := Fo fir186
def s186 : Sig := ⟨142,[.c (.own 0),ci 1],[.row 25 (.v 0)],2,2,.v (.c (.p .bool (.v 2))),[(0,(.row 25 (.v 3)))],F186,186⟩
theorem ok186 : s186.ok Tryz.prog := okS fir186 TT_ok (.cons ok185 (.cons ok5 .nil)) Tryz.func142 (by kernel_rfl) (by kernel_rfl) rfl
def fir187 : Fir :=
 .join
 (.op (.bi .lss .i64 (.v 0) (.i 1)) <|
 .ite (.v 14)
 (.leaf (.jump 0 [.b true]))
 (.op (.bi .gtr .i64 (.v 0) (.i 8)) <|
 .ite (.v 15)
 (.leaf (.jump 0 [.b true]))
 (.op (.bi .lss .i64 (.v 1) (.i 0)) <|
 .ite (.v 16)
 (.leaf (.jump 0 [.b true]))
 (.op (.bi .gtr .i64 (.v 1) (.i 4294967295)) <|
 .ite (.v 17)
 (.leaf (.jump 0 [.b true]))
 (.op (.bi .lss .i64 (.v 2) (.i 1)) <|
 .ite (.v 18)
 (.leaf (.jump 0 [.b true]))
 (.op (.bi .gtr .i64 (.v 2) (.i 3)) <|
 .leaf (.jump 0 [.v 19])))))))
 (.ite (.v 14)
 (.leaf (.jump 0 [.b false]))
 (.join
 (.op (.bi .lss .i64 (.v 3) (.i 16)) <|
 .ite (.v 15)
 (.leaf (.jump 0 [.b true]))
 (.op (.bi .gtr .i64 (.v 3) (.i 1048576)) <|
 .ite (.v 16)
 (.leaf (.jump 0 [.b true]))
 (.op (.bi .rem .i64 (.v 3) (.i 8)) <|
 .op (.bi .neq .i64 (.v 17) (.i 0)) <|
 .ite (.v 18)
 (.leaf (.jump 0 [.b true]))
 (.op (.call 92 F92 [.v 4,.v 5,.v 6,.v 7,.v 8,.v 9,.v 10,.v 11,.v 12,.v 13] 1 []) <|
 .op (.not (.v 19)) <|
 .leaf (.jump 0 [.v 20])))))
 (.ite (.v 15)
 (.leaf (.jump 0 [.b false]))
 (.join
 (.op (.call 168 F168 [.v 4,.v 5,.v 6,.v 7,.v 8,.v 9,.v 10,.v 11,.v 12,.v 13] 1 []) <|
 .op (.call 186 F186 [.v 16,.v 3] 2 []) <|
 .ite (.v 17)
 (.op (.bi .add .i64 (.i 16) (.v 12)) <|
 .op (.bi .add .i64 (.v 19) (.v 13)) <|
 .op (.bi .eql .i64 (.v 3) (.v 20)) <|
 .leaf (.jump 0 [.v 21]))
 (.leaf (.jump 0 [.b false])))
 (.leaf (.jump 0 [.v 16]))))))
def F187 := Fo fir187
def s187 : Sig := ⟨84,[.agg (wpi 0 4 ++ wps 4 8 ++ [pi 12,pi 13])],[],14,1,.v (.c (.p .bool (.v 14))),[],F187,187⟩
theorem ok187 : s187.ok Tryz.prog := okS fir187 TT_ok (.cons ok186 (.cons ok168 (.cons ok167 (.cons ok92 .nil)))) Tryz.func84 (by kernel_rfl) (by kernel_rfl) rfl
def fir188 : Fir :=
 .join
 (.op (.bi .lss .i64 (.v 0) (.i 1)) <|
 .ite (.v 6)
 (.leaf (.jump 0 [.b true]))
 (.op (.bi .gtr .i64 (.v 0) (.i 8)) <|
 .ite (.v 7)
 (.leaf (.jump 0 [.b true]))
 (.op (.bi .lss .i64 (.v 1) (.i 0)) <|
 .ite (.v 8)
 (.leaf (.jump 0 [.b true]))
 (.op (.bi .gtr .i64 (.v 1) (.i 4294967295)) <|
 .ite (.v 9)
 (.leaf (.jump 0 [.b true]))
 (.op (.bi .lss .i64 (.v 2) (.i 1)) <|
 .ite (.v 10)
 (.leaf (.jump 0 [.b true]))
 (.op (.bi .gtr .i64 (.v 2) (.i 3)) <|
 .leaf (.jump 0 [.v 11])))))))
 (.ite (.v 6)
 (.leaf (.jump 0 [.b false]))
 (.join
 (.op (.bi .lss .i64 (.v 3) (.i 16)) <|
 .ite (.v 7)
 (.leaf (.jump 0 [.b true]))
 (.op (.bi .gtr .i64 (.v 3) (.i 1048576)) <|
 .ite (.v 8)
 (.leaf (.jump 0 [.b true]))
 (.op (.bi .rem .i64 (.v 3) (.i 8)) <|
 .op (.bi .neq .i64 (.v 9) (.i 0)) <|
 .ite (.v 10)
 (.leaf (.jump 0 [.b true]))
 (.op (.call 92 F92 [.r0,.r0,.r0,.r0,.r0,.r0,.r0,.r0,.v 4,.v 5] 1 []) <|
 .op (.not (.v 11)) <|
 .leaf (.jump 0 [.v 12])))))
 (.ite (.v 7)
 (.leaf (.jump 0 [.b false]))
 (.join
 (.op (.call 168 F168 [.r0,.r0,.r0,.r0,.r0,.r0,.r0,.r0,.v 4,.v 5] 1 []) <|
 .op (.call 186 F186 [.v 8,.v 3] 2 []) <|
 .ite (.v 9)
 (.op (.bi .add .i64 (.i 16) (.v 4)) <|
 .op (.bi .add .i64 (.v 11) (.v 5)) <|
 .op (.bi .eql .i64 (.v 3) (.v 12)) <|
 .leaf (.jump 0 [.v 13]))
 (.leaf (.jump 0 [.b false])))
 (.leaf (.jump 0 [.v 8]))))))
def F188 := Fo fir188
def s188 : Sig := ⟨84,[.agg (wpi 0 4 ++ [.nil,.nil,.nil,.nil,.nil,.nil,.nil,.nil,pi 4,pi 5])],[],6,1,.v (.c (.p .bool (.v 6))),[],F188,188⟩
theorem ok188 : s188.ok Tryz.prog := okS fir188 TT_ok (.cons ok186 (.cons ok168 (.cons ok167 (.cons ok92 .nil)))) Tryz.func84 (by kernel_rfl) (by kernel_rfl) rfl
def fir189 : Fir :=
 .op (.call 10 F10 [] 0 []) <|
 .op (.call 188 F188 [.v 0,.i 0,.i 1,.i 16,.i 0,.i 0] 1 []) <|
 .op (.not (.v 1)) <|
 .ite (.v 2)
 (.leaf (.jump 0 [.i 1,.i 0,.i 0,.i 0]))
 (.leaf (.jump 0 [.i 0,.v 0,.i 1,.i 16]))
def F189 := Fo fir189
def s189 : Sig := ⟨71,[ci 0],[],1,4,.tup [.agg [pi 2,.p (.int .i64) (.i 0),pi 3,pi 4,.nil,.nil,.nil,.nil,.nil,.nil,.nil,.nil,.p (.int .i64) (.i 0),.p (.int .i64) (.i 0)],ci 1],[],F189,189⟩
theorem ok189 : s189.ok Tryz.prog := okS fir189 TT_ok (.cons ok188 (.cons ok187 (.cons ok10 .nil))) Tryz.func71 (by kernel_rfl) (by kernel_rfl) rfl
def fir190 : Fir :=
 .join
 (.op (.bi .lss .i64 (.v 0) (.i 0)) <|
 .ite (.v 4)
 (.leaf (.jump 0 [.b true]))
 (.op (.bi .geq .i64 (.v 0) (.i 4)) <|
 .ite (.v 5)
 (.leaf (.jump 0 [.b true]))
 (.op (.call 5 F5 [.i 4096] 1 []) <|
 .op (.bi .add .i64 (.i 16) (.v 6)) <|
 .op (.bi .lss .i64 (.v 1) (.v 7)) <|
 .ite (.v 8)
 (.leaf (.jump 0 [.b true]))
 (.op (.bi .gtr .i64 (.v 1) (.i 262144)) <|
 .leaf (.jump 0 [.v 9])))))
 (.ite (.v 4)
 (.leaf (.jump 0 [.b false]))
 (.join
 (.op (.len (.v 3)) <|
 .op (.bi .lss .i64 (.v 5) (.i 1)) <|
 .ite (.v 6)
 (.leaf (.jump 0 [.b true]))
 (.op (.len (.v 3)) <|
 .op (.bi .gtr .i64 (.v 7) (.i 8)) <|
 .leaf (.jump 0 [.v 8])))
 (.ite (.v 5)
 (.leaf (.jump 0 [.b false]))
 (.join
 (.op (.len (.v 3)) <|
 .loop [.i 0]
 (.op (.bi .lss .i64 (.v 7) (.v 6)) <|
 .ite (.v 8)
 (.op (.row (.v 3) (.v 7) 14) <|
 .op (.cl (.v 9) 0 (.int .i64)) <|
 .op (.cl (.v 9) 1 (.int .i64)) <|
 .op (.cl (.v 9) 2 (.int .i64)) <|
 .op (.cl (.v 9) 3 (.int .i64)) <|
 .op (.cl (.v 9) 4 .sl) <|
 .op (.cl (.v 9) 5 .sl) <|
 .op (.cl (.v 9) 6 .sl) <|
 .op (.cl (.v 9) 7 .sl) <|
 .op (.cl (.v 9) 8 .sl) <|
 .op (.cl (.v 9) 9 .sl) <|
 .op (.cl (.v 9) 10 .sl) <|
 .op (.cl (.v 9) 11 .sl) <|
 .op (.cl (.v 9) 12 (.int .i64)) <|
 .op (.cl (.v 9) 13 (.int .i64)) <|
 .op (.len (.v 3)) <|
 .op (.bi .sub .i64 (.v 24) (.i 1)) <|
 .op (.bi .eql .i64 (.v 7) (.v 25)) <|
 .join
 (.op (.call 187 F187 [.v 10,.v 11,.v 12,.v 13,.v 14,.v 15,.v 16,.v 17,.v 18,.v 19,.v 20,.v 21,.v 22,.v 23] 1 []) <|
 .op (.not (.v 27)) <|
 .ite (.v 28)
 (.leaf (.jump 0 [.b true]))
 (.op (.bi .gtr .i64 (.v 7) (.i 0)) <|
 .ite (.v 29)
 (.op (.bi .sub .i64 (.v 7) (.i 1)) <|
 .op (.row (.v 3) (.v 30) 14) <|
 .op (.cl (.v 31) 0 (.int .i64)) <|
 .op (.bi .leq .i64 (.v 10) (.v 32)) <|
 .ite (.v 33)
 (.leaf (.jump 0 [.b true]))
 (.op (.bi .eql .i64 (.v 12) (.i 1)) <|
 .op (.bb .neq (.v 34) (.v 26)) <|
 .ite (.v 35)
 (.leaf (.jump 0 [.b true]))
 (.op (.bi .mul .i64 (.i 2) (.v 1)) <|
 .op (.bi .gtr .i64 (.v 13) (.v 36)) <|
 .leaf (.jump 0 [.v 37]))))
 (.op (.bi .eql .i64 (.v 12) (.i 1)) <|
 .op (.bb .neq (.v 30) (.v 26)) <|
 .ite (.v 31)
 (.leaf (.jump 0 [.b true]))
 (.op (.bi .mul .i64 (.i 2) (.v 1)) <|
 .op (.bi .gtr .i64 (.v 13) (.v 32)) <|
 .leaf (.jump 0 [.v 33])))))
 (.ite (.v 27)
 (.leaf (.jump 2 [.b false]))
 (.op (.bi .add .i64 (.v 7) (.i 1)) <|
 .leaf (.jump 0 [.v 28]))))
 (.leaf (.jump 1 []))))
 (.op (.len (.v 3)) <|
 .op (.bi .sub .i64 (.v 6) (.i 1)) <|
 .op (.row (.v 3) (.v 7) 14) <|
 .op (.cl (.v 8) 0 (.int .i64)) <|
 .op (.cl (.v 8) 1 (.int .i64)) <|
 .op (.cl (.v 8) 2 (.int .i64)) <|
 .op (.cl (.v 8) 3 (.int .i64)) <|
 .op (.cl (.v 8) 4 .sl) <|
 .op (.cl (.v 8) 5 .sl) <|
 .op (.cl (.v 8) 6 .sl) <|
 .op (.cl (.v 8) 7 .sl) <|
 .op (.cl (.v 8) 8 .sl) <|
 .op (.cl (.v 8) 9 .sl) <|
 .op (.cl (.v 8) 10 .sl) <|
 .op (.cl (.v 8) 11 .sl) <|
 .op (.cl (.v 8) 12 (.int .i64)) <|
 .op (.cl (.v 8) 13 (.int .i64)) <|
 .op (.call 171 F171 [.v 13,.v 14,.v 15,.v 16,.v 17,.v 18,.v 19,.v 20,.v 21,.v 22] 1 []) <|
 .op (.call 5 F5 [.i 0] 1 []) <|
 .op (.bi .mul .i64 (.v 23) (.v 24)) <|
 .op (.bi .add .i64 (.v 12) (.v 25)) <|
 .op (.bi .mul .i64 (.i 2) (.v 1)) <|
 .op (.bi .leq .i64 (.v 26) (.v 27)) <|
 .leaf (.jump 0 [.v 28]))))))
def F190 := Fo fir190
def s190 : Sig := ⟨40,[.agg [pi 0,pi 1,.p .bool (.v 2),ps 3]],[],4,1,.v (.c (.p .bool (.v 4))),[],F190,190⟩
theorem ok190 : s190.ok Tryz.prog := okS fir190 TT_ok (.cons ok188 (.cons ok187 (.cons ok5 (.cons ok171 .nil)))) Tryz.func40 (by kernel_rfl) (by kernel_rfl) rfl
def fir191 : Fir :=
 .op (.call 189 F189 [.i 1] 4 []) <|
 .op (.lit [[((.int .i64),(.v 3)),((.int .i64),(.i 0)),((.int .i64),(.v 4)),((.int .i64),(.v 5)),(.sl,.r0),(.sl,.r0),(.sl,.r0),(.sl,.r0),(.sl,.r0),(.sl,.r0),(.sl,.r0),(.sl,.r0),((.int .i64),(.i 0)),((.int .i64),(.i 0))]]) <|
 .op (.call 190 F190 [.v 0,.v 1,.b false,.v 6] 1 []) <|
 .op (.not (.v 7)) <|
 .ite (.v 8)
 (.leaf (.jump 0 [.i 1,.i 0,.i 0,.r0]))
 (.leaf (.jump 0 [.i 0,.v 0,.v 1,.v 6]))
def F191 := Fo fir191
def s191 : Sig := ⟨32,[ci 0,ci 1],[],2,4,.tup [.agg [pi 3,pi 4,.p .bool (.b false),.own 0],ci 2],[(0,(.row 131 (.v 5)))],F191,191⟩
theorem ok191 : s191.ok Tryz.prog := okS fir191 TT_ok (.cons ok190 (.cons ok189 .nil)) Tryz.func32 (by kernel_rfl) (by kernel_rfl) rfl
def F2005 : List L → Option (List L) := FAll F190 F4 F125 125
noncomputable def s2005 : Sig := sAll F190 F4 F125 125 2005
theorem ok2005 : s2005.ok Tryz.prog := all_ok (F40 := F190) (t40 := 190) (F112 := F4) (t112 := 4) (F113 := F125) (t113 := 125) ok190 ok4 ok125 2005
def fir192 : Fir :=
 .op (.call 2005 F2005 [.v 0,.v 1,.v 2,.v 3,.v 4] 1 []) <|
 .op (.len (.v 5)) <|
 .op (.bi .eql .i64 (.v 6) (.i 0)) <|
 .ite (.v 7)
 (.leaf (.jump 0 [.b false,.i 0,.i 0,.i 0,.i 0,.i 0,.i 0,.i 0]))
 (.op (.row (.v 5) (.i 0) 8) <|
 .op (.rc (.v 5) (.i 0) 0 (.int .i64)) <|
 .op (.rc (.v 5) (.i 0) 1 (.int .i64)) <|
 .op (.rc (.v 5) (.i 0) 2 (.int .i64)) <|
 .op (.rc (.v 5) (.i 0) 3 (.int .u64)) <|
 .op (.rc (.v 5) (.i 0) 4 (.int .u32)) <|
 .op (.rc (.v 5) (.i 0) 5 (.int .i64)) <|
 .op (.rc (.v 5) (.i 0) 6 (.int .i64)) <|
 .leaf (.jump 0 [.b true,.v 9,.v 10,.v 11,.v 12,.v 13,.v 14,.v 15]))
def F192 := Fo fir192
def s192 : Sig := ⟨29,[.agg [pi 0,pi 1,.p .bool (.v 2),ps 3],.c (.p (.int .u64) (.v 4))],[],5,8,.tup [.agg [pi 6,pi 7,pi 8,.p (.int .u64) (.v 9),.p (.int .u32) (.v 10),pi 11,pi 12],.c (.p .bool (.v 5))],[],F192,192⟩
theorem ok192 : s192.ok Tryz.prog := okS fir192 TT_ok (.cons ok2005 .nil) Tryz.func29 (by kernel_rfl) (by kernel_rfl) rfl
def fir193 : Fir :=
 .op (.call 192 F192 [.v 11,.v 12,.v 13,.v 14,.v 0] 8 []) <|
 .join
 (.op (.not (.v 15)) <|
 .ite (.v 23)
 (.leaf (.jump 0 [.b true]))
 (.op (.bi .neq .u32 (.v 20) (.v 1)) <|
 .leaf (.jump 0 [.v 24])))
 (.ite (.v 23)
 (.op (.lit [[((.int .u64),(.i 0)),((.int .u32),(.i 0)),(.bool,(.b false)),(.sl,.r0),((.int .i64),(.i 6))]]) <|
 .leaf (.jump 0 [.v 2,.v 3,.v 4,.v 5,.v 6,.v 7,.v 8,.v 9,.v 24]))
 (.leaf (.jump 0 [.i 1,.v 16,.v 17,.v 18,.v 19,.v 20,.v 21,.v 22,.r0])))
def F193 := Fo fir193
def s193 : Sig := ⟨41,[.agg ([.p (.int .u64) (.v 0),.p (.int .u32) (.v 1)] ++ wpi 2 4 ++ [.p (.int .u64) (.v 6),.p (.int .u32) (.v 7),pi 8,pi 9,pi 10]),.agg [pi 11,pi 12,.p .bool (.v 13),.own 0]],[.row 131 (.v 14)],15,9,.tup [.agg ([.p (.int .u64) (.v 0),.p (.int .u32) (.v 1)] ++ wpi 15 4 ++ [.p (.int .u64) (.v 19),.p (.int .u32) (.v 20),pi 21,pi 22,pi 10]),.c (.own 1)],[(0,(.row 131 (.v 14))),(1,(.row 75 (.v 23)))],F193,193⟩
theorem ok193 : s193.ok Tryz.prog := okS fir193 TT_ok (.cons ok192 .nil) Tryz.func41 (by kernel_rfl) (by kernel_rfl) rfl
def fir194 : Fir :=
 .join
 (.op (.call 190 F190 [.v 3,.v 4,.v 5,.v 6] 1 []) <|
 .op (.not (.v 18)) <|
 .ite (.v 19)
 (.leaf (.jump 0 [.i 1]))
 (.join
 (.op (.bi .neq .i64 (.v 9) (.i 0)) <|
 .ite (.v 20)
 (.op (.bi .neq .i64 (.v 9) (.i 1)) <|
 .leaf (.jump 0 [.v 21]))
 (.leaf (.jump 0 [.b false])))
 (.ite (.v 20)
 (.leaf (.jump 0 [.i 12]))
 (.join
 (.op (.bi .eql .i64 (.v 9) (.i 1)) <|
 .ite (.v 21)
 (.op (.bi .eql .i64 (.v 1) (.i 0)) <|
 .leaf (.jump 0 [.v 22]))
 (.leaf (.jump 0 [.b false])))
 (.ite (.v 21)
 (.leaf (.jump 0 [.i 13]))
 (.leaf (.jump 0 [.i 0])))))))
 (.op (.bi .neq .i64 (.v 18) (.i 0)) <|
 .ite (.v 19)
 (.leaf (.jump 0 [.v 18,.i 0,.i 0,.i 0,.i 0,.i 0,.i 0,.i 0,.i 0,.i 0,.i 0,.i 0,.r0]))
 (.join
 (.op (.bi .eql .i64 (.v 9) (.i 0)) <|
 .ite (.v 20)
 (.op (.call 193 F193 [.v 7,.v 8,.v 9,.v 10,.v 11,.v 12,.v 13,.v 14,.v 15,.v 16,.v 17,.v 3,.v 4,.v 5,.v 6] 9 []) <|
 .leaf (.jump 0 [.v 7,.v 8,.v 21,.v 22,.v 23,.v 24,.v 25,.v 26,.v 27,.v 28,.v 17,.v 29]))
 (.op (.call 1201 F1201 [.v 7,.v 8,.v 9,.v 10,.v 11,.v 12,.v 13,.v 14,.v 15,.v 16,.v 17,.v 0,.v 1,.v 2,.v 3,.v 4,.v 5,.v 6] 0 []) <|
 .leaf (.jump 0 [.i 0,.i 0,.i 0,.i 0,.i 0,.i 0,.i 0,.i 0,.i 0,.i 0,.i 0,.r0])))
 (.leaf (.jump 0 [.i 0,.v 20,.v 21,.v 22,.v 23,.v 24,.v 25,.v 26,.v 27,.v 28,.v 29,.v 30,.v 31]))))
def F194 := Fo fir194
def s194 : Sig := ⟨15,[.agg [pi 0,pi 1,.own 0],.agg [pi 3,pi 4,.p .bool (.v 5),.own 1],.agg ([.p (.int .u64) (.v 7),.p (.int .u32) (.v 8)] ++ wpi 9 4 ++ [.p (.int .u64) (.v 13),.p (.int .u32) (.v 14),pi 15,pi 16,pi 17])],[.row 127 (.v 2),.row 131 (.v 6)],18,13,.tup [.agg ([.p (.int .u64) (.v 19),.p (.int .u32) (.v 20)] ++ wpi 21 4 ++ [.p (.int .u64) (.v 25),.p (.int .u32) (.v 26),pi 27,pi 28,pi 29]),.c (.own 2),ci 18],[(0,(.row 127 (.v 2))),(1,(.row 131 (.v 6))),(2,(.row 75 (.v 30)))],F194,194⟩
theorem ok194 : s194.ok Tryz.prog := okS fir194 TT_ok (.cons ok193 (.cons ok190 (.cons ok1201 .nil))) Tryz.func15 (by kernel_rfl) (by kernel_rfl) rfl
def fir195 : Fir :=
 .op (.call 191 F191 [.i 0,.i 9000] 4 []) <|
 .op (.call 35 F35 [.i 0] 1 []) <|
 .op (.call 18 F18 [.v 4,.i (-1),.r0] 1 []) <|
 .op (.call 14 F14 [.i 1,.i 2] 0 []) <|
 .op (.call 194 F194 [.v 4,.i (-1),.v 5,.v 1,.v 2,.b false,.v 3,.i 1,.i 2,.i 0,.i 0,.i 0,.i 0,.i 0,.i 0,.i 0,.i 0,.i 0] 13 []) <|
 .op (.call 194 F194 [.v 4,.i (-1),.v 5,.v 1,.v 2,.b false,.v 3,.i 0,.i 0,.i 2,.i 0,.i 0,.i 0,.i 0,.i 0,.i 0,.i 0,.i 0] 13 []) <|
 .join
 (.op (.bi .eql .i64 (.v 0) (.i 0)) <|
 .ite (.v 32)
 (.op (.bi .eql .i64 (.v 6) (.i 0)) <|
 .ite (.v 33)
 (.op (.len (.v 18)) <|
 .op (.bi .eql .i64 (.v 34) (.i 1)) <|
 .ite (.v 35)
 (.op (.row (.v 18) (.i 0) 5) <|
 .op (.rc (.v 18) (.i 0) 4 (.int .i64)) <|
 .op (.bi .eql .i64 (.v 37) (.i 6)) <|
 .ite (.v 38)
 (.op (.bi .eql .i64 (.v 19) (.i 12)) <|
 .leaf (.jump 0 [.v 39]))
 (.leaf (.jump 0 [.b false])))
 (.leaf (.jump 0 [.b false])))
 (.leaf (.jump 0 [.b false])))
 (.leaf (.jump 0 [.b false])))
 (.leaf (.jump 0 [.v 32]))
def F195 := Fo fir195
def s195 : Sig := ⟨10,[],[],0,1,.v (.c (.p .bool (.v 0))),[],F195,195⟩
theorem ok195 : s195.ok Tryz.prog := okS fir195 TT_ok (.cons ok194 (.cons ok191 (.cons ok35 (.cons ok18 (.cons ok14 .nil))))) Tryz.func10 (by kernel_rfl) (by kernel_rfl) rfl
def fir196 : Fir :=
 .op (.call 156 F156 [.v 0,.i 8] 7 []) <|
 .op (.bi .and .u64 (.v 1) (.i 7)) <|
 .op (.call 115 F115 [.v 5,.v 6,.v 7,.v 8,.v 9] 8 []) <|
 .op (.not (.v 10)) <|
 .ite (.v 18)
 (.op (.call 195 F195 [] 1 []) <|
 .leaf (.jump 0 [.v 19]))
 (.op (.call 29 F29 [.v 2,.v 3,.v 4,.i 0] 1 []) <|
 .op (.call 18 F18 [.v 2,.v 19,.v 4] 1 []) <|
 .op (.call 17 F17 [.v 5,.v 6,.v 7,.v 8] 1 []) <|
 .op (.bi .and .u64 (.v 1) (.i 7)) <|
 .op (.call 14 F14 [.v 22,.v 15] 0 []) <|
 .op (.call 194 F194 [.v 2,.v 19,.v 20,.v 5,.v 6,.v 7,.v 21,.v 22,.v 15,.i 0,.i 0,.i 0,.i 0,.i 0,.i 0,.i 0,.i 0,.i 0] 13 []) <|
 .op (.call 17 F17 [.v 5,.v 6,.v 7,.v 8] 1 []) <|
 .op (.call 194 F194 [.v 2,.v 19,.v 20,.v 5,.v 6,.v 7,.v 36,.v 24,.v 25,.v 26,.v 27,.v 28,.v 29,.v 30,.v 31,.v 32,.v 33,.v 34] 13 []) <|
 .join
 (.op (.bi .eql .i64 (.v 23) (.i 0)) <|
 .ite (.v 50)
 (.op (.len (.v 35)) <|
 .op (.bi .eql .i64 (.v 51) (.i 0)) <|
 .ite (.v 52)
 (.op (.bi .eql .i64 (.v 37) (.i 13)) <|
 .ite (.v 53)
 (.op (.bi .geq .i64 (.v 12) (.i 1)) <|
 .ite (.v 54)
 (.op (.call 195 F195 [] 1 []) <|
 .leaf (.jump 0 [.v 55]))
 (.leaf (.jump 0 [.b false])))
 (.leaf (.jump 0 [.b false])))
 (.leaf (.jump 0 [.b false])))
 (.leaf (.jump 0 [.b false])))
 (.leaf (.jump 0 [.v 50])))
def F196 := Fo fir196
def s196 : Sig := ⟨7,[cs 0,.c (.p (.int .u64) (.v 1))],[],2,1,.v (.c (.p .bool (.v 2))),[],F196,196⟩
theorem ok196 : s196.ok Tryz.prog := okS fir196 TT_ok (.cons ok195 (.cons ok194 (.cons ok18 (.cons ok14 (.cons ok17 (.cons ok29 (.cons ok115 (.cons ok156 .nil)))))))) Tryz.func7 (by kernel_rfl) (by kernel_rfl) rfl
end
end
section
open Go.RowKit Pl AI
set_option maxHeartbeats 4000000
theorem eq_of_wp {f : Fir} {ls o : List L} (h : f.wp ls (outQ fun x => x = o)) : Fo f ls = some o := by
 obtain ⟨x,h1,rfl⟩ := outO_of_wp h
 exact h1
theorem size_R (l0 : L) : F44 [l0] = some [.i (szR l0.asI)] := by
 refine eq_of_wp ?_
 unfold fir44
 by_cases h1 : l0.asI < 0
 · simp [w_bi,w_bs,w_bb,w_not,w_conv,w_len,w_row,w_rc,w_cl,w_bnd,w_sel,w_upd,w_part,w_cut,w_vw,w_tk,w_app,w_set,w_lit,w_mn,w_mx,w_call,wp_ite,wp_leaf,wp_join,binI,binB,At.ev,d6,d7,d8,e0,d9,joinQ,loopQ,outQ,pvsOf,Kd.pv,Kd.of,List.map_cons,List.map_nil,d1,d2,d3,d4,d5,Option.map_some,h1,szR]
 by_cases h2 : 4096 < l0.asI
 · simp [w_bi,w_bs,w_bb,w_not,w_conv,w_len,w_row,w_rc,w_cl,w_bnd,w_sel,w_upd,w_part,w_cut,w_vw,w_tk,w_app,w_set,w_lit,w_mn,w_mx,w_call,wp_ite,wp_leaf,wp_join,binI,binB,At.ev,d6,d7,d8,e0,d9,joinQ,loopQ,outQ,pvsOf,Kd.pv,Kd.of,List.map_cons,List.map_nil,d1,d2,d3,d4,d5,Option.map_some,h1,h2,szR]
 have w1 : IntKind.wrap .i64 (20 + l0.asI) = 20 + l0.asI := wrap64 (by omega) (by omega)
 have w2 : IntKind.wrap .i64 (20 + l0.asI + 4) = 24 + l0.asI := by rw [wrap64 (by omega) (by omega)]; omega
 have w3 : IntKind.wrap .i64 (24 + l0.asI + 7) = l0.asI + 31 := by rw [wrap64 (by omega) (by omega)]; omega
 have w4 : (l0.asI + 31).tdiv 8 = (l0.asI + 31) / 8 := Int.tdiv_eq_ediv_of_nonneg (by omega)
 have w5 : IntKind.wrap .i64 ((l0.asI + 31) / 8) = (l0.asI + 31) / 8 := wrap64 (by omega) (by omega)
 have w6 : IntKind.wrap .i64 ((l0.asI + 31) / 8 * 8) = (l0.asI + 31) / 8 * 8 := wrap64 (by omega) (by omega)
 simp [w_bi,w_bs,w_bb,w_not,w_conv,w_len,w_row,w_rc,w_cl,w_bnd,w_sel,w_upd,w_part,w_cut,w_vw,w_tk,w_app,w_set,w_lit,w_mn,w_mx,w_call,wp_ite,wp_leaf,wp_join,binI,binB,At.ev,d6,d7,d8,e0,d9,joinQ,loopQ,outQ,pvsOf,Kd.pv,Kd.of,List.map_cons,List.map_nil,d1,d2,d3,d4,d5,Option.map_some,h1,h2,w1,w2,w3,w4,w5,w6,szR]
theorem size_P (l0 : L) : F5 [l0] = some [.i (szR l0.asI)] := by
 refine eq_of_wp ?_
 unfold fir5
 by_cases h1 : l0.asI < 0
 · simp [w_bi,w_bs,w_bb,w_not,w_conv,w_len,w_row,w_rc,w_cl,w_bnd,w_sel,w_upd,w_part,w_cut,w_vw,w_tk,w_app,w_set,w_lit,w_mn,w_mx,w_call,wp_ite,wp_leaf,wp_join,binI,binB,At.ev,d6,d7,d8,e0,d9,joinQ,loopQ,outQ,pvsOf,Kd.pv,Kd.of,List.map_cons,List.map_nil,d1,d2,d3,d4,d5,Option.map_some,h1,szR]
 by_cases h2 : 4096 < l0.asI
 · simp [w_bi,w_bs,w_bb,w_not,w_conv,w_len,w_row,w_rc,w_cl,w_bnd,w_sel,w_upd,w_part,w_cut,w_vw,w_tk,w_app,w_set,w_lit,w_mn,w_mx,w_call,wp_ite,wp_leaf,wp_join,binI,binB,At.ev,d6,d7,d8,e0,d9,joinQ,loopQ,outQ,pvsOf,Kd.pv,Kd.of,List.map_cons,List.map_nil,d1,d2,d3,d4,d5,Option.map_some,h1,h2,szR]
 have w1 : IntKind.wrap .i64 (20 + l0.asI) = 20 + l0.asI := wrap64 (by omega) (by omega)
 have w2 : IntKind.wrap .i64 (20 + l0.asI + 4) = 24 + l0.asI := by rw [wrap64 (by omega) (by omega)]; omega
 have w3 : IntKind.wrap .i64 (24 + l0.asI + 8) = l0.asI + 32 := by rw [wrap64 (by omega) (by omega)]; omega
 have w3' : IntKind.wrap .i64 (l0.asI + 32 - 1) = l0.asI + 31 := by rw [wrap64 (by omega) (by omega)]; omega
 have w4 : (l0.asI + 31).tdiv 8 = (l0.asI + 31) / 8 := Int.tdiv_eq_ediv_of_nonneg (by omega)
 have w5 : IntKind.wrap .i64 ((l0.asI + 31) / 8) = (l0.asI + 31) / 8 := wrap64 (by omega) (by omega)
 have w6 : IntKind.wrap .i64 ((l0.asI + 31) / 8 * 8) = (l0.asI + 31) / 8 * 8 := wrap64 (by omega) (by omega)
 simp [w_bi,w_bs,w_bb,w_not,w_conv,w_len,w_row,w_rc,w_cl,w_bnd,w_sel,w_upd,w_part,w_cut,w_vw,w_tk,w_app,w_set,w_lit,w_mn,w_mx,w_call,wp_ite,wp_leaf,wp_join,binI,binB,At.ev,d6,d7,d8,e0,d9,joinQ,loopQ,outQ,pvsOf,Kd.pv,Kd.of,List.map_cons,List.map_nil,d1,d2,d3,d4,d5,Option.map_some,h1,h2,w1,w2,w3,w3',w4,w5,w6,szR]
theorem okIt_R (x : It) : F47 [.i x.key,.i x.cookie,.i x.off,.i x.size] = some [.b (okIt x)] := by
 refine eq_of_wp ?_
 unfold fir47
 by_cases h1 : 16 ≤ x.off
 rotate_left
 · simp [w_bi,w_bs,w_bb,w_not,w_conv,w_len,w_row,w_rc,w_cl,w_bnd,w_sel,w_upd,w_part,w_cut,w_vw,w_tk,w_app,w_set,w_lit,w_mn,w_mx,w_call,wp_ite,wp_leaf,wp_join,binI,binB,At.ev,d6,d7,d8,e0,d9,joinQ,loopQ,outQ,pvsOf,Kd.pv,Kd.of,List.map_cons,List.map_nil,d1,d2,d3,d4,d5,Option.map_some,h1,okIt]
 by_cases h2 : x.off ≤ 1048576
 rotate_left
 · simp [w_bi,w_bs,w_bb,w_not,w_conv,w_len,w_row,w_rc,w_cl,w_bnd,w_sel,w_upd,w_part,w_cut,w_vw,w_tk,w_app,w_set,w_lit,w_mn,w_mx,w_call,wp_ite,wp_leaf,wp_join,binI,binB,At.ev,d6,d7,d8,e0,d9,joinQ,loopQ,outQ,pvsOf,Kd.pv,Kd.of,List.map_cons,List.map_nil,d1,d2,d3,d4,d5,Option.map_some,h1,h2,okIt]
 have w : x.off.tmod 8 = x.off % 8 := Int.tmod_eq_emod_of_nonneg (by omega)
 by_cases h3 : x.off % 8 = 0
 rotate_left
 · simp [w_bi,w_bs,w_bb,w_not,w_conv,w_len,w_row,w_rc,w_cl,w_bnd,w_sel,w_upd,w_part,w_cut,w_vw,w_tk,w_app,w_set,w_lit,w_mn,w_mx,w_call,wp_ite,wp_leaf,wp_join,binI,binB,At.ev,d6,d7,d8,e0,d9,joinQ,loopQ,outQ,pvsOf,Kd.pv,Kd.of,List.map_cons,List.map_nil,d1,d2,d3,d4,d5,Option.map_some,h1,h2,w,h3,okIt]
 by_cases h4 : 0 ≤ x.size
 · simp [w_bi,w_bs,w_bb,w_not,w_conv,w_len,w_row,w_rc,w_cl,w_bnd,w_sel,w_upd,w_part,w_cut,w_vw,w_tk,w_app,w_set,w_lit,w_mn,w_mx,w_call,wp_ite,wp_leaf,wp_join,binI,binB,At.ev,d6,d7,d8,e0,d9,joinQ,loopQ,outQ,pvsOf,Kd.pv,Kd.of,List.map_cons,List.map_nil,d1,d2,d3,d4,d5,Option.map_some,h1,h2,w,h3,h4,okIt]
 · simp [w_bi,w_bs,w_bb,w_not,w_conv,w_len,w_row,w_rc,w_cl,w_bnd,w_sel,w_upd,w_part,w_cut,w_vw,w_tk,w_app,w_set,w_lit,w_mn,w_mx,w_call,wp_ite,wp_leaf,wp_join,binI,binB,At.ev,d6,d7,d8,e0,d9,joinQ,loopQ,outQ,pvsOf,Kd.pv,Kd.of,List.map_cons,List.map_nil,d1,d2,d3,d4,d5,Option.map_some,h1,h2,w,h3,h4,okIt]
theorem okIt_P (x : It) : F7 [.i x.key,.i x.cookie,.i x.off,.i x.size] = some [.b (okIt x)] := by
 rw [← okIt_R]; rfl
theorem stripe_R (k : Int) (h0 : 0 ≤ k) (h1 : k ≤ 18446744073709551615) : F50 [.i k] = some [.i (stripe k)] := by
 have hs := stripe_range k
 refine eq_of_wp ?_
 unfold fir50
 have w1 : IntKind.wrap .u64 (k * 11400714819323198485) = k * 11400714819323198485 % 18446744073709551616 := by simp [IntKind.wrap,IntKind.bits,IntKind.signed]
 have w2 : (k * 11400714819323198485 % 18446744073709551616).fdiv 2305843009213693952 = stripe k := by
  rw [Int.fdiv_eq_ediv_of_nonneg _ (by omega)]; rfl
 have w3 : IntKind.wrap .i64 (stripe k) = stripe k := wrap64 (by omega) (by omega)
 have w4 : (2 : Int) ^ min 61 IntKind.u64.bits = 2305843009213693952 := by simp [IntKind.bits]
 simp [w_bi,w_bs,w_bb,w_not,w_conv,w_len,w_row,w_rc,w_cl,w_bnd,w_sel,w_upd,w_part,w_cut,w_vw,w_tk,w_app,w_set,w_lit,w_mn,w_mx,w_call,wp_ite,wp_leaf,wp_join,binI,binB,At.ev,d6,d7,d8,e0,d9,joinQ,loopQ,outQ,pvsOf,Kd.pv,Kd.of,List.map_cons,List.map_nil,d1,d2,d3,d4,d5,Option.map_some,w1,w4,w2,w3]
theorem stripe_P (k : Int) (h0 : 0 ≤ k) (h1 : k ≤ 18446744073709551615) : F12 [.i k] = some [.i (stripe k)] := by
 rw [← stripe_R k h0 h1]; rfl
theorem it_row {l0 : L} {l : List It} (hr : l0.asR = l.map itR) {i : Nat} (hi : i < l.length) : ∃ h : i < l0.asR.length,l0.asR[i] = itR l[i] := by
 have hi0 : i < l0.asR.length := by rw [hr,List.length_map]; exact hi
 refine ⟨hi0,?_⟩
 have : l0.asR[i]? = some (itR l[i]) := by rw [hr,List.getElem?_map,List.getElem?_eq_getElem hi]; rfl
 rw [List.getElem?_eq_getElem hi0] at this
 exact Option.some.inj this
theorem it_len {l0 : L} {l : List It} (hr : l0.asR = l.map itR) : l0.asR.length = l.length := by rw [hr,List.length_map]
theorem asc_iff {l : List It} : asc l ↔ ∀ (i : Nat) (h : i + 1 < l.length),l[i].key < l[i + 1].key := by
 constructor
 · intro h i hi
   exact List.pairwise_iff_getElem.1 h i (i + 1) (by omega) hi (by omega)
 · intro h
   refine List.pairwise_iff_getElem.2 fun i j hi hj hij => ?_
   induction j with
   | zero => omega
   | succ j ih =>
    by_cases he : i = j
    · subst he; exact h i hj
    · have := ih (by omega) (by omega)
      have := h j hj
      omega
def stepOk (l : List It) (i : Nat) : Prop := ∀ h : i < l.length,okIt l[i] = true ∧ (∀ h0 : 0 < i,(l[i - 1]'(by omega)).key < l[i].key)
theorem VL_iff {l : List It} : VL l ↔ ∀ i,i < l.length → stepOk l i := by
 unfold VL
 rw [asc_iff]
 constructor
 · rintro ⟨h1,h2⟩ i hi hi'
   refine ⟨h2 _ (List.getElem_mem hi),fun h0 => ?_⟩
   have := h1 (i - 1) (by omega)
   simpa [show i - 1 + 1 = i by omega] using this
 · intro h
   refine ⟨fun i hi => ?_,fun x hx => ?_⟩
   · have := (h (i + 1) hi hi).2 (by omega)
     simpa using this
   · obtain ⟨i,hi,rfl⟩ := List.getElem_of_mem hx
     exact (h i hi hi).1
theorem bool_no {b : Bool} {P : Prop} (hb : b = true ↔ P) (h : ¬ P) : b = false := by
 cases b with
 | true => exact absurd (hb.1 rfl) h
 | false => rfl
theorem VL_R (l0 : L) (l : List It) (hr : l0.asR = l.map itR) (hn : l.length ≤ 1000000) {b : Bool} (hb : b = true ↔ VL l) : F48 [l0] = some [.b b] := by
 refine eq_of_wp ?_
 unfold fir48
 simp only [wp_join]
 refine wp_loop (I := fun a => ∃ i : Nat,a = [.i i] ∧ i ≤ l.length ∧ ∀ j,j < i → stepOk l j) (mu := fun a => match a with | [.i i] => l.length - i.toNat | _ => 0) (by exact ⟨0,rfl,by omega,fun j hj => by omega⟩) ?_
 rintro a ⟨i,rfl,e1,e2⟩
 have hlen := it_len hr
 by_cases hi : i < l.length
 rotate_left
 · have hv : b = true := hb.2 (VL_iff.2 fun j hj => e2 j (by omega))
   simp [w_ite,w_bi,w_bs,w_bb,w_not,w_conv,w_len,w_row,w_rc,w_cl,w_bnd,w_sel,w_upd,w_part,w_cut,w_vw,w_tk,w_app,w_set,w_lit,w_mn,w_mx,w_call,wp_leaf,wp_join,binI,binB,At.ev,d6,d7,d8,e0,d9,joinQ,loopQ,outQ,pvsOf,Kd.pv,Kd.of,List.map_cons,List.map_nil,d1,d2,d3,d4,d5,Option.map_some,hlen,hi,hv]
 obtain ⟨hi0,hx⟩ := it_row hr hi
 have w : IntKind.wrap .i64 ((i : Int) + 1) = (i : Int) + 1 := wrap64 (by omega) (by omega)
 have ho := okIt_R l[i]
 have no : ¬ stepOk l i → b = false := fun h => bool_no hb fun hv => h (VL_iff.1 hv i hi)
 have yes : stepOk l i → ∀ j,j < i + 1 → stepOk l j := fun h j hj => by
   by_cases hji : j = i
   · subst hji; exact h
   · exact e2 j (by omega)
 have fin : stepOk l i → (∃ i_1 : Nat,(i : Int) + 1 = i_1 ∧ i_1 ≤ l.length ∧ ∀ j,j < i_1 → stepOk l j) ∧ l.length - (i + 1) < l.length - i := fun h => ⟨⟨i + 1,by omega,by omega,yes h⟩,by omega⟩
 by_cases h0 : 0 < i
 · obtain ⟨hi1,hx1⟩ := it_row hr (show i - 1 < l.length by omega)
   have w1 : IntKind.wrap .i64 ((i : Int) - 1) = ((i - 1 : Nat) : Int) := by rw [wrap64 (by omega) (by omega)]; omega
   have w2 : (0 : Int) ≤ ((i - 1 : Nat) : Int) := by omega
   have w3 : ((i - 1 : Nat) : Int).toNat = i - 1 := by omega
   replace hx1 := (List.getElem?_eq_getElem hi1).trans (congrArg some hx1)
   have hst : stepOk l i ↔ okIt l[i] = true ∧ (l[i - 1]'(by omega)).key < l[i].key := by
     unfold stepOk
     constructor
     · intro h; exact ⟨(h hi).1,(h hi).2 h0⟩
     · intro h _; exact ⟨h.1,fun _ => h.2⟩
   generalize hy : (l[i - 1]'(by omega)) = y at hx1 hst
   generalize hz : l[i] = z at hx ho hst
   simp only [itR] at hx hx1
   clear yes e2 hb
   generalize stepOk l i = P at hst no fin
   by_cases ok : okIt z = true
   rotate_left
   · have hv := no fun h => ok (hst.1 h).1
     simp [w_ite,w_bi,w_bs,w_bb,w_not,w_conv,w_len,w_row,w_rc,w_cl,w_bnd,w_sel,w_upd,w_part,w_cut,w_vw,w_tk,w_app,w_set,w_lit,w_mn,w_mx,w_call,wp_leaf,wp_join,binI,binB,At.ev,d6,d7,d8,e0,d9,joinQ,loopQ,outQ,pvsOf,Kd.pv,Kd.of,List.map_cons,List.map_nil,d1,d2,d3,d4,d5,Option.map_some,hlen,hi,hx,ho,ok,hv]
   by_cases hk : y.key < z.key
   · have hk' : ¬ z.key ≤ y.key := by omega
     simp [w_ite,w_bi,w_bs,w_bb,w_not,w_conv,w_len,w_row,w_rc,w_cl,w_bnd,w_sel,w_upd,w_part,w_cut,w_vw,w_tk,w_app,w_set,w_lit,w_mn,w_mx,w_call,wp_leaf,wp_join,binI,binB,At.ev,d6,d7,d8,e0,d9,joinQ,loopQ,outQ,pvsOf,Kd.pv,Kd.of,List.map_cons,List.map_nil,d1,d2,d3,d4,d5,Option.map_some,hlen,hi,hx,ho,ok,h0,w1,w2,w3,hx1,w]
     exact ⟨fun h => absurd h hk',fun _ => fin (hst.2 ⟨ok,hk⟩)⟩
   · have hv := no fun h => hk (hst.1 h).2
     have hk' : z.key ≤ y.key := by omega
     simp [w_ite,w_bi,w_bs,w_bb,w_not,w_conv,w_len,w_row,w_rc,w_cl,w_bnd,w_sel,w_upd,w_part,w_cut,w_vw,w_tk,w_app,w_set,w_lit,w_mn,w_mx,w_call,wp_leaf,wp_join,binI,binB,At.ev,d6,d7,d8,e0,d9,joinQ,loopQ,outQ,pvsOf,Kd.pv,Kd.of,List.map_cons,List.map_nil,d1,d2,d3,d4,d5,Option.map_some,hlen,hi,hx,ho,ok,h0,w1,w2,w3,hx1,w]
     exact ⟨fun _ => hv,fun h => absurd h hk⟩
 · have hst : stepOk l i ↔ okIt l[i] = true := by
     unfold stepOk
     constructor
     · intro h; exact (h hi).1
     · intro h _; exact ⟨h,fun h' => absurd h' h0⟩
   generalize hz : l[i] = z at hx ho hst
   simp only [itR] at hx
   by_cases ok : okIt z = true
   rotate_left
   · have hv := no fun h => ok (hst.1 h)
     simp [w_ite,w_bi,w_bs,w_bb,w_not,w_conv,w_len,w_row,w_rc,w_cl,w_bnd,w_sel,w_upd,w_part,w_cut,w_vw,w_tk,w_app,w_set,w_lit,w_mn,w_mx,w_call,wp_leaf,wp_join,binI,binB,At.ev,d6,d7,d8,e0,d9,joinQ,loopQ,outQ,pvsOf,Kd.pv,Kd.of,List.map_cons,List.map_nil,d1,d2,d3,d4,d5,Option.map_some,hlen,hi,hx,ho,ok,hv]
   · have f := fin (hst.2 ok)
     simp [w_ite,w_bi,w_bs,w_bb,w_not,w_conv,w_len,w_row,w_rc,w_cl,w_bnd,w_sel,w_upd,w_part,w_cut,w_vw,w_tk,w_app,w_set,w_lit,w_mn,w_mx,w_call,wp_leaf,wp_join,binI,binB,At.ev,d6,d7,d8,e0,d9,joinQ,loopQ,outQ,pvsOf,Kd.pv,Kd.of,List.map_cons,List.map_nil,d1,d2,d3,d4,d5,Option.map_some,hlen,hi,hx,ho,ok,h0,w]
     exact f
end
end Go.Proofs.YtndegphojkiblaaGreatDoor
