/- Towards the last file's theorem: part 14. -/
import Derived.Test.YtndegphojkiblaaGreatDoorG13
set_option linter.unusedSimpArgs false
set_option linter.unusedVariables false
namespace Go.Proofs.YtndegphojkiblaaGreatDoor
section
open Go.RowKit
open Classical
abbrev CTab := List Sig
def CTab.ok (P : Program) (C : CTab) : Prop := ∀ s ∈ C,s.ok P
def SSt.args1 (S : SSt) : List Operand → Option (List SV1)
 | [] => some []
 | x :: l => match S.arg1 x,S.args1 l with
  | some y,some ys => some (y :: ys)
  | _,_ => none
def SSt.callee (S : SSt) : Operand → Option (FuncId × List Nat)
 | .func f => some (f,[])
 | x => match S.arg x with
  | some (.v (.c (.fn f caps))) => some (f,caps)
  | _ => none
def firstSig (T : TTab) (S : SSt) (d : Nat) (f : FuncId) (xs : List SV1) : CTab → Option SRes
 | [] => none
 | s :: C => if s.f = f then match sCallSig T S d xs s with
   | some r => some r
   | none => firstSig T S d f xs C
  else firstSig T S d f xs C
def sCall (T : TTab) (C : CTab) (S : SSt) (d : Nat) (x : Operand) (args : List Operand) : Option SRes :=
 match S.callee x,S.args1 args with
 | some (f,caps),some xs => firstSig T S d f (xs ++ caps.map fun n => .c (.ptr n 0)) C
 | _,_ => none
def SSt.caps (S : SSt) : List Operand → Option (List Nat)
 | [] => some []
 | x :: l => match S.arg x,S.caps l with
  | some (.v (.c (.ptr n 0))),some ns => some (n :: ns)
  | _,_ => none
def SSt.pvCells : List SC → Option (List (List (Kd × At)))
 | [] => some []
 | .p k x :: l => (SSt.pvCells l).map ([(k,x)] :: ·)
 | .nil :: l => (SSt.pvCells l).map ([(.sl,.r0)] :: ·)
 | _ => none
def sMapSet (T : TTab) (S : SSt) (t : TypeId) (m k x : Operand) : Option SRes := match S.arg m,S.arg k,S.arg x,List.lookup t T with
 | some (.v (.c (.mp n))),some (.v (.c (.p (.int .u64) _))),some _,some r => match List.lookup n S.heap with
  | some .map => if r.mapk then some ⟨[],.c1 .dead,⟨[(n,.map)],[]⟩,[]⟩ else none
  | _ => none
 | _,_,_,_ => none
def sMapDel (T : TTab) (S : SSt) (t : TypeId) (m k : Operand) : Option SRes := match S.arg m,S.arg k,List.lookup t T with
 | some (.v (.c (.mp n))),some (.v (.c (.p (.int .u64) _))),some r => match List.lookup n S.heap with
  | some .map => if r.mapk then some ⟨[],.tup [],⟨[(n,.map)],[]⟩,[]⟩ else none
  | _ => none
 | _,_,_ => none
def sConvB (T : TTab) (S : SSt) (s d : TypeId) (x : Operand) : Option SRes := match S.arg x,List.lookup s T with
 | some (.v (.c (.own n))),some r => match List.lookup n S.heap,r.sl with
  | some (.row e a),some e' => match List.lookup e' T with
   | some r' => if r'.int = some .u8 ∧ s = d then some ⟨[.row a (.i 0) 1],.c1 (.own n),⟨[(n,.row e a)],[]⟩,[]⟩ else none
   | none => none
  | _,_ => none
 | _,_ => none
def sBoxSl (T : TTab) (S : SSt) (t : TypeId) (x : Operand) : Option SRes := match S.arg x,List.lookup t T with
 | some (.v (.c (.ptr n off))),some r => match List.lookup n S.heap,r.arr with
  | some (.box cs),some (cnt,e) => match List.lookup e T,SSt.pvCells ((cs.drop off).take cnt) with
   | some re,some qs => if re.size = 1 ∧ re.info = true ∧ 0 < cnt ∧ cnt ≤ 4096 ∧ qs.length = cnt then some ⟨[.lit qs],.c1 (.p .sl (.v S.nv)),⟨[],[n]⟩,[]⟩ else none
   | _,_ => none
  | _,_ => none
 | _,_ => none
def sAppIn (T : TTab) (S : SSt) (t : TypeId) (s x : Operand) : Option SRes := match S.arg s,S.arg x,(List.lookup t T).bind Ty.elem with
 | some (.v (.c (.sub m (.i 0) ln))),some (.v (.c cx)),some e => match List.lookup m S.heap,S.view S.nv cx,List.lookup e T with
  | some (.row e' a),some (nds,b),some re => match re.app with
   | some (n,_) => if e' = e then some ⟨nds ++ [.apin a ln b n],.c1 (.sub m (.i 0) (.v (S.nv + ndsN nds + 1))),⟨[(m,.row e (.v (S.nv + ndsN nds)))],[]⟩,[]⟩ else none
   | none => none
  | _,_,_ => none
 | _,_,_ => none
def sAppMake (T : TTab) (S : SSt) (d : Nat) (t t' : TypeId) (s x : Operand) : Option SRes := match S.arg s,S.arg x,List.lookup t T,List.lookup t' T with
 | some (.v (.c .nil)),some (.v (.c (.p (.int .i64) a))),some r,some r' => match r.elem,r'.int with
  | some e,some _ => match List.lookup e T with
   | some re => match re.app,re.kds.bind zeroPs with
    | some (n,b),some ps => some ⟨[.rep a ps b,.row (.v S.nv) (.i 0) n,.app .r0 (.v S.nv) n b],.c1 (.own d),⟨[(d,.row e (.v (S.nv + 2)))],[]⟩,[]⟩
    | _,_ => none
   | none => none
  | _,_ => none
 | _,_,_,_ => none
def sBuiltin (T : TTab) (S : SSt) (d : Nat) (b : Builtin) (args : List Operand) (ts : List TypeId) : Option SRes :=
 match b,args,ts with
 | .len,[x],[t] => sLen T S t x
 | .append,[s,x],[t,t'] => if t = t' then (if (List.lookup 999999 T).isSome then match sAppIn T S t s x with
   | some r => some r
   | none => sAppend T S d t s x
   else sAppend T S d t s x) else sAppMake T S d t t' s x
 | .copy,[x,y],[t,_] => sCopy T S t x y
 | .min,[x,y],_ => match S.arg x,S.arg y with
  | some (.v (.c (.p (.int k) a))),some (.v (.c (.p (.int _) b))) => some ⟨[.mn a b],.c1 (.p (.int k) (.v S.nv)),noSE,[]⟩
  | _,_ => none
 | .max,[x,y],_ => match S.arg x,S.arg y with
  | some (.v (.c (.p (.int k) a))),some (.v (.c (.p (.int _) b))) => some ⟨[.mx a b],.c1 (.p (.int k) (.v S.nv)),noSE,[]⟩
  | _,_ => none
 | .cap,[x],[t] => match S.arg x,List.lookup t T with
  | some (.v (.c .nil)),some r => if r.sl.isSome then some (.pure (.c1 (.p (.int .i64) (.i 0)))) else none
  | _,_ => none
 | .delete,[m,k],t :: _ => sMapDel T S t m k
 | _,_,_ => none
def symOp (T : TTab) (C : CTab) (S : SSt) (d : Nat) (op : Op) : Option SRes := match op with
 | .move (.tmp t) => (S.tmps[t]?).map .pure
 | .move x => (S.arg x).map .pure
 | .assign (.tmp t) => (S.tmps[t]?).map .pure
 | .assign x => (S.arg x).map .pure
 | .pick c a b => match S.arg c with
  | some (.v (.c (.p .bool (.b t)))) => (if t then S.arg a else S.arg b).map .pure
  | _ => none
 | .alloc e => ((List.lookup e T).bind Ty.kds).map fun ks => ⟨[],.c1 (.ptr d 0),⟨[(d,.box (ks.map Kd.zero))],[]⟩,[]⟩
 | .box _ x => (S.arg1 x).map fun x => ⟨[],.c1 (.ptr d 0),⟨[(d,.box x.cells)],[]⟩,[]⟩
 | .build t parts => sBuild T S t parts.toList
 | .buildSlice t len parts => sLit T S d t len parts.toList
 | .load t x => sLoad T S t x
 | .store t x y => sStore T S t x y
 | .nilCheck x => match S.arg x with
  | some (.v (.c (.ptr n o))) => some (.pure (.c1 (.ptr n o)))
  | some (.v (.c (.aptr n o c m i))) => some (.pure (.c1 (.aptr n o c m i)))
  | some (.v (.c (.eptr n i j))) => some (.pure (.c1 (.eptr n i j)))
  | some (.v (.c (.ref x j))) => some (.pure (.c1 (.ref x j)))
  | some (.v (.c (.fn f caps))) => some (.pure (.c1 (.fn f caps)))
  | _ => none
 | .binOp op t x y _ => sBin T S op t x y
 | .unOp op _ x => sUn S op x
 | .convert s t x => match sConv T S s t x with
  | some r => some r
  | none => sConvB T S s t x
 | .makeSlice t l c => sMake T S d t l c
 | .slice t x lo hi none => match sSlice T S t x lo hi with
  | some r => some r
  | none => match lo,hi with
   | none,none => sBoxSl T S t x
   | _,_ => none
 | .makeMap _ none => some ⟨[],.c1 (.mp d),⟨[(d,.map)],[]⟩,[]⟩
 | .mapUpdate t m k x => sMapSet T S t m k x
 | .fieldAddr t x f => sField T S t x f
 | .indexAddr t x i => sIndex T S t x i
 | .index t x i => match S.arg x,S.arg i,List.lookup t T with
  | some (.v (.c (.p .str a))),some (.v (.c (.p (.int _) b))),some r => if r.isS then some ⟨[.sidx a b],.c1 (.p (.int .u8) (.v S.nv)),noSE,[]⟩ else none
  | some (.v (.agg cs)),some (.v (.c (.p (.int _) b))),some r => match r.arr with
   | some (n,e) => match List.lookup e T with
    | some re => match colNds cs 0 n re.size b 0 (if re.agg then re.size else 1) with
     | some (ks,nds) => if re.info then (sPack re ks S.nv).map fun v => ⟨.bnd b n :: nds,v,noSE,[]⟩ else none
     | none => none
    | none => none
   | none => none
  | _,_,_ => none
 | .extract (.tmp t) i => match S.tmps[t]? with
  | some (.tup xs) => match xs[i]? with
   | some x => some (.pure (.v x))
   | none => none
  | _ => none
 | .makeFunc (.func f) first captured => if first.size = 0 then (S.caps captured.toList).map fun ns => .pure (.c1 (.fn f ns)) else none
 | .panic _ | .makeInterface _ _ => some ⟨[.bnd (.i 0) 0],.c1 .dead,noSE,[]⟩
 | .call c => match c.callee with
  | .value x => sCall T C S d x c.args.toList
  | .builtin b => sBuiltin T S d b c.args.toList c.argTypes.toList
  | _ => none
 | _ => none
section
variable {P : Program} {T : TTab} {C : CTab} {S : SSt} {ρ : List L} {d : Nat}
theorem args1_den : ∀ {l : List Operand} {xs : List SV1},S.args1 l = some xs → l.mapM (S.den ρ).arg1 = some (xs.map (SV1.den ρ))
 | [],_,h => by cases h; rfl
 | x :: l,xs,h => by
  simp only [SSt.args1] at h
  split at h
  · rename_i y ys h1 h2
    cases h
    simp only [List.mapM_cons,SSt.arg1_den ρ h1,args1_den h2]; rfl
  · cases h
theorem caps_den : ∀ {l : List Operand} {ns : List Nat},S.caps l = some ns → l.mapM (S.den ρ).cap = some ns
 | [],_,h => by cases h; rfl
 | x :: l,ns,h => by
  simp only [SSt.caps] at h
  split at h
  · rename_i n ns' h1 h2
    cases h
    have h1' : (S.den ρ).arg x = some (.v (.c (.ptr n 0))) := SSt.arg_den ρ h1
    have h3 : (S.den ρ).cap x = some n := by simp only [ASt.cap,h1']
    simp only [List.mapM_cons,h3,caps_den h2]; rfl
  · cases h
theorem callee_den {x : Operand} {y : FuncId × List Nat} (h : S.callee x = some y) : (S.den ρ).callee x = some y := by
 unfold SSt.callee at h
 split at h
 · cases h; rfl
 · rename_i hno
   split at h
   · rename_i f caps hx
     cases h
     have hx' : (S.den ρ).arg x = some (.v (.c (.fn f caps))) := SSt.arg_den ρ hx
     cases x with
     | func f => exact absurd rfl (hno f)
     | _ => simp only [ASt.callee,hx']
   · cases h
theorem firstSig_ok {f : FuncId} {xs : List SV1} : ∀ {C : CTab} {r : SRes},CTab.ok P C → firstSig T S d f xs C = some r → ∃ s,s.ok P ∧ s.f = f ∧ sCallSig T S d xs s = some r
 | [],_,_,h => by cases h
 | s :: C,r,hC,h => by
  simp only [firstSig] at h
  split at h
  · rename_i hf
    split at h
    · rename_i r' hr
      cases h
      exact ⟨s,hC s (by simp),hf,hr⟩
    · exact firstSig_ok (fun s' hs' => hC s' (by simp [hs'])) h
  · exact firstSig_ok (fun s' hs' => hC s' (by simp [hs'])) h
theorem sCall_ok (hC : CTab.ok P C) {x : Operand} {args : List Operand} {r : SRes} (h : sCall T C S d x args = some r) (hs : Sat ρ S.nv r.nds) :
   ∀ Sp : Spec,Sp d = some (r.v.den ρ,r.e.den ρ,r.rd) → evCall P Sp (S.den ρ) d x args = some (r.den ρ) := by
 intro Sp hSp
 unfold sCall at h
 split at h
 · rename_i f caps xs hf hxs
   obtain ⟨s,h1,rfl,h2⟩ := firstSig_ok hC h
   have hok := sCallSig_ok (ρ := ρ) h1 h2 hs
   unfold evCall
   simp only [callee_den hf,args1_den hxs,hSp]
   rw [if_pos]
   · rfl
   · rw [List.map_append,List.map_map] at hok; exact hok
 · cases h
theorem tyMapk_eq {t : TypeId} (h : (tyRow P t).mapk = true) : ∃ kt vt,P.underlying t = some (.map kt vt) ∧ P.underlying kt = some (.int .u64) := by
 simp only [tyRow,tyMapk] at h
 split at h
 · rename_i kt vt hu
   split at h
   · rename_i hk; exact ⟨kt,vt,hu,hk⟩
   · cases h
 · cases h
theorem tyIntU8_eq {t : TypeId} (h : (tyRow P t).int = some .u8) : P.underlying t = some (.int .u8) := by
 simp only [tyRow,tyKind] at h
 split at h
 · rename_i hu; cases h; exact hu
 · cases h
theorem pvCells_pvs : ∀ {cs : List SC} {qs : List (List (Kd × At))},SSt.pvCells cs = some qs → ∃ ps,pvs (cs.map (SC.den ρ)) = some ps ∧ qs.map (pvsOf ρ) = ps.map fun q => [q]
 | [],_,h => by cases h; exact ⟨[],rfl,rfl⟩
 | c :: cs,qs,h => by
  have key : ∀ (k : Kd) (x : At),(SSt.pvCells cs).map ([(k,x)] :: ·) = some qs → (c.den ρ).pv = some (k.pv (x.ev ρ)) → ∃ ps,pvs ((c :: cs).map (SC.den ρ)) = some ps ∧ qs.map (pvsOf ρ) = ps.map fun q => [q] := by
   intro k x h hc
   simp only [Option.map_eq_some_iff] at h
   obtain ⟨qs',h1,rfl⟩ := h
   obtain ⟨ps,h2,h3⟩ := pvCells_pvs h1
   refine ⟨k.pv (x.ev ρ) :: ps,?_,?_⟩
   · simp only [pvs] at h2 ⊢
     simp only [List.map_cons,List.mapM_cons,hc,h2]; rfl
   · simp only [List.map_cons,h3]; rfl
  cases c with
  | p k x => exact key k x h rfl
  | nil => exact key .sl .r0 h rfl
  | _ => cases h
theorem sMapSet_ok (hT : TTab.ok P T) {t : TypeId} {m k x : Operand} {r : SRes} (h : sMapSet T S t m k x = some r) : (evMapSet P (S.den ρ) t m k x).map (fun e => (⟨.c .dead,e,[]⟩ : Res)) = some (r.den ρ) := by
 unfold sMapSet at h
 split at h
 · rename_i n a v row hm hk hx hr
   have := hT _ _ hr; subst this
   split at h
   · rename_i hl
     split at h
     · rename_i hmk
       cases h
       obtain ⟨kt,vt,h1,h2⟩ := tyMapk_eq hmk
       have hm' : (S.den ρ).arg m = some (.v (.c (.mp n))) := SSt.arg_den ρ hm
       have hk' : (S.den ρ).arg k = some (.v (.c (.p (.sc (.int .u64 (a.ev ρ).asI))))) := SSt.arg_den ρ hk
       have hx' : (S.den ρ).arg x = some (v.den ρ) := SSt.arg_den ρ hx
       simp only [evMapSet,hm',hk',hx',h1,h2,den_heap,hl,Option.map_some,SB.den]; rfl
     · cases h
   · cases h
 · cases h
theorem sMapDel_ok (hT : TTab.ok P T) {t : TypeId} {m k : Operand} {r : SRes} (h : sMapDel T S t m k = some r) : (evMapDel P (S.den ρ) t m k).map (fun e => (⟨.tup [],e,[]⟩ : Res)) = some (r.den ρ) := by
 unfold sMapDel at h
 split at h
 · rename_i n a row hm hk hr
   have := hT _ _ hr; subst this
   split at h
   · rename_i hl
     split at h
     · rename_i hmk
       cases h
       obtain ⟨kt,vt,h1,h2⟩ := tyMapk_eq hmk
       have hm' : (S.den ρ).arg m = some (.v (.c (.mp n))) := SSt.arg_den ρ hm
       have hk' : (S.den ρ).arg k = some (.v (.c (.p (.sc (.int .u64 (a.ev ρ).asI))))) := SSt.arg_den ρ hk
       simp only [evMapDel,hm',hk',h1,h2,den_heap,hl,Option.map_some,SB.den]; rfl
     · cases h
   · cases h
 · cases h
theorem sConvB_ok (hT : TTab.ok P T) {s d : TypeId} {x : Operand} {r : SRes} (h : sConvB T S s d x = some r) (hs : Sat ρ S.nv r.nds) : evConv P (S.den ρ) s d x = none ∧ (evConvB P (S.den ρ) s d x).map Res.of = some (r.den ρ) := by
 unfold sConvB at h
 split at h
 · rename_i n row hx hr
   have := hT _ _ hr; subst this
   split at h
   · rename_i e a e' hl hsl
     split at h
     · rename_i r' he
       have := hT _ _ he; subst this
       split at h
       · rename_i hc
         cases h
         obtain ⟨h8,rfl⟩ := hc
         obtain ⟨⟨ls,h1,_⟩,_⟩ := hs
         have hx' : (S.den ρ).arg x = some (.v (.c (.own n))) := SSt.arg_den ρ hx
         have hu := tySl_eq hsl
         have hu8 := tyIntU8_eq h8
         have hne : (a.ev ρ).asR ≠ [] := by
           intro h0
           simp only [Nd.ev,h0] at h1
           simp at h1
         refine ⟨?_,?_⟩
         · simp only [evConv,hx',hu]
           cases (S.den ρ).view (.own n) <;> rfl
         · simp only [evConvB,hx',den_heap,hl,Option.map_some,SB.den,hu,hu8]
           rw [if_pos ⟨trivial,hne⟩]; rfl
       · cases h
     · cases h
   · cases h
 · cases h
theorem sBoxSl_ok (hT : TTab.ok P T) {t : TypeId} {x : Operand} {r : SRes} (h : sBoxSl T S t x = some r) (hs : Sat ρ S.nv r.nds) : evSlice P (S.den ρ) t x none none = none ∧ (evBoxSl P (S.den ρ) t x).map Res.of = some (r.den ρ) := by
 unfold sBoxSl at h
 split at h
 · rename_i n off row hx hr
   have := hT _ _ hr; subst this
   split at h
   · rename_i cs cnt e hl ha
     split at h
     · rename_i re qs he hq
       have := hT _ _ he; subst this
       split at h
       · rename_i hc
         cases h
         obtain ⟨c1,c2,c3,c4,c5⟩ := hc
         obtain ⟨l,h1,h2⟩ := hs.ev1 rfl
         simp only [Nd.ev] at h1
         cases h1
         have hx' : (S.den ρ).arg x = some (.v (.c (.ptr n off))) := SSt.arg_den ρ hx
         have har' : tyArr P t = some (cnt,e) := ha
         obtain ⟨ps,k1,k2⟩ := pvCells_pvs (ρ := ρ) hq
         have hsz : tySize P e = 1 := c1
         have hinf : tyInfo P e = true := c2
         have hlen : ps.length = cnt := by
           have := congrArg List.length k2
           simp only [List.length_map] at this
           omega
         refine ⟨?_,?_⟩
         · simp only [evSlice,hx']
           rfl
         · simp only [evBoxSl,hx',den_heap,hl,Option.map_some,SB.den,har']
           rw [← List.map_drop,← List.map_take,k1]
           simp only
           rw [if_pos ⟨hsz,hinf,c3,c4,hlen⟩]
           simp only [Option.map_some,Res.of,SRes.den,SV.den,SV1.den,SC.den,Kd.pv,h2,L.asR,k2]; rfl
       · cases h
     · cases h
   · cases h
 · cases h
theorem sAppMake_ok (hT : TTab.ok P T) {d : Nat} {t t' : TypeId} {s x : Operand} {r : SRes} (h : sAppMake T S d t t' s x = some r) (hs : Sat ρ S.nv r.nds) : (evAppMake P (S.den ρ) d t t' s x).map Res.of = some (r.den ρ) := by
 unfold sAppMake at h
 split at h
 · rename_i a r1 r2 hs0 hx hr1 hr2
   have := hT _ _ hr1; subst this
   have := hT _ _ hr2; subst this
   split at h
   · rename_i e k hel hk
     split at h
     · rename_i re he
       have := hT _ _ he; subst this
       split at h
       · rename_i n b ps happ hps
         cases h
         have happ' : tyApp P e = some (n,b) := happ
         simp only [Option.bind_eq_some_iff] at hps
         obtain ⟨ks,hks,hz⟩ := hps
         obtain ⟨⟨l1,h1,i1⟩,⟨l2,h2,i2⟩,⟨l3,h3,i3⟩,_⟩ := hs
         have hel' : tyElem P t = some e := hel
         have hk' := tyKind_eq (P := P) (t := t') hk
         have hs' : (S.den ρ).arg s = some (.v (.c .nil)) := SSt.arg_den ρ hs0
         have hx' : (S.den ρ).arg x = some (.v (.c (.p (.sc (.int .i64 (a.ev ρ).asI))))) := SSt.arg_den ρ hx
         simp only [Nd.ev] at h1
         split at h1
         · rename_i c1
           cases h1
           have e1 : (At.v S.nv).ev ρ = .r (List.replicate (a.ev ρ).asI.toNat (pvsOf ρ ps)) := by
            have := i1 0 (by simp [Nd.n])
            simp only [Nat.add_zero,List.getElem?_cons_zero] at this
            simp only [At.ev,this,Option.getD_some]
           have hpos : 0 < (a.ev ρ).asI := by
            simp only [Nd.ev,e1,L.asR] at h2
            by_cases h0 : (a.ev ρ).asI.toNat = 0
            · rw [h0] at h2; simp [At.ev,L.asI] at h2
            · omega
           simp only [Nd.ev,Option.ite_none_right_eq_some] at h3
           obtain ⟨c3,h3⟩ := h3
           cases h3
           have e3 : (At.v (S.nv + 2)).ev ρ = .r (List.replicate (a.ev ρ).asI.toNat (pvsOf ρ ps)) := by
            have := i3 0 (by simp [Nd.n])
            simp only [Nat.add_zero,List.getElem?_cons_zero] at this
            have e : S.nv + (Nd.rep a ps b).n + (Nd.row (At.v S.nv) (At.i 0) n).n = S.nv + 2 := rfl
            rw [e] at this
            rw [At.ev,this,Option.getD_some,e1]
            simp [At.ev,L.asR]
           have hb : (a.ev ρ).asI.toNat * b ≤ 140737488355328 := by
            have := c3.2.1
            rw [e1] at this
            simpa [At.ev,L.asR] using this
           simp only [evAppMake,hel',hs',hx',hk',happ',kds_zero (P := P) hks ρ,zeroPs_den hz]
           rw [if_pos ⟨hpos,c1.2.1,hb⟩]
           simp only [Option.map_some,Res.of,SRes.den,SEff.den,SHp.den,List.map_cons,List.map_nil,SB.den,e3,L.asR]; rfl
         · cases h1
       · cases h
     · cases h
   · cases h
 · cases h
theorem sAppIn_ok (hT : TTab.ok P T) {t : TypeId} {s x : Operand} {r : SRes} (h : sAppIn T S t s x = some r) (hs : Sat ρ S.nv r.nds) : (evAppIn P (S.den ρ) t s x).map Res.of = some (r.den ρ) ∧ ∃ a b c,r.v.den ρ = .v (.c (.sub a b c)) := by
 unfold sAppIn at h
 split at h
 · rename_i m ln cx e hs0 hx hel
   split at h
   · rename_i e' a nds b re hl hv he
     have := hT _ _ he; subst this
     split at h
     · rename_i n bb happ
       split at h
       · rename_i hee
         subst hee
         cases h
         have happ' : tyApp P e' = some (n,bb) := happ
         have hs' : (S.den ρ).arg s = some (.v (.c (.sub m 0 (ln.ev ρ).asI.toNat))) := SSt.arg_den ρ hs0
         have hx' : (S.den ρ).arg x = some (.v (.c (cx.den ρ))) := SSt.arg_den ρ hx
         obtain ⟨hs1,hs2⟩ := Sat.app hs
         obtain ⟨ls,h1,h2⟩ := hs2.one
         simp only [Nd.ev,Option.ite_none_right_eq_some] at h1
         obtain ⟨hc,h1⟩ := h1
         cases h1
         have h20 := h2 0 (by simp [Nd.n])
         have h21 := h2 1 (by simp [Nd.n])
         simp only [Nat.add_zero,List.getElem?_cons_zero,Option.getD_some] at h20
         simp only [List.getElem?_cons_succ,List.getElem?_cons_zero,Option.getD_some] at h21
         refine ⟨?_,_,_,_,rfl⟩
         simp only [evAppIn,hs',hx',den_heap,hl,Option.map_some,SB.den,view_den hv hs1,elem_ok hT hel,happ']
         rw [if_pos ⟨trivial,hc.1,hc.2⟩]
         simp only [Option.map_some,Res.of,SRes.den,SEff.den,SHp.den,List.map_cons,List.map_nil,SB.den,h20,h21,L.asR,SV.den,SV1.den,SC.den,L.asI,Int.toNat_natCast]; rfl
       · cases h
     · cases h
   · cases h
 · cases h
theorem sAppend_v {t : TypeId} {s x : Operand} {r : SRes} (h : sAppend T S d t s x = some r) : r.v.den ρ = .v (.c (.own d)) := by
 unfold sAppend at h
 repeat' split at h
 all_goals first | (cases h; rfl) | cases h
theorem sBuiltin_ok (hT : TTab.ok P T) {b : Builtin} {args : List Operand} {ts : List TypeId} {r : SRes} (h : sBuiltin T S d b args ts = some r) (hs : Sat ρ S.nv r.nds) {Sp : Spec} (hSp : Sp d = some (r.v.den ρ,r.e.den ρ,r.rd)) : evBuiltin P Sp (S.den ρ) d b args ts = some (r.den ρ) := by
 unfold sBuiltin at h
 split at h
 · exact sLen_ok hT h hs
 · rename_i s x t t'
   split at h
   · rename_i htt
     have h0 : sAppend T S d t s x = some r → evBuiltin P Sp (S.den ρ) d .append [s,x] [t,t'] = some (r.den ρ) := fun h => by
       simp only [evBuiltin,if_pos htt,hSp]
       rw [sAppend_v h]
       exact sAppend_ok hT h hs
     split at h
     · split at h
       · rename_i r' hr'
         cases h
         obtain ⟨h1,a,b,c,h2⟩ := sAppIn_ok hT hr' hs
         simp only [evBuiltin,if_pos htt,hSp]
         rw [h2]
         exact h1
       · exact h0 h
     · exact h0 h
   · rename_i htt
     simp only [evBuiltin,if_neg htt]
     exact sAppMake_ok hT h hs
 · exact sCopy_ok hT h hs
 · rename_i _ x y
   split at h
   · rename_i k a k' b hx hy
     cases h
     obtain ⟨l,h1,h2⟩ := hs.ev1 rfl
     simp only [Nd.ev] at h1
     cases h1
     have hx' : (S.den ρ).arg x = some (.v (.c (.p (.sc (.int k (a.ev ρ).asI))))) := SSt.arg_den ρ hx
     have hy' : (S.den ρ).arg y = some (.v (.c (.p (.sc (.int k' (b.ev ρ).asI))))) := SSt.arg_den ρ hy
     simp only [evBuiltin,hx',hy',scMin,Option.map_some,Res.pure,SRes.den,SV.den,SV1.den,SC.den,Kd.pv,h2]; rfl
   · cases h
 · rename_i _ x y
   split at h
   · rename_i k a k' b hx hy
     cases h
     obtain ⟨l,h1,h2⟩ := hs.ev1 rfl
     simp only [Nd.ev] at h1
     cases h1
     have hx' : (S.den ρ).arg x = some (.v (.c (.p (.sc (.int k (a.ev ρ).asI))))) := SSt.arg_den ρ hx
     have hy' : (S.den ρ).arg y = some (.v (.c (.p (.sc (.int k' (b.ev ρ).asI))))) := SSt.arg_den ρ hy
     simp only [evBuiltin,hx',hy',scMax,Option.map_some,Res.pure,SRes.den,SV.den,SV1.den,SC.den,Kd.pv,h2]; rfl
   · cases h
 · rename_i x t
   split at h
   · rename_i row hx hr
     have := hT _ _ hr; subst this
     split at h
     · rename_i hsl
       cases h
       obtain ⟨e,he⟩ := Option.isSome_iff_exists.1 hsl
       have hx' : (S.den ρ).arg x = some (.v (.c .nil)) := SSt.arg_den ρ hx
       simp only [evBuiltin,hx',tySl_eq he]; rfl
     · cases h
   · cases h
 · simp only [evBuiltin]
   exact sMapDel_ok hT h
 · cases h
theorem pure_den (v : SV) : (SRes.pure v).den ρ = Res.pure (v.den ρ) := rfl
theorem symOp_ok (hT : TTab.ok P T) (hC : CTab.ok P C) {op : Op} {r : SRes} (h : symOp T C S d op = some r) (hs : Sat ρ S.nv r.nds) :
  ∀ Sp : Spec,Sp d = some (r.v.den ρ,r.e.den ρ,r.rd) → evRes P Sp (S.den ρ) d op = some (r.den ρ) := by
 intro Sp hSp
 cases op with
 | move x =>
  cases x with
  | tmp t =>
    simp only [symOp,Option.map_eq_some_iff] at h
    obtain ⟨v,hv,rfl⟩ := h
    have ht : (S.den ρ).tmps[t]? = some (v.den ρ) := by simp [SSt.den,hv]
    simp only [evRes,ht,Option.map_some,pure_den]
  | _ =>
    simp only [symOp,Option.map_eq_some_iff] at h
    obtain ⟨v,hv,rfl⟩ := h
    simp only [evRes,SSt.arg_den ρ hv,Option.map_some,pure_den]
 | assign x =>
  cases x with
  | tmp t =>
    simp only [symOp,Option.map_eq_some_iff] at h
    obtain ⟨v,hv,rfl⟩ := h
    have ht : (S.den ρ).tmps[t]? = some (v.den ρ) := by simp [SSt.den,hv]
    simp only [evRes,ht,Option.map_some,pure_den]
  | _ =>
    simp only [symOp,Option.map_eq_some_iff] at h
    obtain ⟨v,hv,rfl⟩ := h
    simp only [evRes,SSt.arg_den ρ hv,Option.map_some,pure_den]
 | pick c a b =>
  simp only [symOp] at h
  split at h
  · rename_i t hc
    simp only [Option.map_eq_some_iff] at h
    obtain ⟨v,hv,rfl⟩ := h
    have hc' : (S.den ρ).arg c = some (.v (.c (.p (.sc (.bool t))))) := SSt.arg_den ρ hc
    simp only [evRes,hc']
    cases t
    · simp only [Bool.false_eq_true,if_false] at hv ⊢
      simp only [SSt.arg_den ρ hv,Option.map_some,pure_den]
    · simp only [if_true] at hv ⊢
      simp only [SSt.arg_den ρ hv,Option.map_some,pure_den]
  · cases h
 | alloc e =>
  simp only [symOp,Option.map_eq_some_iff,Option.bind_eq_some_iff] at h
  obtain ⟨ks,⟨row,hr,hk⟩,rfl⟩ := h
  have := hT _ _ hr; subst this
  simp only [evRes,kds_zero (P := P) hk ρ]; rfl
 | box e x =>
  simp only [symOp,Option.map_eq_some_iff] at h
  obtain ⟨y,hy,rfl⟩ := h
  simp only [evRes,SSt.arg1_den ρ hy,Option.map_some,SV1.cells_den]; rfl
 | build t parts => exact sBuild_ok hT h
 | buildSlice t len parts => exact sLit_ok hT h hs
 | load t x => exact sLoad_ok hT h hs
 | store t x y => exact sStore_ok hT h hs
 | nilCheck x =>
  simp only [symOp] at h
  split at h
  · rename_i hx
    cases h
    have := SSt.arg_den ρ hx
    simp only [evRes,this,SV.den,SV1.den,SC.den]; rfl
  · rename_i hx
    cases h
    have := SSt.arg_den ρ hx
    simp only [evRes,this,SV.den,SV1.den,SC.den]; rfl
  · rename_i hx
    cases h
    have := SSt.arg_den ρ hx
    simp only [evRes,this,SV.den,SV1.den,SC.den]; rfl
  · rename_i hx
    cases h
    have := SSt.arg_den ρ hx
    simp only [evRes,this,SV.den,SV1.den,SC.den]; rfl
  · rename_i hx
    cases h
    have := SSt.arg_den ρ hx
    simp only [evRes,this,SV.den,SV1.den,SC.den]; rfl
  · cases h
 | binOp op t x y yt => exact sBin_ok hT h hs
 | unOp op t x => exact sUn_ok h hs
 | convert s t x =>
  simp only [symOp] at h
  split at h
  · rename_i r' hr
    cases h
    have := sConv_ok hT hr hs
    simp only [Option.map_eq_some_iff] at this
    obtain ⟨v,h1,h2⟩ := this
    simp only [evRes,h1,h2]
  · obtain ⟨h1,h2⟩ := sConvB_ok hT h hs
    simp only [evRes,h1,h2]
 | makeSlice t l c => exact sMake_ok hT h hs
 | slice t x lo hi mx =>
  cases mx with
  | some _ => cases h
  | none =>
    simp only [symOp] at h
    split at h
    · rename_i r' hr
      cases h
      have := sSlice_ok hT hr hs
      simp only [Option.map_eq_some_iff] at this
      obtain ⟨v,h1,h2⟩ := this
      simp only [evRes,h1,h2]
    · split at h
      · obtain ⟨h1,h2⟩ := sBoxSl_ok hT h hs
        simp only [evRes,h1,h2]
      · cases h
 | makeMap t r0 =>
  cases r0 with
  | some _ => cases h
  | none => cases h; rfl
 | mapUpdate t m k x => exact sMapSet_ok hT h
 | fieldAddr t x f => exact sField_ok hT h
 | indexAddr t x i => exact sIndex_ok hT h hs
 | index t x i =>
  simp only [symOp] at h
  split at h
  · rename_i a k b row hx hi hr
    have := hT _ _ hr; subst this
    split at h
    · rename_i hS
      cases h
      obtain ⟨l,h1,h2⟩ := hs.ev1 rfl
      simp only [Nd.ev] at h1
      split at h1
      · rename_i h0
        split at h1
        · rename_i bb hb
          cases h1
          have hx' : (S.den ρ).arg x = some (.v (.c (.p (.sc (.string (a.ev ρ).asS))))) := SSt.arg_den ρ hx
          have hi' : (S.den ρ).arg i = some (.v (.c (.p (.sc (.int k (b.ev ρ).asI))))) := SSt.arg_den ρ hi
          simp only [evRes,hx',hi',tyIsS_eq (P := P) hS,hb]
          rw [need_ok h0]
          simp only [Res.pure,SRes.den,SV.den,SV1.den,SC.den,Kd.pv,h2,L.asI]; rfl
        · cases h1
      · cases h1
    · cases h
  · rename_i cs k b row hx hi hr
    have := hT _ _ hr; subst this
    split at h
    · rename_i n e ha
      split at h
      · rename_i re he
        have := hT _ _ he; subst this
        split at h
        · rename_i ks nds hc
          split at h
          · rename_i hinfo
            simp only [Option.map_eq_some_iff] at h
            obtain ⟨v,h1,rfl⟩ := h
            obtain ⟨⟨ls,h2,_⟩,hs2⟩ := hs
            simp only [Nd.ev] at h2
            split at h2
            · rename_i hb
              have hx' : (S.den ρ).arg x = some (.v (.agg (cs.map (SC.den ρ)))) := SSt.arg_den ρ hx
              have hi' : (S.den ρ).arg i = some (.v (.c (.p (.sc (.int k (b.ev ρ).asI))))) := SSt.arg_den ρ hi
              obtain ⟨hu,_⟩ := tyArr_eq ha
              have hinfo' : tyInfo P e = true := hinfo
              have hs3 : Sat ρ S.nv nds := hs2
              obtain ⟨h4,h5⟩ := sat_col hc hs3
              have h6 := readC_col (t := e) (off := 0) h1 h4 (fun jj hj => by
               obtain ⟨k,a,k1,k2,k3⟩ := h5 jj (by rw [← h4]; exact hj)
               exact ⟨k,a,k1,by rw [Nat.zero_add] at k2 ⊢; exact k2,k3⟩)
              have hsz : (tyRow P e).size = tySize P e := rfl
              rw [Nat.zero_add,hsz] at h6
              simp only [evRes,hx',hi',hu]
              rw [need_ok ⟨hb.1,hb.2,hinfo'⟩,h6]
              rfl
            · cases h2
          · cases h
        · cases h
      · cases h
    · cases h
  · cases h
 | extract t i =>
  cases t with
  | tmp t =>
    simp only [symOp] at h
    split at h
    · rename_i xs hx
      split at h
      · rename_i x hxi
        cases h
        have h1 : (S.den ρ).tmps[t]? = some (.tup (xs.map (SV1.den ρ))) := by simp only [SSt.den,List.getElem?_map,hx]; rfl
        simp only [evRes,h1,List.getElem?_map,hxi,Option.map_some]; rfl
      · cases h
    · cases h
  | _ => cases h
 | makeFunc fn first captured =>
  cases fn with
  | func f =>
    simp only [symOp] at h
    split at h
    · rename_i hz
      simp only [Option.map_eq_some_iff] at h
      obtain ⟨ns,hns,rfl⟩ := h
      simp only [evRes,if_pos hz,caps_den hns]; rfl
    · cases h
  | _ => cases h
 | panic x =>
  simp only [symOp] at h
  cases h
  obtain ⟨⟨ls,h1,_⟩,_⟩ := hs
  simp [Nd.ev,At.ev,L.asI] at h1
 | makeInterface t x =>
  simp only [symOp] at h
  cases h
  obtain ⟨⟨ls,h1,_⟩,_⟩ := hs
  simp [Nd.ev,At.ev,L.asI] at h1
 | call c =>
  obtain ⟨callee,args,ts⟩ := c
  cases callee with
  | builtin b => exact sBuiltin_ok hT h hs hSp
  | invoke => cases h
  | value f => exact sCall_ok hC h hs Sp hSp
 | _ => cases h
end
theorem evRes_Sp {P : Program} {Sp Sp' : Spec} {st : ASt} {d : Nat} {op : Op} (h : Sp d = Sp' d) : evRes P Sp st d op = evRes P Sp' st d op := by
 cases op with
 | call c =>
  obtain ⟨callee,args,ts⟩ := c
  cases callee with
  | value f => simp only [evRes,evCall,h]
  | builtin b => simp only [evRes,evBuiltin,h]
  | _ => rfl
 | slice t x lo hi mx => cases mx <;> rfl
 | move x => cases x <;> rfl
 | assign x => cases x <;> rfl
 | extract t i => cases t <;> rfl
 | makeFunc fn => cases fn <;> rfl
 | makeMap t r => cases r <;> rfl
 | _ => rfl
theorem evD_Sp {P : Program} {Sp Sp' : Spec} {b : Nat} {ops : Array Oper} : ∀ {l : List Oper} {k : Nat} {st : ASt},(∀ j,k ≤ j → Sp (b + 8 * j) = Sp' (b + 8 * j)) → evD P Sp b ops l k st = evD P Sp' b ops l k st
 | [],_,_,_ => rfl
 | o :: l,k,st,h => by
  have h1 : stepR P Sp b ops st k o = stepR P Sp' b ops st k o := by
   unfold stepR
   rw [evRes_Sp (h k (Nat.le_refl _))]
  simp only [evD,h1]
  cases stepR P Sp' b ops st k o with
  | none => rfl
  | some r => simp only [evD_Sp (l := l) (k := k + 1) (fun j hj => h j (by omega))]
inductive RT where
 | leaf (S : SSt) (ts : Feet)
 | ops (nds : List Nd) (k : RT)
 | ite (a : At) (x y : RT)
 | stuck
deriving Inhabited
def RT.den : RT → List L → Option ((SSt × Feet) × List L)
 | .leaf S ts,ρ => some ((S,ts),ρ)
 | .ops nds k,ρ => match evNds ρ nds with
  | some ρ' => k.den ρ'
  | none => none
 | .ite a x y,ρ => if (a.ev ρ).asB then x.den ρ else y.den ρ
 | .stuck,_ => none
def SSt.putS (S : SSt) (d : Option Nat) (v : SV) : SSt := match d with
 | some d => { S with tmps := S.tmps.set d v }
 | none => S
def SSt.effS (S : SSt) (e : SEff) : SSt := { S with heap := e.upd ++ S.heap,gone := e.gone ++ S.gone }
def SSt.more (S : SSt) (n : Nat) : SSt := { S with nv := S.nv + n }
def SSt.raw (S : SSt) : Operand → List Nat
 | .tmp t => match S.tmps[t]? with
  | some v => v.names
  | none => []
 | _ => []
def SSt.foot (S : SSt) : Op → List Nat
 | .extract _ _ => []
 | .move (.tmp _) => []
 | .assign (.tmp _) => []
 | op => op.operands.toList.flatMap S.raw
def sGuard (ops : Array Oper) (S : SSt) (o : Oper) : Option Bool := match o.guard with
 | none => some true
 | some (j,want) => match (ops[j]?).bind (·.dst) with
  | some d => match S.tmps[d]? with
   | some (.v (.c (.p .bool (.b t)))) => some (t == want)
   | some (.tup []) => some false
   | _ => none
  | none => none
def SSt.open (S : SSt) (t : Nat) : Option (Nat × Nat) := match S.tmps[t]? with
 | some (.v (.c (.p .bool (.v i)))) => some (i,t)
 | _ => none
def asks (ops : Array Oper) (S : SSt) (o : Oper) : Option (Nat × Nat) :=
 match (match o.guard with
  | some (j,_) => match (ops[j]?).bind (·.dst) with
   | some d => S.open d
   | none => none
  | none => none),o.op with
 | some x,_ => some x
 | none,.pick (.tmp c) _ _ => S.open c
 | none,_ => none
def SSt.know (S : SSt) (t : Nat) (x : Bool) : SSt := { S with tmps := S.tmps.set t (.c1 (.p .bool (.b x))) }
def SV.fix (i : Nat) (j : Int) : SV → SV
 | .v (.c (.p (.int k) (.v i'))) => if i' = i then .v (.c (.p (.int k) (.i j))) else .v (.c (.p (.int k) (.v i')))
 | x => x
def SSt.fix (S : SSt) (i : Nat) (j : Int) : SSt := { S with tmps := S.tmps.map (SV.fix i j) }
def forkOn (T : TTab) (ops : Array Oper) (S : SSt) (o : Oper) : Option (Nat × IntKind × Nat) := match o.op,sGuard ops S o with
 | .indexAddr ty x (.tmp t),some true => match S.arg x,S.tmps[t]?,(List.lookup ty T).bind Ty.arr with
  | some (.v (.c (.ptr n off))),some (.v (.c (.p (.int k) (.v i)))),some (cnt,_) => match List.lookup n S.heap with
   | some (.box cs) => if decide (cnt ≤ 16) && (((cs.drop off).take cnt).any (fun c => match c with | .p _ _ => false | _ => true) || ops.any (fun o' => match o'.op with | .store _ (.tmp t') _ => o.dst == some t' | _ => false)) then some (i,k,cnt) else none
   | _ => none
  | _,_,_ => none
 | _,_ => none
def forkT (f : SSt → Option RT) (i : Nat) (k : IntKind) : Nat → Int → SSt → Option RT
 | 0,_,_ => some .stuck
 | c + 1,j,S => match f ((S.more 1).fix i j),forkT f i k c (j + 1) (S.more 1) with
  | some a,some b => some (.ops [.bi .eql k (.v i) (.i j)] (.ite (.v S.nv) a b))
  | _,_ => none
def smods (e : SEff) : List Nat := e.upd.map (·.1) ++ e.gone
def symReg (T : TTab) (C : CTab) (b : Nat) (ops : Array Oper) : Nat → List Oper → Nat → SSt → Feet → Option RT
 | 0,_,_,_,_ => none
 | _ + 1,[],_,S,acc => some (.leaf S acc.reverse)
 | n + 1,o :: l,k,S,acc => match asks ops S o with
  | some (i,t) => if i < S.nv then match symReg T C b ops n (o :: l) k (S.know t true) acc,symReg T C b ops n (o :: l) k (S.know t false) acc with
    | some t1,some t2 => some (.ite (.v i) t1 t2)
    | _,_ => none
   else none
  | none => match forkOn T ops S o with
  | some (i,kd,cnt) => if i < S.nv then forkT (fun S' => symReg T C b ops n (o :: l) k S' acc) i kd cnt 0 S else none
  | none => match sGuard ops S o with
   | some false => symReg T C b ops n l (k + 1) (S.putS o.dst (.tup [])) (([],[]) :: acc)
   | some true => match symOp T C S (b + 8 * k) o.op with
    | some r => if ndsIn S.nv r.nds then (symReg T C b ops n l (k + 1) (((S.effS r.e).putS o.dst r.v).more (ndsN r.nds)) ((S.foot o.op ++ r.rd,smods r.e) :: acc)).map (.ops r.nds) else none
    | none => if (List.lookup 999998 T).isSome then some .stuck else none
   | none => none
section
variable {P : Program} {T : TTab} {C : CTab} {ρ : List L} {b : Nat} {ops : Array Oper}
theorem putS_den {S : SSt} {d : Option Nat} {v : SV} : (S.putS d v).den ρ = (S.den ρ).put d (v.den ρ) := by
 cases d with
 | none => rfl
 | some d => simp only [SSt.putS,SSt.den,ASt.put,List.map_set]
theorem effS_den {S : SSt} {e : SEff} : (S.effS e).den ρ = (S.den ρ).eff (e.den ρ) := by
 simp only [SSt.effS,SSt.den,ASt.eff,SEff.den,SHp.den,List.map_append]
theorem more_den {S : SSt} {n : Nat} : (S.more n).den ρ = S.den ρ := rfl
theorem raw_den {S : SSt} {x : Operand} : (∀ v,x = .const v → (sOfValue v).isSome = true ∨ (ofValue v).names = []) → (S.den ρ).raw x = S.raw x := by
 intro hc
 cases x with
 | tmp t =>
  simp only [ASt.raw,SSt.raw,SSt.den,List.getElem?_map]
  cases S.tmps[t]? with
  | none => rfl
  | some v => simp only [Option.map_some,SV.names_den]
 | const v =>
  simp only [ASt.raw,SSt.raw]
  unfold ofValue
  split
  · split
    · rename_i us _
      show (us.toList.map ofCell).flatMap C.names = []
      rw [List.flatMap_eq_nil_iff]
      intro c hc
      obtain ⟨u,_,rfl⟩ := List.mem_map.1 hc
      unfold ofCell
      split
      · rfl
      · split <;> rfl
    · rfl
  · split <;> rfl
  · show (ofCell _).names = []
    unfold ofCell
    split
    · rfl
    · split <;> rfl
 | _ => rfl
theorem const_names (v : Value) : (ofValue v).names = [] := by
 unfold ofValue
 split
 · split
   · rename_i us _
     show (us.toList.map ofCell).flatMap C.names = []
     rw [List.flatMap_eq_nil_iff]
     intro c hc
     obtain ⟨u,_,rfl⟩ := List.mem_map.1 hc
     unfold ofCell
     split
     · rfl
     · split <;> rfl
   · rfl
 · split <;> rfl
 · show (ofCell _).names = []
   unfold ofCell
   split
   · rfl
   · split <;> rfl
theorem foot_den {S : SSt} {op : Op} : (S.den ρ).foot op = S.foot op := by
 have : ∀ l : List Operand,l.flatMap (S.den ρ).raw = l.flatMap S.raw := by
  intro l
  induction l with
  | nil => rfl
  | cons x l ih => simp only [List.flatMap_cons,ih,raw_den (ρ := ρ) (S := S) (x := x) (fun v _ => .inr (const_names v))]
 cases op with
 | move x => cases x <;> first | rfl | exact this _
 | assign x => cases x <;> first | rfl | exact this _
 | _ => first | rfl | exact this _
theorem smods_den (e : SEff) : (e.den ρ).upd.map (·.1) ++ (e.den ρ).gone = smods e := by
 simp only [smods,SEff.den,SHp.den,List.map_map]; rfl
theorem know_den {S : SSt} {i t : Nat} {x : Bool} (h : S.open t = some (i,t)) (hx : ((At.v i).ev ρ).asB = x) : (S.know t x).den ρ = S.den ρ := by
 unfold SSt.open at h
 split at h
 · rename_i i' hs
   cases h
   simp only [SSt.know,SSt.den,List.map_set]
   congr 1
   apply List.ext_getElem?
   intro j
   rw [List.getElem?_set]
   split
   · rename_i htj
     subst htj
     have hlt := (List.getElem?_eq_some_iff.1 hs).1
     rw [if_pos (by simpa using hlt),List.getElem?_map,hs]
     simp only [Option.map_some,SV.den,SV1.den,SC.den,Kd.pv,hx]; rfl
   · rfl
 · cases h
theorem asks_open {S : SSt} {o : Oper} {i t : Nat} (h : asks ops S o = some (i,t)) : S.open t = some (i,t) := by
 have key : ∀ d,S.open d = some (i,t) → S.open t = some (i,t) := by
   intro d hd
   have : d = t := by
     unfold SSt.open at hd
     split at hd
     · cases hd; rfl
     · cases hd
   rw [← this] at hd ⊢; rw [this] at hd ⊢; exact hd
 unfold asks at h
 split at h
 · rename_i x hx
   cases h
   split at hx
   · split at hx
     · exact key _ hx
     · cases hx
   · cases hx
 · exact key _ h
 · cases h
theorem guard_den {S : SSt} {o : Oper} {t : Bool} (h : sGuard ops S o = some t) : guardA ops (S.den ρ) o = some t := by
 unfold sGuard at h
 unfold guardA
 cases hg : o.guard with
 | none => rw [hg] at h; exact h
 | some y =>
  obtain ⟨j,want⟩ := y
  rw [hg] at h
  simp only at h ⊢
  cases hd : (ops[j]?).bind (·.dst) with
  | none => rw [hd] at h; cases h
  | some d =>
   rw [hd] at h
   simp only at h ⊢
   split at h
   · rename_i tt hs
     cases h
     have : (S.den ρ).tmps[d]? = some (.v (.c (.p (.sc (.bool tt))))) := by simp only [SSt.den,List.getElem?_map,hs]; rfl
     rw [this]
   · rename_i hs
     cases h
     have : (S.den ρ).tmps[d]? = some (.tup []) := by simp only [SSt.den,List.getElem?_map,hs]; rfl
     rw [this]
   · cases h
theorem fix_den {S : SSt} {i : Nat} {j : Int} (hj : ((At.v i).ev ρ).asI = j) : (S.fix i j).den ρ = S.den ρ := by
 simp only [SSt.fix,SSt.den,List.map_map]
 congr 1
 apply List.map_congr_left
 intro x _
 simp only [Function.comp]
 unfold SV.fix
 split
 · rename_i k i'
   split
   · rename_i hi
     subst hi
     simp only [SV.den,SV1.den,SC.den,Kd.pv,hj]; rfl
   · rfl
 · rfl
theorem forkT_den {f : SSt → Option RT} {i : Nat} {k : IntKind} : ∀ {c : Nat} {j : Int} {S : SSt} {t : RT} {ρ : List L} {x : (SSt × Feet) × List L},forkT f i k c j S = some t → ρ.length = S.nv → i < S.nv → t.den ρ = some x →
  ∃ S1 a ρ1,f S1 = some a ∧ a.den ρ1 = some x ∧ ρ1.length = S1.nv ∧ (∃ ys,ρ1 = ρ ++ ys) ∧ ∀ zs,S1.den (ρ1 ++ zs) = S.den (ρ1 ++ zs)
 | 0,j,S,t,ρ,x,h,hl,hi,hd => by cases h; cases hd
 | c + 1,j,S,t,ρ,x,h,hl,hi,hd => by
  simp only [forkT] at h
  split at h
  · rename_i a b' h1 h2
    cases h
    simp only [RT.den,evNds,Nd.ev,binI,Option.map_some] at hd
    have hv : ((At.v S.nv).ev (ρ ++ [L.b (decide (((At.v i).ev ρ).asI = ((At.i j).ev ρ).asI))])).asB = decide (((At.v i).ev ρ).asI = j) := by
      have e0 : (ρ ++ [L.b (decide (((At.v i).ev ρ).asI = ((At.i j).ev ρ).asI))])[S.nv]? = some (L.b (decide (((At.v i).ev ρ).asI = ((At.i j).ev ρ).asI))) := by
       rw [List.getElem?_append_right (by omega),hl,Nat.sub_self]; rfl
      have e1 : (At.v S.nv).ev (ρ ++ [L.b (decide (((At.v i).ev ρ).asI = ((At.i j).ev ρ).asI))]) = L.b (decide (((At.v i).ev ρ).asI = ((At.i j).ev ρ).asI)) := by
       show ((ρ ++ [L.b (decide (((At.v i).ev ρ).asI = ((At.i j).ev ρ).asI))])[S.nv]?).getD (L.b false) = _
       rw [e0]; rfl
      rw [e1]; rfl
    have hii : ∀ ys,(At.v i).ev (ρ ++ ys) = (At.v i).ev ρ := fun ys => At.ev_app (m := S.nv) (by simpa [At.in] using hi) (by omega)
    split at hd
    · rename_i hc
      rw [hv] at hc
      refine ⟨(S.more 1).fix i j,a,_,h1,hd,by simp [SSt.fix,SSt.more,hl],⟨_,rfl⟩,fun zs => ?_⟩
      rw [fix_den (by rw [List.append_assoc,hii]; simpa using hc)]
      rfl
    · obtain ⟨S1,a1,ρ1,k1,k2,k3,⟨ys,k4⟩,k5⟩ := forkT_den h2 (by simp [SSt.more,hl]) (by simp only [SSt.more]; omega) hd
      exact ⟨S1,a1,ρ1,k1,k2,k3,⟨_,by rw [k4,List.append_assoc]⟩,k5⟩
  · cases h
theorem symReg_ok (hT : TTab.ok P T) (hC : CTab.ok P C) : ∀ {n : Nat} {l : List Oper} {k : Nat} {S S' : SSt} {acc ts' : Feet} {t : RT} {ρ ρ' : List L},symReg T C b ops n l k S acc = some t → ρ.length = S.nv → t.den ρ = some ((S',ts'),ρ') →
  S'.nv = ρ'.length ∧ (∃ ys,ρ' = ρ ++ ys) ∧ ∃ rs ts Sp,evD P Sp b ops l k (S.den ρ') = some (rs,ts,S'.den ρ') ∧ ts' = acc.reverse ++ ts
 | 0,_,_,_,_,_,_,_,_,_,h,_,_ => by cases h
 | n + 1,[],k,S,S',acc,ts',t,ρ,ρ',h,hl,hd => by
  cases h
  cases hd
  exact ⟨hl.symm,⟨[],by simp⟩,[],[],fun _ => none,rfl,by simp⟩
 | n + 1,o :: l,k,S,S',acc,ts',t,ρ,ρ',h,hl,hd => by
  simp only [symReg] at h
  split at h
  · rename_i i tt hask
    split at h
    · rename_i hi
      split at h
      · rename_i t1 t2 h1 h2
        cases h
        have hop := asks_open hask
        simp only [RT.den] at hd
        split at hd
        · rename_i ha
          obtain ⟨k1,⟨ys,k2⟩,rs,ts,Sp,k3,k4⟩ := symReg_ok hT hC h1 hl hd
          have ha' : ((At.v i).ev ρ').asB = true := by rw [k2,At.ev_app (m := S.nv) (by simpa [At.in] using hi) (by omega)]; exact ha
          exact ⟨k1,⟨ys,k2⟩,rs,ts,Sp,by rw [← know_den hop ha']; exact k3,k4⟩
        · rename_i ha
          obtain ⟨k1,⟨ys,k2⟩,rs,ts,Sp,k3,k4⟩ := symReg_ok hT hC h2 hl hd
          have ha' : ((At.v i).ev ρ').asB = false := by rw [k2,At.ev_app (m := S.nv) (by simpa [At.in] using hi) (by omega)]; simpa using ha
          exact ⟨k1,⟨ys,k2⟩,rs,ts,Sp,by rw [← know_den hop ha']; exact k3,k4⟩
      · cases h
    · cases h
  · split at h
    · rename_i i kd cnt hf
      split at h
      · rename_i hi
        obtain ⟨S1,a,ρ1,j1,j2,j3,⟨xs,j4⟩,j5⟩ := forkT_den h hl hi hd
        obtain ⟨k1,⟨ys,k2⟩,rs,ts,Sp,k3,k4⟩ := symReg_ok hT hC j1 j3 j2
        refine ⟨k1,⟨xs ++ ys,by rw [k2,j4,List.append_assoc]⟩,rs,ts,Sp,?_,k4⟩
        rw [k2,← j5 ys,← k2]
        exact k3
      · cases h
    split at h
    · rename_i hg
      obtain ⟨k1,k2,rs,ts,Sp,k3,k4⟩ := symReg_ok hT hC h (by cases o.dst <;> exact hl) hd
      refine ⟨k1,k2,none :: rs,([],[]) :: ts,Sp,?_,by rw [k4]; simp⟩
      have hg' := guard_den (ρ := ρ') hg
      simp only [evD,stepR,hg']
      have e1 : apply1 (S.den ρ') o none = (S.putS o.dst (.tup [])).den ρ' := by rw [putS_den]; rfl
      rw [e1,k3]; rfl
    · rename_i hg
      split at h
      · rename_i r hr
        split at h
        · rename_i hin
          simp only [Option.map_eq_some_iff] at h
          obtain ⟨t',h',rfl⟩ := h
          simp only [RT.den] at hd
          split at hd
          · rename_i ρ1 he
            obtain ⟨xs,e1,e2⟩ := evNds_app he
            have hnv : (((S.effS r.e).putS o.dst r.v).more (ndsN r.nds)).nv = S.nv + ndsN r.nds := by cases o.dst <;> rfl
            obtain ⟨k1,⟨ys,k2⟩,rs,ts,Sp,k3,k4⟩ := symReg_ok hT hC h' (by rw [hnv,e1,List.length_append,hl,e2]) hd
            have hsat : Sat ρ' S.nv r.nds := by
             rw [k2,← hl]
             exact evNds_sat (by rw [hl]; exact hin) he
            let Sp' : Spec := fun d => if d = b + 8 * k then some (r.v.den ρ',r.e.den ρ',r.rd) else Sp d
            have hop := symOp_ok (ρ := ρ') hT hC hr hsat Sp' (by simp [Sp'])
            refine ⟨k1,⟨xs ++ ys,by rw [k2,e1,List.append_assoc]⟩,some (r.den ρ') :: rs,(S.foot o.op ++ r.rd,smods r.e) :: ts,Sp',?_,by rw [k4]; simp⟩
            have hg' := guard_den (ρ := ρ') hg
            simp only [evD,stepR,hg',hop,Option.map_some]
            have e3 : apply1 (S.den ρ') o (some (r.den ρ')) = (((S.effS r.e).putS o.dst r.v).more (ndsN r.nds)).den ρ' := by rw [more_den,putS_den,effS_den]; rfl
            rw [e3,evD_Sp (Sp' := Sp) (fun j hj => by simp only [Sp']; rw [if_neg (by omega)]),k3]
            simp only [readsOf,foot_den,modsOf,effOf,SRes.den,smods_den]
          · cases hd
        · cases h
      · split at h
        · cases h; cases hd
        · cases h
    · cases h
end
end
end Go.Proofs.YtndegphojkiblaaGreatDoor
