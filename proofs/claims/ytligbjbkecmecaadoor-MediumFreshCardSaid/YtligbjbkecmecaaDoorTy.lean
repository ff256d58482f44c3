/- The table of this seat's types, for the calculus. Printed by a program off the loaded program. -/
import Derived.Test.YtligbjbkecmecaaDoorChecked
import Derived.Test.YtligbjbkecmecaaDoorSwp
import Derived.Test.YtligbjbkecmecaaDoorMk
import Derived.KernelRfl
namespace Go.Proofs.YtligbjbkecmecaaDoor
set_option linter.unusedVariables false
set_option linter.unusedSimpArgs false

def tinfo (t : Nat) : Option TI := match t with
  | 3 => some ⟨.int .i64, 1, 8, .int .i64 0⟩  -- int
  | 4 => some ⟨.bool, 1, 1, .bool false⟩  -- bool
  | 5 => some ⟨.int .u8, 1, 1, .int .u8 0⟩  -- uint8
  | 22 => some ⟨.slice 5, 1, 24, .nil⟩  -- []uint8
  | 23 => some ⟨.slice 3, 1, 24, .nil⟩  -- []int
  | 24 => some ⟨.slice 23, 1, 24, .nil⟩  -- [][]int
  | 25 => some ⟨.slice 33, 1, 24, .nil⟩  -- []api.Reception
  | 26 => some ⟨.int .i64, 1, 8, .int .i64 0⟩  -- api.Errno
  | 30 => some ⟨.struct [(0, 3), (1, 22)], 2, 32, .agg [.int .i64 0, .nil]⟩  -- api.Transmission
  | 31 => some ⟨.slice 30, 1, 24, .nil⟩  -- []api.Transmission
  | 33 => some ⟨.struct [(0, 3), (1, 3), (2, 22)], 3, 40, .agg [.int .i64 0, .int .i64 0, .nil]⟩  -- api.Reception
  | _ => none

theorem tok3 : TOk Tryd.prog 3 ⟨.int .i64, 1, 8, .int .i64 0⟩ := ⟨by kernel_rfl, by kernel_rfl, ⟨.int .i64 0, by kernel_rfl, by kernel_rfl, by kernel_rfl, by kernel_rfl, ⟨fun h => (by obtain ⟨_, h⟩ := h; cases h), fun h => (by cases h)⟩⟩⟩
theorem tok4 : TOk Tryd.prog 4 ⟨.bool, 1, 1, .bool false⟩ := ⟨by kernel_rfl, by kernel_rfl, ⟨.bool false, by kernel_rfl, by kernel_rfl, by kernel_rfl, by kernel_rfl, ⟨fun h => (by obtain ⟨_, h⟩ := h; cases h), fun h => (by cases h)⟩⟩⟩
theorem tok5 : TOk Tryd.prog 5 ⟨.int .u8, 1, 1, .int .u8 0⟩ := ⟨by kernel_rfl, by kernel_rfl, ⟨.int .u8 0, by kernel_rfl, by kernel_rfl, by kernel_rfl, by kernel_rfl, ⟨fun h => (by obtain ⟨_, h⟩ := h; cases h), fun h => (by cases h)⟩⟩⟩
theorem tok22 : TOk Tryd.prog 22 ⟨.slice 5, 1, 24, .nil⟩ := ⟨by kernel_rfl, by kernel_rfl, ⟨.slice none 0 0, by kernel_rfl, by kernel_rfl, by kernel_rfl, by kernel_rfl, ⟨fun h => (by obtain ⟨_, h⟩ := h; cases h), fun h => (by cases h)⟩⟩⟩
theorem tok23 : TOk Tryd.prog 23 ⟨.slice 3, 1, 24, .nil⟩ := ⟨by kernel_rfl, by kernel_rfl, ⟨.slice none 0 0, by kernel_rfl, by kernel_rfl, by kernel_rfl, by kernel_rfl, ⟨fun h => (by obtain ⟨_, h⟩ := h; cases h), fun h => (by cases h)⟩⟩⟩
theorem tok24 : TOk Tryd.prog 24 ⟨.slice 23, 1, 24, .nil⟩ := ⟨by kernel_rfl, by kernel_rfl, ⟨.slice none 0 0, by kernel_rfl, by kernel_rfl, by kernel_rfl, by kernel_rfl, ⟨fun h => (by obtain ⟨_, h⟩ := h; cases h), fun h => (by cases h)⟩⟩⟩
theorem tok25 : TOk Tryd.prog 25 ⟨.slice 33, 1, 24, .nil⟩ := ⟨by kernel_rfl, by kernel_rfl, ⟨.slice none 0 0, by kernel_rfl, by kernel_rfl, by kernel_rfl, by kernel_rfl, ⟨fun h => (by obtain ⟨_, h⟩ := h; cases h), fun h => (by cases h)⟩⟩⟩
theorem tok26 : TOk Tryd.prog 26 ⟨.int .i64, 1, 8, .int .i64 0⟩ := ⟨by kernel_rfl, by kernel_rfl, ⟨.int .i64 0, by kernel_rfl, by kernel_rfl, by kernel_rfl, by kernel_rfl, ⟨fun h => (by obtain ⟨_, h⟩ := h; cases h), fun h => (by cases h)⟩⟩⟩
theorem tok30 : TOk Tryd.prog 30 ⟨.struct [(0, 3), (1, 22)], 2, 32, .agg [.int .i64 0, .nil]⟩ := ⟨by kernel_rfl, by kernel_rfl, ⟨.agg #[.int .i64 0, .slice none 0 0], by kernel_rfl, by kernel_rfl, by kernel_rfl, by kernel_rfl, ⟨fun _ => rfl, fun _ => ⟨_, rfl⟩⟩⟩⟩
theorem tcmp30 : Tryd.prog.stoodInHeld 30 = false ∧ Tryd.prog.eqGuardType Tryd.prog.depth 30 = false ∧ ∀ fs, Tryd.prog.underlying 30 = some (.struct fs) → (fs.toList.all fun f => f.name != "_") = true := ⟨by kernel_rfl, by kernel_rfl, fun fs h => by rw [Tryd.underlying30] at h; first | (injection h with h; injection h with h; subst h; rfl) | cases h⟩
theorem tok31 : TOk Tryd.prog 31 ⟨.slice 30, 1, 24, .nil⟩ := ⟨by kernel_rfl, by kernel_rfl, ⟨.slice none 0 0, by kernel_rfl, by kernel_rfl, by kernel_rfl, by kernel_rfl, ⟨fun h => (by obtain ⟨_, h⟩ := h; cases h), fun h => (by cases h)⟩⟩⟩
theorem tok33 : TOk Tryd.prog 33 ⟨.struct [(0, 3), (1, 3), (2, 22)], 3, 40, .agg [.int .i64 0, .int .i64 0, .nil]⟩ := ⟨by kernel_rfl, by kernel_rfl, ⟨.agg #[.int .i64 0, .int .i64 0, .slice none 0 0], by kernel_rfl, by kernel_rfl, by kernel_rfl, by kernel_rfl, ⟨fun _ => rfl, fun _ => ⟨_, rfl⟩⟩⟩⟩
theorem tcmp33 : Tryd.prog.stoodInHeld 33 = false ∧ Tryd.prog.eqGuardType Tryd.prog.depth 33 = false ∧ ∀ fs, Tryd.prog.underlying 33 = some (.struct fs) → (fs.toList.all fun f => f.name != "_") = true := ⟨by kernel_rfl, by kernel_rfl, fun fs h => by rw [Tryd.underlying33] at h; first | (injection h with h; injection h with h; subst h; rfl) | cases h⟩

set_option maxRecDepth 20000 in
theorem types_ok : Types Tryd.prog tinfo := by
  refine ⟨fun t i h => ?_, fun t i h hs => ?_⟩
  · unfold tinfo at h
    split at h <;> first | (injection h with h; subst h; first | exact tok3 | exact tok4 | exact tok5 | exact tok22 | exact tok23 | exact tok24 | exact tok25 | exact tok26 | exact tok30 | exact tok31 | exact tok33) | cases h
  · unfold tinfo at h
    split at h <;> first | (injection h with h; subst h; first | exact absurd (show false = true from hs) (by decide) | exact tcmp30 | exact tcmp33) | cases h
theorem sizes_ok : Sizes tinfo := by
  refine ⟨fun t i h hb => ?_, fun t i fs h hk off ft j hm hj => ?_⟩
  · unfold tinfo at h
    split at h <;> first | (injection h with h; subst h; first | rfl | cases hb) | cases h
  · unfold tinfo at h
    split at h
    · injection h with h; subst h; cases hk
    · injection h with h; subst h; cases hk
    · injection h with h; subst h; cases hk
    · injection h with h; subst h; cases hk
    · injection h with h; subst h; cases hk
    · injection h with h; subst h; cases hk
    · injection h with h; subst h; cases hk
    · injection h with h; subst h; cases hk
    · injection h with h; subst h; injection hk with hk; subst hk
      simp only [List.mem_cons, List.not_mem_nil, or_false, Prod.mk.injEq] at hm
      rcases hm with ⟨rfl, rfl⟩ | ⟨rfl, rfl⟩
      all_goals (simp only [tinfo, Option.some.injEq] at hj; subst hj; simp)
    · injection h with h; subst h; cases hk
    · injection h with h; subst h; injection hk with hk; subst hk
      simp only [List.mem_cons, List.not_mem_nil, or_false, Prod.mk.injEq] at hm
      rcases hm with ⟨rfl, rfl⟩ | ⟨rfl, rfl⟩ | ⟨rfl, rfl⟩
      all_goals (simp only [tinfo, Option.some.injEq] at hj; subst hj; simp)
    · cases h
theorem closed_ok : Closed tinfo := by
  refine ⟨fun t i fs h hk q hq => ?_⟩
  unfold tinfo at h
  split at h
  · injection h with h; subst h; cases hk
  · injection h with h; subst h; cases hk
  · injection h with h; subst h; cases hk
  · injection h with h; subst h; cases hk
  · injection h with h; subst h; cases hk
  · injection h with h; subst h; cases hk
  · injection h with h; subst h; cases hk
  · injection h with h; subst h; cases hk
  · injection h with h; subst h; injection hk with hk; subst hk
    simp only [List.mem_cons, List.not_mem_nil, or_false] at hq
    rcases hq with rfl | rfl
    all_goals exact ⟨_, rfl⟩
  · injection h with h; subst h; cases hk
  · injection h with h; subst h; injection hk with hk; subst hk
    simp only [List.mem_cons, List.not_mem_nil, or_false] at hq
    rcases hq with rfl | rfl | rfl
    all_goals exact ⟨_, rfl⟩
  · cases h
theorem tab_z : ∀ t i, tinfo t = some i → ∀ d, noref d i.zero = true := fun t i h d => by
  unfold tinfo at h
  split at h <;> first | (injection h with h; subst h; rfl) | cases h
theorem tab : Tab Tryd.prog tinfo := ⟨types_ok, sizes_ok, closed_ok, tab_z, map_ok⟩
theorem mixed : Tryd.prog.follows .mixedOrders = true := by kernel_rfl

/-- A contract over this seat's program, behind one name. -/
structure Good (f : Nat) (c : CT) : Prop where
  h : ACall Tryd.prog tinfo f c
theorem good_call : ∀ f c, (fun f c => Good f c) f c → ACall Tryd.prog tinfo f c := fun _ _ h => h.h
/-- A contract of a function over data. -/
abbrev pu (args : List SV) (r : SV) : CT := ⟨args, none, r, .any, .no⟩
/-- A contract of a function over data that gives something new, named 1 in the result. -/
abbrev nu (args : List SV) (r : SV) (b : Blk) : CT := ⟨args, none, r, .any, b⟩
/-- A contract of a function that is lent a variable by its first argument. -/
abbrev le (t : Nat) (x : SV) (args : List SV) (r : SV) (y : SV) : CT := ⟨.ptr 0 0 :: args, some (t, x), r, y, .no⟩
abbrev leN (t : Nat) (x : SV) (args : List SV) (r : SV) (y : SV) (b : Blk) : CT := ⟨.ptr 0 0 :: args, some (t, x), r, y, b⟩
theorem Good.of {f : FuncId} {fn : Func} {c : Code} {ct : CT} (hf : Tryd.prog.funcs[f]? = some fn) (hb : fn.body = some c)
    (hn : (fn.name == "runtime.NumGoroutine") = false) (hok : codeOk c = true)
    (h : swp (fun t => tinfo t) (fun f c => Good f c) c (start fn.ntmps ct) ⟨fun s => retQ (fun t => tinfo t) fn.resultTypes.toList fn.results.toList s ct, fun s => retQ (fun t => tinfo t) fn.resultTypes.toList fn.results.toList s ct, fun _ _ => False⟩) (hni : isSeq ct = false := by rfl) (hnl : isLR ct = false := by rfl) (hng : isG ct = false := by rfl) : Good f ct :=
  ⟨contract tab good_call mixed hf hb hn hok hni hnl hng h⟩
theorem Good.ofL {f : FuncId} {fn : Func} {c : Code} {sh : Option Nat} {e : Nat} {l xs k : List SV} (hf : Tryd.prog.funcs[f]? = some fn) (hb : fn.body = some c)
    (hn : (fn.name == "runtime.NumGoroutine") = false) (hok : codeOk c = true)
    (h : swp (fun t => tinfo t) (fun f c => Good f c) c (startL fn.ntmps sh e l xs) ⟨fun s => retL (fun t => tinfo t) fn.results.toList sh e k s, fun s => retL (fun t => tinfo t) fn.results.toList sh e k s, fun _ _ => False⟩) : Good f (lrC sh e l xs k) :=
  ⟨contractL tab good_call mixed hf hb hn hok h⟩
theorem Good.ofG {f : FuncId} {fn : Func} {c : Code} {az : List SV} {L : List Ln} {r : SV} {nb : Blk} (hf : Tryd.prog.funcs[f]? = some fn) (hb : fn.body = some c)
    (hn : (fn.name == "runtime.NumGoroutine") = false) (hok : (codeOk c && posOk az (assignedC c) L) = true)
    (h : swp (fun t => tinfo t) (fun f c => Good f c) c (startG fn.ntmps az L) ⟨fun s => retG (fun t => tinfo t) fn.resultTypes.toList fn.results.toList L r nb s, fun s => retG (fun t => tinfo t) fn.resultTypes.toList fn.results.toList L r nb s, fun _ _ => False⟩) (hsq : isSeq (gC az L r nb) = false := by rfl) (hlr : isLR (gC az L r nb) = false := by rfl) : Good f (gC az L r nb) :=
  ⟨contractG tab good_call mixed hf hb hn (Bool.and_eq_true_iff.1 hok).1 (Bool.and_eq_true_iff.1 hok).2 h hsq hlr⟩
end Go.Proofs.YtligbjbkecmecaaDoor
