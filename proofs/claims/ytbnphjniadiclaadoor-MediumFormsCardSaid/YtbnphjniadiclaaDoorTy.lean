/- The table of this seat's types, for the calculus. Printed by a program off the loaded program. -/
import Derived.Test.YtbnphjniadiclaaDoorChecked
import Derived.Test.YtbnphjniadiclaaDoorSwp
import Derived.KernelRfl
namespace Go.Proofs.YtbnphjniadiclaaDoor
set_option linter.unusedVariables false
set_option linter.unusedSimpArgs false

def tinfo (t : Nat) : Option TI := match t with
  | 2 => some ⟨.int .i64, 1, 8, .int .i64 0⟩  -- int64
  | 3 => some ⟨.int .i64, 1, 8, .int .i64 0⟩  -- int
  | 4 => some ⟨.bool, 1, 1, .bool false⟩  -- bool
  | 5 => some ⟨.int .u8, 1, 1, .int .u8 0⟩  -- uint8
  | 9 => some ⟨.string, 1, 16, .str .empty⟩  -- string
  | 21 => some ⟨.int .i32, 1, 4, .int .i32 0⟩  -- int32
  | 22 => some ⟨.slice 3, 1, 24, .nil⟩  -- []int
  | 23 => some ⟨.slice 5, 1, 24, .nil⟩  -- []uint8
  | 24 => some ⟨.slice 22, 1, 24, .nil⟩  -- [][]int
  | 29 => some ⟨.slice 37, 1, 24, .nil⟩  -- []api.Reception
  | 30 => some ⟨.int .i64, 1, 8, .int .i64 0⟩  -- api.Errno
  | 33 => some ⟨.struct [(0, 3), (1, 23)], 2, 32, .agg [.int .i64 0, .nil]⟩  -- struct { From int; Bytes []uint8 }
  | 34 => some ⟨.struct [(0, 3), (1, 23)], 2, 32, .agg [.int .i64 0, .nil]⟩  -- api.Transmission
  | 35 => some ⟨.slice 34, 1, 24, .nil⟩  -- []api.Transmission
  | 36 => some ⟨.struct [(0, 3), (1, 3), (2, 23)], 3, 40, .agg [.int .i64 0, .int .i64 0, .nil]⟩  -- struct { From int; To int; Bytes []uint8 }
  | 37 => some ⟨.struct [(0, 3), (1, 3), (2, 23)], 3, 40, .agg [.int .i64 0, .int .i64 0, .nil]⟩  -- api.Reception
  | 46 => some ⟨.slice 48, 1, 24, .nil⟩  -- [][2]int
  | 48 => some ⟨.array 2 3, 2, 16, .agg [.int .i64 0, .int .i64 0]⟩  -- [2]int
  | 53 => some ⟨.struct [(0, 22), (1, 3)], 2, 32, .agg [.nil, .int .i64 0]⟩  -- struct { l []int; at int }
  | 54 => some ⟨.struct [(0, 22), (1, 3)], 2, 32, .agg [.nil, .int .i64 0]⟩  -- multihopmade.Tape
  | 59 => some ⟨.slice 4, 1, 24, .nil⟩  -- []bool
  | 71 => some ⟨.int .u32, 1, 4, .int .u32 0⟩  -- uint32
  | _ => none

theorem tok2 : TOk Tryd.prog 2 ⟨.int .i64, 1, 8, .int .i64 0⟩ := ⟨by kernel_rfl, by kernel_rfl, ⟨.int .i64 0, by kernel_rfl, by kernel_rfl, by kernel_rfl, by kernel_rfl, ⟨fun h => (by obtain ⟨_, h⟩ := h; cases h), fun h => (by cases h)⟩⟩⟩
theorem tok3 : TOk Tryd.prog 3 ⟨.int .i64, 1, 8, .int .i64 0⟩ := ⟨by kernel_rfl, by kernel_rfl, ⟨.int .i64 0, by kernel_rfl, by kernel_rfl, by kernel_rfl, by kernel_rfl, ⟨fun h => (by obtain ⟨_, h⟩ := h; cases h), fun h => (by cases h)⟩⟩⟩
theorem tok4 : TOk Tryd.prog 4 ⟨.bool, 1, 1, .bool false⟩ := ⟨by kernel_rfl, by kernel_rfl, ⟨.bool false, by kernel_rfl, by kernel_rfl, by kernel_rfl, by kernel_rfl, ⟨fun h => (by obtain ⟨_, h⟩ := h; cases h), fun h => (by cases h)⟩⟩⟩
theorem tok5 : TOk Tryd.prog 5 ⟨.int .u8, 1, 1, .int .u8 0⟩ := ⟨by kernel_rfl, by kernel_rfl, ⟨.int .u8 0, by kernel_rfl, by kernel_rfl, by kernel_rfl, by kernel_rfl, ⟨fun h => (by obtain ⟨_, h⟩ := h; cases h), fun h => (by cases h)⟩⟩⟩
theorem tok9 : TOk Tryd.prog 9 ⟨.string, 1, 16, .str .empty⟩ := ⟨by kernel_rfl, by kernel_rfl, ⟨.string .empty, by kernel_rfl, by kernel_rfl, by kernel_rfl, by kernel_rfl, ⟨fun h => (by obtain ⟨_, h⟩ := h; cases h), fun h => (by cases h)⟩⟩⟩
theorem tok21 : TOk Tryd.prog 21 ⟨.int .i32, 1, 4, .int .i32 0⟩ := ⟨by kernel_rfl, by kernel_rfl, ⟨.int .i32 0, by kernel_rfl, by kernel_rfl, by kernel_rfl, by kernel_rfl, ⟨fun h => (by obtain ⟨_, h⟩ := h; cases h), fun h => (by cases h)⟩⟩⟩
theorem tok22 : TOk Tryd.prog 22 ⟨.slice 3, 1, 24, .nil⟩ := ⟨by kernel_rfl, by kernel_rfl, ⟨.slice none 0 0, by kernel_rfl, by kernel_rfl, by kernel_rfl, by kernel_rfl, ⟨fun h => (by obtain ⟨_, h⟩ := h; cases h), fun h => (by cases h)⟩⟩⟩
theorem tok23 : TOk Tryd.prog 23 ⟨.slice 5, 1, 24, .nil⟩ := ⟨by kernel_rfl, by kernel_rfl, ⟨.slice none 0 0, by kernel_rfl, by kernel_rfl, by kernel_rfl, by kernel_rfl, ⟨fun h => (by obtain ⟨_, h⟩ := h; cases h), fun h => (by cases h)⟩⟩⟩
theorem tok24 : TOk Tryd.prog 24 ⟨.slice 22, 1, 24, .nil⟩ := ⟨by kernel_rfl, by kernel_rfl, ⟨.slice none 0 0, by kernel_rfl, by kernel_rfl, by kernel_rfl, by kernel_rfl, ⟨fun h => (by obtain ⟨_, h⟩ := h; cases h), fun h => (by cases h)⟩⟩⟩
theorem tok29 : TOk Tryd.prog 29 ⟨.slice 37, 1, 24, .nil⟩ := ⟨by kernel_rfl, by kernel_rfl, ⟨.slice none 0 0, by kernel_rfl, by kernel_rfl, by kernel_rfl, by kernel_rfl, ⟨fun h => (by obtain ⟨_, h⟩ := h; cases h), fun h => (by cases h)⟩⟩⟩
theorem tok30 : TOk Tryd.prog 30 ⟨.int .i64, 1, 8, .int .i64 0⟩ := ⟨by kernel_rfl, by kernel_rfl, ⟨.int .i64 0, by kernel_rfl, by kernel_rfl, by kernel_rfl, by kernel_rfl, ⟨fun h => (by obtain ⟨_, h⟩ := h; cases h), fun h => (by cases h)⟩⟩⟩
theorem tok33 : TOk Tryd.prog 33 ⟨.struct [(0, 3), (1, 23)], 2, 32, .agg [.int .i64 0, .nil]⟩ := ⟨by kernel_rfl, by kernel_rfl, ⟨.agg #[.int .i64 0, .slice none 0 0], by kernel_rfl, by kernel_rfl, by kernel_rfl, by kernel_rfl, ⟨fun _ => rfl, fun _ => ⟨_, rfl⟩⟩⟩⟩
theorem tcmp33 : Tryd.prog.stoodInHeld 33 = false ∧ Tryd.prog.eqGuardType Tryd.prog.depth 33 = false ∧ ∀ fs, Tryd.prog.underlying 33 = some (.struct fs) → (fs.toList.all fun f => f.name != "_") = true := ⟨by kernel_rfl, by kernel_rfl, fun fs h => by rw [Tryd.underlying33] at h; first | (injection h with h; injection h with h; subst h; rfl) | cases h⟩
theorem tok34 : TOk Tryd.prog 34 ⟨.struct [(0, 3), (1, 23)], 2, 32, .agg [.int .i64 0, .nil]⟩ := ⟨by kernel_rfl, by kernel_rfl, ⟨.agg #[.int .i64 0, .slice none 0 0], by kernel_rfl, by kernel_rfl, by kernel_rfl, by kernel_rfl, ⟨fun _ => rfl, fun _ => ⟨_, rfl⟩⟩⟩⟩
theorem tcmp34 : Tryd.prog.stoodInHeld 34 = false ∧ Tryd.prog.eqGuardType Tryd.prog.depth 34 = false ∧ ∀ fs, Tryd.prog.underlying 34 = some (.struct fs) → (fs.toList.all fun f => f.name != "_") = true := ⟨by kernel_rfl, by kernel_rfl, fun fs h => by rw [Tryd.underlying34] at h; first | (injection h with h; injection h with h; subst h; rfl) | cases h⟩
theorem tok35 : TOk Tryd.prog 35 ⟨.slice 34, 1, 24, .nil⟩ := ⟨by kernel_rfl, by kernel_rfl, ⟨.slice none 0 0, by kernel_rfl, by kernel_rfl, by kernel_rfl, by kernel_rfl, ⟨fun h => (by obtain ⟨_, h⟩ := h; cases h), fun h => (by cases h)⟩⟩⟩
theorem tok36 : TOk Tryd.prog 36 ⟨.struct [(0, 3), (1, 3), (2, 23)], 3, 40, .agg [.int .i64 0, .int .i64 0, .nil]⟩ := ⟨by kernel_rfl, by kernel_rfl, ⟨.agg #[.int .i64 0, .int .i64 0, .slice none 0 0], by kernel_rfl, by kernel_rfl, by kernel_rfl, by kernel_rfl, ⟨fun _ => rfl, fun _ => ⟨_, rfl⟩⟩⟩⟩
theorem tcmp36 : Tryd.prog.stoodInHeld 36 = false ∧ Tryd.prog.eqGuardType Tryd.prog.depth 36 = false ∧ ∀ fs, Tryd.prog.underlying 36 = some (.struct fs) → (fs.toList.all fun f => f.name != "_") = true := ⟨by kernel_rfl, by kernel_rfl, fun fs h => by rw [Tryd.underlying36] at h; first | (injection h with h; injection h with h; subst h; rfl) | cases h⟩
theorem tok37 : TOk Tryd.prog 37 ⟨.struct [(0, 3), (1, 3), (2, 23)], 3, 40, .agg [.int .i64 0, .int .i64 0, .nil]⟩ := ⟨by kernel_rfl, by kernel_rfl, ⟨.agg #[.int .i64 0, .int .i64 0, .slice none 0 0], by kernel_rfl, by kernel_rfl, by kernel_rfl, by kernel_rfl, ⟨fun _ => rfl, fun _ => ⟨_, rfl⟩⟩⟩⟩
theorem tcmp37 : Tryd.prog.stoodInHeld 37 = false ∧ Tryd.prog.eqGuardType Tryd.prog.depth 37 = false ∧ ∀ fs, Tryd.prog.underlying 37 = some (.struct fs) → (fs.toList.all fun f => f.name != "_") = true := ⟨by kernel_rfl, by kernel_rfl, fun fs h => by rw [Tryd.underlying37] at h; first | (injection h with h; injection h with h; subst h; rfl) | cases h⟩
theorem tok46 : TOk Tryd.prog 46 ⟨.slice 48, 1, 24, .nil⟩ := ⟨by kernel_rfl, by kernel_rfl, ⟨.slice none 0 0, by kernel_rfl, by kernel_rfl, by kernel_rfl, by kernel_rfl, ⟨fun h => (by obtain ⟨_, h⟩ := h; cases h), fun h => (by cases h)⟩⟩⟩
theorem tok48 : TOk Tryd.prog 48 ⟨.array 2 3, 2, 16, .agg [.int .i64 0, .int .i64 0]⟩ := ⟨by kernel_rfl, by kernel_rfl, ⟨.agg #[.int .i64 0, .int .i64 0], by kernel_rfl, by kernel_rfl, by kernel_rfl, by kernel_rfl, ⟨fun _ => rfl, fun _ => ⟨_, rfl⟩⟩⟩⟩
theorem tcmp48 : Tryd.prog.stoodInHeld 48 = false ∧ Tryd.prog.eqGuardType Tryd.prog.depth 48 = false ∧ ∀ fs, Tryd.prog.underlying 48 = some (.struct fs) → (fs.toList.all fun f => f.name != "_") = true := ⟨by kernel_rfl, by kernel_rfl, fun fs h => by rw [Tryd.underlying48] at h; first | (injection h with h; injection h with h; subst h; rfl) | cases h⟩
theorem tok53 : TOk Tryd.prog 53 ⟨.struct [(0, 22), (1, 3)], 2, 32, .agg [.nil, .int .i64 0]⟩ := ⟨by kernel_rfl, by kernel_rfl, ⟨.agg #[.slice none 0 0, .int .i64 0], by kernel_rfl, by kernel_rfl, by kernel_rfl, by kernel_rfl, ⟨fun _ => rfl, fun _ => ⟨_, rfl⟩⟩⟩⟩
theorem tcmp53 : Tryd.prog.stoodInHeld 53 = false ∧ Tryd.prog.eqGuardType Tryd.prog.depth 53 = false ∧ ∀ fs, Tryd.prog.underlying 53 = some (.struct fs) → (fs.toList.all fun f => f.name != "_") = true := ⟨by kernel_rfl, by kernel_rfl, fun fs h => by rw [Tryd.underlying53] at h; first | (injection h with h; injection h with h; subst h; rfl) | cases h⟩
theorem tok54 : TOk Tryd.prog 54 ⟨.struct [(0, 22), (1, 3)], 2, 32, .agg [.nil, .int .i64 0]⟩ := ⟨by kernel_rfl, by kernel_rfl, ⟨.agg #[.slice none 0 0, .int .i64 0], by kernel_rfl, by kernel_rfl, by kernel_rfl, by kernel_rfl, ⟨fun _ => rfl, fun _ => ⟨_, rfl⟩⟩⟩⟩
theorem tcmp54 : Tryd.prog.stoodInHeld 54 = false ∧ Tryd.prog.eqGuardType Tryd.prog.depth 54 = false ∧ ∀ fs, Tryd.prog.underlying 54 = some (.struct fs) → (fs.toList.all fun f => f.name != "_") = true := ⟨by kernel_rfl, by kernel_rfl, fun fs h => by rw [Tryd.underlying54] at h; first | (injection h with h; injection h with h; subst h; rfl) | cases h⟩
theorem tok59 : TOk Tryd.prog 59 ⟨.slice 4, 1, 24, .nil⟩ := ⟨by kernel_rfl, by kernel_rfl, ⟨.slice none 0 0, by kernel_rfl, by kernel_rfl, by kernel_rfl, by kernel_rfl, ⟨fun h => (by obtain ⟨_, h⟩ := h; cases h), fun h => (by cases h)⟩⟩⟩
theorem tok71 : TOk Tryd.prog 71 ⟨.int .u32, 1, 4, .int .u32 0⟩ := ⟨by kernel_rfl, by kernel_rfl, ⟨.int .u32 0, by kernel_rfl, by kernel_rfl, by kernel_rfl, by kernel_rfl, ⟨fun h => (by obtain ⟨_, h⟩ := h; cases h), fun h => (by cases h)⟩⟩⟩

theorem types_ok : Types Tryd.prog tinfo := by
  refine ⟨fun t i h => ?_, fun t i h hs => ?_⟩
  · unfold tinfo at h
    split at h <;> first | (injection h with h; subst h; first | exact tok2 | exact tok3 | exact tok4 | exact tok5 | exact tok9 | exact tok21 | exact tok22 | exact tok23 | exact tok24 | exact tok29 | exact tok30 | exact tok33 | exact tok34 | exact tok35 | exact tok36 | exact tok37 | exact tok46 | exact tok48 | exact tok53 | exact tok54 | exact tok59 | exact tok71) | cases h
  · unfold tinfo at h
    split at h <;> first | (injection h with h; subst h; first | exact absurd (show false = true from hs) (by decide) | exact tcmp33 | exact tcmp34 | exact tcmp36 | exact tcmp37 | exact tcmp48 | exact tcmp53 | exact tcmp54) | cases h
theorem sizes_ok : Sizes tinfo := by
  refine ⟨fun t i h hb => ?_, fun t i fs h hk off ft j hm hj => ?_⟩
  · unfold tinfo at h
    split at h <;> first | (injection h with h; subst h; first | rfl | cases hb) | cases h
  · unfold tinfo at h
    split at h
    · injection h with h; subst h; cases hk
    · injection h with h; subst h; cases hk
    · injection h with h; subst h; cases hk
    · injection h with h; subst h; cases hk
    · injection h with h; subst h; cases hk
    · injection h with h; subst h; cases hk
    · injection h with h; subst h; cases hk
    · injection h with h; subst h; cases hk
    · injection h with h; subst h; cases hk
    · injection h with h; subst h; cases hk
    · injection h with h; subst h; cases hk
    · injection h with h; subst h; injection hk with hk; subst hk
      simp only [List.mem_cons, List.not_mem_nil, or_false, Prod.mk.injEq] at hm
      rcases hm with ⟨rfl, rfl⟩ | ⟨rfl, rfl⟩
      all_goals (simp only [tinfo, Option.some.injEq] at hj; subst hj; simp)
    · injection h with h; subst h; injection hk with hk; subst hk
      simp only [List.mem_cons, List.not_mem_nil, or_false, Prod.mk.injEq] at hm
      rcases hm with ⟨rfl, rfl⟩ | ⟨rfl, rfl⟩
      all_goals (simp only [tinfo, Option.some.injEq] at hj; subst hj; simp)
    · injection h with h; subst h; cases hk
    · injection h with h; subst h; injection hk with hk; subst hk
      simp only [List.mem_cons, List.not_mem_nil, or_false, Prod.mk.injEq] at hm
      rcases hm with ⟨rfl, rfl⟩ | ⟨rfl, rfl⟩ | ⟨rfl, rfl⟩
      all_goals (simp only [tinfo, Option.some.injEq] at hj; subst hj; simp)
    · injection h with h; subst h; injection hk with hk; subst hk
      simp only [List.mem_cons, List.not_mem_nil, or_false, Prod.mk.injEq] at hm
      rcases hm with ⟨rfl, rfl⟩ | ⟨rfl, rfl⟩ | ⟨rfl, rfl⟩
      all_goals (simp only [tinfo, Option.some.injEq] at hj; subst hj; simp)
    · injection h with h; subst h; cases hk
    · injection h with h; subst h; cases hk
    · injection h with h; subst h; injection hk with hk; subst hk
      simp only [List.mem_cons, List.not_mem_nil, or_false, Prod.mk.injEq] at hm
      rcases hm with ⟨rfl, rfl⟩ | ⟨rfl, rfl⟩
      all_goals (simp only [tinfo, Option.some.injEq] at hj; subst hj; simp)
    · injection h with h; subst h; injection hk with hk; subst hk
      simp only [List.mem_cons, List.not_mem_nil, or_false, Prod.mk.injEq] at hm
      rcases hm with ⟨rfl, rfl⟩ | ⟨rfl, rfl⟩
      all_goals (simp only [tinfo, Option.some.injEq] at hj; subst hj; simp)
    · injection h with h; subst h; cases hk
    · injection h with h; subst h; cases hk
    · cases h
theorem closed_ok : Closed tinfo := by
  refine ⟨fun t i fs h hk q hq => ?_⟩
  unfold tinfo at h
  split at h
  · injection h with h; subst h; cases hk
  · injection h with h; subst h; cases hk
  · injection h with h; subst h; cases hk
  · injection h with h; subst h; cases hk
  · injection h with h; subst h; cases hk
  · injection h with h; subst h; cases hk
  · injection h with h; subst h; cases hk
  · injection h with h; subst h; cases hk
  · injection h with h; subst h; cases hk
  · injection h with h; subst h; cases hk
  · injection h with h; subst h; cases hk
  · injection h with h; subst h; injection hk with hk; subst hk
    simp only [List.mem_cons, List.not_mem_nil, or_false] at hq
    rcases hq with rfl | rfl
    all_goals exact ⟨_, rfl⟩
  · injection h with h; subst h; injection hk with hk; subst hk
    simp only [List.mem_cons, List.not_mem_nil, or_false] at hq
    rcases hq with rfl | rfl
    all_goals exact ⟨_, rfl⟩
  · injection h with h; subst h; cases hk
  · injection h with h; subst h; injection hk with hk; subst hk
    simp only [List.mem_cons, List.not_mem_nil, or_false] at hq
    rcases hq with rfl | rfl | rfl
    all_goals exact ⟨_, rfl⟩
  · injection h with h; subst h; injection hk with hk; subst hk
    simp only [List.mem_cons, List.not_mem_nil, or_false] at hq
    rcases hq with rfl | rfl | rfl
    all_goals exact ⟨_, rfl⟩
  · injection h with h; subst h; cases hk
  · injection h with h; subst h; cases hk
  · injection h with h; subst h; injection hk with hk; subst hk
    simp only [List.mem_cons, List.not_mem_nil, or_false] at hq
    rcases hq with rfl | rfl
    all_goals exact ⟨_, rfl⟩
  · injection h with h; subst h; injection hk with hk; subst hk
    simp only [List.mem_cons, List.not_mem_nil, or_false] at hq
    rcases hq with rfl | rfl
    all_goals exact ⟨_, rfl⟩
  · injection h with h; subst h; cases hk
  · injection h with h; subst h; cases hk
  · cases h
theorem tab : Tab Tryd.prog tinfo := ⟨types_ok, sizes_ok, closed_ok, fun t i h d => by
  unfold tinfo at h
  split at h <;> first | (injection h with h; subst h; rfl) | cases h⟩
theorem mixed : Tryd.prog.follows .mixedOrders = true := by kernel_rfl

/-- A contract over this seat's program, behind one name. -/
structure Good (f : Nat) (c : CT) : Prop where
  h : ACall Tryd.prog tinfo f c
theorem good_call : ∀ f c, (fun f c => Good f c) f c → ACall Tryd.prog tinfo f c := fun _ _ h => h.h
/-- A contract of a function over data. -/
abbrev pu (args : List SV) (r : SV) : CT := ⟨args, none, r, .any, .no⟩
/-- A contract of a function over data that gives something new, named 1 in the result. -/
abbrev nu (args : List SV) (r : SV) (b : Blk) : CT := ⟨args, none, r, .any, b⟩
/-- A contract of a function that is lent a variable by its first argument. -/
abbrev le (t : Nat) (x : SV) (args : List SV) (r : SV) (y : SV) : CT := ⟨.ptr 0 0 :: args, some (t, x), r, y, .no⟩
abbrev leN (t : Nat) (x : SV) (args : List SV) (r : SV) (y : SV) (b : Blk) : CT := ⟨.ptr 0 0 :: args, some (t, x), r, y, b⟩
theorem Good.of {f : FuncId} {fn : Func} {c : Code} {ct : CT} (hf : Tryd.prog.funcs[f]? = some fn) (hb : fn.body = some c)
    (hn : (fn.name == "runtime.NumGoroutine") = false) (hok : codeOk c = true)
    (h : swp (fun t => tinfo t) (fun f c => Good f c) c (start fn.ntmps ct) ⟨fun s => retQ (fun t => tinfo t) fn.resultTypes.toList fn.results.toList s ct, fun s => retQ (fun t => tinfo t) fn.resultTypes.toList fn.results.toList s ct, fun _ _ => False⟩) : Good f ct :=
  ⟨contract tab good_call mixed hf hb hn hok h⟩
end Go.Proofs.YtbnphjniadiclaaDoor
