/- The table of this seat's types, for the calculus. Printed by a program off the loaded program. -/
import Derived.Test.YticojcjoikhkmaaDoorChecked
import Derived.Test.YticojcjoikhkmaaDoorSwp
import Derived.KernelRfl
namespace Go.Proofs.YticojcjoikhkmaaDoor
set_option linter.unusedVariables false
set_option linter.unusedSimpArgs false

def tinfo (t : Nat) : Option TI := match t with
  | 2 => some ⟨.int .i64, 1, 8, .int .i64 0⟩  -- int64
  | 3 => some ⟨.int .i64, 1, 8, .int .i64 0⟩  -- int
  | 4 => some ⟨.bool, 1, 1, .bool false⟩  -- bool
  | 5 => some ⟨.int .u8, 1, 1, .int .u8 0⟩  -- uint8
  | 9 => some ⟨.string, 1, 16, .str .empty⟩  -- string
  | 21 => some ⟨.int .i32, 1, 4, .int .i32 0⟩  -- int32
  | 22 => some ⟨.slice 3, 1, 24, .nil⟩  -- []int
  | 25 => some ⟨.slice 48, 1, 24, .nil⟩  -- []api.Seen
  | 27 => some ⟨.int .u16, 1, 2, .int .u16 0⟩  -- uint16
  | 28 => some ⟨.int .u16, 1, 2, .int .u16 0⟩  -- api.Short
  | 29 => some ⟨.int .u64, 1, 8, .int .u64 0⟩  -- uint64
  | 30 => some ⟨.int .u64, 1, 8, .int .u64 0⟩  -- api.EUI
  | 31 => some ⟨.struct [(0, 3), (1, 28), (2, 30)], 3, 24, .agg [.int .i64 0, .int .u16 0, .int .u64 0]⟩  -- struct { Mode int; Short api.Short; EUI api.EUI }
  | 32 => some ⟨.struct [(0, 3), (1, 28), (2, 30)], 3, 24, .agg [.int .i64 0, .int .u16 0, .int .u64 0]⟩  -- api.Addr
  | 35 => some ⟨.int .i64, 1, 8, .int .i64 0⟩  -- api.Errno
  | 41 => some ⟨.slice 5, 1, 24, .nil⟩  -- []uint8
  | 47 => some ⟨.struct [(0, 32), (3, 5), (4, 3)], 5, 40, .agg [.int .i64 0, .int .u16 0, .int .u64 0, .int .u8 0, .int .i64 0]⟩  -- struct { Src api.Addr; Seq uint8; Until int }
  | 48 => some ⟨.struct [(0, 32), (3, 5), (4, 3)], 5, 40, .agg [.int .i64 0, .int .u16 0, .int .u64 0, .int .u8 0, .int .i64 0]⟩  -- api.Seen
  | 54 => some ⟨.struct [(0, 22), (1, 3)], 2, 32, .agg [.nil, .int .i64 0]⟩  -- struct { l []int; at int }
  | 55 => some ⟨.struct [(0, 22), (1, 3)], 2, 32, .agg [.nil, .int .i64 0]⟩  -- multihopmade.Tape
  | 69 => some ⟨.int .u32, 1, 4, .int .u32 0⟩  -- uint32
  | _ => none

theorem tok2 : TOk Tryd.prog 2 ⟨.int .i64, 1, 8, .int .i64 0⟩ := ⟨by kernel_rfl, by kernel_rfl, ⟨.int .i64 0, by kernel_rfl, by kernel_rfl, by kernel_rfl, by kernel_rfl, ⟨fun h => (by obtain ⟨_, h⟩ := h; cases h), fun h => (by cases h)⟩⟩⟩
theorem tok3 : TOk Tryd.prog 3 ⟨.int .i64, 1, 8, .int .i64 0⟩ := ⟨by kernel_rfl, by kernel_rfl, ⟨.int .i64 0, by kernel_rfl, by kernel_rfl, by kernel_rfl, by kernel_rfl, ⟨fun h => (by obtain ⟨_, h⟩ := h; cases h), fun h => (by cases h)⟩⟩⟩
theorem tok4 : TOk Tryd.prog 4 ⟨.bool, 1, 1, .bool false⟩ := ⟨by kernel_rfl, by kernel_rfl, ⟨.bool false, by kernel_rfl, by kernel_rfl, by kernel_rfl, by kernel_rfl, ⟨fun h => (by obtain ⟨_, h⟩ := h; cases h), fun h => (by cases h)⟩⟩⟩
theorem tok5 : TOk Tryd.prog 5 ⟨.int .u8, 1, 1, .int .u8 0⟩ := ⟨by kernel_rfl, by kernel_rfl, ⟨.int .u8 0, by kernel_rfl, by kernel_rfl, by kernel_rfl, by kernel_rfl, ⟨fun h => (by obtain ⟨_, h⟩ := h; cases h), fun h => (by cases h)⟩⟩⟩
theorem tok9 : TOk Tryd.prog 9 ⟨.string, 1, 16, .str .empty⟩ := ⟨by kernel_rfl, by kernel_rfl, ⟨.string .empty, by kernel_rfl, by kernel_rfl, by kernel_rfl, by kernel_rfl, ⟨fun h => (by obtain ⟨_, h⟩ := h; cases h), fun h => (by cases h)⟩⟩⟩
theorem tok21 : TOk Tryd.prog 21 ⟨.int .i32, 1, 4, .int .i32 0⟩ := ⟨by kernel_rfl, by kernel_rfl, ⟨.int .i32 0, by kernel_rfl, by kernel_rfl, by kernel_rfl, by kernel_rfl, ⟨fun h => (by obtain ⟨_, h⟩ := h; cases h), fun h => (by cases h)⟩⟩⟩
theorem tok22 : TOk Tryd.prog 22 ⟨.slice 3, 1, 24, .nil⟩ := ⟨by kernel_rfl, by kernel_rfl, ⟨.slice none 0 0, by kernel_rfl, by kernel_rfl, by kernel_rfl, by kernel_rfl, ⟨fun h => (by obtain ⟨_, h⟩ := h; cases h), fun h => (by cases h)⟩⟩⟩
theorem tok25 : TOk Tryd.prog 25 ⟨.slice 48, 1, 24, .nil⟩ := ⟨by kernel_rfl, by kernel_rfl, ⟨.slice none 0 0, by kernel_rfl, by kernel_rfl, by kernel_rfl, by kernel_rfl, ⟨fun h => (by obtain ⟨_, h⟩ := h; cases h), fun h => (by cases h)⟩⟩⟩
theorem tok27 : TOk Tryd.prog 27 ⟨.int .u16, 1, 2, .int .u16 0⟩ := ⟨by kernel_rfl, by kernel_rfl, ⟨.int .u16 0, by kernel_rfl, by kernel_rfl, by kernel_rfl, by kernel_rfl, ⟨fun h => (by obtain ⟨_, h⟩ := h; cases h), fun h => (by cases h)⟩⟩⟩
theorem tok28 : TOk Tryd.prog 28 ⟨.int .u16, 1, 2, .int .u16 0⟩ := ⟨by kernel_rfl, by kernel_rfl, ⟨.int .u16 0, by kernel_rfl, by kernel_rfl, by kernel_rfl, by kernel_rfl, ⟨fun h => (by obtain ⟨_, h⟩ := h; cases h), fun h => (by cases h)⟩⟩⟩
theorem tok29 : TOk Tryd.prog 29 ⟨.int .u64, 1, 8, .int .u64 0⟩ := ⟨by kernel_rfl, by kernel_rfl, ⟨.int .u64 0, by kernel_rfl, by kernel_rfl, by kernel_rfl, by kernel_rfl, ⟨fun h => (by obtain ⟨_, h⟩ := h; cases h), fun h => (by cases h)⟩⟩⟩
theorem tok30 : TOk Tryd.prog 30 ⟨.int .u64, 1, 8, .int .u64 0⟩ := ⟨by kernel_rfl, by kernel_rfl, ⟨.int .u64 0, by kernel_rfl, by kernel_rfl, by kernel_rfl, by kernel_rfl, ⟨fun h => (by obtain ⟨_, h⟩ := h; cases h), fun h => (by cases h)⟩⟩⟩
theorem tok31 : TOk Tryd.prog 31 ⟨.struct [(0, 3), (1, 28), (2, 30)], 3, 24, .agg [.int .i64 0, .int .u16 0, .int .u64 0]⟩ := ⟨by kernel_rfl, by kernel_rfl, ⟨.agg #[.int .i64 0, .int .u16 0, .int .u64 0], by kernel_rfl, by kernel_rfl, by kernel_rfl, by kernel_rfl, ⟨fun _ => rfl, fun _ => ⟨_, rfl⟩⟩⟩⟩
theorem tcmp31 : Tryd.prog.stoodInHeld 31 = false ∧ Tryd.prog.eqGuardType Tryd.prog.depth 31 = false ∧ ∀ fs, Tryd.prog.underlying 31 = some (.struct fs) → (fs.toList.all fun f => f.name != "_") = true := ⟨by kernel_rfl, by kernel_rfl, fun fs h => by rw [Tryd.underlying31] at h; injection h with h; injection h with h; subst h; rfl⟩
theorem tok32 : TOk Tryd.prog 32 ⟨.struct [(0, 3), (1, 28), (2, 30)], 3, 24, .agg [.int .i64 0, .int .u16 0, .int .u64 0]⟩ := ⟨by kernel_rfl, by kernel_rfl, ⟨.agg #[.int .i64 0, .int .u16 0, .int .u64 0], by kernel_rfl, by kernel_rfl, by kernel_rfl, by kernel_rfl, ⟨fun _ => rfl, fun _ => ⟨_, rfl⟩⟩⟩⟩
theorem tcmp32 : Tryd.prog.stoodInHeld 32 = false ∧ Tryd.prog.eqGuardType Tryd.prog.depth 32 = false ∧ ∀ fs, Tryd.prog.underlying 32 = some (.struct fs) → (fs.toList.all fun f => f.name != "_") = true := ⟨by kernel_rfl, by kernel_rfl, fun fs h => by rw [Tryd.underlying32] at h; injection h with h; injection h with h; subst h; rfl⟩
theorem tok35 : TOk Tryd.prog 35 ⟨.int .i64, 1, 8, .int .i64 0⟩ := ⟨by kernel_rfl, by kernel_rfl, ⟨.int .i64 0, by kernel_rfl, by kernel_rfl, by kernel_rfl, by kernel_rfl, ⟨fun h => (by obtain ⟨_, h⟩ := h; cases h), fun h => (by cases h)⟩⟩⟩
theorem tok41 : TOk Tryd.prog 41 ⟨.slice 5, 1, 24, .nil⟩ := ⟨by kernel_rfl, by kernel_rfl, ⟨.slice none 0 0, by kernel_rfl, by kernel_rfl, by kernel_rfl, by kernel_rfl, ⟨fun h => (by obtain ⟨_, h⟩ := h; cases h), fun h => (by cases h)⟩⟩⟩
theorem tok47 : TOk Tryd.prog 47 ⟨.struct [(0, 32), (3, 5), (4, 3)], 5, 40, .agg [.int .i64 0, .int .u16 0, .int .u64 0, .int .u8 0, .int .i64 0]⟩ := ⟨by kernel_rfl, by kernel_rfl, ⟨.agg #[.int .i64 0, .int .u16 0, .int .u64 0, .int .u8 0, .int .i64 0], by kernel_rfl, by kernel_rfl, by kernel_rfl, by kernel_rfl, ⟨fun _ => rfl, fun _ => ⟨_, rfl⟩⟩⟩⟩
theorem tcmp47 : Tryd.prog.stoodInHeld 47 = false ∧ Tryd.prog.eqGuardType Tryd.prog.depth 47 = false ∧ ∀ fs, Tryd.prog.underlying 47 = some (.struct fs) → (fs.toList.all fun f => f.name != "_") = true := ⟨by kernel_rfl, by kernel_rfl, fun fs h => by rw [Tryd.underlying47] at h; injection h with h; injection h with h; subst h; rfl⟩
theorem tok48 : TOk Tryd.prog 48 ⟨.struct [(0, 32), (3, 5), (4, 3)], 5, 40, .agg [.int .i64 0, .int .u16 0, .int .u64 0, .int .u8 0, .int .i64 0]⟩ := ⟨by kernel_rfl, by kernel_rfl, ⟨.agg #[.int .i64 0, .int .u16 0, .int .u64 0, .int .u8 0, .int .i64 0], by kernel_rfl, by kernel_rfl, by kernel_rfl, by kernel_rfl, ⟨fun _ => rfl, fun _ => ⟨_, rfl⟩⟩⟩⟩
theorem tcmp48 : Tryd.prog.stoodInHeld 48 = false ∧ Tryd.prog.eqGuardType Tryd.prog.depth 48 = false ∧ ∀ fs, Tryd.prog.underlying 48 = some (.struct fs) → (fs.toList.all fun f => f.name != "_") = true := ⟨by kernel_rfl, by kernel_rfl, fun fs h => by rw [Tryd.underlying48] at h; injection h with h; injection h with h; subst h; rfl⟩
theorem tok54 : TOk Tryd.prog 54 ⟨.struct [(0, 22), (1, 3)], 2, 32, .agg [.nil, .int .i64 0]⟩ := ⟨by kernel_rfl, by kernel_rfl, ⟨.agg #[.slice none 0 0, .int .i64 0], by kernel_rfl, by kernel_rfl, by kernel_rfl, by kernel_rfl, ⟨fun _ => rfl, fun _ => ⟨_, rfl⟩⟩⟩⟩
theorem tcmp54 : Tryd.prog.stoodInHeld 54 = false ∧ Tryd.prog.eqGuardType Tryd.prog.depth 54 = false ∧ ∀ fs, Tryd.prog.underlying 54 = some (.struct fs) → (fs.toList.all fun f => f.name != "_") = true := ⟨by kernel_rfl, by kernel_rfl, fun fs h => by rw [Tryd.underlying54] at h; injection h with h; injection h with h; subst h; rfl⟩
theorem tok55 : TOk Tryd.prog 55 ⟨.struct [(0, 22), (1, 3)], 2, 32, .agg [.nil, .int .i64 0]⟩ := ⟨by kernel_rfl, by kernel_rfl, ⟨.agg #[.slice none 0 0, .int .i64 0], by kernel_rfl, by kernel_rfl, by kernel_rfl, by kernel_rfl, ⟨fun _ => rfl, fun _ => ⟨_, rfl⟩⟩⟩⟩
theorem tcmp55 : Tryd.prog.stoodInHeld 55 = false ∧ Tryd.prog.eqGuardType Tryd.prog.depth 55 = false ∧ ∀ fs, Tryd.prog.underlying 55 = some (.struct fs) → (fs.toList.all fun f => f.name != "_") = true := ⟨by kernel_rfl, by kernel_rfl, fun fs h => by rw [Tryd.underlying55] at h; injection h with h; injection h with h; subst h; rfl⟩
theorem tok69 : TOk Tryd.prog 69 ⟨.int .u32, 1, 4, .int .u32 0⟩ := ⟨by kernel_rfl, by kernel_rfl, ⟨.int .u32 0, by kernel_rfl, by kernel_rfl, by kernel_rfl, by kernel_rfl, ⟨fun h => (by obtain ⟨_, h⟩ := h; cases h), fun h => (by cases h)⟩⟩⟩

theorem types_ok : Types Tryd.prog tinfo := by
  refine ⟨fun t i h => ?_, fun t i h hs => ?_⟩
  · unfold tinfo at h
    split at h <;> first | (injection h with h; subst h; first | exact tok2 | exact tok3 | exact tok4 | exact tok5 | exact tok9 | exact tok21 | exact tok22 | exact tok25 | exact tok27 | exact tok28 | exact tok29 | exact tok30 | exact tok31 | exact tok32 | exact tok35 | exact tok41 | exact tok47 | exact tok48 | exact tok54 | exact tok55 | exact tok69) | cases h
  · unfold tinfo at h
    split at h <;> first | (injection h with h; subst h; first | (obtain ⟨fs, hf⟩ := hs; cases hf; done) | exact tcmp31 | exact tcmp32 | exact tcmp47 | exact tcmp48 | exact tcmp54 | exact tcmp55) | cases h
theorem sizes_ok : Sizes tinfo := by
  refine ⟨fun t i h hb => ?_, fun t i fs h hk off ft j hm hj => ?_⟩
  · unfold tinfo at h
    split at h <;> first | (injection h with h; subst h; first | rfl | cases hb) | cases h
  · unfold tinfo at h
    split at h
    · injection h with h; subst h; cases hk
    · injection h with h; subst h; cases hk
    · injection h with h; subst h; cases hk
    · injection h with h; subst h; cases hk
    · injection h with h; subst h; cases hk
    · injection h with h; subst h; cases hk
    · injection h with h; subst h; cases hk
    · injection h with h; subst h; cases hk
    · injection h with h; subst h; cases hk
    · injection h with h; subst h; cases hk
    · injection h with h; subst h; cases hk
    · injection h with h; subst h; cases hk
    · injection h with h; subst h; injection hk with hk; subst hk
      simp only [List.mem_cons, List.not_mem_nil, or_false, Prod.mk.injEq] at hm
      rcases hm with ⟨rfl, rfl⟩ | ⟨rfl, rfl⟩ | ⟨rfl, rfl⟩
      all_goals (simp only [tinfo, Option.some.injEq] at hj; subst hj; simp)
    · injection h with h; subst h; injection hk with hk; subst hk
      simp only [List.mem_cons, List.not_mem_nil, or_false, Prod.mk.injEq] at hm
      rcases hm with ⟨rfl, rfl⟩ | ⟨rfl, rfl⟩ | ⟨rfl, rfl⟩
      all_goals (simp only [tinfo, Option.some.injEq] at hj; subst hj; simp)
    · injection h with h; subst h; cases hk
    · injection h with h; subst h; cases hk
    · injection h with h; subst h; injection hk with hk; subst hk
      simp only [List.mem_cons, List.not_mem_nil, or_false, Prod.mk.injEq] at hm
      rcases hm with ⟨rfl, rfl⟩ | ⟨rfl, rfl⟩ | ⟨rfl, rfl⟩
      all_goals (simp only [tinfo, Option.some.injEq] at hj; subst hj; simp)
    · injection h with h; subst h; injection hk with hk; subst hk
      simp only [List.mem_cons, List.not_mem_nil, or_false, Prod.mk.injEq] at hm
      rcases hm with ⟨rfl, rfl⟩ | ⟨rfl, rfl⟩ | ⟨rfl, rfl⟩
      all_goals (simp only [tinfo, Option.some.injEq] at hj; subst hj; simp)
    · injection h with h; subst h; injection hk with hk; subst hk
      simp only [List.mem_cons, List.not_mem_nil, or_false, Prod.mk.injEq] at hm
      rcases hm with ⟨rfl, rfl⟩ | ⟨rfl, rfl⟩
      all_goals (simp only [tinfo, Option.some.injEq] at hj; subst hj; simp)
    · injection h with h; subst h; injection hk with hk; subst hk
      simp only [List.mem_cons, List.not_mem_nil, or_false, Prod.mk.injEq] at hm
      rcases hm with ⟨rfl, rfl⟩ | ⟨rfl, rfl⟩
      all_goals (simp only [tinfo, Option.some.injEq] at hj; subst hj; simp)
    · injection h with h; subst h; cases hk
    · cases h
theorem closed_ok : Closed tinfo := by
  refine ⟨fun t i fs h hk q hq => ?_⟩
  unfold tinfo at h
  split at h
  · injection h with h; subst h; cases hk
  · injection h with h; subst h; cases hk
  · injection h with h; subst h; cases hk
  · injection h with h; subst h; cases hk
  · injection h with h; subst h; cases hk
  · injection h with h; subst h; cases hk
  · injection h with h; subst h; cases hk
  · injection h with h; subst h; cases hk
  · injection h with h; subst h; cases hk
  · injection h with h; subst h; cases hk
  · injection h with h; subst h; cases hk
  · injection h with h; subst h; cases hk
  · injection h with h; subst h; injection hk with hk; subst hk
    simp only [List.mem_cons, List.not_mem_nil, or_false] at hq
    rcases hq with rfl | rfl | rfl
    all_goals exact ⟨_, rfl⟩
  · injection h with h; subst h; injection hk with hk; subst hk
    simp only [List.mem_cons, List.not_mem_nil, or_false] at hq
    rcases hq with rfl | rfl | rfl
    all_goals exact ⟨_, rfl⟩
  · injection h with h; subst h; cases hk
  · injection h with h; subst h; cases hk
  · injection h with h; subst h; injection hk with hk; subst hk
    simp only [List.mem_cons, List.not_mem_nil, or_false] at hq
    rcases hq with rfl | rfl | rfl
    all_goals exact ⟨_, rfl⟩
  · injection h with h; subst h; injection hk with hk; subst hk
    simp only [List.mem_cons, List.not_mem_nil, or_false] at hq
    rcases hq with rfl | rfl | rfl
    all_goals exact ⟨_, rfl⟩
  · injection h with h; subst h; injection hk with hk; subst hk
    simp only [List.mem_cons, List.not_mem_nil, or_false] at hq
    rcases hq with rfl | rfl
    all_goals exact ⟨_, rfl⟩
  · injection h with h; subst h; injection hk with hk; subst hk
    simp only [List.mem_cons, List.not_mem_nil, or_false] at hq
    rcases hq with rfl | rfl
    all_goals exact ⟨_, rfl⟩
  · injection h with h; subst h; cases hk
  · cases h
theorem tab : Tab Tryd.prog tinfo := ⟨types_ok, sizes_ok, closed_ok, fun t i h d => by
  unfold tinfo at h
  split at h <;> first | (injection h with h; subst h; rfl) | cases h⟩
theorem mixed : Tryd.prog.follows .mixedOrders = true := by kernel_rfl

/-- A contract over this seat's program, behind one name. -/
structure Good (f : Nat) (c : CT) : Prop where
  h : ACall Tryd.prog tinfo f c
theorem good_call : ∀ f c, (fun f c => Good f c) f c → ACall Tryd.prog tinfo f c := fun _ _ h => h.h
/-- A contract of a function over data. -/
abbrev pu (args : List SV) (r : SV) : CT := ⟨args, none, r, .any, .no⟩
/-- A contract of a function over data that gives something new, named 1 in the result. -/
abbrev nu (args : List SV) (r : SV) (b : Blk) : CT := ⟨args, none, r, .any, b⟩
/-- A contract of a function that is lent a variable by its first argument. -/
abbrev le (t : Nat) (x : SV) (args : List SV) (r : SV) (y : SV) : CT := ⟨.ptr 0 0 :: args, some (t, x), r, y, .no⟩
abbrev leN (t : Nat) (x : SV) (args : List SV) (r : SV) (y : SV) (b : Blk) : CT := ⟨.ptr 0 0 :: args, some (t, x), r, y, b⟩
theorem Good.of {f : FuncId} {fn : Func} {c : Code} {ct : CT} (hf : Tryd.prog.funcs[f]? = some fn) (hb : fn.body = some c)
    (hn : (fn.name == "runtime.NumGoroutine") = false) (hok : codeOk c = true)
    (h : swp (fun t => tinfo t) (fun f c => Good f c) c (start fn.ntmps ct) ⟨fun s => retQ (fun t => tinfo t) fn.resultTypes.toList fn.results.toList s ct, fun s => retQ (fun t => tinfo t) fn.resultTypes.toList fn.results.toList s ct, fun _ _ => False⟩) : Good f ct :=
  ⟨contract tab good_call mixed hf hb hn hok h⟩
end Go.Proofs.YticojcjoikhkmaaDoor
