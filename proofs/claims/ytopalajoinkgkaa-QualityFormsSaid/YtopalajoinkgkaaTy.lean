/- The table of this seat's types, for the calculus. Printed by a program off the loaded program. -/
import Derived.Test.YtopalajoinkgkaaChecked
import Derived.Test.YtopalajoinkgkaaSwp
import Derived.KernelRfl
namespace Go.Proofs.Ytopalajoinkgkaa

def tinfo (t : Nat) : Option TI := match t with
  | 2 => some ⟨.int .i64, 1, 8, .int .i64 0⟩  -- int64
  | 3 => some ⟨.int .i64, 1, 8, .int .i64 0⟩  -- int
  | 4 => some ⟨.bool, 1, 1, .bool false⟩  -- bool
  | 5 => some ⟨.int .u8, 1, 1, .int .u8 0⟩  -- uint8
  | 9 => some ⟨.string, 1, 16, .str .empty⟩  -- string
  | 21 => some ⟨.int .i32, 1, 4, .int .i32 0⟩  -- int32
  | 22 => some ⟨.slice 3, 1, 24, .nil⟩  -- []int
  | 23 => some ⟨.int .u16, 1, 2, .int .u16 0⟩  -- uint16
  | 24 => some ⟨.struct [(0, 4), (1, 5), (2, 3), (3, 23), (4, 3)], 5, 32, .agg [.bool false, .int .u8 0, .int .i64 0, .int .u16 0, .int .i64 0]⟩  -- struct { Known bool; Heard uint8; Count int; Next uint16; Reported int }
  | 25 => some ⟨.struct [(0, 4), (1, 5), (2, 3), (3, 23), (4, 3)], 5, 32, .agg [.bool false, .int .u8 0, .int .i64 0, .int .u16 0, .int .i64 0]⟩  -- api.Quality
  | 35 => some ⟨.slice 25, 1, 24, .nil⟩  -- []api.Quality
  | 42 => some ⟨.int .i16, 1, 2, .int .i16 0⟩  -- int16
  | 44 => some ⟨.int .u64, 1, 8, .int .u64 0⟩  -- uint
  | 52 => some ⟨.int .u32, 1, 4, .int .u32 0⟩  -- uint32
  | _ => none

theorem tok2 : TOk Try.prog 2 ⟨.int .i64, 1, 8, .int .i64 0⟩ := ⟨by kernel_rfl, by kernel_rfl, ⟨.int .i64 0, by kernel_rfl, by kernel_rfl, by kernel_rfl, by kernel_rfl, ⟨fun h => (by obtain ⟨_, h⟩ := h; cases h), fun h => (by cases h)⟩⟩⟩
theorem tok3 : TOk Try.prog 3 ⟨.int .i64, 1, 8, .int .i64 0⟩ := ⟨by kernel_rfl, by kernel_rfl, ⟨.int .i64 0, by kernel_rfl, by kernel_rfl, by kernel_rfl, by kernel_rfl, ⟨fun h => (by obtain ⟨_, h⟩ := h; cases h), fun h => (by cases h)⟩⟩⟩
theorem tok4 : TOk Try.prog 4 ⟨.bool, 1, 1, .bool false⟩ := ⟨by kernel_rfl, by kernel_rfl, ⟨.bool false, by kernel_rfl, by kernel_rfl, by kernel_rfl, by kernel_rfl, ⟨fun h => (by obtain ⟨_, h⟩ := h; cases h), fun h => (by cases h)⟩⟩⟩
theorem tok5 : TOk Try.prog 5 ⟨.int .u8, 1, 1, .int .u8 0⟩ := ⟨by kernel_rfl, by kernel_rfl, ⟨.int .u8 0, by kernel_rfl, by kernel_rfl, by kernel_rfl, by kernel_rfl, ⟨fun h => (by obtain ⟨_, h⟩ := h; cases h), fun h => (by cases h)⟩⟩⟩
theorem tok9 : TOk Try.prog 9 ⟨.string, 1, 16, .str .empty⟩ := ⟨by kernel_rfl, by kernel_rfl, ⟨.string .empty, by kernel_rfl, by kernel_rfl, by kernel_rfl, by kernel_rfl, ⟨fun h => (by obtain ⟨_, h⟩ := h; cases h), fun h => (by cases h)⟩⟩⟩
theorem tok21 : TOk Try.prog 21 ⟨.int .i32, 1, 4, .int .i32 0⟩ := ⟨by kernel_rfl, by kernel_rfl, ⟨.int .i32 0, by kernel_rfl, by kernel_rfl, by kernel_rfl, by kernel_rfl, ⟨fun h => (by obtain ⟨_, h⟩ := h; cases h), fun h => (by cases h)⟩⟩⟩
theorem tok22 : TOk Try.prog 22 ⟨.slice 3, 1, 24, .nil⟩ := ⟨by kernel_rfl, by kernel_rfl, ⟨.slice none 0 0, by kernel_rfl, by kernel_rfl, by kernel_rfl, by kernel_rfl, ⟨fun h => (by obtain ⟨_, h⟩ := h; cases h), fun h => (by cases h)⟩⟩⟩
theorem tok23 : TOk Try.prog 23 ⟨.int .u16, 1, 2, .int .u16 0⟩ := ⟨by kernel_rfl, by kernel_rfl, ⟨.int .u16 0, by kernel_rfl, by kernel_rfl, by kernel_rfl, by kernel_rfl, ⟨fun h => (by obtain ⟨_, h⟩ := h; cases h), fun h => (by cases h)⟩⟩⟩
theorem tok24 : TOk Try.prog 24 ⟨.struct [(0, 4), (1, 5), (2, 3), (3, 23), (4, 3)], 5, 32, .agg [.bool false, .int .u8 0, .int .i64 0, .int .u16 0, .int .i64 0]⟩ := ⟨by kernel_rfl, by kernel_rfl, ⟨.agg #[.bool false, .int .u8 0, .int .i64 0, .int .u16 0, .int .i64 0], by kernel_rfl, by kernel_rfl, by kernel_rfl, by kernel_rfl, ⟨fun _ => rfl, fun _ => ⟨_, rfl⟩⟩⟩⟩
theorem tcmp24 : Try.prog.stoodInHeld 24 = false ∧ Try.prog.eqGuardType Try.prog.depth 24 = false ∧ ∀ fs, Try.prog.underlying 24 = some (.struct fs) → (fs.toList.all fun f => f.name != "_") = true := ⟨by kernel_rfl, by kernel_rfl, fun fs h => by rw [Try.underlying24] at h; injection h with h; injection h with h; subst h; rfl⟩
theorem tok25 : TOk Try.prog 25 ⟨.struct [(0, 4), (1, 5), (2, 3), (3, 23), (4, 3)], 5, 32, .agg [.bool false, .int .u8 0, .int .i64 0, .int .u16 0, .int .i64 0]⟩ := ⟨by kernel_rfl, by kernel_rfl, ⟨.agg #[.bool false, .int .u8 0, .int .i64 0, .int .u16 0, .int .i64 0], by kernel_rfl, by kernel_rfl, by kernel_rfl, by kernel_rfl, ⟨fun _ => rfl, fun _ => ⟨_, rfl⟩⟩⟩⟩
theorem tcmp25 : Try.prog.stoodInHeld 25 = false ∧ Try.prog.eqGuardType Try.prog.depth 25 = false ∧ ∀ fs, Try.prog.underlying 25 = some (.struct fs) → (fs.toList.all fun f => f.name != "_") = true := ⟨by kernel_rfl, by kernel_rfl, fun fs h => by rw [Try.underlying25] at h; injection h with h; injection h with h; subst h; rfl⟩
theorem tok35 : TOk Try.prog 35 ⟨.slice 25, 1, 24, .nil⟩ := ⟨by kernel_rfl, by kernel_rfl, ⟨.slice none 0 0, by kernel_rfl, by kernel_rfl, by kernel_rfl, by kernel_rfl, ⟨fun h => (by obtain ⟨_, h⟩ := h; cases h), fun h => (by cases h)⟩⟩⟩
theorem tok42 : TOk Try.prog 42 ⟨.int .i16, 1, 2, .int .i16 0⟩ := ⟨by kernel_rfl, by kernel_rfl, ⟨.int .i16 0, by kernel_rfl, by kernel_rfl, by kernel_rfl, by kernel_rfl, ⟨fun h => (by obtain ⟨_, h⟩ := h; cases h), fun h => (by cases h)⟩⟩⟩
theorem tok44 : TOk Try.prog 44 ⟨.int .u64, 1, 8, .int .u64 0⟩ := ⟨by kernel_rfl, by kernel_rfl, ⟨.int .u64 0, by kernel_rfl, by kernel_rfl, by kernel_rfl, by kernel_rfl, ⟨fun h => (by obtain ⟨_, h⟩ := h; cases h), fun h => (by cases h)⟩⟩⟩
theorem tok52 : TOk Try.prog 52 ⟨.int .u32, 1, 4, .int .u32 0⟩ := ⟨by kernel_rfl, by kernel_rfl, ⟨.int .u32 0, by kernel_rfl, by kernel_rfl, by kernel_rfl, by kernel_rfl, ⟨fun h => (by obtain ⟨_, h⟩ := h; cases h), fun h => (by cases h)⟩⟩⟩

theorem types_ok : Types Try.prog tinfo := by
  refine ⟨fun t i h => ?_, fun t i h hs => ?_⟩
  · unfold tinfo at h
    split at h <;> first | (injection h with h; subst h; first | exact tok2 | exact tok3 | exact tok4 | exact tok5 | exact tok9 | exact tok21 | exact tok22 | exact tok23 | exact tok24 | exact tok25 | exact tok35 | exact tok42 | exact tok44 | exact tok52) | cases h
  · unfold tinfo at h
    split at h <;> first | (injection h with h; subst h; first | (obtain ⟨fs, hf⟩ := hs; cases hf; done) | exact tcmp24 | exact tcmp25) | cases h
theorem sizes_ok : Sizes tinfo := by
  refine ⟨fun t i h hb => ?_, fun t i fs h hk off ft j hm hj => ?_⟩
  · unfold tinfo at h
    split at h <;> first | (injection h with h; subst h; first | rfl | cases hb) | cases h
  · unfold tinfo at h
    split at h
    · injection h with h; subst h; cases hk
    · injection h with h; subst h; cases hk
    · injection h with h; subst h; cases hk
    · injection h with h; subst h; cases hk
    · injection h with h; subst h; cases hk
    · injection h with h; subst h; cases hk
    · injection h with h; subst h; cases hk
    · injection h with h; subst h; cases hk
    · injection h with h; subst h; injection hk with hk; subst hk
      simp only [List.mem_cons, List.not_mem_nil, or_false, Prod.mk.injEq] at hm
      rcases hm with ⟨rfl, rfl⟩ | ⟨rfl, rfl⟩ | ⟨rfl, rfl⟩ | ⟨rfl, rfl⟩ | ⟨rfl, rfl⟩
      all_goals (simp only [tinfo, Option.some.injEq] at hj; subst hj; simp)
    · injection h with h; subst h; injection hk with hk; subst hk
      simp only [List.mem_cons, List.not_mem_nil, or_false, Prod.mk.injEq] at hm
      rcases hm with ⟨rfl, rfl⟩ | ⟨rfl, rfl⟩ | ⟨rfl, rfl⟩ | ⟨rfl, rfl⟩ | ⟨rfl, rfl⟩
      all_goals (simp only [tinfo, Option.some.injEq] at hj; subst hj; simp)
    · injection h with h; subst h; cases hk
    · injection h with h; subst h; cases hk
    · injection h with h; subst h; cases hk
    · injection h with h; subst h; cases hk
    · cases h
theorem closed_ok : Closed tinfo := by
  refine ⟨fun t i fs h hk q hq => ?_⟩
  unfold tinfo at h
  split at h
  · injection h with h; subst h; cases hk
  · injection h with h; subst h; cases hk
  · injection h with h; subst h; cases hk
  · injection h with h; subst h; cases hk
  · injection h with h; subst h; cases hk
  · injection h with h; subst h; cases hk
  · injection h with h; subst h; cases hk
  · injection h with h; subst h; cases hk
  · injection h with h; subst h; injection hk with hk; subst hk
    simp only [List.mem_cons, List.not_mem_nil, or_false] at hq
    rcases hq with rfl | rfl | rfl | rfl | rfl
    all_goals exact ⟨_, rfl⟩
  · injection h with h; subst h; injection hk with hk; subst hk
    simp only [List.mem_cons, List.not_mem_nil, or_false] at hq
    rcases hq with rfl | rfl | rfl | rfl | rfl
    all_goals exact ⟨_, rfl⟩
  · injection h with h; subst h; cases hk
  · injection h with h; subst h; cases hk
  · injection h with h; subst h; cases hk
  · injection h with h; subst h; cases hk
  · cases h
theorem tab : Tab Try.prog tinfo := ⟨types_ok, sizes_ok, closed_ok, fun t i h d => by
  unfold tinfo at h
  split at h <;> first | (injection h with h; subst h; rfl) | cases h⟩
theorem mixed : Try.prog.follows .mixedOrders = true := by kernel_rfl

/-- A contract over this seat's program, behind one name. -/
structure Good (f : Nat) (args : List SV) (r : SV) : Prop where
  h : ACall Try.prog f args r
theorem good_call : ∀ f l r, (fun f l r => Good f l r) f l r → ACall Try.prog f l r := fun _ _ _ h => h.h
theorem Good.of {f : FuncId} {fn : Func} {c : Code} {args : List SV} {r : SV} (hf : Try.prog.funcs[f]? = some fn) (hb : fn.body = some c)
    (hn : (fn.name == "runtime.NumGoroutine") = false) (hok : codeOk c = true)
    (h : swp (fun t => tinfo t) (fun f l r => Good f l r) c (start fn.ntmps args) ⟨fun s => retQ (fun t => tinfo t) fn.resultTypes.toList fn.results.toList s (fun _ => r), fun s => retQ (fun t => tinfo t) fn.resultTypes.toList fn.results.toList s (fun _ => r), fun _ _ => False⟩) : Good f args r :=
  ⟨contract tab good_call mixed hf hb hn hok h⟩
end Go.Proofs.Ytopalajoinkgkaa
