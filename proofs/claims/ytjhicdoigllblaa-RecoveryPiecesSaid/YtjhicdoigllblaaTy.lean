/- The table of this seat's types, for the calculus. Printed by a program off the loaded program. -/
import Derived.Test.YtjhicdoigllblaaChecked
import Derived.Test.YtjhicdoigllblaaSwp
import Derived.KernelRfl
namespace Go.Proofs.Ytjhicdoigllblaa
set_option linter.unusedVariables false
set_option linter.unusedSimpArgs false

def tinfo (t : Nat) : Option TI := match t with
  | 2 => some ⟨.int .i64, 1, 8, .int .i64 0⟩  -- int64
  | 3 => some ⟨.int .i64, 1, 8, .int .i64 0⟩  -- int
  | 4 => some ⟨.bool, 1, 1, .bool false⟩  -- bool
  | 5 => some ⟨.int .u8, 1, 1, .int .u8 0⟩  -- uint8
  | 9 => some ⟨.string, 1, 16, .str .empty⟩  -- string
  | 21 => some ⟨.int .i32, 1, 4, .int .i32 0⟩  -- int32
  | 22 => some ⟨.slice 26, 1, 24, .nil⟩  -- [][]uint8
  | 23 => some ⟨.int .u32, 1, 4, .int .u32 0⟩  -- uint32
  | 24 => some ⟨.struct [(0, 3), (1, 5), (2, 22), (3, 23), (4, 3), (5, 3)], 6, 64, .agg [.int .i64 0, .int .u8 0, .nil, .int .u32 0, .int .i64 0, .int .i64 0]⟩  -- struct { State int; Tag uint8; Pieces [][]uint8; Acked uint32; Round int; Until int }
  | 25 => some ⟨.struct [(0, 3), (1, 5), (2, 22), (3, 23), (4, 3), (5, 3)], 6, 64, .agg [.int .i64 0, .int .u8 0, .nil, .int .u32 0, .int .i64 0, .int .i64 0]⟩  -- api.Sender
  | 26 => some ⟨.slice 5, 1, 24, .nil⟩  -- []uint8
  | 27 => some ⟨.slice 3, 1, 24, .nil⟩  -- []int
  | 32 => some ⟨.int .u64, 1, 8, .int .u64 0⟩  -- uint
  | 35 => some ⟨.slice 25, 1, 24, .nil⟩  -- []api.Sender
  | 36 => some ⟨.slice 51, 1, 24, .nil⟩  -- []api.Piece
  | 37 => some ⟨.int .i64, 1, 8, .int .i64 0⟩  -- api.Errno
  | 50 => some ⟨.struct [(0, 5), (1, 3), (2, 3), (3, 4), (4, 26)], 5, 56, .agg [.int .u8 0, .int .i64 0, .int .i64 0, .bool false, .nil]⟩  -- struct { Tag uint8; Number int; Count int; Ack bool; Data []uint8 }
  | 51 => some ⟨.struct [(0, 5), (1, 3), (2, 3), (3, 4), (4, 26)], 5, 56, .agg [.int .u8 0, .int .i64 0, .int .i64 0, .bool false, .nil]⟩  -- api.Piece
  | 54 => some ⟨.struct [(0, 5), (1, 3), (2, 22), (3, 23), (4, 4)], 5, 48, .agg [.int .u8 0, .int .i64 0, .nil, .int .u32 0, .bool false]⟩  -- struct { Tag uint8; Count int; Pieces [][]uint8; Have uint32; Done bool }
  | 55 => some ⟨.struct [(0, 5), (1, 3), (2, 22), (3, 23), (4, 4)], 5, 48, .agg [.int .u8 0, .int .i64 0, .nil, .int .u32 0, .bool false]⟩  -- api.Receiver
  | 58 => some ⟨.slice 55, 1, 24, .nil⟩  -- []api.Receiver
  | 80 => some ⟨.struct [(0, 27), (1, 3)], 2, 32, .agg [.nil, .int .i64 0]⟩  -- struct { l []int; at int }
  | 81 => some ⟨.struct [(0, 27), (1, 3)], 2, 32, .agg [.nil, .int .i64 0]⟩  -- multihopmade.Tape
  | 82 => some ⟨.int .u64, 1, 8, .int .u64 0⟩  -- uint64
  | 92 => some ⟨.array 5 5, 5, 5, .agg [.int .u8 0, .int .u8 0, .int .u8 0, .int .u8 0, .int .u8 0]⟩  -- [5]uint8
  | _ => none

theorem tok2 : TOk Try.prog 2 ⟨.int .i64, 1, 8, .int .i64 0⟩ := ⟨by kernel_rfl, by kernel_rfl, ⟨.int .i64 0, by kernel_rfl, by kernel_rfl, by kernel_rfl, by kernel_rfl, ⟨fun h => (by obtain ⟨_, h⟩ := h; cases h), fun h => (by cases h)⟩⟩⟩
theorem tok3 : TOk Try.prog 3 ⟨.int .i64, 1, 8, .int .i64 0⟩ := ⟨by kernel_rfl, by kernel_rfl, ⟨.int .i64 0, by kernel_rfl, by kernel_rfl, by kernel_rfl, by kernel_rfl, ⟨fun h => (by obtain ⟨_, h⟩ := h; cases h), fun h => (by cases h)⟩⟩⟩
theorem tok4 : TOk Try.prog 4 ⟨.bool, 1, 1, .bool false⟩ := ⟨by kernel_rfl, by kernel_rfl, ⟨.bool false, by kernel_rfl, by kernel_rfl, by kernel_rfl, by kernel_rfl, ⟨fun h => (by obtain ⟨_, h⟩ := h; cases h), fun h => (by cases h)⟩⟩⟩
theorem tok5 : TOk Try.prog 5 ⟨.int .u8, 1, 1, .int .u8 0⟩ := ⟨by kernel_rfl, by kernel_rfl, ⟨.int .u8 0, by kernel_rfl, by kernel_rfl, by kernel_rfl, by kernel_rfl, ⟨fun h => (by obtain ⟨_, h⟩ := h; cases h), fun h => (by cases h)⟩⟩⟩
theorem tok9 : TOk Try.prog 9 ⟨.string, 1, 16, .str .empty⟩ := ⟨by kernel_rfl, by kernel_rfl, ⟨.string .empty, by kernel_rfl, by kernel_rfl, by kernel_rfl, by kernel_rfl, ⟨fun h => (by obtain ⟨_, h⟩ := h; cases h), fun h => (by cases h)⟩⟩⟩
theorem tok21 : TOk Try.prog 21 ⟨.int .i32, 1, 4, .int .i32 0⟩ := ⟨by kernel_rfl, by kernel_rfl, ⟨.int .i32 0, by kernel_rfl, by kernel_rfl, by kernel_rfl, by kernel_rfl, ⟨fun h => (by obtain ⟨_, h⟩ := h; cases h), fun h => (by cases h)⟩⟩⟩
theorem tok22 : TOk Try.prog 22 ⟨.slice 26, 1, 24, .nil⟩ := ⟨by kernel_rfl, by kernel_rfl, ⟨.slice none 0 0, by kernel_rfl, by kernel_rfl, by kernel_rfl, by kernel_rfl, ⟨fun h => (by obtain ⟨_, h⟩ := h; cases h), fun h => (by cases h)⟩⟩⟩
theorem tok23 : TOk Try.prog 23 ⟨.int .u32, 1, 4, .int .u32 0⟩ := ⟨by kernel_rfl, by kernel_rfl, ⟨.int .u32 0, by kernel_rfl, by kernel_rfl, by kernel_rfl, by kernel_rfl, ⟨fun h => (by obtain ⟨_, h⟩ := h; cases h), fun h => (by cases h)⟩⟩⟩
theorem tok24 : TOk Try.prog 24 ⟨.struct [(0, 3), (1, 5), (2, 22), (3, 23), (4, 3), (5, 3)], 6, 64, .agg [.int .i64 0, .int .u8 0, .nil, .int .u32 0, .int .i64 0, .int .i64 0]⟩ := ⟨by kernel_rfl, by kernel_rfl, ⟨.agg #[.int .i64 0, .int .u8 0, .slice none 0 0, .int .u32 0, .int .i64 0, .int .i64 0], by kernel_rfl, by kernel_rfl, by kernel_rfl, by kernel_rfl, ⟨fun _ => rfl, fun _ => ⟨_, rfl⟩⟩⟩⟩
theorem tcmp24 : Try.prog.stoodInHeld 24 = false ∧ Try.prog.eqGuardType Try.prog.depth 24 = false ∧ ∀ fs, Try.prog.underlying 24 = some (.struct fs) → (fs.toList.all fun f => f.name != "_") = true := ⟨by kernel_rfl, by kernel_rfl, fun fs h => by rw [Try.underlying24] at h; first | (injection h with h; injection h with h; subst h; rfl) | cases h⟩
theorem tok25 : TOk Try.prog 25 ⟨.struct [(0, 3), (1, 5), (2, 22), (3, 23), (4, 3), (5, 3)], 6, 64, .agg [.int .i64 0, .int .u8 0, .nil, .int .u32 0, .int .i64 0, .int .i64 0]⟩ := ⟨by kernel_rfl, by kernel_rfl, ⟨.agg #[.int .i64 0, .int .u8 0, .slice none 0 0, .int .u32 0, .int .i64 0, .int .i64 0], by kernel_rfl, by kernel_rfl, by kernel_rfl, by kernel_rfl, ⟨fun _ => rfl, fun _ => ⟨_, rfl⟩⟩⟩⟩
theorem tcmp25 : Try.prog.stoodInHeld 25 = false ∧ Try.prog.eqGuardType Try.prog.depth 25 = false ∧ ∀ fs, Try.prog.underlying 25 = some (.struct fs) → (fs.toList.all fun f => f.name != "_") = true := ⟨by kernel_rfl, by kernel_rfl, fun fs h => by rw [Try.underlying25] at h; first | (injection h with h; injection h with h; subst h; rfl) | cases h⟩
theorem tok26 : TOk Try.prog 26 ⟨.slice 5, 1, 24, .nil⟩ := ⟨by kernel_rfl, by kernel_rfl, ⟨.slice none 0 0, by kernel_rfl, by kernel_rfl, by kernel_rfl, by kernel_rfl, ⟨fun h => (by obtain ⟨_, h⟩ := h; cases h), fun h => (by cases h)⟩⟩⟩
theorem tok27 : TOk Try.prog 27 ⟨.slice 3, 1, 24, .nil⟩ := ⟨by kernel_rfl, by kernel_rfl, ⟨.slice none 0 0, by kernel_rfl, by kernel_rfl, by kernel_rfl, by kernel_rfl, ⟨fun h => (by obtain ⟨_, h⟩ := h; cases h), fun h => (by cases h)⟩⟩⟩
theorem tok32 : TOk Try.prog 32 ⟨.int .u64, 1, 8, .int .u64 0⟩ := ⟨by kernel_rfl, by kernel_rfl, ⟨.int .u64 0, by kernel_rfl, by kernel_rfl, by kernel_rfl, by kernel_rfl, ⟨fun h => (by obtain ⟨_, h⟩ := h; cases h), fun h => (by cases h)⟩⟩⟩
theorem tok35 : TOk Try.prog 35 ⟨.slice 25, 1, 24, .nil⟩ := ⟨by kernel_rfl, by kernel_rfl, ⟨.slice none 0 0, by kernel_rfl, by kernel_rfl, by kernel_rfl, by kernel_rfl, ⟨fun h => (by obtain ⟨_, h⟩ := h; cases h), fun h => (by cases h)⟩⟩⟩
theorem tok36 : TOk Try.prog 36 ⟨.slice 51, 1, 24, .nil⟩ := ⟨by kernel_rfl, by kernel_rfl, ⟨.slice none 0 0, by kernel_rfl, by kernel_rfl, by kernel_rfl, by kernel_rfl, ⟨fun h => (by obtain ⟨_, h⟩ := h; cases h), fun h => (by cases h)⟩⟩⟩
theorem tok37 : TOk Try.prog 37 ⟨.int .i64, 1, 8, .int .i64 0⟩ := ⟨by kernel_rfl, by kernel_rfl, ⟨.int .i64 0, by kernel_rfl, by kernel_rfl, by kernel_rfl, by kernel_rfl, ⟨fun h => (by obtain ⟨_, h⟩ := h; cases h), fun h => (by cases h)⟩⟩⟩
theorem tok50 : TOk Try.prog 50 ⟨.struct [(0, 5), (1, 3), (2, 3), (3, 4), (4, 26)], 5, 56, .agg [.int .u8 0, .int .i64 0, .int .i64 0, .bool false, .nil]⟩ := ⟨by kernel_rfl, by kernel_rfl, ⟨.agg #[.int .u8 0, .int .i64 0, .int .i64 0, .bool false, .slice none 0 0], by kernel_rfl, by kernel_rfl, by kernel_rfl, by kernel_rfl, ⟨fun _ => rfl, fun _ => ⟨_, rfl⟩⟩⟩⟩
theorem tcmp50 : Try.prog.stoodInHeld 50 = false ∧ Try.prog.eqGuardType Try.prog.depth 50 = false ∧ ∀ fs, Try.prog.underlying 50 = some (.struct fs) → (fs.toList.all fun f => f.name != "_") = true := ⟨by kernel_rfl, by kernel_rfl, fun fs h => by rw [Try.underlying50] at h; first | (injection h with h; injection h with h; subst h; rfl) | cases h⟩
theorem tok51 : TOk Try.prog 51 ⟨.struct [(0, 5), (1, 3), (2, 3), (3, 4), (4, 26)], 5, 56, .agg [.int .u8 0, .int .i64 0, .int .i64 0, .bool false, .nil]⟩ := ⟨by kernel_rfl, by kernel_rfl, ⟨.agg #[.int .u8 0, .int .i64 0, .int .i64 0, .bool false, .slice none 0 0], by kernel_rfl, by kernel_rfl, by kernel_rfl, by kernel_rfl, ⟨fun _ => rfl, fun _ => ⟨_, rfl⟩⟩⟩⟩
theorem tcmp51 : Try.prog.stoodInHeld 51 = false ∧ Try.prog.eqGuardType Try.prog.depth 51 = false ∧ ∀ fs, Try.prog.underlying 51 = some (.struct fs) → (fs.toList.all fun f => f.name != "_") = true := ⟨by kernel_rfl, by kernel_rfl, fun fs h => by rw [Try.underlying51] at h; first | (injection h with h; injection h with h; subst h; rfl) | cases h⟩
theorem tok54 : TOk Try.prog 54 ⟨.struct [(0, 5), (1, 3), (2, 22), (3, 23), (4, 4)], 5, 48, .agg [.int .u8 0, .int .i64 0, .nil, .int .u32 0, .bool false]⟩ := ⟨by kernel_rfl, by kernel_rfl, ⟨.agg #[.int .u8 0, .int .i64 0, .slice none 0 0, .int .u32 0, .bool false], by kernel_rfl, by kernel_rfl, by kernel_rfl, by kernel_rfl, ⟨fun _ => rfl, fun _ => ⟨_, rfl⟩⟩⟩⟩
theorem tcmp54 : Try.prog.stoodInHeld 54 = false ∧ Try.prog.eqGuardType Try.prog.depth 54 = false ∧ ∀ fs, Try.prog.underlying 54 = some (.struct fs) → (fs.toList.all fun f => f.name != "_") = true := ⟨by kernel_rfl, by kernel_rfl, fun fs h => by rw [Try.underlying54] at h; first | (injection h with h; injection h with h; subst h; rfl) | cases h⟩
theorem tok55 : TOk Try.prog 55 ⟨.struct [(0, 5), (1, 3), (2, 22), (3, 23), (4, 4)], 5, 48, .agg [.int .u8 0, .int .i64 0, .nil, .int .u32 0, .bool false]⟩ := ⟨by kernel_rfl, by kernel_rfl, ⟨.agg #[.int .u8 0, .int .i64 0, .slice none 0 0, .int .u32 0, .bool false], by kernel_rfl, by kernel_rfl, by kernel_rfl, by kernel_rfl, ⟨fun _ => rfl, fun _ => ⟨_, rfl⟩⟩⟩⟩
theorem tcmp55 : Try.prog.stoodInHeld 55 = false ∧ Try.prog.eqGuardType Try.prog.depth 55 = false ∧ ∀ fs, Try.prog.underlying 55 = some (.struct fs) → (fs.toList.all fun f => f.name != "_") = true := ⟨by kernel_rfl, by kernel_rfl, fun fs h => by rw [Try.underlying55] at h; first | (injection h with h; injection h with h; subst h; rfl) | cases h⟩
theorem tok58 : TOk Try.prog 58 ⟨.slice 55, 1, 24, .nil⟩ := ⟨by kernel_rfl, by kernel_rfl, ⟨.slice none 0 0, by kernel_rfl, by kernel_rfl, by kernel_rfl, by kernel_rfl, ⟨fun h => (by obtain ⟨_, h⟩ := h; cases h), fun h => (by cases h)⟩⟩⟩
theorem tok80 : TOk Try.prog 80 ⟨.struct [(0, 27), (1, 3)], 2, 32, .agg [.nil, .int .i64 0]⟩ := ⟨by kernel_rfl, by kernel_rfl, ⟨.agg #[.slice none 0 0, .int .i64 0], by kernel_rfl, by kernel_rfl, by kernel_rfl, by kernel_rfl, ⟨fun _ => rfl, fun _ => ⟨_, rfl⟩⟩⟩⟩
theorem tcmp80 : Try.prog.stoodInHeld 80 = false ∧ Try.prog.eqGuardType Try.prog.depth 80 = false ∧ ∀ fs, Try.prog.underlying 80 = some (.struct fs) → (fs.toList.all fun f => f.name != "_") = true := ⟨by kernel_rfl, by kernel_rfl, fun fs h => by rw [Try.underlying80] at h; first | (injection h with h; injection h with h; subst h; rfl) | cases h⟩
theorem tok81 : TOk Try.prog 81 ⟨.struct [(0, 27), (1, 3)], 2, 32, .agg [.nil, .int .i64 0]⟩ := ⟨by kernel_rfl, by kernel_rfl, ⟨.agg #[.slice none 0 0, .int .i64 0], by kernel_rfl, by kernel_rfl, by kernel_rfl, by kernel_rfl, ⟨fun _ => rfl, fun _ => ⟨_, rfl⟩⟩⟩⟩
theorem tcmp81 : Try.prog.stoodInHeld 81 = false ∧ Try.prog.eqGuardType Try.prog.depth 81 = false ∧ ∀ fs, Try.prog.underlying 81 = some (.struct fs) → (fs.toList.all fun f => f.name != "_") = true := ⟨by kernel_rfl, by kernel_rfl, fun fs h => by rw [Try.underlying81] at h; first | (injection h with h; injection h with h; subst h; rfl) | cases h⟩
theorem tok82 : TOk Try.prog 82 ⟨.int .u64, 1, 8, .int .u64 0⟩ := ⟨by kernel_rfl, by kernel_rfl, ⟨.int .u64 0, by kernel_rfl, by kernel_rfl, by kernel_rfl, by kernel_rfl, ⟨fun h => (by obtain ⟨_, h⟩ := h; cases h), fun h => (by cases h)⟩⟩⟩
theorem tok92 : TOk Try.prog 92 ⟨.array 5 5, 5, 5, .agg [.int .u8 0, .int .u8 0, .int .u8 0, .int .u8 0, .int .u8 0]⟩ := ⟨by kernel_rfl, by kernel_rfl, ⟨.agg #[.int .u8 0, .int .u8 0, .int .u8 0, .int .u8 0, .int .u8 0], by kernel_rfl, by kernel_rfl, by kernel_rfl, by kernel_rfl, ⟨fun _ => rfl, fun _ => ⟨_, rfl⟩⟩⟩⟩
theorem tcmp92 : Try.prog.stoodInHeld 92 = false ∧ Try.prog.eqGuardType Try.prog.depth 92 = false ∧ ∀ fs, Try.prog.underlying 92 = some (.struct fs) → (fs.toList.all fun f => f.name != "_") = true := ⟨by kernel_rfl, by kernel_rfl, fun fs h => by rw [Try.underlying92] at h; first | (injection h with h; injection h with h; subst h; rfl) | cases h⟩

theorem types_ok : Types Try.prog tinfo := by
  refine ⟨fun t i h => ?_, fun t i h hs => ?_⟩
  · unfold tinfo at h
    split at h <;> first | (injection h with h; subst h; first | exact tok2 | exact tok3 | exact tok4 | exact tok5 | exact tok9 | exact tok21 | exact tok22 | exact tok23 | exact tok24 | exact tok25 | exact tok26 | exact tok27 | exact tok32 | exact tok35 | exact tok36 | exact tok37 | exact tok50 | exact tok51 | exact tok54 | exact tok55 | exact tok58 | exact tok80 | exact tok81 | exact tok82 | exact tok92) | cases h
  · unfold tinfo at h
    split at h <;> first | (injection h with h; subst h; first | exact absurd (show false = true from hs) (by decide) | exact tcmp24 | exact tcmp25 | exact tcmp50 | exact tcmp51 | exact tcmp54 | exact tcmp55 | exact tcmp80 | exact tcmp81 | exact tcmp92) | cases h
theorem sizes_ok : Sizes tinfo := by
  refine ⟨fun t i h hb => ?_, fun t i fs h hk off ft j hm hj => ?_⟩
  · unfold tinfo at h
    split at h <;> first | (injection h with h; subst h; first | rfl | cases hb) | cases h
  · unfold tinfo at h
    split at h
    · injection h with h; subst h; cases hk
    · injection h with h; subst h; cases hk
    · injection h with h; subst h; cases hk
    · injection h with h; subst h; cases hk
    · injection h with h; subst h; cases hk
    · injection h with h; subst h; cases hk
    · injection h with h; subst h; cases hk
    · injection h with h; subst h; cases hk
    · injection h with h; subst h; injection hk with hk; subst hk
      simp only [List.mem_cons, List.not_mem_nil, or_false, Prod.mk.injEq] at hm
      rcases hm with ⟨rfl, rfl⟩ | ⟨rfl, rfl⟩ | ⟨rfl, rfl⟩ | ⟨rfl, rfl⟩ | ⟨rfl, rfl⟩ | ⟨rfl, rfl⟩
      all_goals (simp only [tinfo, Option.some.injEq] at hj; subst hj; simp)
    · injection h with h; subst h; injection hk with hk; subst hk
      simp only [List.mem_cons, List.not_mem_nil, or_false, Prod.mk.injEq] at hm
      rcases hm with ⟨rfl, rfl⟩ | ⟨rfl, rfl⟩ | ⟨rfl, rfl⟩ | ⟨rfl, rfl⟩ | ⟨rfl, rfl⟩ | ⟨rfl, rfl⟩
      all_goals (simp only [tinfo, Option.some.injEq] at hj; subst hj; simp)
    · injection h with h; subst h; cases hk
    · injection h with h; subst h; cases hk
    · injection h with h; subst h; cases hk
    · injection h with h; subst h; cases hk
    · injection h with h; subst h; cases hk
    · injection h with h; subst h; cases hk
    · injection h with h; subst h; injection hk with hk; subst hk
      simp only [List.mem_cons, List.not_mem_nil, or_false, Prod.mk.injEq] at hm
      rcases hm with ⟨rfl, rfl⟩ | ⟨rfl, rfl⟩ | ⟨rfl, rfl⟩ | ⟨rfl, rfl⟩ | ⟨rfl, rfl⟩
      all_goals (simp only [tinfo, Option.some.injEq] at hj; subst hj; simp)
    · injection h with h; subst h; injection hk with hk; subst hk
      simp only [List.mem_cons, List.not_mem_nil, or_false, Prod.mk.injEq] at hm
      rcases hm with ⟨rfl, rfl⟩ | ⟨rfl, rfl⟩ | ⟨rfl, rfl⟩ | ⟨rfl, rfl⟩ | ⟨rfl, rfl⟩
      all_goals (simp only [tinfo, Option.some.injEq] at hj; subst hj; simp)
    · injection h with h; subst h; injection hk with hk; subst hk
      simp only [List.mem_cons, List.not_mem_nil, or_false, Prod.mk.injEq] at hm
      rcases hm with ⟨rfl, rfl⟩ | ⟨rfl, rfl⟩ | ⟨rfl, rfl⟩ | ⟨rfl, rfl⟩ | ⟨rfl, rfl⟩
      all_goals (simp only [tinfo, Option.some.injEq] at hj; subst hj; simp)
    · injection h with h; subst h; injection hk with hk; subst hk
      simp only [List.mem_cons, List.not_mem_nil, or_false, Prod.mk.injEq] at hm
      rcases hm with ⟨rfl, rfl⟩ | ⟨rfl, rfl⟩ | ⟨rfl, rfl⟩ | ⟨rfl, rfl⟩ | ⟨rfl, rfl⟩
      all_goals (simp only [tinfo, Option.some.injEq] at hj; subst hj; simp)
    · injection h with h; subst h; cases hk
    · injection h with h; subst h; injection hk with hk; subst hk
      simp only [List.mem_cons, List.not_mem_nil, or_false, Prod.mk.injEq] at hm
      rcases hm with ⟨rfl, rfl⟩ | ⟨rfl, rfl⟩
      all_goals (simp only [tinfo, Option.some.injEq] at hj; subst hj; simp)
    · injection h with h; subst h; injection hk with hk; subst hk
      simp only [List.mem_cons, List.not_mem_nil, or_false, Prod.mk.injEq] at hm
      rcases hm with ⟨rfl, rfl⟩ | ⟨rfl, rfl⟩
      all_goals (simp only [tinfo, Option.some.injEq] at hj; subst hj; simp)
    · injection h with h; subst h; cases hk
    · injection h with h; subst h; cases hk
    · cases h
theorem closed_ok : Closed tinfo := by
  refine ⟨fun t i fs h hk q hq => ?_⟩
  unfold tinfo at h
  split at h
  · injection h with h; subst h; cases hk
  · injection h with h; subst h; cases hk
  · injection h with h; subst h; cases hk
  · injection h with h; subst h; cases hk
  · injection h with h; subst h; cases hk
  · injection h with h; subst h; cases hk
  · injection h with h; subst h; cases hk
  · injection h with h; subst h; cases hk
  · injection h with h; subst h; injection hk with hk; subst hk
    simp only [List.mem_cons, List.not_mem_nil, or_false] at hq
    rcases hq with rfl | rfl | rfl | rfl | rfl | rfl
    all_goals exact ⟨_, rfl⟩
  · injection h with h; subst h; injection hk with hk; subst hk
    simp only [List.mem_cons, List.not_mem_nil, or_false] at hq
    rcases hq with rfl | rfl | rfl | rfl | rfl | rfl
    all_goals exact ⟨_, rfl⟩
  · injection h with h; subst h; cases hk
  · injection h with h; subst h; cases hk
  · injection h with h; subst h; cases hk
  · injection h with h; subst h; cases hk
  · injection h with h; subst h; cases hk
  · injection h with h; subst h; cases hk
  · injection h with h; subst h; injection hk with hk; subst hk
    simp only [List.mem_cons, List.not_mem_nil, or_false] at hq
    rcases hq with rfl | rfl | rfl | rfl | rfl
    all_goals exact ⟨_, rfl⟩
  · injection h with h; subst h; injection hk with hk; subst hk
    simp only [List.mem_cons, List.not_mem_nil, or_false] at hq
    rcases hq with rfl | rfl | rfl | rfl | rfl
    all_goals exact ⟨_, rfl⟩
  · injection h with h; subst h; injection hk with hk; subst hk
    simp only [List.mem_cons, List.not_mem_nil, or_false] at hq
    rcases hq with rfl | rfl | rfl | rfl | rfl
    all_goals exact ⟨_, rfl⟩
  · injection h with h; subst h; injection hk with hk; subst hk
    simp only [List.mem_cons, List.not_mem_nil, or_false] at hq
    rcases hq with rfl | rfl | rfl | rfl | rfl
    all_goals exact ⟨_, rfl⟩
  · injection h with h; subst h; cases hk
  · injection h with h; subst h; injection hk with hk; subst hk
    simp only [List.mem_cons, List.not_mem_nil, or_false] at hq
    rcases hq with rfl | rfl
    all_goals exact ⟨_, rfl⟩
  · injection h with h; subst h; injection hk with hk; subst hk
    simp only [List.mem_cons, List.not_mem_nil, or_false] at hq
    rcases hq with rfl | rfl
    all_goals exact ⟨_, rfl⟩
  · injection h with h; subst h; cases hk
  · injection h with h; subst h; cases hk
  · cases h
theorem tab : Tab Try.prog tinfo := ⟨types_ok, sizes_ok, closed_ok, fun t i h d => by
  unfold tinfo at h
  split at h <;> first | (injection h with h; subst h; rfl) | cases h⟩
theorem mixed : Try.prog.follows .mixedOrders = true := by kernel_rfl

/-- A contract over this seat's program, behind one name. -/
structure Good (f : Nat) (c : CT) : Prop where
  h : ACall Try.prog tinfo f c
theorem good_call : ∀ f c, (fun f c => Good f c) f c → ACall Try.prog tinfo f c := fun _ _ h => h.h
/-- A contract of a function over data. -/
abbrev pu (args : List SV) (r : SV) : CT := ⟨args, none, r, .any, .no⟩
/-- A contract of a function over data that gives something new, named 1 in the result. -/
abbrev nu (args : List SV) (r : SV) (b : Blk) : CT := ⟨args, none, r, .any, b⟩
/-- A contract of a function that is lent a variable by its first argument. -/
abbrev le (t : Nat) (x : SV) (args : List SV) (r : SV) (y : SV) : CT := ⟨.ptr 0 0 :: args, some (t, x), r, y, .no⟩
abbrev leN (t : Nat) (x : SV) (args : List SV) (r : SV) (y : SV) (b : Blk) : CT := ⟨.ptr 0 0 :: args, some (t, x), r, y, b⟩
theorem Good.of {f : FuncId} {fn : Func} {c : Code} {ct : CT} (hf : Try.prog.funcs[f]? = some fn) (hb : fn.body = some c)
    (hn : (fn.name == "runtime.NumGoroutine") = false) (hok : codeOk c = true)
    (h : swp (fun t => tinfo t) (fun f c => Good f c) c (start fn.ntmps ct) ⟨fun s => retQ (fun t => tinfo t) fn.resultTypes.toList fn.results.toList s ct, fun s => retQ (fun t => tinfo t) fn.resultTypes.toList fn.results.toList s ct, fun _ _ => False⟩) (hni : isSeq ct = false := by rfl) : Good f ct :=
  ⟨contract tab good_call mixed hf hb hn hok hni h⟩
end Go.Proofs.Ytjhicdoigllblaa
