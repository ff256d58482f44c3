/- Texts put together: Ty Tac Cw Wk. -/
import Derived.Test.YtgfpjhddojhfpaaGreatZ02
import Derived.Test.YtgfpjhddojhfpaaGreatChecked
import Derived.KernelRfl
namespace Go.Proofs.YtgfpjhddojhfpaaGreat
set_option linter.unusedVariables false
set_option linter.unusedSimpArgs false
section
inductive TR where
 | leaf (k:Nat) (i:TI)
 | node (m:Nat) (l r:TR)
def TR.look:TR→Nat→Option TI
 | .leaf k i,t=>(match Nat.beq t k with | true=>some i | false=>none)
 | .node m l r,t=>(match Nat.blt t m with | true=>l.look t | false=>r.look t)
def TR.All (Q:Nat→TI→Prop):TR→Prop
 | .leaf k i=>Q k i
 | .node _ l r=>l.All Q∧r.All Q
theorem TR.all_look {Q:Nat→TI→Prop} {t:Nat} {i:TI}:∀ {tr:TR},tr.All Q→tr.look t=some i→Q t i
 | .leaf k j,h,e=>by
  simp only [TR.look] at e
  split at e
  ·rename_i hb
   injection e with e
   subst e
   rw [Nat.eq_of_beq_eq_true hb]
   exact h
  ·cases e
 | .node m l r,h,e=>by
  simp only [TR.look] at e
  split at e
  ·exact TR.all_look h.1 e
  ·exact TR.all_look h.2 e
def tinfo (t:Nat):Option TI :=
 (match Nat.blt t 88 with
 | true =>
  (match Nat.blt t 33 with
  | true =>
  (match Nat.blt t 24 with
  | true =>
   (match Nat.blt t 9 with
   | true =>
   (match Nat.blt t 4 with
   | true =>
    (match Nat.beq t 3 with | true=>some ⟨.int .i64,1,8,.int .i64 0⟩ | false=>none)
   | false =>
    (match Nat.blt t 5 with
    | true =>
    (match Nat.beq t 4 with | true=>some ⟨.bool,1,1,.bool false⟩ | false=>none)
    | false =>
    (match Nat.beq t 5 with | true=>some ⟨.int .u8,1,1,.int .u8 0⟩ | false=>none)))
   | false =>
   (match Nat.blt t 22 with
   | true =>
    (match Nat.beq t 9 with | true=>some ⟨.string,1,16,.str .empty⟩ | false=>none)
   | false =>
    (match Nat.blt t 23 with
    | true =>
    (match Nat.beq t 22 with | true=>some ⟨.slice 3,1,24,.nil⟩ | false=>none)
    | false =>
    (match Nat.beq t 23 with | true=>some ⟨.int .u16,1,2,.int .u16 0⟩ | false=>none))))
  | false =>
   (match Nat.blt t 28 with
   | true =>
   (match Nat.blt t 25 with
   | true =>
    (match Nat.beq t 24 with | true=>some ⟨.int .u16,1,2,.int .u16 0⟩ | false=>none)
   | false =>
    (match Nat.blt t 26 with
    | true =>
    (match Nat.beq t 25 with | true=>some ⟨.int .u64,1,8,.int .u64 0⟩ | false=>none)
    | false =>
    (match Nat.beq t 26 with | true=>some ⟨.int .u64,1,8,.int .u64 0⟩ | false=>none)))
   | false =>
   (match Nat.blt t 30 with
   | true =>
    (match Nat.blt t 29 with
    | true =>
    (match Nat.beq t 28 with | true=>some ⟨.struct [(0,3),(1,24),(2,26)],3,24,.agg [.int .i64 0,.int .u16 0,.int .u64 0]⟩ | false=>none)
    | false =>
    (match Nat.beq t 29 with | true=>some ⟨.int .u32,1,4,.int .u32 0⟩ | false=>none))
   | false =>
    (match Nat.blt t 32 with
    | true =>
    (match Nat.beq t 30 with | true=>some ⟨.slice 5,1,24,.nil⟩ | false=>none)
    | false =>
    (match Nat.beq t 32 with | true=>some ⟨.struct [(0,3),(1,4),(2,4),(3,4),(4,5),(5,23),(6,28),(9,28),(12,29),(13,5),(14,30),(15,30)],16,120,.agg [.int .i64 0,.bool false,.bool false,.bool false,.int .u8 0,.int .u16 0,.int .i64 0,.int .u16 0,.int .u64 0,.int .i64 0,.int .u16 0,.int .u64 0,.int .u32 0,.int .u8 0,.nil,.nil]⟩ | false=>none)))))
  | false =>
  (match Nat.blt t 64 with
  | true =>
   (match Nat.blt t 39 with
   | true =>
   (match Nat.blt t 34 with
   | true =>
    (match Nat.beq t 33 with | true=>some ⟨.slice 136,1,24,.nil⟩ | false=>none)
   | false =>
    (match Nat.blt t 36 with
    | true =>
    (match Nat.beq t 34 with | true=>some ⟨.slice 196,1,24,.nil⟩ | false=>none)
    | false =>
    (match Nat.beq t 36 with | true=>some ⟨.struct [(0,33),(1,29),(2,29),(3,29),(4,34)],5,64,.agg [.nil,.int .u32 0,.int .u32 0,.int .u32 0,.nil]⟩ | false=>none)))
   | false =>
   (match Nat.blt t 45 with
   | true =>
    (match Nat.beq t 39 with | true=>some ⟨.slice 30,1,24,.nil⟩ | false=>none)
   | false =>
    (match Nat.blt t 54 with
    | true =>
    (match Nat.beq t 45 with | true=>some ⟨.int .i64,1,8,.int .i64 0⟩ | false=>none)
    | false =>
    (match Nat.beq t 54 with | true=>some ⟨.array 16 5,16,16,.agg [.int .u8 0,.int .u8 0,.int .u8 0,.int .u8 0,.int .u8 0,.int .u8 0,.int .u8 0,.int .u8 0,.int .u8 0,.int .u8 0,.int .u8 0,.int .u8 0,.int .u8 0,.int .u8 0,.int .u8 0,.int .u8 0]⟩ | false=>none))))
  | false =>
   (match Nat.blt t 73 with
   | true =>
   (match Nat.blt t 67 with
   | true =>
    (match Nat.beq t 64 with | true=>some ⟨.slice 22,1,24,.nil⟩ | false=>none)
   | false =>
    (match Nat.blt t 72 with
    | true =>
    (match Nat.beq t 67 with | true=>some ⟨.slice 78,1,24,.nil⟩ | false=>none)
    | false =>
    (match Nat.beq t 72 with | true=>some ⟨.struct [(0,3),(1,30)],2,32,.agg [.int .i64 0,.nil]⟩ | false=>none)))
   | false =>
   (match Nat.blt t 82 with
   | true =>
    (match Nat.blt t 78 with
    | true =>
    (match Nat.beq t 73 with | true=>some ⟨.slice 72,1,24,.nil⟩ | false=>none)
    | false =>
    (match Nat.beq t 78 with | true=>some ⟨.struct [(0,3),(1,3),(2,30)],3,40,.agg [.int .i64 0,.int .i64 0,.nil]⟩ | false=>none))
   | false =>
    (match Nat.blt t 84 with
    | true =>
    (match Nat.beq t 82 with | true=>some ⟨.array 16 5,16,16,.agg [.int .u8 0,.int .u8 0,.int .u8 0,.int .u8 0,.int .u8 0,.int .u8 0,.int .u8 0,.int .u8 0,.int .u8 0,.int .u8 0,.int .u8 0,.int .u8 0,.int .u8 0,.int .u8 0,.int .u8 0,.int .u8 0]⟩ | false=>none)
    | false =>
    (match Nat.beq t 84 with | true=>some ⟨.struct [(0,5),(1,29),(2,5),(3,5),(4,82),(20,82),(36,23),(37,23),(38,30)],39,72,.agg [.int .u8 0,.int .u32 0,.int .u8 0,.int .u8 0,.int .u8 0,.int .u8 0,.int .u8 0,.int .u8 0,.int .u8 0,.int .u8 0,.int .u8 0,.int .u8 0,.int .u8 0,.int .u8 0,.int .u8 0,.int .u8 0,.int .u8 0,.int .u8 0,.int .u8 0,.int .u8 0,.int .u8 0,.int .u8 0,.int .u8 0,.int .u8 0,.int .u8 0,.int .u8 0,.int .u8 0,.int .u8 0,.int .u8 0,.int .u8 0,.int .u8 0,.int .u8 0,.int .u8 0,.int .u8 0,.int .u8 0,.int .u8 0,.int .u16 0,.int .u16 0,.nil]⟩ | false=>none))))))
 | false =>
  (match Nat.blt t 224 with
  | true =>
  (match Nat.blt t 152 with
  | true =>
   (match Nat.blt t 98 with
   | true =>
   (match Nat.blt t 92 with
   | true =>
    (match Nat.beq t 88 with | true=>some ⟨.struct [(0,3),(1,5),(2,39),(3,29),(4,3),(5,3)],6,64,.agg [.int .i64 0,.int .u8 0,.nil,.int .u32 0,.int .i64 0,.int .i64 0]⟩ | false=>none)
   | false =>
    (match Nat.blt t 93 with
    | true =>
    (match Nat.beq t 92 with | true=>some ⟨.struct [(0,5),(1,3),(2,39),(3,29),(4,4)],5,48,.agg [.int .u8 0,.int .i64 0,.nil,.int .u32 0,.bool false]⟩ | false=>none)
    | false =>
    (match Nat.beq t 93 with | true=>some ⟨.slice 98,1,24,.nil⟩ | false=>none)))
   | false =>
   (match Nat.blt t 136 with
   | true =>
    (match Nat.beq t 98 with | true=>some ⟨.struct [(0,5),(1,3),(2,3),(3,4),(4,30)],5,56,.agg [.int .u8 0,.int .i64 0,.int .i64 0,.bool false,.nil]⟩ | false=>none)
   | false =>
    (match Nat.blt t 144 with
    | true =>
    (match Nat.beq t 136 with | true=>some ⟨.struct [(0,5),(1,54)],17,17,.agg [.int .u8 0,.int .u8 0,.int .u8 0,.int .u8 0,.int .u8 0,.int .u8 0,.int .u8 0,.int .u8 0,.int .u8 0,.int .u8 0,.int .u8 0,.int .u8 0,.int .u8 0,.int .u8 0,.int .u8 0,.int .u8 0,.int .u8 0]⟩ | false=>none)
    | false =>
    (match Nat.beq t 144 with | true=>some ⟨.struct [(0,22),(1,3)],2,32,.agg [.nil,.int .i64 0]⟩ | false=>none))))
  | false =>
   (match Nat.blt t 202 with
   | true =>
   (match Nat.blt t 160 with
   | true =>
    (match Nat.beq t 152 with | true=>some ⟨.int .u64,1,8,.int .u64 0⟩ | false=>none)
   | false =>
    (match Nat.blt t 196 with
    | true =>
    (match Nat.beq t 160 with | true=>some ⟨.slice 241,1,24,.nil⟩ | false=>none)
    | false =>
    (match Nat.beq t 196 with | true=>some ⟨.struct [(0,28),(3,5),(4,29),(5,29)],6,40,.agg [.int .i64 0,.int .u16 0,.int .u64 0,.int .u8 0,.int .u32 0,.int .u32 0]⟩ | false=>none)))
   | false =>
   (match Nat.blt t 213 with
   | true =>
    (match Nat.blt t 204 with
    | true =>
    (match Nat.beq t 202 with | true=>some ⟨.struct [(0,30),(1,4)],2,32,.agg [.nil,.bool false]⟩ | false=>none)
    | false =>
    (match Nat.beq t 204 with | true=>some ⟨.array 2 28,6,48,.agg [.int .i64 0,.int .u16 0,.int .u64 0,.int .i64 0,.int .u16 0,.int .u64 0]⟩ | false=>none))
   | false =>
    (match Nat.blt t 218 with
    | true =>
    (match Nat.beq t 213 with | true=>some ⟨.slice 25,1,24,.nil⟩ | false=>none)
    | false =>
    (match Nat.beq t 218 with | true=>some ⟨.array 5 5,5,5,.agg [.int .u8 0,.int .u8 0,.int .u8 0,.int .u8 0,.int .u8 0]⟩ | false=>none)))))
  | false =>
  (match Nat.blt t 250 with
  | true =>
   (match Nat.blt t 239 with
   | true =>
   (match Nat.blt t 231 with
   | true =>
    (match Nat.beq t 224 with | true=>some ⟨.struct [(0,4),(1,3),(2,3),(3,30)],4,48,.agg [.bool false,.int .i64 0,.int .i64 0,.nil]⟩ | false=>none)
   | false =>
    (match Nat.blt t 233 with
    | true =>
    (match Nat.beq t 231 with | true=>some ⟨.other,1,8,.val (.pointer none)⟩ | false=>none)
    | false =>
    (match Nat.beq t 233 with | true=>some ⟨.struct [(0,30),(1,3)],2,32,.agg [.nil,.int .i64 0]⟩ | false=>none)))
   | false =>
   (match Nat.blt t 248 with
   | true =>
    (match Nat.blt t 241 with
    | true =>
    (match Nat.beq t 239 with | true=>some ⟨.struct [(0,82),(16,3)],17,24,.agg [.int .u8 0,.int .u8 0,.int .u8 0,.int .u8 0,.int .u8 0,.int .u8 0,.int .u8 0,.int .u8 0,.int .u8 0,.int .u8 0,.int .u8 0,.int .u8 0,.int .u8 0,.int .u8 0,.int .u8 0,.int .u8 0,.int .i64 0]⟩ | false=>none)
    | false =>
    (match Nat.beq t 241 with | true=>some ⟨.struct [(0,3),(1,239),(18,4),(19,3)],20,48,.agg [.int .i64 0,.int .u8 0,.int .u8 0,.int .u8 0,.int .u8 0,.int .u8 0,.int .u8 0,.int .u8 0,.int .u8 0,.int .u8 0,.int .u8 0,.int .u8 0,.int .u8 0,.int .u8 0,.int .u8 0,.int .u8 0,.int .u8 0,.int .i64 0,.bool false,.int .i64 0]⟩ | false=>none))
   | false =>
    (match Nat.blt t 249 with
    | true =>
    (match Nat.beq t 248 with | true=>some ⟨.array 2 3,2,16,.agg [.int .i64 0,.int .i64 0]⟩ | false=>none)
    | false =>
    (match Nat.beq t 249 with | true=>some ⟨.array 3 248,6,48,.agg [.int .i64 0,.int .i64 0,.int .i64 0,.int .i64 0,.int .i64 0,.int .i64 0]⟩ | false=>none))))
  | false =>
   (match Nat.blt t 293 with
   | true =>
   (match Nat.blt t 285 with
   | true =>
    (match Nat.beq t 250 with | true=>some ⟨.array 3 25,3,24,.agg [.int .u64 0,.int .u64 0,.int .u64 0]⟩ | false=>none)
   | false =>
    (match Nat.blt t 290 with
    | true =>
    (match Nat.beq t 285 with | true=>some ⟨.array 2 5,2,2,.agg [.int .u8 0,.int .u8 0]⟩ | false=>none)
    | false =>
    (match Nat.beq t 290 with | true=>some ⟨.array 4 25,4,32,.agg [.int .u64 0,.int .u64 0,.int .u64 0,.int .u64 0]⟩ | false=>none)))
   | false =>
   (match Nat.blt t 296 with
   | true =>
    (match Nat.blt t 294 with
    | true =>
    (match Nat.beq t 293 with | true=>some ⟨.array 4 3,4,32,.agg [.int .i64 0,.int .i64 0,.int .i64 0,.int .i64 0]⟩ | false=>none)
    | false =>
    (match Nat.beq t 294 with | true=>some ⟨.slice 296,1,24,.nil⟩ | false=>none))
   | false =>
    (match Nat.blt t 299 with
    | true =>
    (match Nat.beq t 296 with | true=>some ⟨.struct [(0,25),(1,3)],2,16,.agg [.int .u64 0,.int .i64 0]⟩ | false=>none)
    | false =>
    (match Nat.beq t 299 with | true=>some ⟨.array 4 25,4,32,.agg [.int .u64 0,.int .u64 0,.int .u64 0,.int .u64 0]⟩ | false=>none)))))))
def ttree:TR :=

 (.node 88 
 (.node 33 
 (.node 24 
 (.node 9 
 (.node 4 (.leaf 3 ⟨.int .i64,1,8,.int .i64 0⟩) 
 (.node 5 (.leaf 4 ⟨.bool,1,1,.bool false⟩) (.leaf 5 ⟨.int .u8,1,1,.int .u8 0⟩))) 
 (.node 22 (.leaf 9 ⟨.string,1,16,.str .empty⟩) 
 (.node 23 (.leaf 22 ⟨.slice 3,1,24,.nil⟩) (.leaf 23 ⟨.int .u16,1,2,.int .u16 0⟩)))) 
 (.node 28 
 (.node 25 (.leaf 24 ⟨.int .u16,1,2,.int .u16 0⟩) 
 (.node 26 (.leaf 25 ⟨.int .u64,1,8,.int .u64 0⟩) (.leaf 26 ⟨.int .u64,1,8,.int .u64 0⟩))) 
 (.node 30 
 (.node 29 (.leaf 28 ⟨.struct [(0,3),(1,24),(2,26)],3,24,.agg [.int .i64 0,.int .u16 0,.int .u64 0]⟩) (.leaf 29 ⟨.int .u32,1,4,.int .u32 0⟩)) 
 (.node 32 (.leaf 30 ⟨.slice 5,1,24,.nil⟩) (.leaf 32 ⟨.struct [(0,3),(1,4),(2,4),(3,4),(4,5),(5,23),(6,28),(9,28),(12,29),(13,5),(14,30),(15,30)],16,120,.agg [.int .i64 0,.bool false,.bool false,.bool false,.int .u8 0,.int .u16 0,.int .i64 0,.int .u16 0,.int .u64 0,.int .i64 0,.int .u16 0,.int .u64 0,.int .u32 0,.int .u8 0,.nil,.nil]⟩))))) 
 (.node 64 
 (.node 39 
 (.node 34 (.leaf 33 ⟨.slice 136,1,24,.nil⟩) 
 (.node 36 (.leaf 34 ⟨.slice 196,1,24,.nil⟩) (.leaf 36 ⟨.struct [(0,33),(1,29),(2,29),(3,29),(4,34)],5,64,.agg [.nil,.int .u32 0,.int .u32 0,.int .u32 0,.nil]⟩))) 
 (.node 45 (.leaf 39 ⟨.slice 30,1,24,.nil⟩) 
 (.node 54 (.leaf 45 ⟨.int .i64,1,8,.int .i64 0⟩) (.leaf 54 ⟨.array 16 5,16,16,.agg [.int .u8 0,.int .u8 0,.int .u8 0,.int .u8 0,.int .u8 0,.int .u8 0,.int .u8 0,.int .u8 0,.int .u8 0,.int .u8 0,.int .u8 0,.int .u8 0,.int .u8 0,.int .u8 0,.int .u8 0,.int .u8 0]⟩)))) 
 (.node 73 
 (.node 67 (.leaf 64 ⟨.slice 22,1,24,.nil⟩) 
 (.node 72 (.leaf 67 ⟨.slice 78,1,24,.nil⟩) (.leaf 72 ⟨.struct [(0,3),(1,30)],2,32,.agg [.int .i64 0,.nil]⟩))) 
 (.node 82 
 (.node 78 (.leaf 73 ⟨.slice 72,1,24,.nil⟩) (.leaf 78 ⟨.struct [(0,3),(1,3),(2,30)],3,40,.agg [.int .i64 0,.int .i64 0,.nil]⟩)) 
 (.node 84 (.leaf 82 ⟨.array 16 5,16,16,.agg [.int .u8 0,.int .u8 0,.int .u8 0,.int .u8 0,.int .u8 0,.int .u8 0,.int .u8 0,.int .u8 0,.int .u8 0,.int .u8 0,.int .u8 0,.int .u8 0,.int .u8 0,.int .u8 0,.int .u8 0,.int .u8 0]⟩) (.leaf 84 ⟨.struct [(0,5),(1,29),(2,5),(3,5),(4,82),(20,82),(36,23),(37,23),(38,30)],39,72,.agg [.int .u8 0,.int .u32 0,.int .u8 0,.int .u8 0,.int .u8 0,.int .u8 0,.int .u8 0,.int .u8 0,.int .u8 0,.int .u8 0,.int .u8 0,.int .u8 0,.int .u8 0,.int .u8 0,.int .u8 0,.int .u8 0,.int .u8 0,.int .u8 0,.int .u8 0,.int .u8 0,.int .u8 0,.int .u8 0,.int .u8 0,.int .u8 0,.int .u8 0,.int .u8 0,.int .u8 0,.int .u8 0,.int .u8 0,.int .u8 0,.int .u8 0,.int .u8 0,.int .u8 0,.int .u8 0,.int .u8 0,.int .u8 0,.int .u16 0,.int .u16 0,.nil]⟩)))))) 
 (.node 224 
 (.node 152 
 (.node 98 
 (.node 92 (.leaf 88 ⟨.struct [(0,3),(1,5),(2,39),(3,29),(4,3),(5,3)],6,64,.agg [.int .i64 0,.int .u8 0,.nil,.int .u32 0,.int .i64 0,.int .i64 0]⟩) 
 (.node 93 (.leaf 92 ⟨.struct [(0,5),(1,3),(2,39),(3,29),(4,4)],5,48,.agg [.int .u8 0,.int .i64 0,.nil,.int .u32 0,.bool false]⟩) (.leaf 93 ⟨.slice 98,1,24,.nil⟩))) 
 (.node 136 (.leaf 98 ⟨.struct [(0,5),(1,3),(2,3),(3,4),(4,30)],5,56,.agg [.int .u8 0,.int .i64 0,.int .i64 0,.bool false,.nil]⟩) 
 (.node 144 (.leaf 136 ⟨.struct [(0,5),(1,54)],17,17,.agg [.int .u8 0,.int .u8 0,.int .u8 0,.int .u8 0,.int .u8 0,.int .u8 0,.int .u8 0,.int .u8 0,.int .u8 0,.int .u8 0,.int .u8 0,.int .u8 0,.int .u8 0,.int .u8 0,.int .u8 0,.int .u8 0,.int .u8 0]⟩) (.leaf 144 ⟨.struct [(0,22),(1,3)],2,32,.agg [.nil,.int .i64 0]⟩)))) 
 (.node 202 
 (.node 160 (.leaf 152 ⟨.int .u64,1,8,.int .u64 0⟩) 
 (.node 196 (.leaf 160 ⟨.slice 241,1,24,.nil⟩) (.leaf 196 ⟨.struct [(0,28),(3,5),(4,29),(5,29)],6,40,.agg [.int .i64 0,.int .u16 0,.int .u64 0,.int .u8 0,.int .u32 0,.int .u32 0]⟩))) 
 (.node 213 
 (.node 204 (.leaf 202 ⟨.struct [(0,30),(1,4)],2,32,.agg [.nil,.bool false]⟩) (.leaf 204 ⟨.array 2 28,6,48,.agg [.int .i64 0,.int .u16 0,.int .u64 0,.int .i64 0,.int .u16 0,.int .u64 0]⟩)) 
 (.node 218 (.leaf 213 ⟨.slice 25,1,24,.nil⟩) (.leaf 218 ⟨.array 5 5,5,5,.agg [.int .u8 0,.int .u8 0,.int .u8 0,.int .u8 0,.int .u8 0]⟩))))) 
 (.node 250 
 (.node 239 
 (.node 231 (.leaf 224 ⟨.struct [(0,4),(1,3),(2,3),(3,30)],4,48,.agg [.bool false,.int .i64 0,.int .i64 0,.nil]⟩) 
 (.node 233 (.leaf 231 ⟨.other,1,8,.val (.pointer none)⟩) (.leaf 233 ⟨.struct [(0,30),(1,3)],2,32,.agg [.nil,.int .i64 0]⟩))) 
 (.node 248 
 (.node 241 (.leaf 239 ⟨.struct [(0,82),(16,3)],17,24,.agg [.int .u8 0,.int .u8 0,.int .u8 0,.int .u8 0,.int .u8 0,.int .u8 0,.int .u8 0,.int .u8 0,.int .u8 0,.int .u8 0,.int .u8 0,.int .u8 0,.int .u8 0,.int .u8 0,.int .u8 0,.int .u8 0,.int .i64 0]⟩) (.leaf 241 ⟨.struct [(0,3),(1,239),(18,4),(19,3)],20,48,.agg [.int .i64 0,.int .u8 0,.int .u8 0,.int .u8 0,.int .u8 0,.int .u8 0,.int .u8 0,.int .u8 0,.int .u8 0,.int .u8 0,.int .u8 0,.int .u8 0,.int .u8 0,.int .u8 0,.int .u8 0,.int .u8 0,.int .u8 0,.int .i64 0,.bool false,.int .i64 0]⟩)) 
 (.node 249 (.leaf 248 ⟨.array 2 3,2,16,.agg [.int .i64 0,.int .i64 0]⟩) (.leaf 249 ⟨.array 3 248,6,48,.agg [.int .i64 0,.int .i64 0,.int .i64 0,.int .i64 0,.int .i64 0,.int .i64 0]⟩)))) 
 (.node 293 
 (.node 285 (.leaf 250 ⟨.array 3 25,3,24,.agg [.int .u64 0,.int .u64 0,.int .u64 0]⟩) 
 (.node 290 (.leaf 285 ⟨.array 2 5,2,2,.agg [.int .u8 0,.int .u8 0]⟩) (.leaf 290 ⟨.array 4 25,4,32,.agg [.int .u64 0,.int .u64 0,.int .u64 0,.int .u64 0]⟩))) 
 (.node 296 
 (.node 294 (.leaf 293 ⟨.array 4 3,4,32,.agg [.int .i64 0,.int .i64 0,.int .i64 0,.int .i64 0]⟩) (.leaf 294 ⟨.slice 296,1,24,.nil⟩)) 
 (.node 299 (.leaf 296 ⟨.struct [(0,25),(1,3)],2,16,.agg [.int .u64 0,.int .i64 0]⟩) (.leaf 299 ⟨.array 4 25,4,32,.agg [.int .u64 0,.int .u64 0,.int .u64 0,.int .u64 0]⟩)))))))
theorem tinfo_eq (t:Nat):tinfo t=ttree.look t:=by kernel_rfl
theorem tl3:tinfo 3=some ⟨.int .i64,1,8,.int .i64 0⟩:=rfl
theorem tl4:tinfo 4=some ⟨.bool,1,1,.bool false⟩:=rfl
theorem tl5:tinfo 5=some ⟨.int .u8,1,1,.int .u8 0⟩:=rfl
theorem tl22:tinfo 22=some ⟨.slice 3,1,24,.nil⟩:=rfl
theorem tl23:tinfo 23=some ⟨.int .u16,1,2,.int .u16 0⟩:=rfl
theorem tl24:tinfo 24=some ⟨.int .u16,1,2,.int .u16 0⟩:=rfl
theorem tl25:tinfo 25=some ⟨.int .u64,1,8,.int .u64 0⟩:=rfl
theorem tl26:tinfo 26=some ⟨.int .u64,1,8,.int .u64 0⟩:=rfl
theorem tl28:tinfo 28=some ⟨.struct [(0,3),(1,24),(2,26)],3,24,.agg [.int .i64 0,.int .u16 0,.int .u64 0]⟩:=rfl
theorem tl29:tinfo 29=some ⟨.int .u32,1,4,.int .u32 0⟩:=rfl
theorem tl30:tinfo 30=some ⟨.slice 5,1,24,.nil⟩:=rfl
theorem tl33:tinfo 33=some ⟨.slice 136,1,24,.nil⟩:=rfl
theorem tl34:tinfo 34=some ⟨.slice 196,1,24,.nil⟩:=rfl
theorem tl39:tinfo 39=some ⟨.slice 30,1,24,.nil⟩:=rfl
theorem tl54:tinfo 54=some ⟨.array 16 5,16,16,.agg [.int .u8 0,.int .u8 0,.int .u8 0,.int .u8 0,.int .u8 0,.int .u8 0,.int .u8 0,.int .u8 0,.int .u8 0,.int .u8 0,.int .u8 0,.int .u8 0,.int .u8 0,.int .u8 0,.int .u8 0,.int .u8 0]⟩:=rfl
theorem tl82:tinfo 82=some ⟨.array 16 5,16,16,.agg [.int .u8 0,.int .u8 0,.int .u8 0,.int .u8 0,.int .u8 0,.int .u8 0,.int .u8 0,.int .u8 0,.int .u8 0,.int .u8 0,.int .u8 0,.int .u8 0,.int .u8 0,.int .u8 0,.int .u8 0,.int .u8 0]⟩:=rfl
theorem tl239:tinfo 239=some ⟨.struct [(0,82),(16,3)],17,24,.agg [.int .u8 0,.int .u8 0,.int .u8 0,.int .u8 0,.int .u8 0,.int .u8 0,.int .u8 0,.int .u8 0,.int .u8 0,.int .u8 0,.int .u8 0,.int .u8 0,.int .u8 0,.int .u8 0,.int .u8 0,.int .u8 0,.int .i64 0]⟩:=rfl
theorem tok3:TOk Tryz.prog 3 ⟨.int .i64,1,8,.int .i64 0⟩:=⟨by kernel_rfl,by kernel_rfl,⟨.int .i64 0,by kernel_rfl,by kernel_rfl,by kernel_rfl,by kernel_rfl,⟨fun h=>(by obtain ⟨_,h⟩:=h;cases h),fun h=>(by cases h)⟩⟩⟩
theorem tok4:TOk Tryz.prog 4 ⟨.bool,1,1,.bool false⟩:=⟨by kernel_rfl,by kernel_rfl,⟨.bool false,by kernel_rfl,by kernel_rfl,by kernel_rfl,by kernel_rfl,⟨fun h=>(by obtain ⟨_,h⟩:=h;cases h),fun h=>(by cases h)⟩⟩⟩
theorem tok5:TOk Tryz.prog 5 ⟨.int .u8,1,1,.int .u8 0⟩:=⟨by kernel_rfl,by kernel_rfl,⟨.int .u8 0,by kernel_rfl,by kernel_rfl,by kernel_rfl,by kernel_rfl,⟨fun h=>(by obtain ⟨_,h⟩:=h;cases h),fun h=>(by cases h)⟩⟩⟩
theorem tok9:TOk Tryz.prog 9 ⟨.string,1,16,.str .empty⟩:=⟨by kernel_rfl,by kernel_rfl,⟨.string .empty,by kernel_rfl,by kernel_rfl,by kernel_rfl,by kernel_rfl,⟨fun h=>(by obtain ⟨_,h⟩:=h;cases h),fun h=>(by cases h)⟩⟩⟩
theorem tok22:TOk Tryz.prog 22 ⟨.slice 3,1,24,.nil⟩:=⟨by kernel_rfl,by kernel_rfl,⟨.slice none 0 0,by kernel_rfl,by kernel_rfl,by kernel_rfl,by kernel_rfl,⟨fun h=>(by obtain ⟨_,h⟩:=h;cases h),fun h=>(by cases h)⟩⟩⟩
theorem tok23:TOk Tryz.prog 23 ⟨.int .u16,1,2,.int .u16 0⟩:=⟨by kernel_rfl,by kernel_rfl,⟨.int .u16 0,by kernel_rfl,by kernel_rfl,by kernel_rfl,by kernel_rfl,⟨fun h=>(by obtain ⟨_,h⟩:=h;cases h),fun h=>(by cases h)⟩⟩⟩
theorem tok24:TOk Tryz.prog 24 ⟨.int .u16,1,2,.int .u16 0⟩:=⟨by kernel_rfl,by kernel_rfl,⟨.int .u16 0,by kernel_rfl,by kernel_rfl,by kernel_rfl,by kernel_rfl,⟨fun h=>(by obtain ⟨_,h⟩:=h;cases h),fun h=>(by cases h)⟩⟩⟩
theorem tok25:TOk Tryz.prog 25 ⟨.int .u64,1,8,.int .u64 0⟩:=⟨by kernel_rfl,by kernel_rfl,⟨.int .u64 0,by kernel_rfl,by kernel_rfl,by kernel_rfl,by kernel_rfl,⟨fun h=>(by obtain ⟨_,h⟩:=h;cases h),fun h=>(by cases h)⟩⟩⟩
theorem tok26:TOk Tryz.prog 26 ⟨.int .u64,1,8,.int .u64 0⟩:=⟨by kernel_rfl,by kernel_rfl,⟨.int .u64 0,by kernel_rfl,by kernel_rfl,by kernel_rfl,by kernel_rfl,⟨fun h=>(by obtain ⟨_,h⟩:=h;cases h),fun h=>(by cases h)⟩⟩⟩
theorem tok28:TOk Tryz.prog 28 ⟨.struct [(0,3),(1,24),(2,26)],3,24,.agg [.int .i64 0,.int .u16 0,.int .u64 0]⟩:=⟨by kernel_rfl,by kernel_rfl,⟨.agg #[.int .i64 0,.int .u16 0,.int .u64 0],by kernel_rfl,by kernel_rfl,by kernel_rfl,by kernel_rfl,⟨fun _=>rfl,fun _=>⟨_,rfl⟩⟩⟩⟩
theorem tcmp28:Tryz.prog.stoodInHeld 28=false∧Tryz.prog.eqGuardType Tryz.prog.depth 28=false∧∀ fs,Tryz.prog.underlying 28=some (.struct fs)→(fs.toList.all fun f=>f.name != "_")=true:=⟨by kernel_rfl,by kernel_rfl,fun fs h=>by rw [Tryz.underlying28] at h;first | (injection h with h;injection h with h;subst h;rfl) | cases h⟩
theorem tok29:TOk Tryz.prog 29 ⟨.int .u32,1,4,.int .u32 0⟩:=⟨by kernel_rfl,by kernel_rfl,⟨.int .u32 0,by kernel_rfl,by kernel_rfl,by kernel_rfl,by kernel_rfl,⟨fun h=>(by obtain ⟨_,h⟩:=h;cases h),fun h=>(by cases h)⟩⟩⟩
theorem tok30:TOk Tryz.prog 30 ⟨.slice 5,1,24,.nil⟩:=⟨by kernel_rfl,by kernel_rfl,⟨.slice none 0 0,by kernel_rfl,by kernel_rfl,by kernel_rfl,by kernel_rfl,⟨fun h=>(by obtain ⟨_,h⟩:=h;cases h),fun h=>(by cases h)⟩⟩⟩
theorem tok32:TOk Tryz.prog 32 ⟨.struct [(0,3),(1,4),(2,4),(3,4),(4,5),(5,23),(6,28),(9,28),(12,29),(13,5),(14,30),(15,30)],16,120,.agg [.int .i64 0,.bool false,.bool false,.bool false,.int .u8 0,.int .u16 0,.int .i64 0,.int .u16 0,.int .u64 0,.int .i64 0,.int .u16 0,.int .u64 0,.int .u32 0,.int .u8 0,.nil,.nil]⟩:=⟨by kernel_rfl,by kernel_rfl,⟨.agg #[.int .i64 0,.bool false,.bool false,.bool false,.int .u8 0,.int .u16 0,.int .i64 0,.int .u16 0,.int .u64 0,.int .i64 0,.int .u16 0,.int .u64 0,.int .u32 0,.int .u8 0,.slice none 0 0,.slice none 0 0],by kernel_rfl,by kernel_rfl,by kernel_rfl,by kernel_rfl,⟨fun _=>rfl,fun _=>⟨_,rfl⟩⟩⟩⟩
theorem tcmp32:Tryz.prog.stoodInHeld 32=false∧Tryz.prog.eqGuardType Tryz.prog.depth 32=false∧∀ fs,Tryz.prog.underlying 32=some (.struct fs)→(fs.toList.all fun f=>f.name != "_")=true:=⟨by kernel_rfl,by kernel_rfl,fun fs h=>by rw [Tryz.underlying32] at h;first | (injection h with h;injection h with h;subst h;rfl) | cases h⟩
theorem tok33:TOk Tryz.prog 33 ⟨.slice 136,1,24,.nil⟩:=⟨by kernel_rfl,by kernel_rfl,⟨.slice none 0 0,by kernel_rfl,by kernel_rfl,by kernel_rfl,by kernel_rfl,⟨fun h=>(by obtain ⟨_,h⟩:=h;cases h),fun h=>(by cases h)⟩⟩⟩
theorem tok34:TOk Tryz.prog 34 ⟨.slice 196,1,24,.nil⟩:=⟨by kernel_rfl,by kernel_rfl,⟨.slice none 0 0,by kernel_rfl,by kernel_rfl,by kernel_rfl,by kernel_rfl,⟨fun h=>(by obtain ⟨_,h⟩:=h;cases h),fun h=>(by cases h)⟩⟩⟩
theorem tok36:TOk Tryz.prog 36 ⟨.struct [(0,33),(1,29),(2,29),(3,29),(4,34)],5,64,.agg [.nil,.int .u32 0,.int .u32 0,.int .u32 0,.nil]⟩:=⟨by kernel_rfl,by kernel_rfl,⟨.agg #[.slice none 0 0,.int .u32 0,.int .u32 0,.int .u32 0,.slice none 0 0],by kernel_rfl,by kernel_rfl,by kernel_rfl,by kernel_rfl,⟨fun _=>rfl,fun _=>⟨_,rfl⟩⟩⟩⟩
theorem tcmp36:Tryz.prog.stoodInHeld 36=false∧Tryz.prog.eqGuardType Tryz.prog.depth 36=false∧∀ fs,Tryz.prog.underlying 36=some (.struct fs)→(fs.toList.all fun f=>f.name != "_")=true:=⟨by kernel_rfl,by kernel_rfl,fun fs h=>by rw [Tryz.underlying36] at h;first | (injection h with h;injection h with h;subst h;rfl) | cases h⟩
theorem tok39:TOk Tryz.prog 39 ⟨.slice 30,1,24,.nil⟩:=⟨by kernel_rfl,by kernel_rfl,⟨.slice none 0 0,by kernel_rfl,by kernel_rfl,by kernel_rfl,by kernel_rfl,⟨fun h=>(by obtain ⟨_,h⟩:=h;cases h),fun h=>(by cases h)⟩⟩⟩
theorem tok45:TOk Tryz.prog 45 ⟨.int .i64,1,8,.int .i64 0⟩:=⟨by kernel_rfl,by kernel_rfl,⟨.int .i64 0,by kernel_rfl,by kernel_rfl,by kernel_rfl,by kernel_rfl,⟨fun h=>(by obtain ⟨_,h⟩:=h;cases h),fun h=>(by cases h)⟩⟩⟩
theorem tok54:TOk Tryz.prog 54 ⟨.array 16 5,16,16,.agg [.int .u8 0,.int .u8 0,.int .u8 0,.int .u8 0,.int .u8 0,.int .u8 0,.int .u8 0,.int .u8 0,.int .u8 0,.int .u8 0,.int .u8 0,.int .u8 0,.int .u8 0,.int .u8 0,.int .u8 0,.int .u8 0]⟩:=⟨by kernel_rfl,by kernel_rfl,⟨.agg #[.int .u8 0,.int .u8 0,.int .u8 0,.int .u8 0,.int .u8 0,.int .u8 0,.int .u8 0,.int .u8 0,.int .u8 0,.int .u8 0,.int .u8 0,.int .u8 0,.int .u8 0,.int .u8 0,.int .u8 0,.int .u8 0],by kernel_rfl,by kernel_rfl,by kernel_rfl,by kernel_rfl,⟨fun _=>rfl,fun _=>⟨_,rfl⟩⟩⟩⟩
theorem tcmp54:Tryz.prog.stoodInHeld 54=false∧Tryz.prog.eqGuardType Tryz.prog.depth 54=false∧∀ fs,Tryz.prog.underlying 54=some (.struct fs)→(fs.toList.all fun f=>f.name != "_")=true:=⟨by kernel_rfl,by kernel_rfl,fun fs h=>by rw [Tryz.underlying54] at h;first | (injection h with h;injection h with h;subst h;rfl) | cases h⟩
theorem tok64:TOk Tryz.prog 64 ⟨.slice 22,1,24,.nil⟩:=⟨by kernel_rfl,by kernel_rfl,⟨.slice none 0 0,by kernel_rfl,by kernel_rfl,by kernel_rfl,by kernel_rfl,⟨fun h=>(by obtain ⟨_,h⟩:=h;cases h),fun h=>(by cases h)⟩⟩⟩
theorem tok67:TOk Tryz.prog 67 ⟨.slice 78,1,24,.nil⟩:=⟨by kernel_rfl,by kernel_rfl,⟨.slice none 0 0,by kernel_rfl,by kernel_rfl,by kernel_rfl,by kernel_rfl,⟨fun h=>(by obtain ⟨_,h⟩:=h;cases h),fun h=>(by cases h)⟩⟩⟩
theorem tok72:TOk Tryz.prog 72 ⟨.struct [(0,3),(1,30)],2,32,.agg [.int .i64 0,.nil]⟩:=⟨by kernel_rfl,by kernel_rfl,⟨.agg #[.int .i64 0,.slice none 0 0],by kernel_rfl,by kernel_rfl,by kernel_rfl,by kernel_rfl,⟨fun _=>rfl,fun _=>⟨_,rfl⟩⟩⟩⟩
theorem tcmp72:Tryz.prog.stoodInHeld 72=false∧Tryz.prog.eqGuardType Tryz.prog.depth 72=false∧∀ fs,Tryz.prog.underlying 72=some (.struct fs)→(fs.toList.all fun f=>f.name != "_")=true:=⟨by kernel_rfl,by kernel_rfl,fun fs h=>by rw [Tryz.underlying72] at h;first | (injection h with h;injection h with h;subst h;rfl) | cases h⟩
theorem tok73:TOk Tryz.prog 73 ⟨.slice 72,1,24,.nil⟩:=⟨by kernel_rfl,by kernel_rfl,⟨.slice none 0 0,by kernel_rfl,by kernel_rfl,by kernel_rfl,by kernel_rfl,⟨fun h=>(by obtain ⟨_,h⟩:=h;cases h),fun h=>(by cases h)⟩⟩⟩
theorem tok78:TOk Tryz.prog 78 ⟨.struct [(0,3),(1,3),(2,30)],3,40,.agg [.int .i64 0,.int .i64 0,.nil]⟩:=⟨by kernel_rfl,by kernel_rfl,⟨.agg #[.int .i64 0,.int .i64 0,.slice none 0 0],by kernel_rfl,by kernel_rfl,by kernel_rfl,by kernel_rfl,⟨fun _=>rfl,fun _=>⟨_,rfl⟩⟩⟩⟩
theorem tcmp78:Tryz.prog.stoodInHeld 78=false∧Tryz.prog.eqGuardType Tryz.prog.depth 78=false∧∀ fs,Tryz.prog.underlying 78=some (.struct fs)→(fs.toList.all fun f=>f.name != "_")=true:=⟨by kernel_rfl,by kernel_rfl,fun fs h=>by rw [Tryz.underlying78] at h;first | (injection h with h;injection h with h;subst h;rfl) | cases h⟩
theorem tok82:TOk Tryz.prog 82 ⟨.array 16 5,16,16,.agg [.int .u8 0,.int .u8 0,.int .u8 0,.int .u8 0,.int .u8 0,.int .u8 0,.int .u8 0,.int .u8 0,.int .u8 0,.int .u8 0,.int .u8 0,.int .u8 0,.int .u8 0,.int .u8 0,.int .u8 0,.int .u8 0]⟩:=⟨by kernel_rfl,by kernel_rfl,⟨.agg #[.int .u8 0,.int .u8 0,.int .u8 0,.int .u8 0,.int .u8 0,.int .u8 0,.int .u8 0,.int .u8 0,.int .u8 0,.int .u8 0,.int .u8 0,.int .u8 0,.int .u8 0,.int .u8 0,.int .u8 0,.int .u8 0],by kernel_rfl,by kernel_rfl,by kernel_rfl,by kernel_rfl,⟨fun _=>rfl,fun _=>⟨_,rfl⟩⟩⟩⟩
theorem tcmp82:Tryz.prog.stoodInHeld 82=false∧Tryz.prog.eqGuardType Tryz.prog.depth 82=false∧∀ fs,Tryz.prog.underlying 82=some (.struct fs)→(fs.toList.all fun f=>f.name != "_")=true:=⟨by kernel_rfl,by kernel_rfl,fun fs h=>by rw [Tryz.underlying82] at h;first | (injection h with h;injection h with h;subst h;rfl) | cases h⟩
theorem tok84:TOk Tryz.prog 84 ⟨.struct [(0,5),(1,29),(2,5),(3,5),(4,82),(20,82),(36,23),(37,23),(38,30)],39,72,.agg [.int .u8 0,.int .u32 0,.int .u8 0,.int .u8 0,.int .u8 0,.int .u8 0,.int .u8 0,.int .u8 0,.int .u8 0,.int .u8 0,.int .u8 0,.int .u8 0,.int .u8 0,.int .u8 0,.int .u8 0,.int .u8 0,.int .u8 0,.int .u8 0,.int .u8 0,.int .u8 0,.int .u8 0,.int .u8 0,.int .u8 0,.int .u8 0,.int .u8 0,.int .u8 0,.int .u8 0,.int .u8 0,.int .u8 0,.int .u8 0,.int .u8 0,.int .u8 0,.int .u8 0,.int .u8 0,.int .u8 0,.int .u8 0,.int .u16 0,.int .u16 0,.nil]⟩:=⟨by kernel_rfl,by kernel_rfl,⟨.agg #[.int .u8 0,.int .u32 0,.int .u8 0,.int .u8 0,.int .u8 0,.int .u8 0,.int .u8 0,.int .u8 0,.int .u8 0,.int .u8 0,.int .u8 0,.int .u8 0,.int .u8 0,.int .u8 0,.int .u8 0,.int .u8 0,.int .u8 0,.int .u8 0,.int .u8 0,.int .u8 0,.int .u8 0,.int .u8 0,.int .u8 0,.int .u8 0,.int .u8 0,.int .u8 0,.int .u8 0,.int .u8 0,.int .u8 0,.int .u8 0,.int .u8 0,.int .u8 0,.int .u8 0,.int .u8 0,.int .u8 0,.int .u8 0,.int .u16 0,.int .u16 0,.slice none 0 0],by kernel_rfl,by kernel_rfl,by kernel_rfl,by kernel_rfl,⟨fun _=>rfl,fun _=>⟨_,rfl⟩⟩⟩⟩
theorem tcmp84:Tryz.prog.stoodInHeld 84=false∧Tryz.prog.eqGuardType Tryz.prog.depth 84=false∧∀ fs,Tryz.prog.underlying 84=some (.struct fs)→(fs.toList.all fun f=>f.name != "_")=true:=⟨by kernel_rfl,by kernel_rfl,fun fs h=>by rw [Tryz.underlying84] at h;first | (injection h with h;injection h with h;subst h;rfl) | cases h⟩
theorem tok88:TOk Tryz.prog 88 ⟨.struct [(0,3),(1,5),(2,39),(3,29),(4,3),(5,3)],6,64,.agg [.int .i64 0,.int .u8 0,.nil,.int .u32 0,.int .i64 0,.int .i64 0]⟩:=⟨by kernel_rfl,by kernel_rfl,⟨.agg #[.int .i64 0,.int .u8 0,.slice none 0 0,.int .u32 0,.int .i64 0,.int .i64 0],by kernel_rfl,by kernel_rfl,by kernel_rfl,by kernel_rfl,⟨fun _=>rfl,fun _=>⟨_,rfl⟩⟩⟩⟩
theorem tcmp88:Tryz.prog.stoodInHeld 88=false∧Tryz.prog.eqGuardType Tryz.prog.depth 88=false∧∀ fs,Tryz.prog.underlying 88=some (.struct fs)→(fs.toList.all fun f=>f.name != "_")=true:=⟨by kernel_rfl,by kernel_rfl,fun fs h=>by rw [Tryz.underlying88] at h;first | (injection h with h;injection h with h;subst h;rfl) | cases h⟩
theorem tok92:TOk Tryz.prog 92 ⟨.struct [(0,5),(1,3),(2,39),(3,29),(4,4)],5,48,.agg [.int .u8 0,.int .i64 0,.nil,.int .u32 0,.bool false]⟩:=⟨by kernel_rfl,by kernel_rfl,⟨.agg #[.int .u8 0,.int .i64 0,.slice none 0 0,.int .u32 0,.bool false],by kernel_rfl,by kernel_rfl,by kernel_rfl,by kernel_rfl,⟨fun _=>rfl,fun _=>⟨_,rfl⟩⟩⟩⟩
theorem tcmp92:Tryz.prog.stoodInHeld 92=false∧Tryz.prog.eqGuardType Tryz.prog.depth 92=false∧∀ fs,Tryz.prog.underlying 92=some (.struct fs)→(fs.toList.all fun f=>f.name != "_")=true:=⟨by kernel_rfl,by kernel_rfl,fun fs h=>by rw [Tryz.underlying92] at h;first | (injection h with h;injection h with h;subst h;rfl) | cases h⟩
theorem tok93:TOk Tryz.prog 93 ⟨.slice 98,1,24,.nil⟩:=⟨by kernel_rfl,by kernel_rfl,⟨.slice none 0 0,by kernel_rfl,by kernel_rfl,by kernel_rfl,by kernel_rfl,⟨fun h=>(by obtain ⟨_,h⟩:=h;cases h),fun h=>(by cases h)⟩⟩⟩
theorem tok98:TOk Tryz.prog 98 ⟨.struct [(0,5),(1,3),(2,3),(3,4),(4,30)],5,56,.agg [.int .u8 0,.int .i64 0,.int .i64 0,.bool false,.nil]⟩:=⟨by kernel_rfl,by kernel_rfl,⟨.agg #[.int .u8 0,.int .i64 0,.int .i64 0,.bool false,.slice none 0 0],by kernel_rfl,by kernel_rfl,by kernel_rfl,by kernel_rfl,⟨fun _=>rfl,fun _=>⟨_,rfl⟩⟩⟩⟩
theorem tcmp98:Tryz.prog.stoodInHeld 98=false∧Tryz.prog.eqGuardType Tryz.prog.depth 98=false∧∀ fs,Tryz.prog.underlying 98=some (.struct fs)→(fs.toList.all fun f=>f.name != "_")=true:=⟨by kernel_rfl,by kernel_rfl,fun fs h=>by rw [Tryz.underlying98] at h;first | (injection h with h;injection h with h;subst h;rfl) | cases h⟩
theorem tok136:TOk Tryz.prog 136 ⟨.struct [(0,5),(1,54)],17,17,.agg [.int .u8 0,.int .u8 0,.int .u8 0,.int .u8 0,.int .u8 0,.int .u8 0,.int .u8 0,.int .u8 0,.int .u8 0,.int .u8 0,.int .u8 0,.int .u8 0,.int .u8 0,.int .u8 0,.int .u8 0,.int .u8 0,.int .u8 0]⟩:=⟨by kernel_rfl,by kernel_rfl,⟨.agg #[.int .u8 0,.int .u8 0,.int .u8 0,.int .u8 0,.int .u8 0,.int .u8 0,.int .u8 0,.int .u8 0,.int .u8 0,.int .u8 0,.int .u8 0,.int .u8 0,.int .u8 0,.int .u8 0,.int .u8 0,.int .u8 0,.int .u8 0],by kernel_rfl,by kernel_rfl,by kernel_rfl,by kernel_rfl,⟨fun _=>rfl,fun _=>⟨_,rfl⟩⟩⟩⟩
theorem tcmp136:Tryz.prog.stoodInHeld 136=false∧Tryz.prog.eqGuardType Tryz.prog.depth 136=false∧∀ fs,Tryz.prog.underlying 136=some (.struct fs)→(fs.toList.all fun f=>f.name != "_")=true:=⟨by kernel_rfl,by kernel_rfl,fun fs h=>by rw [Tryz.underlying136] at h;first | (injection h with h;injection h with h;subst h;rfl) | cases h⟩
theorem tok144:TOk Tryz.prog 144 ⟨.struct [(0,22),(1,3)],2,32,.agg [.nil,.int .i64 0]⟩:=⟨by kernel_rfl,by kernel_rfl,⟨.agg #[.slice none 0 0,.int .i64 0],by kernel_rfl,by kernel_rfl,by kernel_rfl,by kernel_rfl,⟨fun _=>rfl,fun _=>⟨_,rfl⟩⟩⟩⟩
theorem tcmp144:Tryz.prog.stoodInHeld 144=false∧Tryz.prog.eqGuardType Tryz.prog.depth 144=false∧∀ fs,Tryz.prog.underlying 144=some (.struct fs)→(fs.toList.all fun f=>f.name != "_")=true:=⟨by kernel_rfl,by kernel_rfl,fun fs h=>by rw [Tryz.underlying144] at h;first | (injection h with h;injection h with h;subst h;rfl) | cases h⟩
theorem tok152:TOk Tryz.prog 152 ⟨.int .u64,1,8,.int .u64 0⟩:=⟨by kernel_rfl,by kernel_rfl,⟨.int .u64 0,by kernel_rfl,by kernel_rfl,by kernel_rfl,by kernel_rfl,⟨fun h=>(by obtain ⟨_,h⟩:=h;cases h),fun h=>(by cases h)⟩⟩⟩
theorem tok160:TOk Tryz.prog 160 ⟨.slice 241,1,24,.nil⟩:=⟨by kernel_rfl,by kernel_rfl,⟨.slice none 0 0,by kernel_rfl,by kernel_rfl,by kernel_rfl,by kernel_rfl,⟨fun h=>(by obtain ⟨_,h⟩:=h;cases h),fun h=>(by cases h)⟩⟩⟩
theorem tok196:TOk Tryz.prog 196 ⟨.struct [(0,28),(3,5),(4,29),(5,29)],6,40,.agg [.int .i64 0,.int .u16 0,.int .u64 0,.int .u8 0,.int .u32 0,.int .u32 0]⟩:=⟨by kernel_rfl,by kernel_rfl,⟨.agg #[.int .i64 0,.int .u16 0,.int .u64 0,.int .u8 0,.int .u32 0,.int .u32 0],by kernel_rfl,by kernel_rfl,by kernel_rfl,by kernel_rfl,⟨fun _=>rfl,fun _=>⟨_,rfl⟩⟩⟩⟩
theorem tcmp196:Tryz.prog.stoodInHeld 196=false∧Tryz.prog.eqGuardType Tryz.prog.depth 196=false∧∀ fs,Tryz.prog.underlying 196=some (.struct fs)→(fs.toList.all fun f=>f.name != "_")=true:=⟨by kernel_rfl,by kernel_rfl,fun fs h=>by rw [Tryz.underlying196] at h;first | (injection h with h;injection h with h;subst h;rfl) | cases h⟩
theorem tok202:TOk Tryz.prog 202 ⟨.struct [(0,30),(1,4)],2,32,.agg [.nil,.bool false]⟩:=⟨by kernel_rfl,by kernel_rfl,⟨.agg #[.slice none 0 0,.bool false],by kernel_rfl,by kernel_rfl,by kernel_rfl,by kernel_rfl,⟨fun _=>rfl,fun _=>⟨_,rfl⟩⟩⟩⟩
theorem tcmp202:Tryz.prog.stoodInHeld 202=false∧Tryz.prog.eqGuardType Tryz.prog.depth 202=false∧∀ fs,Tryz.prog.underlying 202=some (.struct fs)→(fs.toList.all fun f=>f.name != "_")=true:=⟨by kernel_rfl,by kernel_rfl,fun fs h=>by rw [Tryz.underlying202] at h;first | (injection h with h;injection h with h;subst h;rfl) | cases h⟩
theorem tok204:TOk Tryz.prog 204 ⟨.array 2 28,6,48,.agg [.int .i64 0,.int .u16 0,.int .u64 0,.int .i64 0,.int .u16 0,.int .u64 0]⟩:=⟨by kernel_rfl,by kernel_rfl,⟨.agg #[.int .i64 0,.int .u16 0,.int .u64 0,.int .i64 0,.int .u16 0,.int .u64 0],by kernel_rfl,by kernel_rfl,by kernel_rfl,by kernel_rfl,⟨fun _=>rfl,fun _=>⟨_,rfl⟩⟩⟩⟩
theorem tcmp204:Tryz.prog.stoodInHeld 204=false∧Tryz.prog.eqGuardType Tryz.prog.depth 204=false∧∀ fs,Tryz.prog.underlying 204=some (.struct fs)→(fs.toList.all fun f=>f.name != "_")=true:=⟨by kernel_rfl,by kernel_rfl,fun fs h=>by rw [Tryz.underlying204] at h;first | (injection h with h;injection h with h;subst h;rfl) | cases h⟩
theorem tok213:TOk Tryz.prog 213 ⟨.slice 25,1,24,.nil⟩:=⟨by kernel_rfl,by kernel_rfl,⟨.slice none 0 0,by kernel_rfl,by kernel_rfl,by kernel_rfl,by kernel_rfl,⟨fun h=>(by obtain ⟨_,h⟩:=h;cases h),fun h=>(by cases h)⟩⟩⟩
theorem tok218:TOk Tryz.prog 218 ⟨.array 5 5,5,5,.agg [.int .u8 0,.int .u8 0,.int .u8 0,.int .u8 0,.int .u8 0]⟩:=⟨by kernel_rfl,by kernel_rfl,⟨.agg #[.int .u8 0,.int .u8 0,.int .u8 0,.int .u8 0,.int .u8 0],by kernel_rfl,by kernel_rfl,by kernel_rfl,by kernel_rfl,⟨fun _=>rfl,fun _=>⟨_,rfl⟩⟩⟩⟩
theorem tcmp218:Tryz.prog.stoodInHeld 218=false∧Tryz.prog.eqGuardType Tryz.prog.depth 218=false∧∀ fs,Tryz.prog.underlying 218=some (.struct fs)→(fs.toList.all fun f=>f.name != "_")=true:=⟨by kernel_rfl,by kernel_rfl,fun fs h=>by rw [Tryz.underlying218] at h;first | (injection h with h;injection h with h;subst h;rfl) | cases h⟩
theorem tok224:TOk Tryz.prog 224 ⟨.struct [(0,4),(1,3),(2,3),(3,30)],4,48,.agg [.bool false,.int .i64 0,.int .i64 0,.nil]⟩:=⟨by kernel_rfl,by kernel_rfl,⟨.agg #[.bool false,.int .i64 0,.int .i64 0,.slice none 0 0],by kernel_rfl,by kernel_rfl,by kernel_rfl,by kernel_rfl,⟨fun _=>rfl,fun _=>⟨_,rfl⟩⟩⟩⟩
theorem tcmp224:Tryz.prog.stoodInHeld 224=false∧Tryz.prog.eqGuardType Tryz.prog.depth 224=false∧∀ fs,Tryz.prog.underlying 224=some (.struct fs)→(fs.toList.all fun f=>f.name != "_")=true:=⟨by kernel_rfl,by kernel_rfl,fun fs h=>by rw [Tryz.underlying224] at h;first | (injection h with h;injection h with h;subst h;rfl) | cases h⟩
theorem tok231:TOk Tryz.prog 231 ⟨.other,1,8,.val (.pointer none)⟩:=⟨by kernel_rfl,by kernel_rfl,⟨.pointer none,by kernel_rfl,by kernel_rfl,by kernel_rfl,by kernel_rfl,⟨fun h=>(by obtain ⟨_,h⟩:=h;cases h),fun h=>(by cases h)⟩⟩⟩
theorem tok233:TOk Tryz.prog 233 ⟨.struct [(0,30),(1,3)],2,32,.agg [.nil,.int .i64 0]⟩:=⟨by kernel_rfl,by kernel_rfl,⟨.agg #[.slice none 0 0,.int .i64 0],by kernel_rfl,by kernel_rfl,by kernel_rfl,by kernel_rfl,⟨fun _=>rfl,fun _=>⟨_,rfl⟩⟩⟩⟩
theorem tcmp233:Tryz.prog.stoodInHeld 233=false∧Tryz.prog.eqGuardType Tryz.prog.depth 233=false∧∀ fs,Tryz.prog.underlying 233=some (.struct fs)→(fs.toList.all fun f=>f.name != "_")=true:=⟨by kernel_rfl,by kernel_rfl,fun fs h=>by rw [Tryz.underlying233] at h;first | (injection h with h;injection h with h;subst h;rfl) | cases h⟩
theorem tok239:TOk Tryz.prog 239 ⟨.struct [(0,82),(16,3)],17,24,.agg [.int .u8 0,.int .u8 0,.int .u8 0,.int .u8 0,.int .u8 0,.int .u8 0,.int .u8 0,.int .u8 0,.int .u8 0,.int .u8 0,.int .u8 0,.int .u8 0,.int .u8 0,.int .u8 0,.int .u8 0,.int .u8 0,.int .i64 0]⟩:=⟨by kernel_rfl,by kernel_rfl,⟨.agg #[.int .u8 0,.int .u8 0,.int .u8 0,.int .u8 0,.int .u8 0,.int .u8 0,.int .u8 0,.int .u8 0,.int .u8 0,.int .u8 0,.int .u8 0,.int .u8 0,.int .u8 0,.int .u8 0,.int .u8 0,.int .u8 0,.int .i64 0],by kernel_rfl,by kernel_rfl,by kernel_rfl,by kernel_rfl,⟨fun _=>rfl,fun _=>⟨_,rfl⟩⟩⟩⟩
theorem tcmp239:Tryz.prog.stoodInHeld 239=false∧Tryz.prog.eqGuardType Tryz.prog.depth 239=false∧∀ fs,Tryz.prog.underlying 239=some (.struct fs)→(fs.toList.all fun f=>f.name != "_")=true:=⟨by kernel_rfl,by kernel_rfl,fun fs h=>by rw [Tryz.underlying239] at h;first | (injection h with h;injection h with h;subst h;rfl) | cases h⟩
theorem tok241:TOk Tryz.prog 241 ⟨.struct [(0,3),(1,239),(18,4),(19,3)],20,48,.agg [.int .i64 0,.int .u8 0,.int .u8 0,.int .u8 0,.int .u8 0,.int .u8 0,.int .u8 0,.int .u8 0,.int .u8 0,.int .u8 0,.int .u8 0,.int .u8 0,.int .u8 0,.int .u8 0,.int .u8 0,.int .u8 0,.int .u8 0,.int .i64 0,.bool false,.int .i64 0]⟩:=⟨by kernel_rfl,by kernel_rfl,⟨.agg #[.int .i64 0,.int .u8 0,.int .u8 0,.int .u8 0,.int .u8 0,.int .u8 0,.int .u8 0,.int .u8 0,.int .u8 0,.int .u8 0,.int .u8 0,.int .u8 0,.int .u8 0,.int .u8 0,.int .u8 0,.int .u8 0,.int .u8 0,.int .i64 0,.bool false,.int .i64 0],by kernel_rfl,by kernel_rfl,by kernel_rfl,by kernel_rfl,⟨fun _=>rfl,fun _=>⟨_,rfl⟩⟩⟩⟩
theorem tcmp241:Tryz.prog.stoodInHeld 241=false∧Tryz.prog.eqGuardType Tryz.prog.depth 241=false∧∀ fs,Tryz.prog.underlying 241=some (.struct fs)→(fs.toList.all fun f=>f.name != "_")=true:=⟨by kernel_rfl,by kernel_rfl,fun fs h=>by rw [Tryz.underlying241] at h;first | (injection h with h;injection h with h;subst h;rfl) | cases h⟩
theorem tok248:TOk Tryz.prog 248 ⟨.array 2 3,2,16,.agg [.int .i64 0,.int .i64 0]⟩:=⟨by kernel_rfl,by kernel_rfl,⟨.agg #[.int .i64 0,.int .i64 0],by kernel_rfl,by kernel_rfl,by kernel_rfl,by kernel_rfl,⟨fun _=>rfl,fun _=>⟨_,rfl⟩⟩⟩⟩
theorem tcmp248:Tryz.prog.stoodInHeld 248=false∧Tryz.prog.eqGuardType Tryz.prog.depth 248=false∧∀ fs,Tryz.prog.underlying 248=some (.struct fs)→(fs.toList.all fun f=>f.name != "_")=true:=⟨by kernel_rfl,by kernel_rfl,fun fs h=>by rw [Tryz.underlying248] at h;first | (injection h with h;injection h with h;subst h;rfl) | cases h⟩
theorem tok249:TOk Tryz.prog 249 ⟨.array 3 248,6,48,.agg [.int .i64 0,.int .i64 0,.int .i64 0,.int .i64 0,.int .i64 0,.int .i64 0]⟩:=⟨by kernel_rfl,by kernel_rfl,⟨.agg #[.int .i64 0,.int .i64 0,.int .i64 0,.int .i64 0,.int .i64 0,.int .i64 0],by kernel_rfl,by kernel_rfl,by kernel_rfl,by kernel_rfl,⟨fun _=>rfl,fun _=>⟨_,rfl⟩⟩⟩⟩
theorem tcmp249:Tryz.prog.stoodInHeld 249=false∧Tryz.prog.eqGuardType Tryz.prog.depth 249=false∧∀ fs,Tryz.prog.underlying 249=some (.struct fs)→(fs.toList.all fun f=>f.name != "_")=true:=⟨by kernel_rfl,by kernel_rfl,fun fs h=>by rw [Tryz.underlying249] at h;first | (injection h with h;injection h with h;subst h;rfl) | cases h⟩
theorem tok250:TOk Tryz.prog 250 ⟨.array 3 25,3,24,.agg [.int .u64 0,.int .u64 0,.int .u64 0]⟩:=⟨by kernel_rfl,by kernel_rfl,⟨.agg #[.int .u64 0,.int .u64 0,.int .u64 0],by kernel_rfl,by kernel_rfl,by kernel_rfl,by kernel_rfl,⟨fun _=>rfl,fun _=>⟨_,rfl⟩⟩⟩⟩
theorem tcmp250:Tryz.prog.stoodInHeld 250=false∧Tryz.prog.eqGuardType Tryz.prog.depth 250=false∧∀ fs,Tryz.prog.underlying 250=some (.struct fs)→(fs.toList.all fun f=>f.name != "_")=true:=⟨by kernel_rfl,by kernel_rfl,fun fs h=>by rw [Tryz.underlying250] at h;first | (injection h with h;injection h with h;subst h;rfl) | cases h⟩
theorem tok285:TOk Tryz.prog 285 ⟨.array 2 5,2,2,.agg [.int .u8 0,.int .u8 0]⟩:=⟨by kernel_rfl,by kernel_rfl,⟨.agg #[.int .u8 0,.int .u8 0],by kernel_rfl,by kernel_rfl,by kernel_rfl,by kernel_rfl,⟨fun _=>rfl,fun _=>⟨_,rfl⟩⟩⟩⟩
theorem tcmp285:Tryz.prog.stoodInHeld 285=false∧Tryz.prog.eqGuardType Tryz.prog.depth 285=false∧∀ fs,Tryz.prog.underlying 285=some (.struct fs)→(fs.toList.all fun f=>f.name != "_")=true:=⟨by kernel_rfl,by kernel_rfl,fun fs h=>by rw [Tryz.underlying285] at h;first | (injection h with h;injection h with h;subst h;rfl) | cases h⟩
theorem tok290:TOk Tryz.prog 290 ⟨.array 4 25,4,32,.agg [.int .u64 0,.int .u64 0,.int .u64 0,.int .u64 0]⟩:=⟨by kernel_rfl,by kernel_rfl,⟨.agg #[.int .u64 0,.int .u64 0,.int .u64 0,.int .u64 0],by kernel_rfl,by kernel_rfl,by kernel_rfl,by kernel_rfl,⟨fun _=>rfl,fun _=>⟨_,rfl⟩⟩⟩⟩
theorem tcmp290:Tryz.prog.stoodInHeld 290=false∧Tryz.prog.eqGuardType Tryz.prog.depth 290=false∧∀ fs,Tryz.prog.underlying 290=some (.struct fs)→(fs.toList.all fun f=>f.name != "_")=true:=⟨by kernel_rfl,by kernel_rfl,fun fs h=>by rw [Tryz.underlying290] at h;first | (injection h with h;injection h with h;subst h;rfl) | cases h⟩
theorem tok293:TOk Tryz.prog 293 ⟨.array 4 3,4,32,.agg [.int .i64 0,.int .i64 0,.int .i64 0,.int .i64 0]⟩:=⟨by kernel_rfl,by kernel_rfl,⟨.agg #[.int .i64 0,.int .i64 0,.int .i64 0,.int .i64 0],by kernel_rfl,by kernel_rfl,by kernel_rfl,by kernel_rfl,⟨fun _=>rfl,fun _=>⟨_,rfl⟩⟩⟩⟩
theorem tcmp293:Tryz.prog.stoodInHeld 293=false∧Tryz.prog.eqGuardType Tryz.prog.depth 293=false∧∀ fs,Tryz.prog.underlying 293=some (.struct fs)→(fs.toList.all fun f=>f.name != "_")=true:=⟨by kernel_rfl,by kernel_rfl,fun fs h=>by rw [Tryz.underlying293] at h;first | (injection h with h;injection h with h;subst h;rfl) | cases h⟩
theorem tok294:TOk Tryz.prog 294 ⟨.slice 296,1,24,.nil⟩:=⟨by kernel_rfl,by kernel_rfl,⟨.slice none 0 0,by kernel_rfl,by kernel_rfl,by kernel_rfl,by kernel_rfl,⟨fun h=>(by obtain ⟨_,h⟩:=h;cases h),fun h=>(by cases h)⟩⟩⟩
theorem tok296:TOk Tryz.prog 296 ⟨.struct [(0,25),(1,3)],2,16,.agg [.int .u64 0,.int .i64 0]⟩:=⟨by kernel_rfl,by kernel_rfl,⟨.agg #[.int .u64 0,.int .i64 0],by kernel_rfl,by kernel_rfl,by kernel_rfl,by kernel_rfl,⟨fun _=>rfl,fun _=>⟨_,rfl⟩⟩⟩⟩
theorem tcmp296:Tryz.prog.stoodInHeld 296=false∧Tryz.prog.eqGuardType Tryz.prog.depth 296=false∧∀ fs,Tryz.prog.underlying 296=some (.struct fs)→(fs.toList.all fun f=>f.name != "_")=true:=⟨by kernel_rfl,by kernel_rfl,fun fs h=>by rw [Tryz.underlying296] at h;first | (injection h with h;injection h with h;subst h;rfl) | cases h⟩
theorem tok299:TOk Tryz.prog 299 ⟨.array 4 25,4,32,.agg [.int .u64 0,.int .u64 0,.int .u64 0,.int .u64 0]⟩:=⟨by kernel_rfl,by kernel_rfl,⟨.agg #[.int .u64 0,.int .u64 0,.int .u64 0,.int .u64 0],by kernel_rfl,by kernel_rfl,by kernel_rfl,by kernel_rfl,⟨fun _=>rfl,fun _=>⟨_,rfl⟩⟩⟩⟩
theorem tcmp299:Tryz.prog.stoodInHeld 299=false∧Tryz.prog.eqGuardType Tryz.prog.depth 299=false∧∀ fs,Tryz.prog.underlying 299=some (.struct fs)→(fs.toList.all fun f=>f.name != "_")=true:=⟨by kernel_rfl,by kernel_rfl,fun fs h=>by rw [Tryz.underlying299] at h;first | (injection h with h;injection h with h;subst h;rfl) | cases h⟩
theorem tfit28:∀ fs,TK.struct [(0,3),(1,24),(2,26)]=.struct fs→∀ off ft j,(off,ft)∈fs→tinfo ft=some j→off+j.size≤3:=by
 intro fs hk off ft j hm hj
 injection hk with hk
 subst hk
 simp only [List.mem_cons,List.not_mem_nil,or_false,Prod.mk.injEq] at hm
 rcases hm with ⟨rfl,rfl⟩ | ⟨rfl,rfl⟩ | ⟨rfl,rfl⟩
 ·rw [tl3] at hj;injection hj with hj;subst hj;decide
 ·rw [tl24] at hj;injection hj with hj;subst hj;decide
 ·rw [tl26] at hj;injection hj with hj;subst hj;decide
theorem tcl28:∀ fs,TK.struct [(0,3),(1,24),(2,26)]=.struct fs→∀ q∈fs,∃ j,tinfo q.2=some j:=by
 intro fs hk q hq
 injection hk with hk
 subst hk
 simp only [List.mem_cons,List.not_mem_nil,or_false] at hq
 rcases hq with rfl | rfl | rfl
 ·exact ⟨_,tl3⟩
 ·exact ⟨_,tl24⟩
 ·exact ⟨_,tl26⟩
theorem tfit32:∀ fs,TK.struct [(0,3),(1,4),(2,4),(3,4),(4,5),(5,23),(6,28),(9,28),(12,29),(13,5),(14,30),(15,30)]=.struct fs→∀ off ft j,(off,ft)∈fs→tinfo ft=some j→off+j.size≤16:=by
 intro fs hk off ft j hm hj
 injection hk with hk
 subst hk
 simp only [List.mem_cons,List.not_mem_nil,or_false,Prod.mk.injEq] at hm
 rcases hm with ⟨rfl,rfl⟩ | ⟨rfl,rfl⟩ | ⟨rfl,rfl⟩ | ⟨rfl,rfl⟩ | ⟨rfl,rfl⟩ | ⟨rfl,rfl⟩ | ⟨rfl,rfl⟩ | ⟨rfl,rfl⟩ | ⟨rfl,rfl⟩ | ⟨rfl,rfl⟩ | ⟨rfl,rfl⟩ | ⟨rfl,rfl⟩
 ·rw [tl3] at hj;injection hj with hj;subst hj;decide
 ·rw [tl4] at hj;injection hj with hj;subst hj;decide
 ·rw [tl4] at hj;injection hj with hj;subst hj;decide
 ·rw [tl4] at hj;injection hj with hj;subst hj;decide
 ·rw [tl5] at hj;injection hj with hj;subst hj;decide
 ·rw [tl23] at hj;injection hj with hj;subst hj;decide
 ·rw [tl28] at hj;injection hj with hj;subst hj;decide
 ·rw [tl28] at hj;injection hj with hj;subst hj;decide
 ·rw [tl29] at hj;injection hj with hj;subst hj;decide
 ·rw [tl5] at hj;injection hj with hj;subst hj;decide
 ·rw [tl30] at hj;injection hj with hj;subst hj;decide
 ·rw [tl30] at hj;injection hj with hj;subst hj;decide
theorem tcl32:∀ fs,TK.struct [(0,3),(1,4),(2,4),(3,4),(4,5),(5,23),(6,28),(9,28),(12,29),(13,5),(14,30),(15,30)]=.struct fs→∀ q∈fs,∃ j,tinfo q.2=some j:=by
 intro fs hk q hq
 injection hk with hk
 subst hk
 simp only [List.mem_cons,List.not_mem_nil,or_false] at hq
 rcases hq with rfl | rfl | rfl | rfl | rfl | rfl | rfl | rfl | rfl | rfl | rfl | rfl
 ·exact ⟨_,tl3⟩
 ·exact ⟨_,tl4⟩
 ·exact ⟨_,tl4⟩
 ·exact ⟨_,tl4⟩
 ·exact ⟨_,tl5⟩
 ·exact ⟨_,tl23⟩
 ·exact ⟨_,tl28⟩
 ·exact ⟨_,tl28⟩
 ·exact ⟨_,tl29⟩
 ·exact ⟨_,tl5⟩
 ·exact ⟨_,tl30⟩
 ·exact ⟨_,tl30⟩
theorem tfit36:∀ fs,TK.struct [(0,33),(1,29),(2,29),(3,29),(4,34)]=.struct fs→∀ off ft j,(off,ft)∈fs→tinfo ft=some j→off+j.size≤5:=by
 intro fs hk off ft j hm hj
 injection hk with hk
 subst hk
 simp only [List.mem_cons,List.not_mem_nil,or_false,Prod.mk.injEq] at hm
 rcases hm with ⟨rfl,rfl⟩ | ⟨rfl,rfl⟩ | ⟨rfl,rfl⟩ | ⟨rfl,rfl⟩ | ⟨rfl,rfl⟩
 ·rw [tl33] at hj;injection hj with hj;subst hj;decide
 ·rw [tl29] at hj;injection hj with hj;subst hj;decide
 ·rw [tl29] at hj;injection hj with hj;subst hj;decide
 ·rw [tl29] at hj;injection hj with hj;subst hj;decide
 ·rw [tl34] at hj;injection hj with hj;subst hj;decide
theorem tcl36:∀ fs,TK.struct [(0,33),(1,29),(2,29),(3,29),(4,34)]=.struct fs→∀ q∈fs,∃ j,tinfo q.2=some j:=by
 intro fs hk q hq
 injection hk with hk
 subst hk
 simp only [List.mem_cons,List.not_mem_nil,or_false] at hq
 rcases hq with rfl | rfl | rfl | rfl | rfl
 ·exact ⟨_,tl33⟩
 ·exact ⟨_,tl29⟩
 ·exact ⟨_,tl29⟩
 ·exact ⟨_,tl29⟩
 ·exact ⟨_,tl34⟩
theorem tfit72:∀ fs,TK.struct [(0,3),(1,30)]=.struct fs→∀ off ft j,(off,ft)∈fs→tinfo ft=some j→off+j.size≤2:=by
 intro fs hk off ft j hm hj
 injection hk with hk
 subst hk
 simp only [List.mem_cons,List.not_mem_nil,or_false,Prod.mk.injEq] at hm
 rcases hm with ⟨rfl,rfl⟩ | ⟨rfl,rfl⟩
 ·rw [tl3] at hj;injection hj with hj;subst hj;decide
 ·rw [tl30] at hj;injection hj with hj;subst hj;decide
theorem tcl72:∀ fs,TK.struct [(0,3),(1,30)]=.struct fs→∀ q∈fs,∃ j,tinfo q.2=some j:=by
 intro fs hk q hq
 injection hk with hk
 subst hk
 simp only [List.mem_cons,List.not_mem_nil,or_false] at hq
 rcases hq with rfl | rfl
 ·exact ⟨_,tl3⟩
 ·exact ⟨_,tl30⟩
theorem tfit78:∀ fs,TK.struct [(0,3),(1,3),(2,30)]=.struct fs→∀ off ft j,(off,ft)∈fs→tinfo ft=some j→off+j.size≤3:=by
 intro fs hk off ft j hm hj
 injection hk with hk
 subst hk
 simp only [List.mem_cons,List.not_mem_nil,or_false,Prod.mk.injEq] at hm
 rcases hm with ⟨rfl,rfl⟩ | ⟨rfl,rfl⟩ | ⟨rfl,rfl⟩
 ·rw [tl3] at hj;injection hj with hj;subst hj;decide
 ·rw [tl3] at hj;injection hj with hj;subst hj;decide
 ·rw [tl30] at hj;injection hj with hj;subst hj;decide
theorem tcl78:∀ fs,TK.struct [(0,3),(1,3),(2,30)]=.struct fs→∀ q∈fs,∃ j,tinfo q.2=some j:=by
 intro fs hk q hq
 injection hk with hk
 subst hk
 simp only [List.mem_cons,List.not_mem_nil,or_false] at hq
 rcases hq with rfl | rfl | rfl
 ·exact ⟨_,tl3⟩
 ·exact ⟨_,tl3⟩
 ·exact ⟨_,tl30⟩
theorem tfit84:∀ fs,TK.struct [(0,5),(1,29),(2,5),(3,5),(4,82),(20,82),(36,23),(37,23),(38,30)]=.struct fs→∀ off ft j,(off,ft)∈fs→tinfo ft=some j→off+j.size≤39:=by
 intro fs hk off ft j hm hj
 injection hk with hk
 subst hk
 simp only [List.mem_cons,List.not_mem_nil,or_false,Prod.mk.injEq] at hm
 rcases hm with ⟨rfl,rfl⟩ | ⟨rfl,rfl⟩ | ⟨rfl,rfl⟩ | ⟨rfl,rfl⟩ | ⟨rfl,rfl⟩ | ⟨rfl,rfl⟩ | ⟨rfl,rfl⟩ | ⟨rfl,rfl⟩ | ⟨rfl,rfl⟩
 ·rw [tl5] at hj;injection hj with hj;subst hj;decide
 ·rw [tl29] at hj;injection hj with hj;subst hj;decide
 ·rw [tl5] at hj;injection hj with hj;subst hj;decide
 ·rw [tl5] at hj;injection hj with hj;subst hj;decide
 ·rw [tl82] at hj;injection hj with hj;subst hj;decide
 ·rw [tl82] at hj;injection hj with hj;subst hj;decide
 ·rw [tl23] at hj;injection hj with hj;subst hj;decide
 ·rw [tl23] at hj;injection hj with hj;subst hj;decide
 ·rw [tl30] at hj;injection hj with hj;subst hj;decide
theorem tcl84:∀ fs,TK.struct [(0,5),(1,29),(2,5),(3,5),(4,82),(20,82),(36,23),(37,23),(38,30)]=.struct fs→∀ q∈fs,∃ j,tinfo q.2=some j:=by
 intro fs hk q hq
 injection hk with hk
 subst hk
 simp only [List.mem_cons,List.not_mem_nil,or_false] at hq
 rcases hq with rfl | rfl | rfl | rfl | rfl | rfl | rfl | rfl | rfl
 ·exact ⟨_,tl5⟩
 ·exact ⟨_,tl29⟩
 ·exact ⟨_,tl5⟩
 ·exact ⟨_,tl5⟩
 ·exact ⟨_,tl82⟩
 ·exact ⟨_,tl82⟩
 ·exact ⟨_,tl23⟩
 ·exact ⟨_,tl23⟩
 ·exact ⟨_,tl30⟩
theorem tfit88:∀ fs,TK.struct [(0,3),(1,5),(2,39),(3,29),(4,3),(5,3)]=.struct fs→∀ off ft j,(off,ft)∈fs→tinfo ft=some j→off+j.size≤6:=by
 intro fs hk off ft j hm hj
 injection hk with hk
 subst hk
 simp only [List.mem_cons,List.not_mem_nil,or_false,Prod.mk.injEq] at hm
 rcases hm with ⟨rfl,rfl⟩ | ⟨rfl,rfl⟩ | ⟨rfl,rfl⟩ | ⟨rfl,rfl⟩ | ⟨rfl,rfl⟩ | ⟨rfl,rfl⟩
 ·rw [tl3] at hj;injection hj with hj;subst hj;decide
 ·rw [tl5] at hj;injection hj with hj;subst hj;decide
 ·rw [tl39] at hj;injection hj with hj;subst hj;decide
 ·rw [tl29] at hj;injection hj with hj;subst hj;decide
 ·rw [tl3] at hj;injection hj with hj;subst hj;decide
 ·rw [tl3] at hj;injection hj with hj;subst hj;decide
theorem tcl88:∀ fs,TK.struct [(0,3),(1,5),(2,39),(3,29),(4,3),(5,3)]=.struct fs→∀ q∈fs,∃ j,tinfo q.2=some j:=by
 intro fs hk q hq
 injection hk with hk
 subst hk
 simp only [List.mem_cons,List.not_mem_nil,or_false] at hq
 rcases hq with rfl | rfl | rfl | rfl | rfl | rfl
 ·exact ⟨_,tl3⟩
 ·exact ⟨_,tl5⟩
 ·exact ⟨_,tl39⟩
 ·exact ⟨_,tl29⟩
 ·exact ⟨_,tl3⟩
 ·exact ⟨_,tl3⟩
theorem tfit92:∀ fs,TK.struct [(0,5),(1,3),(2,39),(3,29),(4,4)]=.struct fs→∀ off ft j,(off,ft)∈fs→tinfo ft=some j→off+j.size≤5:=by
 intro fs hk off ft j hm hj
 injection hk with hk
 subst hk
 simp only [List.mem_cons,List.not_mem_nil,or_false,Prod.mk.injEq] at hm
 rcases hm with ⟨rfl,rfl⟩ | ⟨rfl,rfl⟩ | ⟨rfl,rfl⟩ | ⟨rfl,rfl⟩ | ⟨rfl,rfl⟩
 ·rw [tl5] at hj;injection hj with hj;subst hj;decide
 ·rw [tl3] at hj;injection hj with hj;subst hj;decide
 ·rw [tl39] at hj;injection hj with hj;subst hj;decide
 ·rw [tl29] at hj;injection hj with hj;subst hj;decide
 ·rw [tl4] at hj;injection hj with hj;subst hj;decide
theorem tcl92:∀ fs,TK.struct [(0,5),(1,3),(2,39),(3,29),(4,4)]=.struct fs→∀ q∈fs,∃ j,tinfo q.2=some j:=by
 intro fs hk q hq
 injection hk with hk
 subst hk
 simp only [List.mem_cons,List.not_mem_nil,or_false] at hq
 rcases hq with rfl | rfl | rfl | rfl | rfl
 ·exact ⟨_,tl5⟩
 ·exact ⟨_,tl3⟩
 ·exact ⟨_,tl39⟩
 ·exact ⟨_,tl29⟩
 ·exact ⟨_,tl4⟩
theorem tfit98:∀ fs,TK.struct [(0,5),(1,3),(2,3),(3,4),(4,30)]=.struct fs→∀ off ft j,(off,ft)∈fs→tinfo ft=some j→off+j.size≤5:=by
 intro fs hk off ft j hm hj
 injection hk with hk
 subst hk
 simp only [List.mem_cons,List.not_mem_nil,or_false,Prod.mk.injEq] at hm
 rcases hm with ⟨rfl,rfl⟩ | ⟨rfl,rfl⟩ | ⟨rfl,rfl⟩ | ⟨rfl,rfl⟩ | ⟨rfl,rfl⟩
 ·rw [tl5] at hj;injection hj with hj;subst hj;decide
 ·rw [tl3] at hj;injection hj with hj;subst hj;decide
 ·rw [tl3] at hj;injection hj with hj;subst hj;decide
 ·rw [tl4] at hj;injection hj with hj;subst hj;decide
 ·rw [tl30] at hj;injection hj with hj;subst hj;decide
theorem tcl98:∀ fs,TK.struct [(0,5),(1,3),(2,3),(3,4),(4,30)]=.struct fs→∀ q∈fs,∃ j,tinfo q.2=some j:=by
 intro fs hk q hq
 injection hk with hk
 subst hk
 simp only [List.mem_cons,List.not_mem_nil,or_false] at hq
 rcases hq with rfl | rfl | rfl | rfl | rfl
 ·exact ⟨_,tl5⟩
 ·exact ⟨_,tl3⟩
 ·exact ⟨_,tl3⟩
 ·exact ⟨_,tl4⟩
 ·exact ⟨_,tl30⟩
theorem tfit136:∀ fs,TK.struct [(0,5),(1,54)]=.struct fs→∀ off ft j,(off,ft)∈fs→tinfo ft=some j→off+j.size≤17:=by
 intro fs hk off ft j hm hj
 injection hk with hk
 subst hk
 simp only [List.mem_cons,List.not_mem_nil,or_false,Prod.mk.injEq] at hm
 rcases hm with ⟨rfl,rfl⟩ | ⟨rfl,rfl⟩
 ·rw [tl5] at hj;injection hj with hj;subst hj;decide
 ·rw [tl54] at hj;injection hj with hj;subst hj;decide
theorem tcl136:∀ fs,TK.struct [(0,5),(1,54)]=.struct fs→∀ q∈fs,∃ j,tinfo q.2=some j:=by
 intro fs hk q hq
 injection hk with hk
 subst hk
 simp only [List.mem_cons,List.not_mem_nil,or_false] at hq
 rcases hq with rfl | rfl
 ·exact ⟨_,tl5⟩
 ·exact ⟨_,tl54⟩
theorem tfit144:∀ fs,TK.struct [(0,22),(1,3)]=.struct fs→∀ off ft j,(off,ft)∈fs→tinfo ft=some j→off+j.size≤2:=by
 intro fs hk off ft j hm hj
 injection hk with hk
 subst hk
 simp only [List.mem_cons,List.not_mem_nil,or_false,Prod.mk.injEq] at hm
 rcases hm with ⟨rfl,rfl⟩ | ⟨rfl,rfl⟩
 ·rw [tl22] at hj;injection hj with hj;subst hj;decide
 ·rw [tl3] at hj;injection hj with hj;subst hj;decide
theorem tcl144:∀ fs,TK.struct [(0,22),(1,3)]=.struct fs→∀ q∈fs,∃ j,tinfo q.2=some j:=by
 intro fs hk q hq
 injection hk with hk
 subst hk
 simp only [List.mem_cons,List.not_mem_nil,or_false] at hq
 rcases hq with rfl | rfl
 ·exact ⟨_,tl22⟩
 ·exact ⟨_,tl3⟩
theorem tfit196:∀ fs,TK.struct [(0,28),(3,5),(4,29),(5,29)]=.struct fs→∀ off ft j,(off,ft)∈fs→tinfo ft=some j→off+j.size≤6:=by
 intro fs hk off ft j hm hj
 injection hk with hk
 subst hk
 simp only [List.mem_cons,List.not_mem_nil,or_false,Prod.mk.injEq] at hm
 rcases hm with ⟨rfl,rfl⟩ | ⟨rfl,rfl⟩ | ⟨rfl,rfl⟩ | ⟨rfl,rfl⟩
 ·rw [tl28] at hj;injection hj with hj;subst hj;decide
 ·rw [tl5] at hj;injection hj with hj;subst hj;decide
 ·rw [tl29] at hj;injection hj with hj;subst hj;decide
 ·rw [tl29] at hj;injection hj with hj;subst hj;decide
theorem tcl196:∀ fs,TK.struct [(0,28),(3,5),(4,29),(5,29)]=.struct fs→∀ q∈fs,∃ j,tinfo q.2=some j:=by
 intro fs hk q hq
 injection hk with hk
 subst hk
 simp only [List.mem_cons,List.not_mem_nil,or_false] at hq
 rcases hq with rfl | rfl | rfl | rfl
 ·exact ⟨_,tl28⟩
 ·exact ⟨_,tl5⟩
 ·exact ⟨_,tl29⟩
 ·exact ⟨_,tl29⟩
theorem tfit202:∀ fs,TK.struct [(0,30),(1,4)]=.struct fs→∀ off ft j,(off,ft)∈fs→tinfo ft=some j→off+j.size≤2:=by
 intro fs hk off ft j hm hj
 injection hk with hk
 subst hk
 simp only [List.mem_cons,List.not_mem_nil,or_false,Prod.mk.injEq] at hm
 rcases hm with ⟨rfl,rfl⟩ | ⟨rfl,rfl⟩
 ·rw [tl30] at hj;injection hj with hj;subst hj;decide
 ·rw [tl4] at hj;injection hj with hj;subst hj;decide
theorem tcl202:∀ fs,TK.struct [(0,30),(1,4)]=.struct fs→∀ q∈fs,∃ j,tinfo q.2=some j:=by
 intro fs hk q hq
 injection hk with hk
 subst hk
 simp only [List.mem_cons,List.not_mem_nil,or_false] at hq
 rcases hq with rfl | rfl
 ·exact ⟨_,tl30⟩
 ·exact ⟨_,tl4⟩
theorem tfit224:∀ fs,TK.struct [(0,4),(1,3),(2,3),(3,30)]=.struct fs→∀ off ft j,(off,ft)∈fs→tinfo ft=some j→off+j.size≤4:=by
 intro fs hk off ft j hm hj
 injection hk with hk
 subst hk
 simp only [List.mem_cons,List.not_mem_nil,or_false,Prod.mk.injEq] at hm
 rcases hm with ⟨rfl,rfl⟩ | ⟨rfl,rfl⟩ | ⟨rfl,rfl⟩ | ⟨rfl,rfl⟩
 ·rw [tl4] at hj;injection hj with hj;subst hj;decide
 ·rw [tl3] at hj;injection hj with hj;subst hj;decide
 ·rw [tl3] at hj;injection hj with hj;subst hj;decide
 ·rw [tl30] at hj;injection hj with hj;subst hj;decide
theorem tcl224:∀ fs,TK.struct [(0,4),(1,3),(2,3),(3,30)]=.struct fs→∀ q∈fs,∃ j,tinfo q.2=some j:=by
 intro fs hk q hq
 injection hk with hk
 subst hk
 simp only [List.mem_cons,List.not_mem_nil,or_false] at hq
 rcases hq with rfl | rfl | rfl | rfl
 ·exact ⟨_,tl4⟩
 ·exact ⟨_,tl3⟩
 ·exact ⟨_,tl3⟩
 ·exact ⟨_,tl30⟩
theorem tfit233:∀ fs,TK.struct [(0,30),(1,3)]=.struct fs→∀ off ft j,(off,ft)∈fs→tinfo ft=some j→off+j.size≤2:=by
 intro fs hk off ft j hm hj
 injection hk with hk
 subst hk
 simp only [List.mem_cons,List.not_mem_nil,or_false,Prod.mk.injEq] at hm
 rcases hm with ⟨rfl,rfl⟩ | ⟨rfl,rfl⟩
 ·rw [tl30] at hj;injection hj with hj;subst hj;decide
 ·rw [tl3] at hj;injection hj with hj;subst hj;decide
theorem tcl233:∀ fs,TK.struct [(0,30),(1,3)]=.struct fs→∀ q∈fs,∃ j,tinfo q.2=some j:=by
 intro fs hk q hq
 injection hk with hk
 subst hk
 simp only [List.mem_cons,List.not_mem_nil,or_false] at hq
 rcases hq with rfl | rfl
 ·exact ⟨_,tl30⟩
 ·exact ⟨_,tl3⟩
theorem tfit239:∀ fs,TK.struct [(0,82),(16,3)]=.struct fs→∀ off ft j,(off,ft)∈fs→tinfo ft=some j→off+j.size≤17:=by
 intro fs hk off ft j hm hj
 injection hk with hk
 subst hk
 simp only [List.mem_cons,List.not_mem_nil,or_false,Prod.mk.injEq] at hm
 rcases hm with ⟨rfl,rfl⟩ | ⟨rfl,rfl⟩
 ·rw [tl82] at hj;injection hj with hj;subst hj;decide
 ·rw [tl3] at hj;injection hj with hj;subst hj;decide
theorem tcl239:∀ fs,TK.struct [(0,82),(16,3)]=.struct fs→∀ q∈fs,∃ j,tinfo q.2=some j:=by
 intro fs hk q hq
 injection hk with hk
 subst hk
 simp only [List.mem_cons,List.not_mem_nil,or_false] at hq
 rcases hq with rfl | rfl
 ·exact ⟨_,tl82⟩
 ·exact ⟨_,tl3⟩
theorem tfit241:∀ fs,TK.struct [(0,3),(1,239),(18,4),(19,3)]=.struct fs→∀ off ft j,(off,ft)∈fs→tinfo ft=some j→off+j.size≤20:=by
 intro fs hk off ft j hm hj
 injection hk with hk
 subst hk
 simp only [List.mem_cons,List.not_mem_nil,or_false,Prod.mk.injEq] at hm
 rcases hm with ⟨rfl,rfl⟩ | ⟨rfl,rfl⟩ | ⟨rfl,rfl⟩ | ⟨rfl,rfl⟩
 ·rw [tl3] at hj;injection hj with hj;subst hj;decide
 ·rw [tl239] at hj;injection hj with hj;subst hj;decide
 ·rw [tl4] at hj;injection hj with hj;subst hj;decide
 ·rw [tl3] at hj;injection hj with hj;subst hj;decide
theorem tcl241:∀ fs,TK.struct [(0,3),(1,239),(18,4),(19,3)]=.struct fs→∀ q∈fs,∃ j,tinfo q.2=some j:=by
 intro fs hk q hq
 injection hk with hk
 subst hk
 simp only [List.mem_cons,List.not_mem_nil,or_false] at hq
 rcases hq with rfl | rfl | rfl | rfl
 ·exact ⟨_,tl3⟩
 ·exact ⟨_,tl239⟩
 ·exact ⟨_,tl4⟩
 ·exact ⟨_,tl3⟩
theorem tfit296:∀ fs,TK.struct [(0,25),(1,3)]=.struct fs→∀ off ft j,(off,ft)∈fs→tinfo ft=some j→off+j.size≤2:=by
 intro fs hk off ft j hm hj
 injection hk with hk
 subst hk
 simp only [List.mem_cons,List.not_mem_nil,or_false,Prod.mk.injEq] at hm
 rcases hm with ⟨rfl,rfl⟩ | ⟨rfl,rfl⟩
 ·rw [tl25] at hj;injection hj with hj;subst hj;decide
 ·rw [tl3] at hj;injection hj with hj;subst hj;decide
theorem tcl296:∀ fs,TK.struct [(0,25),(1,3)]=.struct fs→∀ q∈fs,∃ j,tinfo q.2=some j:=by
 intro fs hk q hq
 injection hk with hk
 subst hk
 simp only [List.mem_cons,List.not_mem_nil,or_false] at hq
 rcases hq with rfl | rfl
 ·exact ⟨_,tl25⟩
 ·exact ⟨_,tl3⟩
theorem types_ok:Types Tryz.prog tinfo:=⟨fun t i h=>TR.all_look (Q:=TOk Tryz.prog) (tr:=ttree) ⟨⟨⟨⟨⟨tok3,
  ⟨tok4,
  tok5⟩⟩,
  ⟨tok9,
  ⟨tok22,
  tok23⟩⟩⟩,
  ⟨⟨tok24,
  ⟨tok25,
  tok26⟩⟩,
  ⟨⟨tok28,
  tok29⟩,
  ⟨tok30,
  tok32⟩⟩⟩⟩,
  ⟨⟨⟨tok33,
  ⟨tok34,
  tok36⟩⟩,
  ⟨tok39,
  ⟨tok45,
  tok54⟩⟩⟩,
  ⟨⟨tok64,
  ⟨tok67,
  tok72⟩⟩,
  ⟨⟨tok73,
  tok78⟩,
  ⟨tok82,
  tok84⟩⟩⟩⟩⟩,
  ⟨⟨⟨⟨tok88,
  ⟨tok92,
  tok93⟩⟩,
  ⟨tok98,
  ⟨tok136,
  tok144⟩⟩⟩,
  ⟨⟨tok152,
  ⟨tok160,
  tok196⟩⟩,
  ⟨⟨tok202,
  tok204⟩,
  ⟨tok213,
  tok218⟩⟩⟩⟩,
  ⟨⟨⟨tok224,
  ⟨tok231,
  tok233⟩⟩,
  ⟨⟨tok239,
  tok241⟩,
  ⟨tok248,
  tok249⟩⟩⟩,
  ⟨⟨tok250,
  ⟨tok285,
  tok290⟩⟩,
  ⟨⟨tok293,
  tok294⟩,
  ⟨tok296,
  tok299⟩⟩⟩⟩⟩⟩ (tinfo_eq t ▸ h),
 fun t i h=>TR.all_look (Q:=fun t i=>i.kind.aggB=true→Tryz.prog.stoodInHeld t=false∧Tryz.prog.eqGuardType Tryz.prog.depth t=false∧∀ fs,Tryz.prog.underlying t=some (.struct fs)→(fs.toList.all fun f=>f.name != "_")=true) (tr:=ttree) ⟨⟨⟨⟨⟨(fun h=>nomatch (show false=true from h)),
  ⟨(fun h=>nomatch (show false=true from h)),
  (fun h=>nomatch (show false=true from h))⟩⟩,
  ⟨(fun h=>nomatch (show false=true from h)),
  ⟨(fun h=>nomatch (show false=true from h)),
  (fun h=>nomatch (show false=true from h))⟩⟩⟩,
  ⟨⟨(fun h=>nomatch (show false=true from h)),
  ⟨(fun h=>nomatch (show false=true from h)),
  (fun h=>nomatch (show false=true from h))⟩⟩,
  ⟨⟨(fun _=>tcmp28),
  (fun h=>nomatch (show false=true from h))⟩,
  ⟨(fun h=>nomatch (show false=true from h)),
  (fun _=>tcmp32)⟩⟩⟩⟩,
  ⟨⟨⟨(fun h=>nomatch (show false=true from h)),
  ⟨(fun h=>nomatch (show false=true from h)),
  (fun _=>tcmp36)⟩⟩,
  ⟨(fun h=>nomatch (show false=true from h)),
  ⟨(fun h=>nomatch (show false=true from h)),
  (fun _=>tcmp54)⟩⟩⟩,
  ⟨⟨(fun h=>nomatch (show false=true from h)),
  ⟨(fun h=>nomatch (show false=true from h)),
  (fun _=>tcmp72)⟩⟩,
  ⟨⟨(fun h=>nomatch (show false=true from h)),
  (fun _=>tcmp78)⟩,
  ⟨(fun _=>tcmp82),
  (fun _=>tcmp84)⟩⟩⟩⟩⟩,
  ⟨⟨⟨⟨(fun _=>tcmp88),
  ⟨(fun _=>tcmp92),
  (fun h=>nomatch (show false=true from h))⟩⟩,
  ⟨(fun _=>tcmp98),
  ⟨(fun _=>tcmp136),
  (fun _=>tcmp144)⟩⟩⟩,
  ⟨⟨(fun h=>nomatch (show false=true from h)),
  ⟨(fun h=>nomatch (show false=true from h)),
  (fun _=>tcmp196)⟩⟩,
  ⟨⟨(fun _=>tcmp202),
  (fun _=>tcmp204)⟩,
  ⟨(fun h=>nomatch (show false=true from h)),
  (fun _=>tcmp218)⟩⟩⟩⟩,
  ⟨⟨⟨(fun _=>tcmp224),
  ⟨(fun h=>nomatch (show false=true from h)),
  (fun _=>tcmp233)⟩⟩,
  ⟨⟨(fun _=>tcmp239),
  (fun _=>tcmp241)⟩,
  ⟨(fun _=>tcmp248),
  (fun _=>tcmp249)⟩⟩⟩,
  ⟨⟨(fun _=>tcmp250),
  ⟨(fun _=>tcmp285),
  (fun _=>tcmp290)⟩⟩,
  ⟨⟨(fun _=>tcmp293),
  (fun h=>nomatch (show false=true from h))⟩,
  ⟨(fun _=>tcmp296),
  (fun _=>tcmp299)⟩⟩⟩⟩⟩⟩ (tinfo_eq t ▸ h)⟩
theorem sizes_ok:Sizes tinfo:=⟨fun t i h=>TR.all_look (Q:=fun t i=>i.kind.aggB=false→i.size=1) (tr:=ttree) ⟨⟨⟨⟨⟨fun _=>rfl,
  ⟨fun _=>rfl,
  fun _=>rfl⟩⟩,
  ⟨fun _=>rfl,
  ⟨fun _=>rfl,
  fun _=>rfl⟩⟩⟩,
  ⟨⟨fun _=>rfl,
  ⟨fun _=>rfl,
  fun _=>rfl⟩⟩,
  ⟨⟨(fun h=>nomatch (show true=false from h)),
  fun _=>rfl⟩,
  ⟨fun _=>rfl,
  (fun h=>nomatch (show true=false from h))⟩⟩⟩⟩,
  ⟨⟨⟨fun _=>rfl,
  ⟨fun _=>rfl,
  (fun h=>nomatch (show true=false from h))⟩⟩,
  ⟨fun _=>rfl,
  ⟨fun _=>rfl,
  (fun h=>nomatch (show true=false from h))⟩⟩⟩,
  ⟨⟨fun _=>rfl,
  ⟨fun _=>rfl,
  (fun h=>nomatch (show true=false from h))⟩⟩,
  ⟨⟨fun _=>rfl,
  (fun h=>nomatch (show true=false from h))⟩,
  ⟨(fun h=>nomatch (show true=false from h)),
  (fun h=>nomatch (show true=false from h))⟩⟩⟩⟩⟩,
  ⟨⟨⟨⟨(fun h=>nomatch (show true=false from h)),
  ⟨(fun h=>nomatch (show true=false from h)),
  fun _=>rfl⟩⟩,
  ⟨(fun h=>nomatch (show true=false from h)),
  ⟨(fun h=>nomatch (show true=false from h)),
  (fun h=>nomatch (show true=false from h))⟩⟩⟩,
  ⟨⟨fun _=>rfl,
  ⟨fun _=>rfl,
  (fun h=>nomatch (show true=false from h))⟩⟩,
  ⟨⟨(fun h=>nomatch (show true=false from h)),
  (fun h=>nomatch (show true=false from h))⟩,
  ⟨fun _=>rfl,
  (fun h=>nomatch (show true=false from h))⟩⟩⟩⟩,
  ⟨⟨⟨(fun h=>nomatch (show true=false from h)),
  ⟨fun _=>rfl,
  (fun h=>nomatch (show true=false from h))⟩⟩,
  ⟨⟨(fun h=>nomatch (show true=false from h)),
  (fun h=>nomatch (show true=false from h))⟩,
  ⟨(fun h=>nomatch (show true=false from h)),
  (fun h=>nomatch (show true=false from h))⟩⟩⟩,
  ⟨⟨(fun h=>nomatch (show true=false from h)),
  ⟨(fun h=>nomatch (show true=false from h)),
  (fun h=>nomatch (show true=false from h))⟩⟩,
  ⟨⟨(fun h=>nomatch (show true=false from h)),
  fun _=>rfl⟩,
  ⟨(fun h=>nomatch (show true=false from h)),
  (fun h=>nomatch (show true=false from h))⟩⟩⟩⟩⟩⟩ (tinfo_eq t ▸ h),
 fun t i fs h=>TR.all_look (Q:=fun t i=>∀ fs,i.kind=.struct fs→∀ off ft j,(off,ft)∈fs→tinfo ft=some j→off+j.size≤i.size) (tr:=ttree) ⟨⟨⟨⟨⟨(fun _ h=>nomatch h),
  ⟨(fun _ h=>nomatch h),
  (fun _ h=>nomatch h)⟩⟩,
  ⟨(fun _ h=>nomatch h),
  ⟨(fun _ h=>nomatch h),
  (fun _ h=>nomatch h)⟩⟩⟩,
  ⟨⟨(fun _ h=>nomatch h),
  ⟨(fun _ h=>nomatch h),
  (fun _ h=>nomatch h)⟩⟩,
  ⟨⟨tfit28,
  (fun _ h=>nomatch h)⟩,
  ⟨(fun _ h=>nomatch h),
  tfit32⟩⟩⟩⟩,
  ⟨⟨⟨(fun _ h=>nomatch h),
  ⟨(fun _ h=>nomatch h),
  tfit36⟩⟩,
  ⟨(fun _ h=>nomatch h),
  ⟨(fun _ h=>nomatch h),
  (fun _ h=>nomatch h)⟩⟩⟩,
  ⟨⟨(fun _ h=>nomatch h),
  ⟨(fun _ h=>nomatch h),
  tfit72⟩⟩,
  ⟨⟨(fun _ h=>nomatch h),
  tfit78⟩,
  ⟨(fun _ h=>nomatch h),
  tfit84⟩⟩⟩⟩⟩,
  ⟨⟨⟨⟨tfit88,
  ⟨tfit92,
  (fun _ h=>nomatch h)⟩⟩,
  ⟨tfit98,
  ⟨tfit136,
  tfit144⟩⟩⟩,
  ⟨⟨(fun _ h=>nomatch h),
  ⟨(fun _ h=>nomatch h),
  tfit196⟩⟩,
  ⟨⟨tfit202,
  (fun _ h=>nomatch h)⟩,
  ⟨(fun _ h=>nomatch h),
  (fun _ h=>nomatch h)⟩⟩⟩⟩,
  ⟨⟨⟨tfit224,
  ⟨(fun _ h=>nomatch h),
  tfit233⟩⟩,
  ⟨⟨tfit239,
  tfit241⟩,
  ⟨(fun _ h=>nomatch h),
  (fun _ h=>nomatch h)⟩⟩⟩,
  ⟨⟨(fun _ h=>nomatch h),
  ⟨(fun _ h=>nomatch h),
  (fun _ h=>nomatch h)⟩⟩,
  ⟨⟨(fun _ h=>nomatch h),
  (fun _ h=>nomatch h)⟩,
  ⟨tfit296,
  (fun _ h=>nomatch h)⟩⟩⟩⟩⟩⟩ (tinfo_eq t ▸ h) fs⟩
theorem closed_ok:Closed tinfo:=⟨fun t i fs h=>TR.all_look (Q:=fun t i=>∀ fs,i.kind=.struct fs→∀ q∈fs,∃ j,tinfo q.2=some j) (tr:=ttree) ⟨⟨⟨⟨⟨(fun _ h=>nomatch h),
  ⟨(fun _ h=>nomatch h),
  (fun _ h=>nomatch h)⟩⟩,
  ⟨(fun _ h=>nomatch h),
  ⟨(fun _ h=>nomatch h),
  (fun _ h=>nomatch h)⟩⟩⟩,
  ⟨⟨(fun _ h=>nomatch h),
  ⟨(fun _ h=>nomatch h),
  (fun _ h=>nomatch h)⟩⟩,
  ⟨⟨tcl28,
  (fun _ h=>nomatch h)⟩,
  ⟨(fun _ h=>nomatch h),
  tcl32⟩⟩⟩⟩,
  ⟨⟨⟨(fun _ h=>nomatch h),
  ⟨(fun _ h=>nomatch h),
  tcl36⟩⟩,
  ⟨(fun _ h=>nomatch h),
  ⟨(fun _ h=>nomatch h),
  (fun _ h=>nomatch h)⟩⟩⟩,
  ⟨⟨(fun _ h=>nomatch h),
  ⟨(fun _ h=>nomatch h),
  tcl72⟩⟩,
  ⟨⟨(fun _ h=>nomatch h),
  tcl78⟩,
  ⟨(fun _ h=>nomatch h),
  tcl84⟩⟩⟩⟩⟩,
  ⟨⟨⟨⟨tcl88,
  ⟨tcl92,
  (fun _ h=>nomatch h)⟩⟩,
  ⟨tcl98,
  ⟨tcl136,
  tcl144⟩⟩⟩,
  ⟨⟨(fun _ h=>nomatch h),
  ⟨(fun _ h=>nomatch h),
  tcl196⟩⟩,
  ⟨⟨tcl202,
  (fun _ h=>nomatch h)⟩,
  ⟨(fun _ h=>nomatch h),
  (fun _ h=>nomatch h)⟩⟩⟩⟩,
  ⟨⟨⟨tcl224,
  ⟨(fun _ h=>nomatch h),
  tcl233⟩⟩,
  ⟨⟨tcl239,
  tcl241⟩,
  ⟨(fun _ h=>nomatch h),
  (fun _ h=>nomatch h)⟩⟩⟩,
  ⟨⟨(fun _ h=>nomatch h),
  ⟨(fun _ h=>nomatch h),
  (fun _ h=>nomatch h)⟩⟩,
  ⟨⟨(fun _ h=>nomatch h),
  (fun _ h=>nomatch h)⟩,
  ⟨tcl296,
  (fun _ h=>nomatch h)⟩⟩⟩⟩⟩⟩ (tinfo_eq t ▸ h) fs⟩
theorem tab_z:∀ t i,tinfo t=some i→∀ d,noref d i.zero=true:=fun t i h=>TR.all_look (Q:=fun t i=>∀ d,noref d i.zero=true) (tr:=ttree) ⟨⟨⟨⟨⟨fun _=>rfl,
  ⟨fun _=>rfl,
  fun _=>rfl⟩⟩,
  ⟨fun _=>rfl,
  ⟨fun _=>rfl,
  fun _=>rfl⟩⟩⟩,
  ⟨⟨fun _=>rfl,
  ⟨fun _=>rfl,
  fun _=>rfl⟩⟩,
  ⟨⟨fun _=>rfl,
  fun _=>rfl⟩,
  ⟨fun _=>rfl,
  fun _=>rfl⟩⟩⟩⟩,
  ⟨⟨⟨fun _=>rfl,
  ⟨fun _=>rfl,
  fun _=>rfl⟩⟩,
  ⟨fun _=>rfl,
  ⟨fun _=>rfl,
  fun _=>rfl⟩⟩⟩,
  ⟨⟨fun _=>rfl,
  ⟨fun _=>rfl,
  fun _=>rfl⟩⟩,
  ⟨⟨fun _=>rfl,
  fun _=>rfl⟩,
  ⟨fun _=>rfl,
  fun _=>rfl⟩⟩⟩⟩⟩,
  ⟨⟨⟨⟨fun _=>rfl,
  ⟨fun _=>rfl,
  fun _=>rfl⟩⟩,
  ⟨fun _=>rfl,
  ⟨fun _=>rfl,
  fun _=>rfl⟩⟩⟩,
  ⟨⟨fun _=>rfl,
  ⟨fun _=>rfl,
  fun _=>rfl⟩⟩,
  ⟨⟨fun _=>rfl,
  fun _=>rfl⟩,
  ⟨fun _=>rfl,
  fun _=>rfl⟩⟩⟩⟩,
  ⟨⟨⟨fun _=>rfl,
  ⟨fun _=>rfl,
  fun _=>rfl⟩⟩,
  ⟨⟨fun _=>rfl,
  fun _=>rfl⟩,
  ⟨fun _=>rfl,
  fun _=>rfl⟩⟩⟩,
  ⟨⟨fun _=>rfl,
  ⟨fun _=>rfl,
  fun _=>rfl⟩⟩,
  ⟨⟨fun _=>rfl,
  fun _=>rfl⟩,
  ⟨fun _=>rfl,
  fun _=>rfl⟩⟩⟩⟩⟩⟩ (tinfo_eq t ▸ h)
theorem tab:Tab Tryz.prog tinfo:=⟨types_ok,sizes_ok,closed_ok,tab_z,map_ok⟩
theorem mixed:Tryz.prog.follows .mixedOrders=true:=by kernel_rfl
structure Good (f:Nat) (c:CT):Prop where
 h:ACall Tryz.prog tinfo f c
theorem good_call:∀ f c,(fun f c=>Good f c) f c→ACall Tryz.prog tinfo f c:=fun _ _ h=>h.h
abbrev pu (args:List SV) (r:SV):CT:=⟨args,none,r,.any,.no⟩
abbrev nu (args:List SV) (r:SV) (b:Blk):CT:=⟨args,none,r,.any,b⟩
abbrev le (t:Nat) (x:SV) (args:List SV) (r:SV) (y:SV):CT:=⟨.ptr 0 0::args,some (t,x),r,y,.no⟩
abbrev leN (t:Nat) (x:SV) (args:List SV) (r:SV) (y:SV) (b:Blk):CT:=⟨.ptr 0 0::args,some (t,x),r,y,b⟩
theorem Good.of {f:FuncId} {fn:Func} {c:Code} {ct:CT} (hf:Tryz.prog.funcs[f]?=some fn) (hb:fn.body=some c)
  (hn:(fn.name == "runtime.NumGoroutine")=false) (hok:codeOk c=true)
  (h:swp (fun t=>tinfo t) (fun f c=>Good f c) c (start fn.ntmps ct) ⟨fun s=>retQ (fun t=>tinfo t) fn.resultTypes.toList fn.results.toList s ct,fun s=>retQ (fun t=>tinfo t) fn.resultTypes.toList fn.results.toList s ct,fun _ _=>False⟩) (hni:isSeq ct=false:=by rfl) (hnl:isLR ct=false:=by rfl) (hng:isG ct=false:=by rfl):Good f ct :=
 ⟨contract tab good_call mixed hf hb hn hok hni hnl hng h⟩
theorem Good.ofG {f:FuncId} {fn:Func} {c:Code} {az:List SV} {L:List Ln} {r:SV} {nb:Blk} (hf:Tryz.prog.funcs[f]?=some fn) (hb:fn.body=some c)
  (hn:(fn.name == "runtime.NumGoroutine")=false) (hok:(codeOk c && posOk az (assignedC c) L)=true)
  (h:swp (fun t=>tinfo t) (fun f c=>Good f c) c (startG fn.ntmps az L) ⟨fun s=>retG (fun t=>tinfo t) fn.resultTypes.toList fn.results.toList L r nb s,fun s=>retG (fun t=>tinfo t) fn.resultTypes.toList fn.results.toList L r nb s,fun _ _=>False⟩) (hsq:isSeq (gC az L r nb)=false:=by rfl) (hlr:isLR (gC az L r nb)=false:=by rfl):Good f (gC az L r nb) :=
 ⟨contractG tab good_call mixed hf hb hn (Bool.and_eq_true_iff.1 hok).1 (Bool.and_eq_true_iff.1 hok).2 h hsq hlr⟩
end
section
theorem oln (l:List SV):O.ln l=l.length:=O.hln l
theorem otk (n:Int) (l:List SV):O.tk n l=l.take n.toNat:=O.htk n l
theorem odr (n:Int) (l:List SV):O.dr n l=l.drop n.toNat:=O.hdr n l
theorem oap (l k:List SV):O.ap l k=l++k:=O.hap l k
theorem ost (l:List SV) (i:Nat) (y:SV):O.st l i y=l.set i y:=O.hst l i y
theorem orp (n:Int) (x:SV):O.rp n x=List.replicate n.toNat x:=O.hrp n x
theorem ocp (l:List SV) (a n:Nat) (ys:List SV):O.cp l a n ys=l.take a++ys.take n++l.drop (a+min ys.length n):=O.hcp l a n ys
theorem osg (l:List SV) (a n:Nat):O.sg l a n=(l.drop a).take n:=O.hsg l a n
theorem otn (n:Int):O.tn n=n.toNat:=O.htn n
theorem oad (a:Nat) (n:Int):O.ad a n=a+n.toNat:=O.had a n
theorem osb (a:Nat) (n:Int):O.sb a n=a - n.toNat:=O.hsb a n
theorem osi (a n:Int):O.si a n=a.toNat - n.toNat:=O.hsi a n
theorem oby (s:ByteArray):O.by' s=s.data.toList.map fun b=>SV.int .u8 b.toNat:=O.hby s
theorem pln (l:List SV):(Classical.choice lo_ex).ln l=l.length:=O.hln l
theorem ptk (n:Int) (l:List SV):(Classical.choice lo_ex).tk n l=l.take n.toNat:=O.htk n l
theorem pdr (n:Int) (l:List SV):(Classical.choice lo_ex).dr n l=l.drop n.toNat:=O.hdr n l
theorem pap (l k:List SV):(Classical.choice lo_ex).ap l k=l++k:=O.hap l k
theorem pst (l:List SV) (i:Nat) (y:SV):(Classical.choice lo_ex).st l i y=l.set i y:=O.hst l i y
theorem prp (n:Int) (x:SV):(Classical.choice lo_ex).rp n x=List.replicate n.toNat x:=O.hrp n x
theorem pcp (l:List SV) (a n:Nat) (ys:List SV):(Classical.choice lo_ex).cp l a n ys=l.take a++ys.take n++l.drop (a+min ys.length n):=O.hcp l a n ys
theorem psg (l:List SV) (a n:Nat):(Classical.choice lo_ex).sg l a n=(l.drop a).take n:=O.hsg l a n
theorem ptn (n:Int):(Classical.choice lo_ex).tn n=n.toNat:=O.htn n
theorem pad (a:Nat) (n:Int):(Classical.choice lo_ex).ad a n=a+n.toNat:=O.had a n
theorem psb (a:Nat) (n:Int):(Classical.choice lo_ex).sb a n=a - n.toNat:=O.hsb a n
theorem psi (a n:Int):(Classical.choice lo_ex).si a n=a.toNat - n.toNat:=O.hsi a n
theorem pby (s:ByteArray):(Classical.choice lo_ex).by' s=s.data.toList.map fun b=>SV.int .u8 b.toNat:=O.hby s
theorem cst (n:Nat):@NatCast.natCast Int _ n=@Nat.cast Int _ n:=rfl
theorem qv {A:Type} {p k:A→Prop} (z:A) (h:p z) (g:k z):QV p k:=⟨⟨z,h,g⟩⟩
def ints (k:IntKind) (l:List Int):List SV:=l.map (SV.int k)
theorem ints_len (k:IntKind) (l:List Int):(ints k l).length=l.length:=by simp [ints]
theorem sm:(∀ l,O.ln l=l.length)∧(∀ n l,O.tk n l=l.take n.toNat)∧(∀ n l,O.dr n l=l.drop n.toNat)∧(∀ l k,O.ap l k=l++k)∧(∀ l i x,O.st l i x=l.set i x)∧(∀ n x,O.rp n x=List.replicate n.toNat x) ∧
  (∀ l a n ys,O.cp l a n ys=l.take a++ys.take n++l.drop (a+min ys.length n))∧(∀ l a n,O.sg l a n=(l.drop a).take n)∧(∀ n,O.tn n=n.toNat)∧(∀ a n,O.ad a n=a+n.toNat)∧(∀ a n,O.sb a n=a - n.toNat)∧(∀ a n,O.si a n=a.toNat - n.toNat) ∧
  (∀ s,O.by' s=s.data.toList.map fun b=>SV.int .u8 b.toNat) ∧
  (∀ l,(Classical.choice lo_ex).ln l=l.length)∧(∀ n l,(Classical.choice lo_ex).tk n l=l.take n.toNat)∧(∀ n l,(Classical.choice lo_ex).dr n l=l.drop n.toNat)∧(∀ l k,(Classical.choice lo_ex).ap l k=l++k)∧(∀ l i x,(Classical.choice lo_ex).st l i x=l.set i x) ∧
  (∀ n x,(Classical.choice lo_ex).rp n x=List.replicate n.toNat x)∧(∀ l a n ys,(Classical.choice lo_ex).cp l a n ys=l.take a++ys.take n++l.drop (a+min ys.length n))∧(∀ l a n,(Classical.choice lo_ex).sg l a n=(l.drop a).take n)∧(∀ n,(Classical.choice lo_ex).tn n=n.toNat) ∧
  (∀ a n,(Classical.choice lo_ex).ad a n=a+n.toNat)∧(∀ a n,(Classical.choice lo_ex).sb a n=a - n.toNat)∧(∀ a n,(Classical.choice lo_ex).si a n=a.toNat - n.toNat)∧(∀ s,(Classical.choice lo_ex).by' s=s.data.toList.map fun b=>SV.int .u8 b.toNat) ∧
  (∀ n:Nat,@NatCast.natCast Int _ n=@Nat.cast Int _ n)∧(∀ k l,(ints k l).length=l.length) ∧
  (∀ (A:Type) (n:Nat) (l:List A),(l.take n).length=min n l.length)∧(∀ (A:Type) (n:Nat) (l:List A),(l.drop n).length=l.length - n)∧(∀ (A:Type) (l k:List A),(l++k).length=l.length+k.length)∧(∀ (A:Type) (l:List A) (n:Nat) (x:A),(l.set n x).length=l.length) ∧
  (∀ (A:Type) (n:Nat) (x:A),(List.replicate n x).length=n)∧(∀ (A:Type) (x:A) (l:List A),(x::l).length=l.length+1)∧(∀ (A:Type),([]:List A).length=0) :=
 ⟨oln,otk,odr,oap,ost,orp,ocp,osg,otn,oad,osb,osi,oby,pln,ptk,pdr,pap,pst,prp,pcp,psg,ptn,pad,psb,psi,pby,cst,ints_len,fun _ _ _=>List.length_take,fun _ _ _=>List.length_drop,fun _ _ _=>List.length_append,fun _ _ _ _=>List.length_set,fun _ _ _=>List.length_replicate,fun _ _ _=>List.length_cons,fun _=>List.length_nil⟩
theorem q1w {req:Unit→Prop} {p k:Int→Prop} (g:∀ z,p z→k z) (h:req ():=by first | exact trivial | omega | (dsimp only;omega) | exact pow62 _ (by omega) | exact mul9 (by omega) (by omega) | (simp only [sm] at *;omega)):Q1 req p k:=q1 h g
theorem rqw {p:Unit→Prop} {A:Prop} (g:A) (h:p ():=by first | exact trivial | omega | (dsimp only;omega) | (simp only [sm] at *;omega)):Rq p (fun _=>A):=rq h g
theorem QC.tw {p:Unit→Prop} {k:Bool→Prop} (g:k true) (h:p ():=by first | omega | (dsimp only;omega) | exact rfl | (simp only [sm] at *;omega)):QC p k:=QC.tt h g
theorem QC.fw {p:Unit→Prop} {k:Bool→Prop} (g:k false) (h:¬ p ():=by first | omega | (dsimp only;omega) | (simp only [sm] at *;omega)):QC p k:=QC.ff h g
theorem QC.t3 {p:Unit→Prop} {k:Bool→Prop} (g:k true) (h:p ():=by (simp only [decide_true,Bool.and_true,Bool.and_self] <;> fail)):QC p k:=QC.tt h g
theorem QC.f3 {p:Unit→Prop} {k:Bool→Prop} (g:k false) (h:¬ p ():=by (simp only [decide_true,Bool.and_true,Bool.and_self,decide_false,Bool.false_and,reduceCtorEq,not_false_eq_true] <;> fail)):QC p k:=QC.ff h g
theorem rqa {p:Unit→Prop} {A:Prop} (g:A) (h:p ():=by first | exact trivial | omega | (dsimp only;omega) | (simp only [sm] at *;omega) | (show kfitQ _ _;simp [kfitQ,IntKind.min,IntKind.max,IntKind.signed,IntKind.bits];omega)):Rq p (fun _=>A):=rq h g
theorem QCt {p:Unit→Prop} {k:Bool→Prop} (g:k true) (h:p ():=by first | omega | (dsimp only;omega) | exact rfl | (simp only [sm] at *;omega) | (simp only [decide_true,Bool.and_true,Bool.and_self] <;> fail)):QC p k:=QC.tt h g
theorem QCf {p:Unit→Prop} {k:Bool→Prop} (g:k false) (h:¬ p ():=by first | (simp only [decide_true,Bool.and_true,Bool.and_self,decide_false,Bool.false_and,reduceCtorEq,not_false_eq_true] <;> fail) | omega | (dsimp only;omega) | (simp only [sm] at *;omega)):QC p k:=QC.ff h g
theorem ints_at {k:IntKind} {l:List Int} (i:Nat) (h:i < l.length):(ints k l)[i]?=some (SV.int k (l.getD i 0)):=by simp [ints,h]
theorem getD_mem {l:List Int} {i:Nat} (h:i < l.length):l.getD i 0∈l:=by simp [List.getD,h]
theorem ints_take (k:IntKind) (l:List Int) (n:Nat):(ints k l).take n=ints k (l.take n):=by simp [ints]
theorem ints_drop (k:IntKind) (l:List Int) (n:Nat):(ints k l).drop n=ints k (l.drop n):=by simp [ints]
theorem ints_set (k:IntKind) (l:List Int) (n:Nat) (v:Int):(ints k l).set n (.int k v)=ints k (l.set n v):=by simp [ints,List.map_set]
end
section
theorem qvIdx {n:Int} {l:List SV} {k:Nat × SV→Prop} (y:SV) (h:l[n.toNat]?=some y) (hn:0≤n) (g:k (n.toNat,y)):QV (fun q:Nat × SV=>n=(q.1:Int)∧l[q.1]?=some q.2) k:=⟨⟨(n.toNat,y),⟨by simp;omega,h⟩,g⟩⟩
theorem qvRow {n:Int} {l:List SV} {k:Nat→Prop} (h:n.toNat < l.length) (hn:0≤n) (g:k n.toNat):QV (fun q:Nat=>n=(q:Int)∧q < O.ln l) k:=⟨⟨n.toNat,⟨by omega,by rw [oln];exact h⟩,g⟩⟩
theorem qvArr {n:Int} {m:Nat} {k:Nat→Prop} (h:n.toNat < m) (hn:0≤n) (g:k n.toNat):QV (fun q:Nat=>n=(q:Int)∧q < m) k:=⟨⟨n.toNat,⟨by omega,h⟩,g⟩⟩
theorem qvSome {l:List SV} {j:Nat} {k:SV→Prop} (y:SV) (h:l[j]?=some y) (g:k y):QV (fun z=>l[j]?=some z) k:=⟨⟨y,h,g⟩⟩
theorem cwn:(∀ l,(Classical.choice lo_ex).ln l=l.length)∧(∀ n l,(Classical.choice lo_ex).tk n l=l.take n.toNat)∧(∀ n l,(Classical.choice lo_ex).dr n l=l.drop n.toNat)∧(∀ l k,(Classical.choice lo_ex).ap l k=l++k)∧(∀ l i x,(Classical.choice lo_ex).st l i x=l.set i x) ∧
  (∀ n x,(Classical.choice lo_ex).rp n x=List.replicate n.toNat x)∧(∀ l a n ys,(Classical.choice lo_ex).cp l a n ys=l.take a++ys.take n++l.drop (a+min ys.length n))∧(∀ l a n,(Classical.choice lo_ex).sg l a n=(l.drop a).take n)∧(∀ n,(Classical.choice lo_ex).tn n=n.toNat) ∧
  (∀ a n,(Classical.choice lo_ex).ad a n=a+n.toNat)∧(∀ a n,(Classical.choice lo_ex).sb a n=a - n.toNat)∧(∀ a n,(Classical.choice lo_ex).si a n=a.toNat - n.toNat)∧(∀ s,(Classical.choice lo_ex).by' s=s.data.toList.map fun b=>SV.int .u8 b.toNat) :=
 ⟨pln,ptk,pdr,pap,pst,prp,pcp,psg,ptn,pad,psb,psi,pby⟩
structure Peek (f:Nat) (args:List SV) (lent:Option (Nat × SV)):Prop where
 h:False
structure PeekG (f:Nat) (az:List SV) (QS:List (Nat × Nat × Nat × SV)):Prop where
 h:False
end
section
open Go.RowKit
def Wk (x y:SV):Prop:=∀ (w:World) (X:Nat→Prop) (ρ:Env) (v:Value),Den w X ρ x v→Den w X ρ y v
def WkL:List SV→List SV→Prop
 | [],[]=>True
 | x::xs,y::ys=>Wk x y∧WkL xs ys
 | _,_=>False
theorem Wk.rfl' (x:SV):Wk x x:=fun _ _ _ _ h=>h
theorem Wk.nil (sh:Option Nat):Wk .nil (.lst sh []):=fun _ _ ρ _ h=>by
 cases h
 exact .lst0 ρ sh none 0
theorem WkL.len:∀ {xs ys:List SV},WkL xs ys→xs.length=ys.length
 | [],[],_=>rfl
 | _::_,_::_,h=>by rw [List.length_cons,List.length_cons,WkL.len h.2]
 | [],_::_,h=>h.elim
 | _::_,[],h=>h.elim
theorem WkL.at:∀ {xs ys:List SV},WkL xs ys→∀ (i:Nat) (y:SV),ys[i]?=some y→∃ x,xs[i]?=some x∧Wk x y
 | [],[],_=>fun i y h=>by cases h
 | x::xs,y::ys,h=>fun i z hz=>by
  cases i with
  | zero=>injection hz with hz;subst hz;exact ⟨x,rfl,h.1⟩
  | succ i=>exact WkL.at h.2 i z hz
 | [],_::_,h=>h.elim
 | _::_,[],h=>h.elim
theorem WkL.den {xs ys:List SV} (h:WkL xs ys) {w:World} {X:Nat→Prop} {ρ:Env} {us:List Value} (hd:DenL w X ρ xs us):DenL w X ρ ys us :=
 ⟨h.len.symm.trans hd.1,fun i y u hy hu=>by
  obtain ⟨x,hx,hw⟩:=h.at i y hy
  exact hw _ _ _ _ (hd.2 i x u hx hu)⟩
theorem Wk.agg {xs ys:List SV} (h:WkL xs ys):Wk (.agg xs) (.agg ys):=fun _ _ _ _ hd=>by
 obtain ⟨cs,hv,hc⟩:=Den.agg_iff.1 hd
 exact Den.agg_iff.2 ⟨cs,hv,h.den hc⟩
theorem Wk.tup {xs ys:List SV} (h:WkL xs ys):Wk (.tup xs) (.tup ys):=fun _ _ _ _ hd=>by
 obtain ⟨cs,hv,hc⟩:=Den.tup_iff.1 hd
 exact Den.tup_iff.2 ⟨cs,hv,h.den hc⟩
theorem Good.res {f:Nat} {a:List SV} {r r':SV} (h:Good f (pu a r)) (hw:Wk r r'):Good f (pu a r') :=
 ⟨⟨h.h.fn,(fun hq=>nomatch hq),(fun _ _ _ _ _ hc=>nomatch (congrArg CT.new hc)),(fun _ _ _ _ hc=>nomatch (congrArg CT.lent hc)),fun _ _ _ N w X ρ vs hm hd=>(h.h.h rfl rfl rfl N w X ρ vs hm hd).mono fun e w' ⟨v,ρ',h1,h2,h3,h4⟩=>⟨v,ρ',h1,h2,h3,hw _ _ _ _ h4⟩⟩⟩
theorem Good.arg {f:Nat} {a a':List SV} {r:SV} (h:Good f (pu a r)) (hw:WkL a' a):Good f (pu a' r) :=
 ⟨⟨h.h.fn,(fun hq=>nomatch hq),(fun _ _ _ _ _ hc=>nomatch (congrArg CT.new hc)),(fun _ _ _ _ hc=>nomatch (congrArg CT.lent hc)),fun _ _ _ N w X ρ vs hm hd=>h.h.h rfl rfl rfl N w X ρ vs hm (hw.den hd)⟩⟩
end
end Go.Proofs.YtgfpjhddojhfpaaGreat
