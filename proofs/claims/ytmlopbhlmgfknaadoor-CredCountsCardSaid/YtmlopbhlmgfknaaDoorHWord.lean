/- Small words of this session's, for the printed walks: all the cells of a block at once. -/
import Derived.Test.YtmlopbhlmgfknaaDoorWWords
set_option linter.unusedVariables false
set_option linter.unusedSimpArgs false
namespace Go.Proofs.YtmlopbhlmgfknaaDoorW.PrintWords
open Go.RowKit
set_option linter.defProp false
theorem blk_all2 {W : World} {g_ t_ : Nat} {x0 x1 : Value} (h : W.heap[g_]? = some (.cells #[x0, x1] t_ (0, 0))) :
    W.cell? ⟨g_, 0, none⟩ = some x0 ∧ W.cell? ⟨g_, 1, none⟩ = some x1 ∧ W.frozen? ⟨g_, 0, none⟩ = false ∧ W.frozen? ⟨g_, 1, none⟩ = false :=
  ⟨(blk_cell h 0).trans rfl, (blk_cell h 1).trans rfl, blk_frozen h 0, blk_frozen h 1⟩
theorem blk_all9 {W : World} {g_ t_ : Nat} {x0 x1 x2 x3 x4 x5 x6 x7 x8 : Value} (h : W.heap[g_]? = some (.cells #[x0, x1, x2, x3, x4, x5, x6, x7, x8] t_ (0, 0))) :
    W.cell? ⟨g_, 0, none⟩ = some x0 ∧ W.cell? ⟨g_, 1, none⟩ = some x1 ∧ W.cell? ⟨g_, 2, none⟩ = some x2 ∧ W.cell? ⟨g_, 3, none⟩ = some x3 ∧ W.cell? ⟨g_, 4, none⟩ = some x4 ∧ W.cell? ⟨g_, 5, none⟩ = some x5 ∧ W.cell? ⟨g_, 6, none⟩ = some x6 ∧ W.cell? ⟨g_, 7, none⟩ = some x7 ∧ W.cell? ⟨g_, 8, none⟩ = some x8 ∧ W.frozen? ⟨g_, 0, none⟩ = false ∧ W.frozen? ⟨g_, 1, none⟩ = false ∧ W.frozen? ⟨g_, 2, none⟩ = false ∧ W.frozen? ⟨g_, 3, none⟩ = false ∧ W.frozen? ⟨g_, 4, none⟩ = false ∧ W.frozen? ⟨g_, 5, none⟩ = false ∧ W.frozen? ⟨g_, 6, none⟩ = false ∧ W.frozen? ⟨g_, 7, none⟩ = false ∧ W.frozen? ⟨g_, 8, none⟩ = false :=
  ⟨(blk_cell h 0).trans rfl, (blk_cell h 1).trans rfl, (blk_cell h 2).trans rfl, (blk_cell h 3).trans rfl, (blk_cell h 4).trans rfl, (blk_cell h 5).trans rfl, (blk_cell h 6).trans rfl, (blk_cell h 7).trans rfl, (blk_cell h 8).trans rfl, blk_frozen h 0, blk_frozen h 1, blk_frozen h 2, blk_frozen h 3, blk_frozen h 4, blk_frozen h 5, blk_frozen h 6, blk_frozen h 7, blk_frozen h 8⟩
/-! Short names of longer ones. -/
theorem aM {p : Prop} (h : p) : Aside0 p := Aside0.mk h
def bN := @blk_drewN
def bD := @blk_drew
def bA := @blk_alloc
theorem mA {α β : Type} {f : α → β} {l : List α} : l.toArray.map f = (l.map f).toArray := List.map_toArray
theorem mB {α β : Type} {f : α → β} {a : α} {l : List α} : List.map f (a :: l) = f a :: List.map f l := List.map_cons
theorem mC {α β : Type} {f : α → β} : List.map f ([] : List α) = [] := List.map_nil
end Go.Proofs.YtmlopbhlmgfknaaDoorW.PrintWords
