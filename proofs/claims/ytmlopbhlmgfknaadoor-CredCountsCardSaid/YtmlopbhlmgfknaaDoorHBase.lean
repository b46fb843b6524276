/- Small general lemmas over the words, for contracts that are typed by hand. -/
import Derived.Test.YtmlopbhlmgfknaaDoorWMore
import Derived.Test.YtmlopbhlmgfknaaDoorHNum
import Derived.Test.YtmlopbhlmgfknaaDoorProg
namespace Go.Proofs.YtmlopbhlmgfknaaDoor.P
open Go.RowKit Go.Proofs.YtmlopbhlmgfknaaDoorW.PrintWords Go.Proofs.YtmlopbhlmgfknaaDoorW.PrintLast Go.Proofs.YtmlopbhlmgfknaaDoorW.PrintMore
set_option linter.unusedVariables false
set_option linter.unusedSimpArgs false

theorem hinfo5 : (Tryd.prog.info? 5).map (fun i => (i.zero, i.size, i.bytes)) = some (some (.int .u8 0), 1, 1) := by kernel_rfl

theorem C_cells {k : IntKind} {w : World} {A : Option Addr} {n : Nat} {l : List Int} (h : (Kd.int k).C w A n l) : ∀ b, A = some b → ∀ j u, (nums k l)[j]? = some u → w.cell? (b.add j) = some u := by
  intro b hA j u hu
  have hj : j < l.length := by
    have := (List.getElem?_eq_some_iff.1 hu).1
    simpa [nums] using this
  have hn := h.1
  obtain ⟨ad, e, hc⟩ := Kd.at_int h (j : Int) (by omega) (by omega)
  rw [hA] at e
  cases e
  rw [Int.toNat_natCast] at hc
  rw [hc]
  have : (nums k l)[j]? = some (.int k (rd l j)) := by
    simp only [nums, List.getElem?_map, List.getElem?_eq_getElem hj, Option.map_some, rd, Int.toNat_natCast, List.getD_eq_getElem?_getD, Option.getD_some]
  rw [this] at hu
  exact hu
theorem C_none {k : IntKind} {w : World} {n : Nat} {l : List Int} (h : (Kd.int k).C w none n l) : n = 0 := by
  rcases Nat.eq_zero_or_pos n with h0 | h0
  · exact h0
  · obtain ⟨ad, e, _⟩ := h.2.2 h0
    cases e
theorem R_of_ownsRow {k : IntKind} {e : Nat} {w : World} {base : Nat} {v : Value} {xs : List Int} (h : w.ownsRow base e 1 v xs.length (nums k xs)) : (Kd.int k).R e w base (fun _ => True) v xs :=
  Kd.R_of_own (enc := Value.int k) (h1 := fun _ => rfl) h (fun _ _ => trivial)

def Plain (W : World) (v : Value) : Prop := ∀ ad n c, v = .slice (some ad) n c → ∃ g cs t, ad = ⟨g, 0, none⟩ ∧ W.heap[g]? = some (.cells cs t (0, 0))
end Go.Proofs.YtmlopbhlmgfknaaDoor.P
