/- What is asked of a cursor, as it comes in: rows of three numbers. -/
import Derived.Test.YtnfnomcgalkagaaHBase
import Derived.Deep.Slices
import Derived.Deep.Strs
namespace Go.Proofs.Ytnfnomcgalkagaa.P
open Go.RowKit Go.Deep Go.ChangeShapes Go.WideShapes Go.Proofs.YtnfnomcgalkagaaW.PrintWords Go.Proofs.YtnfnomcgalkagaaW.PrintLast Go.Proofs.YtnfnomcgalkagaaW.PrintMore
set_option linter.unusedVariables false
set_option linter.unusedSimpArgs false
/-- Rows of three numbers each, at an address. -/
def IsAsks (w : World) (a : Option Addr) (len : Nat) : Prop := 0 < len → ∃ (b o : Nat), a = some ⟨b, o, none⟩ ∧ ∀ i, i < len → ∃ x y z : Int, w.cell? ⟨b, o + i * 3, none⟩ = some (.int .i64 x) ∧ w.cell? ⟨b, o + i * 3 + 1, none⟩ = some (.int .i64 y) ∧ w.cell? ⟨b, o + i * 3 + 2, none⟩ = some (.int .i64 z)
theorem asks_open {H : Type} {enc : TypeId × Value → H} {W : World} {base : Nat} {sp : Nat → Bool} {hd : Bool} {a : Option Addr} {len cap : Nat} {d : DataW H} {p : List MemPlace} (h : DataW.Trod enc Try.prog W base sp hd 55 (.slice a len cap) d p) : IsAsks W a len ∧ len ≤ maxLen := by
  obtain ⟨fuel, hf⟩ := h
  rcases open_slice Try.underlying55 hf with ⟨hc, _⟩ | ⟨ad, l, c, m, n, D, Pl, hc, _, hl, hm, hmm, _, hx⟩
  · simp [Value.cells] at hc
    obtain ⟨rfl, rfl, rfl⟩ := hc
    exact ⟨fun h => absurd h (by omega), by simp⟩
  · simp [Value.cells] at hc
    obtain ⟨rfl, rfl, rfl⟩ := hc
    refine ⟨fun hlen => ?_, by omega⟩
    have hlm : len ≤ m := by rw [hmm]; split <;> omega
    have h3 : Try.prog.cellsOf 57 = 3 := by kernel_rfl
    rw [h3] at hx
    obtain ⟨cs0, hc0, _⟩ := hx 0 (by omega)
    have hspot : ad.spot = none := by
      have h1 := (World.cells?_some hc0).2.2 0 (by omega)
      have hl0 := (World.cells?_some hc0).2.1
      rw [List.getElem?_eq_getElem (by omega)] at h1
      have := World.cell?_spot h1
      simpa [Addr.add] using this
    obtain ⟨b, o, s⟩ := ad
    simp only at hspot
    subst hspot
    refine ⟨b, o, rfl, fun i hi => ?_⟩
    obtain ⟨cs, hcs, ht⟩ := hx i (by omega)
    obtain ⟨_, hl3, hcell⟩ := World.cells?_some hcs
    obtain ⟨y0, y1, y2, k, _, _, t0, t1, t2⟩ := trod_struct3 Try.underlying57 ht
    match cs, hl3 with
    | [c0, c1, c2], _ =>
      obtain ⟨x, hx0, _, _⟩ := DataW.trod_int Try.underlying3 t0
      obtain ⟨y, hy0, _, _⟩ := DataW.trod_int Try.underlying3 t1
      obtain ⟨z, hz0, _, _⟩ := DataW.trod_int Try.underlying3 t2
      have e1 : Try.prog.cellsOf 3 = 1 := by kernel_rfl
      simp only [e1, List.drop, List.take, List.cons.injEq, and_true] at hx0 hy0 hz0
      subst hx0; subst hy0; subst hz0
      have c0 := hcell 0 (by omega)
      have c1 := hcell 1 (by omega)
      have c2 := hcell 2 (by omega)
      simp only [Go.WideShapes.add_plain] at c0 c1 c2
      exact ⟨x, y, z, by simpa using c0, by simpa using c1, by simpa using c2⟩
end Go.Proofs.Ytnfnomcgalkagaa.P
