/- Rows that are written over: that their cells are there is all that is told. -/
import Derived.Test.YtnfnomcgalkagaaHFew
namespace Go.Proofs.Ytnfnomcgalkagaa.P
open Go.RowKit Go.Proofs.YtnfnomcgalkagaaW.PrintWords Go.Proofs.YtnfnomcgalkagaaW.PrintLast Go.Proofs.YtnfnomcgalkagaaW.PrintMore
set_option linter.unusedVariables false
set_option linter.unusedSimpArgs false
/-- A row of n cells in a plain block that is new since 'base'. -/
def Has (W : World) (A : Option Addr) (n base : Nat) : Prop := 0 < n → ∃ g cs t, A = some ⟨g, 0, none⟩ ∧ base ≤ g ∧ W.heap[g]? = some (.cells cs t (0, 0)) ∧ n ≤ cs.size
theorem Has.set {W : World} {A : Option Addr} {n base : Nat} (h : Has W A n base) (g' j : Nat) (x : Value) : Has (W.setCell ⟨g', j, none⟩ x) A n base := fun hn => by
  obtain ⟨g, cs, t, e, hb, hg, hs⟩ := h hn
  by_cases he : g = g'
  · subst he
    exact ⟨g, cs.setIfInBounds j x, t, e, hb, blk_set hg j x, by simpa using hs⟩
  · exact ⟨g, cs, t, e, hb, blk_far hg (p := ⟨g', j, none⟩) he x, hs⟩
theorem Has.below {W W' : World} {A : Option Addr} {n base : Nat} (h : Has W A n base) (hb : Below W.heap.size W W') : Has W' A n base := fun hn => by
  obtain ⟨g, cs, t, e, hg0, hg, hs⟩ := h hn
  exact ⟨g, cs, t, e, hg0, (hb.block g (blk_lt hg)).trans hg, hs⟩
theorem C_cell {k : IntKind} {w : World} {ad : Addr} {n : Nat} {l : List Int} (h : (Kd.int k).C w (some ad) n l) (i : Nat) (hi : i < n) : ∃ v, w.cell? (ad.add i) = some v := by
  obtain ⟨ad2, e, hc⟩ := Kd.at_int h (i : Int) (by omega) (by omega)
  cases e
  rw [Int.toNat_natCast] at hc
  exact ⟨_, hc⟩
/-- What is told of a row's blocks holds of its block. -/
theorem F_block {k : IntKind} {w : World} {ok : Nat → Prop} {ad : Addr} {l : List Int} (h : Kd.F (Kd.int k) w ok (some ad) l.length l) (hl : 0 < l.length) : ok ad.block := by
  refine Classical.byContradiction fun hn => ?_
  have h1 := h (w.setCell ad (.bool false)) (fun j hj _ => Below.heap_setCell w ad _ j (fun e => hn (e ▸ hj)))
  have h2 := C_first h1 hl
  have h3 := C_first (Kd.F_now h) hl
  rw [World.cell?_setCell_same' w ad _ (by rw [h3]; rfl)] at h2
  cases h2
theorem has_of {k : IntKind} {w : World} {base : Nat} {ad : Addr} {n c : Nat} {l : List Int} (hC : (Kd.int k).C w (some ad) l.length l) (hn : 0 < l.length) (hb : base ≤ ad.block) (hp : Plain w (.slice (some ad) n c)) :
    ∃ g cs t, some ad = some (⟨g, 0, none⟩ : Addr) ∧ base ≤ g ∧ w.heap[g]? = some (.cells cs t (0, 0)) ∧ l.length ≤ cs.size := by
  obtain ⟨g, cs, t, rfl, hg⟩ := hp ad n c rfl
  refine ⟨g, cs, t, rfl, hb, hg, ?_⟩
  obtain ⟨v, hv⟩ := C_cell hC (l.length - 1) (by omega)
  have e2 : (⟨g, 0, none⟩ : Addr).add (l.length - 1) = ⟨g, l.length - 1, none⟩ := by rw [add_plain]
  rw [e2, blk_cell hg] at hv
  have := (Array.getElem?_eq_some_iff.1 hv).1
  omega
theorem V_has {k : IntKind} {w : World} {e b base : Nat} {A : Option Addr} {n c : Nat} {l : List Int} (h : Kd.V (Kd.int k) e w b (fun k_ => base ≤ k_) (.slice A n c) l) (hp : Plain w (.slice A n c)) : Has w A l.length base := fun hn => by
  have hF := (Kd.V_at h).2.2
  have hC := Kd.F_now hF
  obtain ⟨ad, ea, _⟩ := Kd.at_int hC 0 (by omega) (by omega)
  subst ea
  exact has_of hC hn (F_block hF hn) hp
theorem R_has {k : IntKind} {w : World} {e base : Nat} {ok : Nat → Prop} {A : Option Addr} {n c : Nat} {l : List Int} (h : Kd.R (Kd.int k) e w base ok (.slice A n c) l) : Has w A l.length base := fun hn => by
  have hC := (Kd.R_reads' h).2.2
  obtain ⟨ad, ea, _⟩ := Kd.at_int hC 0 (by omega) (by omega)
  subst ea
  exact has_of hC hn (Kd.R_base h ad.block rfl) (R_plain h)
end Go.Proofs.Ytnfnomcgalkagaa.P
