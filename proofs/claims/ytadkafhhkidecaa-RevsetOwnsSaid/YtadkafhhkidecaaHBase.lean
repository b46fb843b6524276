/- Small general lemmas over the words, for contracts that are typed by hand. -/
import Derived.Test.YtadkafhhkidecaaWMore
import Derived.Test.YtadkafhhkidecaaWKept
import Derived.Test.YtadkafhhkidecaaWFoot
import Derived.Test.YtadkafhhkidecaaHNum
import Derived.Test.YtadkafhhkidecaaProg
namespace Go.Proofs.Ytadkafhhkidecaa.P
open Go.RowKit Go.Proofs.YtadkafhhkidecaaW.PrintWords Go.Proofs.YtadkafhhkidecaaW.PrintLast Go.Proofs.YtadkafhhkidecaaW.PrintMore
set_option linter.unusedVariables false
set_option linter.unusedSimpArgs false

theorem hinfo5 : (Try.prog.info? 5).map (fun i => (i.zero, i.size, i.bytes)) = some (some (.int .u8 0), 1, 1) := by kernel_rfl

/-- The cells of a row of whole numbers that is read. -/
theorem C_cells {k : IntKind} {w : World} {A : Option Addr} {n : Nat} {l : List Int} (h : (Kd.int k).C w A n l) : ∀ b, A = some b → ∀ j u, (nums k l)[j]? = some u → w.cell? (b.add j) = some u := by
  intro b hA j u hu
  have hj : j < l.length := by
    have := (List.getElem?_eq_some_iff.1 hu).1
    simpa [nums] using this
  have hn := h.1
  obtain ⟨ad, e, hc⟩ := Kd.at_int h (j : Int) (by omega) (by omega)
  rw [hA] at e
  cases e
  rw [Int.toNat_natCast] at hc
  rw [hc]
  have : (nums k l)[j]? = some (.int k (rd l j)) := by
    simp only [nums, List.getElem?_map, List.getElem?_eq_getElem hj, Option.map_some, rd, Int.toNat_natCast, List.getD_eq_getElem?_getD, Option.getD_some]
  rw [this] at hu
  exact hu
theorem C_none {k : IntKind} {w : World} {n : Nat} {l : List Int} (h : (Kd.int k).C w none n l) : n = 0 := by
  rcases Nat.eq_zero_or_pos n with h0 | h0
  · exact h0
  · obtain ⟨ad, e, _⟩ := h.2.2 h0
    cases e
theorem C_max {k : IntKind} {w : World} {A : Option Addr} {n : Nat} {l : List Int} (h : (Kd.int k).C w A n l) : n ≤ 9223372036854775807 := h.2.1
theorem R_of_ownsRow {k : IntKind} {e : Nat} {w : World} {base : Nat} {v : Value} {xs : List Int} (h : w.ownsRow base e 1 v xs.length (nums k xs)) : (Kd.int k).R e w base (fun _ => True) v xs :=
  Kd.R_of_own (enc := Value.int k) (h1 := fun _ => rfl) h (fun _ _ => trivial)

/-- A literal that was just laid, read. -/
theorem lit_C {k : IntKind} (W : World) (e : TypeId) (xs : List Int) (cs : Array Value) (h : cs = (nums k xs).toArray) (hm : xs.length ≤ 1000) : (Kd.int k).C (W.alloc (.cells cs e)) (some ⟨W.heap.size, 0, none⟩) xs.length xs := by
  subst h
  exact (Kd.R_reads' (R_of_ownsRow (own_lit W W.heap.size e k xs (Nat.le_refl _) (by omega)))).2.2
theorem lit_C' {k : IntKind} (W : World) (g : Nat) (hg : g = W.heap.size) (e : TypeId) (xs : List Int) (cs : Array Value) (h : cs = (nums k xs).toArray) (hm : xs.length ≤ 1000) : (Kd.int k).C (W.alloc (.cells cs e)) (some ⟨g, 0, none⟩) xs.length xs := by
  subst hg; exact lit_C W e xs cs h hm

/-- Bytes that are shared, as a text. -/
theorem V_string {P : Program} {src dst e' : TypeId} {e : Nat} {W : World} {base : Nat} {ok : Nat → Prop} {v : Value} {xs : List Int} (hs : P.underlying src = some (.slice e')) (he : P.underlying e' = some (.int .u8)) (hd : P.underlying dst = some .string)
    (h : Kd.V (Kd.int .u8) e W base ok v xs) : (convert src dst v).run P W = .ok (.string (strOfNums xs)) W := by
  obtain ⟨A, c, rfl, hl, hF⟩ := h
  exact Kd.C_string hs he hd (Kd.F_now hF)
/-- A row's block is a plain one. -/
def Plain (W : World) (v : Value) : Prop := ∀ ad n c, v = .slice (some ad) n c → ∃ g cs t, ad = ⟨g, 0, none⟩ ∧ W.heap[g]? = some (.cells cs t (0, 0))
theorem own_plain {w : World} {base : Nat} {e : TypeId} {size n : Nat} {v : Value} {xs : List Value} (h : w.ownsRow base e size v n xs) : Plain w v := fun ad m c hv => by
  subst hv
  have ht := own_typed h ad.block rfl
  obtain ⟨cells, hc⟩ := ht
  obtain ⟨h1, h2⟩ := h
  rcases h2 with ⟨h2, _⟩ | ⟨g, cap, cur, h3, _, r⟩
  · cases h2
  · injection h3 with h4 h5 h6
    injection h4 with h4
    subst h4
    exact ⟨g, cells, e, rfl, hc⟩
theorem Plain.cut {W : World} {A : Option Addr} {n c m d : Nat} (h : Plain W (.slice A n c)) : Plain W (.slice A m d) := fun ad n' c' hv => by
  injection hv with h1 h2 h3
  subst h1
  exact h ad n c rfl
theorem R_plain {k : IntKind} {w : World} {e base : Nat} {ok : Nat → Prop} {v : Value} {l : List Int} (h : Kd.R (Kd.int k) e w base ok v l) : Plain w v := by
  obtain ⟨inner, ho⟩ := Kd.R_own h
  exact own_plain ho
end Go.Proofs.Ytadkafhhkidecaa.P
