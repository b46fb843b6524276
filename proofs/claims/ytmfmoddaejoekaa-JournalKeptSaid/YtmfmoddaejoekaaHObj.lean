/- An object: a block that is known whole, and parts to which it leads, each in blocks of its own. Plain words, for whatever program. -/
import Derived.Test.YtmfmoddaejoekaaHRw
set_option linter.unusedVariables false
set_option linter.unusedSimpArgs false
namespace Go.Proofs.YtmfmoddaejoekaaW.PrintWords
open Go.RowKit
def Res.obj (g : Nat) (t : TypeId) (cs : List Value) (Rs : List Res) : Res where
  P := fun ok W => ok g ∧ W.heap[g]? = some (.cells cs.toArray t (0, 0)) ∧ ∃ own : Nat → Nat, ∀ (i : Nat) (R : Res), Rs[i]? = some R → R.P (fun k => (ok k ∧ k < W.heap.size) ∧ k ≠ g ∧ own k = i) W
  mono := fun hok ⟨h1, h2, own, h3⟩ => ⟨hok _ h1, h2, own, fun i R hi => R.mono (fun k hk => ⟨⟨hok k hk.1.1, hk.1.2⟩, hk.2⟩) (h3 i R hi)⟩
  step := fun h hm => by
    obtain ⟨h1, h2, own, h3⟩ := h
    refine ⟨h1, (hm _ h1 (blk_lt h2)).trans h2, own, fun i R hi => ?_⟩
    refine R.mono (fun k hk => ?_) (R.step (h3 i R hi) (fun k hk hlt => hm k hk.1.1 hlt))
    exact ⟨⟨hk.1.1, heap_lt (hm k hk.1.1 hk.1.2) hk.1.2⟩, hk.2⟩
  bound := fun ⟨h1, h2, own, h3⟩ => ⟨⟨h1, blk_lt h2⟩, h2, own, fun i R hi => R.mono (fun k hk => ⟨⟨hk.1, hk.1.2⟩, hk.2⟩) (h3 i R hi)⟩
section
variable {g i : Nat} {t : TypeId} {cs : List Value} {Rs : List Res} {R R' : Res} {ok : Nat → Prop} {W W' : World}
theorem obj_ok (h : (Res.obj g t cs Rs).P ok W) : ok g := h.1
theorem obj_blk (h : (Res.obj g t cs Rs).P ok W) : W.heap[g]? = some (.cells cs.toArray t (0, 0)) := h.2.1
theorem obj_get (h : (Res.obj g t cs Rs).P ok W) (i : Nat) (hi : Rs[i]? = some R) : ∃ oki : Nat → Prop, R.P oki W ∧ (∀ k, oki k → ok k ∧ k < W.heap.size ∧ k ≠ g) := by
  obtain ⟨h1, h2, own, h3⟩ := h
  exact ⟨_, h3 i R hi, fun k hk => ⟨hk.1.1, hk.1.2, hk.2.1⟩⟩
theorem obj_set (h : (Res.obj g t cs Rs).P ok W) (j : Nat) (u : Value) : (Res.obj g t (cs.set j u) Rs).P ok (W.setCell ⟨g, j, none⟩ u) ∧ Keeps W (W.setCell ⟨g, j, none⟩ u) ok := by
  obtain ⟨h1, h2, own, h3⟩ := h
  have hk := Keeps.of_set W ⟨g, j, none⟩ u
  have hsz : (W.setCell ⟨g, j, none⟩ u).heap.size = W.heap.size := by simp [World.setCell]
  refine ⟨⟨h1, ?_, own, fun i R hi => ?_⟩, hk.mono (fun k _ he => by rw [he]; exact h1)⟩
  · rw [blk_set h2 j u, List.setIfInBounds_toArray]
  · refine R.mono (fun k hk2 => ?_) (R.step (h3 i R hi) (fun k hk2 hlt => hk.block k hlt hk2.2.1))
    rw [hsz]
    exact hk2
theorem obj_turn (h : (Res.obj g t cs Rs).P ok W) (i : Nat) (hi : Rs[i]? = some R) : ∃ oki : Nat → Prop, R.P oki W ∧ (∀ k, oki k → ok k ∧ k < W.heap.size ∧ k ≠ g) ∧
    ∀ {W' : World} {R' : Res}, Turned oki W W' R' → Turned ok W W' (Res.obj g t cs (Rs.set i R')) := by
  obtain ⟨h1, h2, own, h3⟩ := h
  refine ⟨fun k => (ok k ∧ k < W.heap.size) ∧ k ≠ g ∧ own k = i, h3 i R hi, fun k hk => ⟨hk.1.1, hk.1.2, hk.2.1⟩, fun {W' R'} ht => ?_⟩
  have hlt : i < Rs.length := (List.getElem?_eq_some_iff.1 hi).1
  refine ⟨ht.1.mono (fun k _ hk => hk.1.1), .inl h1, (ht.1.block g (blk_lt h2) (fun hh => hh.2.1 rfl)).trans h2, fun k => if k < W.heap.size then own k else i, fun j Rj hj => ?_⟩
  by_cases e : i = j
  · subst e
    rw [List.getElem?_set_self hlt] at hj
    cases hj
    refine R'.mono (fun k hk => ?_) (R'.bound ht.2)
    obtain ⟨hk1, hk2⟩ := hk
    rcases hk1 with hk1 | hk1
    · exact ⟨⟨.inl hk1.1.1, hk2⟩, hk1.2.1, by show (if k < W.heap.size then own k else i) = i; rw [if_pos hk1.1.2]; exact hk1.2.2⟩
    · refine ⟨⟨.inr hk1, hk2⟩, fun he => ?_, by show (if k < W.heap.size then own k else i) = i; rw [if_neg (by omega)]⟩
      have := blk_lt h2
      omega
  · rw [List.getElem?_set_ne e] at hj
    refine Rj.mono (fun k hk => ?_) (Rj.step (h3 j Rj hj) (fun k hk hlt2 => ht.1.block k hlt2 (fun hh => e (hh.2.2.symm.trans hk.2.2))))
    exact ⟨⟨.inl hk.1.1, Nat.lt_of_lt_of_le hk.1.2 ht.1.size⟩, hk.2.1, by show (if k < W.heap.size then own k else i) = j; rw [if_pos hk.1.2]; exact hk.2.2⟩
end
end Go.Proofs.YtmfmoddaejoekaaW.PrintWords
