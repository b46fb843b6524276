/- Two parts, each in blocks of its own, written one by one; a row of one's own that may begin inside its block, as a part. Plain words, for whatever program. -/
import Derived.Test.YtmfmoddaejoekaaHTapeC
set_option linter.unusedVariables false
set_option linter.unusedSimpArgs false
namespace Go.Proofs.YtmfmoddaejoekaaW.PrintWords
open Go.RowKit
section
variable {A B A' B' : Res} {ok : Nat → Prop} {W W' : World}
theorem sep_left (h : (Res.sep A B).P ok W) : ∃ oka : Nat → Prop, A.P oka W ∧ (∀ k, oka k → ok k ∧ k < W.heap.size) ∧ ∀ {W' : World} {A' : Res}, Turned oka W W' A' → Turned ok W W' (Res.sep A' B) := by
  obtain ⟨f, ha, hb⟩ := h
  refine ⟨fun k => (ok k ∧ f k) ∧ k < W.heap.size, A.bound ha, fun k hk => ⟨hk.1.1, hk.2⟩, fun {W' A'} ht => ⟨ht.1.mono (fun k _ hk => hk.1.1), fun k => if k < W.heap.size then f k else True, ?_, ?_⟩⟩
  · refine A'.mono (fun k hk => ?_) ht.2
    rcases hk with hk | hk
    · exact ⟨.inl hk.1.1, by show (if k < W.heap.size then f k else True); rw [if_pos hk.2]; exact hk.1.2⟩
    · exact ⟨.inr hk, by show (if k < W.heap.size then f k else True); rw [if_neg (by omega)]; trivial⟩
  · refine B.mono (fun k hk => ?_) (B.step (B.bound hb) (fun k hk hlt => ht.1.block k hlt (fun hh => hk.1.2 hh.1.2)))
    exact ⟨.inl hk.1.1, by show ¬ (if k < W.heap.size then f k else True); rw [if_pos hk.2]; exact hk.1.2⟩
theorem sep_right (h : (Res.sep A B).P ok W) : ∃ okb : Nat → Prop, B.P okb W ∧ (∀ k, okb k → ok k ∧ k < W.heap.size) ∧ ∀ {W' : World} {B' : Res}, Turned okb W W' B' → Turned ok W W' (Res.sep A B') := by
  obtain ⟨f, ha, hb⟩ := h
  refine ⟨fun k => (ok k ∧ ¬ f k) ∧ k < W.heap.size, B.bound hb, fun k hk => ⟨hk.1.1, hk.2⟩, fun {W' B'} ht => ⟨ht.1.mono (fun k _ hk => hk.1.1), fun k => if k < W.heap.size then f k else False, ?_, ?_⟩⟩
  · refine A.mono (fun k hk => ?_) (A.step (A.bound ha) (fun k hk hlt => ht.1.block k hlt (fun hh => hh.1.2 hk.1.2)))
    exact ⟨.inl hk.1.1, by show (if k < W.heap.size then f k else False); rw [if_pos hk.2]; exact hk.1.2⟩
  · refine B'.mono (fun k hk => ?_) ht.2
    rcases hk with hk | hk
    · exact ⟨.inl hk.1.1, by show ¬ (if k < W.heap.size then f k else False); rw [if_pos hk.2]; exact hk.1.2⟩
    · exact ⟨.inr hk, by show ¬ (if k < W.heap.size then f k else False); rw [if_neg (by omega)]; exact id⟩
theorem sep_left2 (h : (Res.sep A B).P ok W) : ∃ oka okb : Nat → Prop, A.P oka W ∧ B.P okb W ∧ (∀ k, oka k → ¬ okb k) ∧ (∀ k, oka k → ok k ∧ k < W.heap.size) ∧ ∀ {W' : World} {A' : Res}, Turned oka W W' A' → Turned ok W W' (Res.sep A' B) := by
  obtain ⟨f, ha, hb⟩ := h
  refine ⟨fun k => (ok k ∧ f k) ∧ k < W.heap.size, fun k => ok k ∧ ¬ f k, A.bound ha, hb, fun k hk hh => hh.2 hk.1.2, fun k hk => ⟨hk.1.1, hk.2⟩, fun {W' A'} ht => ⟨ht.1.mono (fun k _ hk => hk.1.1), fun k => if k < W.heap.size then f k else True, ?_, ?_⟩⟩
  · refine A'.mono (fun k hk => ?_) ht.2
    rcases hk with hk | hk
    · exact ⟨.inl hk.1.1, by show (if k < W.heap.size then f k else True); rw [if_pos hk.2]; exact hk.1.2⟩
    · exact ⟨.inr hk, by show (if k < W.heap.size then f k else True); rw [if_neg (by omega)]; trivial⟩
  · refine B.mono (fun k hk => ?_) (B.step (B.bound hb) (fun k hk hlt => ht.1.block k hlt (fun hh => hk.1.2 hh.1.2)))
    exact ⟨.inl hk.1.1, by show ¬ (if k < W.heap.size then f k else True); rw [if_pos hk.2]; exact hk.1.2⟩
theorem sep_new (h : A.P ok W) (hb : Below W.heap.size W W') (hB : B.P (fun k => W.heap.size ≤ k) W') : Turned ok W W' (Res.sep A B) := by
  refine ⟨Keeps.of_below hb _, fun k => k < W.heap.size, ?_, ?_⟩
  · exact A.mono (fun k hk => ⟨.inl hk.1, hk.2⟩) (A.step (A.bound h) (fun k hk hlt => hb.block k hlt))
  · exact B.mono (fun k hk => ⟨.inr hk, by omega⟩) hB
theorem sep_fst (h : (Res.sep A B).P ok W) : ∃ oka : Nat → Prop, A.P oka W ∧ (∀ k, oka k → ok k) := ⟨_, h.choose_spec.1, fun k hk => hk.1⟩
theorem sep_snd (h : (Res.sep A B).P ok W) : ∃ okb : Nat → Prop, B.P okb W ∧ (∀ k, okb k → ok k) := ⟨_, h.choose_spec.2, fun k hk => hk.1⟩
end
section
variable {A B : Res} {ok : Nat → Prop} {W : World} {g : Nat} {t : TypeId} {cs : List Value} {Rs : List Res}
theorem sep_drop (h : (Res.sep A B).P ok W) : A.P ok W := A.mono (fun k hk => hk.1) h.choose_spec.1
theorem sep_mk {oka okb : Nat → Prop} (hA : A.P oka W) (hB : B.P okb W) (hd : ∀ k, oka k → ¬ okb k) : (Res.sep A B).P (fun k => oka k ∨ okb k) W := ⟨oka, A.mono (fun k hk => ⟨.inl hk, hk⟩) hA, B.mono (fun k hk => ⟨.inr hk, fun h => hd k h hk⟩) hB⟩
theorem sep_exr2 {α : Type} {F : α → Res} (h : (Res.sep (Res.sep A (Res.ex F)) B).P ok W) : ∃ a, (Res.sep (Res.sep A (F a)) B).P ok W := by
  obtain ⟨f, ⟨f2, ha, a, hb⟩, hc⟩ := h
  exact ⟨a, f, ⟨f2, ha, hb⟩, hc⟩
theorem sep_deep {C : Res} (h : (Res.sep (Res.sep A B) C).P ok W) : ∃ oka okb : Nat → Prop, A.P oka W ∧ B.P okb W ∧ (∀ k, oka k → ¬ okb k) ∧ (∀ k, oka k → ok k ∧ k < W.heap.size) ∧ ∀ {W' : World} {A' : Res}, Turned oka W W' A' → Turned ok W W' (Res.sep (Res.sep A' B) C) := by
  obtain ⟨okx, hx, hxs, hxb⟩ := sep_left h
  obtain ⟨oka, okb, ha, hb, hd, hs, hback⟩ := sep_left2 hx
  exact ⟨oka, okb, ha, hb, hd, fun k hk => ⟨(hxs k (hs k hk).1).1, (hs k hk).2⟩, fun {W' A'} ht => hxb (hback ht)⟩
theorem sep_give (h : (Res.sep (Res.sep A (Res.obj g t cs Rs)) B).P ok W) (i : Nat) : (Res.sep A (Res.obj g t cs (Rs.set i B))).P ok W := by
  obtain ⟨f, ⟨f2, ha, h1, h2, own, h3⟩, hb⟩ := h
  refine ⟨fun k => f k ∧ f2 k, A.mono (fun k hk => ⟨hk.1.1, hk.1.2, hk.2⟩) ha, ⟨h1.1.1, fun hh => h1.2 hh.2⟩, h2, fun k => if @decide (f k) (Classical.propDecidable _) then own k else i, fun j Rj hj => ?_⟩
  by_cases e : i = j
  · subst e
    by_cases hlt : i < Rs.length
    · rw [List.getElem?_set_self hlt] at hj
      cases hj
      refine B.mono (fun k hk => ⟨⟨⟨hk.1.1, fun hh => hk.1.2 hh.1⟩, hk.2⟩, fun he => hk.1.2 (he ▸ h1.1.2), ?_⟩) (B.bound hb)
      show (if @decide (f k) (Classical.propDecidable _) then own k else i) = i
      simp [hk.1.2]
    · rw [List.set_eq_of_length_le (by omega)] at hj
      have := (List.getElem?_eq_some_iff.1 hj).1
      omega
  · rw [List.getElem?_set_ne e] at hj
    refine Rj.mono (fun k hk => ⟨⟨⟨hk.1.1.1.1, fun hh => hk.1.1.2 hh.2⟩, hk.1.2⟩, hk.2.1, ?_⟩) (h3 j Rj hj)
    show (if @decide (f k) (Classical.propDecidable _) then own k else i) = j
    simp [hk.1.1.1.2, hk.2.2]
end
theorem St.split {w0 W : World} {S : Nat → Prop} {Rs : List Res} {A B : Res} (h : St w0 S W Rs) (i : Nat) (hi : Rs[i]? = some (Res.sep A B)) (h0 : i ≠ 0) : St w0 S W (Rs.set i A ++ [B]) := by
  obtain ⟨hk, own, ho, hr⟩ := h
  obtain ⟨f, ha, hb⟩ := hr i _ hi
  have hlt : i < Rs.length := (List.getElem?_eq_some_iff.1 hi).1
  refine ⟨hk, fun k => if @decide (own k = i ∧ ¬ f k) (Classical.propDecidable _) then Rs.length else own k, fun k h1 h2 => ?_, fun j Rj hj => ?_⟩
  · have := ho k h1 h2
    show (if @decide (own k = i ∧ ¬ f k) (Classical.propDecidable _) then Rs.length else own k) = 0
    rw [if_neg (by simp only [decide_eq_true_eq]; omega), this]
  · rcases Nat.lt_or_ge j Rs.length with hjl | hge
    · rw [List.getElem?_append_left (by simpa using hjl)] at hj
      by_cases e : i = j
      · subst e
        rw [List.getElem?_set_self hlt] at hj
        cases hj
        refine A.mono (fun k hk2 => ?_) ha
        show (if @decide (own k = i ∧ ¬ f k) (Classical.propDecidable _) then Rs.length else own k) = i
        rw [if_neg (by simp only [decide_eq_true_eq]; exact fun hh => hh.2 hk2.2)]
        exact hk2.1
      · rw [List.getElem?_set_ne e] at hj
        refine Rj.mono (fun k hk2 => ?_) (hr j Rj hj)
        have hk3 : own k = j := hk2
        show (if @decide (own k = i ∧ ¬ f k) (Classical.propDecidable _) then Rs.length else own k) = j
        rw [if_neg (by simp only [decide_eq_true_eq]; omega), hk3]
    · rw [List.getElem?_append_right (by simpa using hge), List.length_set] at hj
      have hj0 : j = Rs.length := by
        have := (List.getElem?_eq_some_iff.1 hj).1
        simp at this
        omega
      subst hj0
      rw [Nat.sub_self] at hj
      cases hj
      refine B.mono (fun k hk2 => ?_) hb
      show (if @decide (own k = i ∧ ¬ f k) (Classical.propDecidable _) then Rs.length else own k) = Rs.length
      rw [if_pos (by simp only [decide_eq_true_eq]; exact ⟨hk2.1, hk2.2⟩)]
def Res.rowq {α : Type} (d : Kd α) (e : TypeId) (v : Value) (xs : List α) : Res := ⟨fun ok W => d.Q e W 0 ok v xs, fun hok h => Kd.Q_mono h hok, fun h hm => Kd.Q_step h hm, fun h => Kd.Q_mono (Kd.Q_bound h) (fun _ hk => ⟨hk.1, hk.2.2.1⟩)⟩
end Go.Proofs.YtmfmoddaejoekaaW.PrintWords
