/- The plain model of layer 17: many calls that go through. -/
import Derived.Test.YtmfmoddaejoekaaHLaw17
set_option linter.unusedVariables false
set_option linter.unusedSimpArgs false
namespace Go.Proofs.Ytmfmoddaejoekaa.P
open Go.RowKit Go.Proofs.YtmfmoddaejoekaaW.PrintWords Go.Proofs.YtmfmoddaejoekaaW.PrintLast Go.Proofs.YtmfmoddaejoekaaW.PrintMore
/-- A tape and its journal behind so many calls, none of which failed. -/
structure Calm (i : Nat) (T : TM) (J : JM) : Prop where
  good : Good T J
  burns : T.burns = false
  len : ∀ q, q = 0 ∨ q = 1 → (T.safe q).length ≤ 100 + 400 * i
  g : J.g ≤ 1 + i
  L : J.L.length ≤ 5 + i
  rcs : ∀ r ∈ J.L, 1 ≤ r.length ∧ r.length ≤ 70
  ok : T.Ok (20 + 70000 * i)
  by_ : T.By
theorem TM.write_other {T : TM} (p q : Int) (data : List Int) (h : q ≠ p) : (T.write p data).now q = T.now q := by
  by_cases hw : T.writeE p data = 0
  · rw [TM.write_yes hw, TM.does_now, afterU_units_other _ _ _ (Ne.symm h)]
  · rw [TM.write_no hw]
theorem TM.write_same {T : TM} {p : Int} {data : List Int} (hw : T.writeE p data = 0) : (T.write p data).now p = T.now p ++ data := by
  rw [TM.write_yes hw, TM.does_now, afterU_units_same]
theorem TM.trim_other {T : TM} (p q n : Int) (h : q ≠ p) : (T.trim p n).now q = T.now q := by
  by_cases hw : T.trimE p n = 0
  · rw [TM.trim_yes hw, TM.does_now]
    show unit1 (T.now q) q ⟨p, n, 0⟩ = T.now q
    unfold unit1
    rw [if_neg (Ne.symm h)]
  · rw [TM.trim_no hw]
theorem TM.trim_same {T : TM} {p n : Int} (hw : T.trimE p n = 0) (hn : 0 ≤ n) : (T.trim p n).now p = (T.now p).take n.toNat := by
  rw [TM.trim_yes hw, TM.does_now]
  show unit1 (T.now p) p ⟨p, n, 0⟩ = _
  unfold unit1
  rw [if_pos rfl, if_pos hn]
theorem framesM_len_le : ∀ (l : List (List Int)) (m : Nat), (∀ r ∈ l, r.length ≤ m) → (framesM l).length ≤ l.length * (m + 4)
  | [], m, _ => by simp [framesM]
  | r :: l, m, h => by
    have h1 := framesM_len_le l m (fun x hx => h x (by simp [hx]))
    have h2 := h r (by simp)
    have e : framesM (r :: l) = frameM r ++ framesM l := rfl
    have e2 : (l.length + 1) * (m + 4) = l.length * (m + 4) + (m + 4) := Nat.succ_mul _ _
    rw [e, List.length_append, frameM_len, List.length_cons, e2]
    omega
theorem bodyM_le {g : Int} {l : List (List Int)} {m : Nat} (hg : 1 ≤ g ∧ g ≤ 1099511627776) (hl : l.length ≤ 4000) (h : ∀ r ∈ l, r.length ≤ m) : (bodyM g l).length ≤ 22 + l.length * (m + 4) := by
  have h1 := framesM_len_le l m h
  have h2 := head_len (l := l) hg hl
  unfold bodyM
  rw [List.length_append, frameM_len]
  omega
theorem calm_new : ∃ T J, openM TM.new = (0, T, some J) ∧ Calm 0 T J ∧ J.L = [] ∧ J.size = 7 := by
  obtain ⟨T1, J1, ho1, hG1, hb1, hs1, hg1, hL1, hz1, hs11, hs10⟩ := open_new (T := TM.new) rfl rfl rfl rfl
  have hok := Ok_open TM.new_ok
  have hby := By_open TM.By.new
  rw [ho1] at hok hby
  refine ⟨T1, J1, ho1, ⟨hG1, hb1, fun q hq => ?_, by rw [hg1]; decide, by rw [hL1]; decide, by rw [hL1]; simp, hok.mono (by decide), hby⟩, hL1, hz1⟩
  rcases hq with rfl | rfl
  · show T1.s0.length ≤ _
    rw [hs10, frameM_len]
    decide
  · show T1.s1.length ≤ _
    rw [hs11]
    decide
theorem Calm.size {i : Nat} {T : TM} {J : JM} (h : Calm i T J) (hi : i ≤ 40) : 0 ≤ J.size ∧ J.size ≤ 100000 := by
  have h1 := h.good.size
  have h2 := h.len J.side h.good.sd
  omega
theorem Calm.open_ {i : Nat} {T : TM} {J : JM} (h : Calm i T J) : openM T = (0, T, some J) := h.good.open_ (TM.calm_ready h.burns (.inl rfl))
end Go.Proofs.Ytmfmoddaejoekaa.P
