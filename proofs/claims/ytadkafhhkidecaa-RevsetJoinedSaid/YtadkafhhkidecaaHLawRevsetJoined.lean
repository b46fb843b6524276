/- A law: two sets that tell one another what they hold end up alike. -/
import Derived.Test.YtadkafhhkidecaaHLaw11
import Derived.Test.YtadkafhhkidecaaP3
import Derived.Test.YtadkafhhkidecaaP11
set_option linter.unusedVariables false
set_option linter.unusedSimpArgs false
namespace Go.Proofs.Ytadkafhhkidecaa.P
open Go.RowKit Go.Proofs.YtadkafhhkidecaaW.PrintWords Go.Proofs.YtadkafhhkidecaaW.PrintLast Go.Proofs.YtadkafhhkidecaaW.PrintMore
/-! What two sets that were joined say: plain lists. -/
theorem getD_at {L : List (List Int)} {i : Nat} (h : i < L.length) : L.getD i [] = L[i] := by rw [List.getD_eq_getElem?_getD, List.getElem?_eq_getElem h]; rfl
theorem good_ext {L M : List (List Int)} (hL : Good L) (hM : Good M) (h : ∀ i, i < 16 → L.getD i [] = M.getD i []) : L = M := by
  have h1 := hL.1
  have h2 := hM.1
  refine List.ext_getElem (by omega) fun i h3 h4 => ?_
  have := h i (by omega)
  rwa [getD_at h3, getD_at h4] at this
theorem getV_lens {L : List (List Int)} (h : Good L) {i : Nat} (hi : i < 16) : getV (lensS L) ((i : Int) + 1) = ((L.getD i []).length : Int) := by
  have h1 := h.1
  have h2 := h.len i
  have h3 : (lensS L).length = 16 := by rw [lensS_length, h1]
  rw [getV_eq _ _ (by omega) (by omega) (by omega)]
  have h4 : rd (lensS L) ((i : Int) + 1 - 1) = ((L.getD i []).length : Int) := by
    rw [show (i : Int) + 1 - 1 = (i : Int) by omega, rd_nat _ i (by omega), getD_at (by omega)]
    simp [lensS]
  rw [h4]
  unfold mx mn
  split <;> split <;> omega
theorem getV_vector {L : List (List Int)} (h : Good L) {i : Nat} (hi : i < 16) : getV (vectorS L) ((i : Int) + 1) = ((L.getD i []).length : Int) := by
  unfold vectorS
  rw [getV_bareOf _ (fun d => getV_range _ d) _ (by omega) (by omega)]
  exact getV_lens h hi
theorem lastNe_nil (L : List (List Int)) (known : List Int) : ∀ n i : Nat, lastNe L known n ≤ i → i < n → partS L known i = [] := by
  intro n
  induction n with
  | zero => intro i _ h; omega
  | succ n ih =>
    intro i h1 h2
    simp only [lastNe] at h1
    by_cases c : partS L known n = []
    · rw [if_pos c] at h1
      by_cases e : i = n
      · subst e; exact c
      · exact ih i h1 (by omega)
    · rw [if_neg c] at h1
      omega
theorem deltaS_getD (L : List (List Int)) (known : List Int) {i : Nat} (hi : i < 16) : (deltaS L known).getD i [] = partS L known i := by
  have hl := partsS_length L known 16
  unfold deltaS
  by_cases h : i < lastNe L known 16
  · rw [List.getD_eq_getElem?_getD, List.getElem?_take_of_lt h]
    simp [partsS, List.getElem?_range, hi]
  · rw [lastNe_nil L known 16 i (by omega) hi, List.getD_eq_getElem?_getD, List.getElem?_take_eq_none (by omega)]
    rfl
theorem mergeTo_getD (known : List Int) (more : List (List Int)) {L : List (List Int)} (hL : Good L) : ∀ n i : Nat, n ≤ 16 → (mergeTo known more L n).1.getD i [] = if i < n then mergeRow (L.getD i []) (getV known ((i : Int) + 1)) (more.getD i []) else L.getD i [] := by
  intro n
  induction n with
  | zero => intro i _; rw [if_neg (by omega)]; rfl
  | succ n ih =>
    intro i hn
    have hlen := (hL.merge known more n).1
    simp only [mergeTo]
    by_cases e : n = i
    · subst e
      rw [if_pos (by omega), List.getD_eq_getElem?_getD, List.getElem?_set_self (by omega), ih n (by omega), if_neg (by omega)]
      rfl
    · rw [List.getD_eq_getElem?_getD, List.getElem?_set_ne e, ← List.getD_eq_getElem?_getD, ih i (by omega)]
      by_cases h : i < n
      · rw [if_pos h, if_pos (by omega)]
      · rw [if_neg h, if_neg (by omega)]
theorem mergeL_getD (known : List Int) (more : List (List Int)) {L : List (List Int)} (hL : Good L) {i : Nat} (hi : i < 16) : (mergeL known more L).getD i [] = mergeRow (L.getD i []) (getV known ((i : Int) + 1)) (more.getD i []) := by
  unfold mergeL
  rw [mergeTo_getD known more hL 16 i (by omega), if_pos hi]
theorem mergeTo_fix (known : List Int) (more : List (List Int)) (L : List (List Int)) (h : ∀ i : Nat, i < 16 → mergeRow (L.getD i []) (getV known ((i : Int) + 1)) (more.getD i []) = L.getD i []) : ∀ n, n ≤ 16 → mergeTo known more L n = (L, 0) := by
  intro n
  induction n with
  | zero => intro _; rfl
  | succ n ih =>
    intro hn
    simp only [mergeTo]
    rw [ih (by omega)]
    simp only
    rw [h n (by omega), set_getD]
    simp
theorem mayS_take {l : List Int} (h : mayS l = true) (n : Nat) : mayS (l.take n) = true := by
  rw [mayS_iff] at h ⊢
  exact ⟨by rw [List.length_take]; omega, fun x hx => h.2.1 x (List.mem_of_mem_take hx), h.2.2.sublist (List.take_sublist n l)⟩
theorem take_len_eq {f : List Int} {m n : Nat} (h : min m f.length = min n f.length) : f.take m = f.take n := by
  by_cases h1 : m ≤ f.length ∧ n ≤ f.length
  · have e : m = n := by omega
    rw [e]
  · rw [List.take_of_length_le (by omega), List.take_of_length_le (by omega)]
theorem join_row {f : List Int} (hf : mayS f = true) (m n : Nat) : mergeRow (f.take m) ((f.take m).length : Int) ((f.take n).drop (f.take m).length) = f.take (max m n) := by
  have hlm : (f.take m).length = min m f.length := List.length_take
  have hln : (f.take n).length = min n f.length := List.length_take
  by_cases h : min n f.length ≤ min m f.length
  · rw [List.drop_eq_nil_of_le (by omega), mergeRow_nil]
    exact take_len_eq (by omega)
  · have hm : (f.take m).length = m := by omega
    have hnx : nextS (f.take m) ((f.take m).length : Int) ((f.take n).drop (f.take m).length) = f.take n := by
      unfold nextS
      rw [Int.toNat_natCast, List.take_of_length_le (Nat.le_refl _), hm]
      have : f.take m = (f.take n).take m := by rw [List.take_take, Nat.min_eq_left (by omega)]
      rw [this, List.take_append_drop]
    unfold mergeRow
    rw [if_pos, hnx]
    · exact take_len_eq (by omega)
    · unfold mergeOk
      rw [hnx]
      have h32 := ((mayS_iff _).1 hf).1
      refine decide_eq_true ⟨fun he => ?_, by omega, by rw [List.length_drop]; omega, mayS_take hf n, ?_, by omega⟩
      · have := congrArg List.length he
        rw [List.length_drop] at this
        simp at this
        omega
      · rw [List.take_take, hm]
        congr 1
        omega
theorem join_again {f : List Int} (m n : Nat) : mergeRow (f.take (max m n)) ((f.take m).length : Int) ((f.take n).drop (f.take m).length) = f.take (max m n) := by
  have hlm : (f.take m).length = min m f.length := List.length_take
  have hln : (f.take n).length = min n f.length := List.length_take
  have hlx : (f.take (max m n)).length = min (max m n) f.length := List.length_take
  unfold mergeRow
  rw [if_neg]
  unfold mergeOk
  rw [decide_eq_true_iff]
  intro hh
  have h6 := hh.2.2.2.2.2
  unfold nextS at h6
  rw [Int.toNat_natCast, List.length_append, List.length_take, List.length_drop, hlm, hln, List.length_take, hlx] at h6
  omega
/-- A holds, of each row of F, what g lets it have. -/
def Pre (F A : List (List Int)) (g : Nat → Nat) : Prop := ∀ i, i < 16 → A.getD i [] = (F.getD i []).take (g i)
def gOf (l : List Int) (i : Nat) : Nat := (getV l ((i : Int) + 1)).toNat
theorem pre_new (g : Nat → Nat) : Pre lv0 lv0 g := fun i hi => by
  have : lv0.getD i [] = [] := by
    show (List.replicate 16 []).getD i [] = []
    rw [List.getD_eq_getElem?_getD, List.getElem?_replicate, if_pos hi]
    rfl
  rw [this, List.take_nil]
theorem set_get {L : List (List Int)} {n i : Nat} {l : List Int} (hn : n < L.length) : (L.set n l).getD i [] = if n = i then l else L.getD i [] := by
  by_cases e : n = i
  · subst e
    rw [if_pos rfl, List.getD_eq_getElem?_getD, List.getElem?_set_self hn]; rfl
  · rw [if_neg e, List.getD_eq_getElem?_getD, List.getElem?_set_ne e, ← List.getD_eq_getElem?_getD]
theorem pre_step {F A l : _} (hF : Good F) (hA : Good A) {d s : Int} (hp : Pre F A (gOf l)) (h0 : addN F d s = 0) :
    Pre (addL F d s) (if ((rowN (addL F d s) d).length : Int) ≤ getV l d then addL A d s else A) (gOf l) ∧ Good (if ((rowN (addL F d s) d).length : Int) ≤ getV l d then addL A d s else A) := by
  obtain ⟨h1, h2, h3, h4, h5, h6⟩ := addN_zero h0
  have hlF := hF.1
  have hlA := hA.1
  have hi0 : d.toNat - 1 < 16 := by omega
  have hd : d = ((d.toNat - 1 : Nat) : Int) + 1 := by omega
  have hg : getV l d = (gOf l (d.toNat - 1) : Int) := by
    unfold gOf
    rw [← hd]
    have := getV_range l d
    omega
  have hFa : addL F d s = F.set (d.toNat - 1) (rowS F d ++ [s]) := by rw [addL, if_pos h0]
  have hrow : rowN (addL F d s) d = rowS F d ++ [s] := by
    unfold rowN
    rw [if_pos ⟨h1, h2⟩]
    show (addL F d s).getD (d.toNat - 1) [] = _
    rw [hFa, set_get (by omega), if_pos rfl]
  have hAr : rowS A d = (rowS F d).take (gOf l (d.toNat - 1)) := hp _ hi0
  rw [hrow, List.length_append, hg]
  by_cases c : (((rowS F d).length + [s].length : Nat) : Int) ≤ (gOf l (d.toNat - 1) : Int)
  · rw [if_pos c]
    have c2 : (rowS F d).length + 1 ≤ gOf l (d.toNat - 1) := by simpa using (by exact_mod_cast c : (rowS F d).length + [s].length ≤ gOf l (d.toNat - 1))
    have e1 : rowS A d = rowS F d := by rw [hAr, List.take_of_length_le (by omega)]
    have a0 : addN A d s = 0 := by
      unfold addN
      rw [if_neg (by simp; omega), e1, if_neg h5, if_neg (by omega)]
    refine ⟨fun i hi => ?_, hA.add d s⟩
    rw [addL, if_pos a0, hFa, set_get (by omega), set_get (by omega), e1]
    by_cases e : d.toNat - 1 = i
    · rw [if_pos e, if_pos e, ← e, List.take_of_length_le (by rw [List.length_append]; simp; omega)]
    · rw [if_neg e, if_neg e]
      exact hp i hi
  · rw [if_neg c]
    have c2 : gOf l (d.toNat - 1) ≤ (rowS F d).length := by
      have : ¬ (rowS F d).length + 1 ≤ gOf l (d.toNat - 1) := fun hh => c (by simp; omega)
      omega
    refine ⟨fun i hi => ?_, hA⟩
    rw [hFa, set_get (by omega)]
    by_cases e : d.toNat - 1 = i
    · rw [if_pos e, List.take_append_of_le_length (by rw [← e]; exact c2)]
      rw [← e]
      exact hAr
    · rw [if_neg e]
      exact hp i hi
/-- What both know. -/
theorem joined_all {F A B : List (List Int)} {g g2 : Nat → Nat} (hF : Good F) (hA : Good A) (hB : Good B) (h1 : Pre F A g) (h2 : Pre F B g2) :
    ∃ M, Good M ∧ mergeL (vectorS A) (deltaS B (vectorS A)) A = M ∧ mergeL (vectorS B) (deltaS A (vectorS B)) B = M ∧ mergeN (vectorS A) (deltaS B (vectorS A)) M = 0 ∧ mergeL (vectorS A) (deltaS B (vectorS A)) M = M ∧ vectorS M = bareOf (joinV (vectorS A) (vectorS B)) ∧ ∀ i, i < 16 → (F.getD i []).take (M.getD i []).length = M.getD i [] := by
  have hM : Good (mergeL (vectorS A) (deltaS B (vectorS A)) A) := hA.merge _ _ 16
  have hd : ∀ {X Y : List (List Int)}, Good X → ∀ i, i < 16 → (deltaS Y (vectorS X)).getD i [] = (Y.getD i []).drop (X.getD i []).length := fun hX i hi => by
    rw [deltaS_getD _ _ hi, partS, getV_vector hX hi, Int.toNat_natCast]
  have hrow : ∀ i, i < 16 → (mergeL (vectorS A) (deltaS B (vectorS A)) A).getD i [] = (F.getD i []).take (max (g i) (g2 i)) := fun i hi => by
    rw [mergeL_getD _ _ hA hi, hd hA i hi, getV_vector hA hi, h1 i hi, h2 i hi, join_row (hF.row i)]
  have hrow2 : ∀ i, i < 16 → (mergeL (vectorS B) (deltaS A (vectorS B)) B).getD i [] = (F.getD i []).take (max (g i) (g2 i)) := fun i hi => by
    rw [mergeL_getD _ _ hB hi, hd hB i hi, getV_vector hB hi, h1 i hi, h2 i hi, join_row (hF.row i), Nat.max_comm]
  obtain ⟨M, eM⟩ : ∃ M, mergeL (vectorS A) (deltaS B (vectorS A)) A = M := ⟨_, rfl⟩
  rw [eM] at hM hrow
  have hfix : ∀ i : Nat, i < 16 → mergeRow (M.getD i []) (getV (vectorS A) ((i : Int) + 1)) ((deltaS B (vectorS A)).getD i []) = M.getD i [] := fun i hi => by
    rw [hrow i hi, hd hA i hi, getV_vector hA hi, h1 i hi, h2 i hi]
    exact join_again _ _
  have hf := mergeTo_fix _ _ _ hfix 16 (Nat.le_refl _)
  refine ⟨M, hM, eM, ?_, ?_, ?_, ?_, fun i hi => ?_⟩
  · exact good_ext (hB.merge _ _ 16) hM fun i hi => by
      rw [hrow2 i hi, hrow i hi]
  · unfold mergeN; rw [hf]
  · unfold mergeL; rw [hf]
  · unfold vectorS
    refine bareOf_congr _ _ fun d hd1 hd2 => ?_
    obtain ⟨i, rfl⟩ : ∃ i : Nat, d = (i : Int) + 1 := ⟨d.toNat - 1, by omega⟩
    have hi : i < 16 := by omega
    have h3 := getV_vector hA hi
    have h4 := getV_vector hB hi
    unfold vectorS at h3 h4
    unfold joinV
    rw [getV_lens hM hi, h3, h4, hrow i hi, h1 i hi, h2 i hi, List.length_take, List.length_take, List.length_take]
    unfold mx
    split <;> omega
  · rw [hrow i hi]
    have hlx : ((F.getD i []).take (max (g i) (g2 i))).length = min (max (g i) (g2 i)) (F.getD i []).length := List.length_take
    exact take_len_eq (by omega)
/-- A row that is only read. -/
abbrev VW (A : Option Addr) (l : List Int) : Res := Res.view (fun w => (Kd.int .i64).C w A l.length l)
/-- Rows of one's own. -/
abbrev DR (A : Option Addr) (c : Nat) (m : List (List Int)) : Res := Res.row (Kd.slice 3 (Kd.int .i64)) 30 (.slice A m.length c) m
section
variable {w0 W : World} {S : Nat → Prop} {Rs Xs : List Res} {g : Nat} {L : List (List Int)} {A A1 A2 : Option Addr} {c c1 c2 : Nat} {l l1 l2 : List Int}
theorem St.drops (h : St w0 S W (Rs ++ Xs)) : St w0 S W Rs := h.less fun i R' hi => ⟨R', by
  rw [List.getElem?_append_left (List.getElem?_eq_some_iff.1 hi).1]; exact hi, fun _ hp => hp⟩
theorem St.vw (h : St w0 S W Rs) (i : Nat) (hi : Rs[i]? = some (VW A l)) : (Kd.int .i64).C W A l.length l := h.read i hi
theorem vec_at (h : St w0 S W Rs) (i : Nat) (hi : Rs[i]? = some (PSet g L)) (hL : Good L) :
    Calls Try.prog 25 #[.pointer (some ⟨g, 0, none⟩)] W fun e W' => ∃ A c, e = .returned (.slice A (vectorS L).length c) ∧ (vectorS L).length ≤ c ∧ St w0 S W' (Rs ++ [VW A (vectorS L)]) := vecP_at h i hi hL
theorem join_at (h : St w0 S W Rs) (i j : Nat) (hi : Rs[i]? = some (VW A1 l1)) (hj : Rs[j]? = some (VW A2 l2)) (h1 : l1.length ≤ c1) (h2 : l2.length ≤ c2) :
    Calls Try.prog 24 #[.slice A1 l1.length c1, .slice A2 l2.length c2] W fun e W' => ∃ A c, e = .returned (.slice A (bareOf (joinV l1 l2)).length c) ∧ (bareOf (joinV l1 l2)).length ≤ c ∧ St w0 S W' (Rs ++ [VW A (bareOf (joinV l1 l2))]) :=
  (liveryref10_Join.calls 41 A1 c1 l1 A2 c2 l2 _ W (St.vw h i hi) h1 (St.vw h j hj) h2 (ref_Join 41 l1 l2 (by decide))).mono fun e W' ⟨v, e1, ⟨A, c, ev, hl, hf⟩, hb⟩ => ⟨A, c, by rw [e1, ev], hl, h.add hb hf⟩
theorem same_at (h : St w0 S W Rs) (i j : Nat) (hi : Rs[i]? = some (VW A1 l1)) (hj : Rs[j]? = some (VW A2 l2)) (h1 : l1.length ≤ c1) (h2 : l2.length ≤ c2) (hl : l1.length ≤ 1000000) (he : l1 = l2) :
    Calls Try.prog 27 #[.slice A1 l1.length c1, .slice A2 l2.length c2] W fun e W' => e = .returned (.bool true) ∧ St w0 S W' Rs :=
  (Same11.calls A1 c1 l1 A2 c2 l2 W (St.vw h i hi) h1 (St.vw h j hj) h2 hl).mono fun e W' ⟨e1, n, e2⟩ => ⟨by rw [e1, decide_eq_true he], by rw [e2]; exact h.drewN n⟩
theorem row_at (h : St w0 S W Rs) (i : Nat) (hi : Rs[i]? = some (PSet g L)) (hL : Good L) {j : Nat} (hj : j < 16) :
    Calls Try.prog 18 #[.pointer (some ⟨g, 0, none⟩), .int .i64 ((j : Int) + 1)] W fun e W' => ∃ A c, e = .returned (.slice A (L.getD j []).length c) ∧ (L.getD j []).length ≤ c ∧ St w0 S W' (Rs ++ [VW A (L.getD j [])]) := by
  obtain ⟨ok, hp⟩ := h.get i hi
  refine (revset_Set_Row.all g L hL ((j : Int) + 1) W ok hp).mono fun e W' ⟨v, h1, h2, h3⟩ => ?_
  rw [rowN_at L hj] at h2
  obtain ⟨A, c, ev⟩ := Kd.R_slice h2
  subst ev
  have h4 := Kd.R_reads' h2
  exact ⟨A, c, h1, h4.2.1, h.add h3 (show Foot _ _ _ from Kd.R_F h2)⟩
theorem begins_at (h : St w0 S W Rs) (i j : Nat) (hi : Rs[i]? = some (VW A1 l1)) (hj : Rs[j]? = some (VW A2 l2)) (h1 : l1.length ≤ c1) (h2 : l2.length ≤ c2) (hl : l1.length ≤ 1000000) (he : l1.take l2.length = l2) :
    Calls Try.prog 22 #[.slice A1 l1.length c1, .slice A2 l2.length c2] W fun e W' => e = .returned (.bool true) ∧ St w0 S W' Rs :=
  (Begins.calls A1 c1 l1 A2 c2 l2 W (St.vw h i hi) h1 (St.vw h j hj) h2 hl).mono fun e W' ⟨e1, n, e2⟩ => ⟨by rw [e1, decide_eq_true he], by rw [e2]; exact h.drewN n⟩
theorem delta_at (h : St w0 S W Rs) (i j : Nat) (hi : Rs[i]? = some (PSet g L)) (hL : Good L) (hj : Rs[j]? = some (VW A1 l1)) (hc1 : l1.length ≤ c1) :
    Calls Try.prog 16 #[.pointer (some ⟨g, 0, none⟩), .slice A1 l1.length c1] W fun e W' => ∃ A c, e = .returned (.slice A (deltaS L l1).length c) ∧ (deltaS L l1).length ≤ c ∧ St w0 S W' (Rs ++ [DR A c (deltaS L l1)]) := deltaP_at h i hi hL (St.vw h j hj) hc1
theorem merge_at {m : List (List Int)} (h : St w0 S W Rs) (i j k : Nat) (hi : Rs[i]? = some (PSet g L)) (h0 : i ≠ 0) (hij : j ≠ i) (hik : k ≠ i) (hL : Good L) (hj : Rs[j]? = some (VW A1 l1)) (hk : Rs[k]? = some (DR A2 c2 m)) (h1 : l1.length ≤ c1) (h2 : m.length ≤ c2) (h3 : m.length ≤ 1000000) (h4 : ∀ r ∈ m, r.length ≤ 1000000) :
    Calls Try.prog 20 #[.pointer (some ⟨g, 0, none⟩), .slice A1 l1.length c1, .slice A2 m.length c2] W fun e W' => e = .returned (.int .i64 (mergeN l1 m L)) ∧ St w0 S W' (Rs.set i (PSet g (mergeL l1 m L))) := by
  refine mergeP_at h i hi h0 hL (fun W' hW => ?_) h1 ⟨h2, h3, h4⟩
  obtain ⟨ok, h5⟩ := hW j _ hij hj
  obtain ⟨ok', h6⟩ := hW k _ hik hk
  exact ⟨Foot.now (show Foot _ _ _ from h5), (Kd.R_reads' (show (Kd.slice 3 (Kd.int .i64)).R 30 W' 0 ok' _ _ from h6)).2.2⟩
end
theorem id_at {w : World} {A : Option Addr} {xs : List S29} (h : Kd.C k29 w A xs.length xs) (i : Nat) (hi : i < xs.length) : ∃ ad, A = some ad ∧ w.cell? (ad.add (i * 2)) = some (.int .i64 (rd_T29 xs i).f0) ∧ w.cell? ⟨(ad.add (i * 2)).block, (ad.add (i * 2)).off + 1, none⟩ = some (.int .i64 (rd_T29 xs i).f1) := by
  have := at_T29 h (i : Int) (by omega) (by omega)
  rwa [Int.toNat_natCast] at this
set_option maxHeartbeats 16000000 in
set_option maxRecDepth 100000 in
theorem liverylaw11_RevsetJoined.walk (A0 : Option Addr) (c0 : Nat) (l0 : List S29) (A1 : Option Addr) (c1 : Nat) (l1 : List Int) (A2 : Option Addr) (c2 : Nat) (l2 : List Int) (w : World) (w0 : l0.length ≤ maxLen ∧ l0.length * 16 ≤ 140737488351232 ∧ ∀ x ∈ l0, q29 x) (hr0 : Kd.C k29 w A0 l0.length l0) (hc0 : l0.length ≤ c0) (w1 : l1.length ≤ maxLen ∧ l1.length * 8 ≤ 140737488351232 ∧ ∀ x ∈ l1, (Lit.int .i64 x).wf = true) (hr1 : Kd.C (Kd.int .i64) w A1 l1.length l1) (hc1 : l1.length ≤ c1) (w2 : l2.length ≤ maxLen ∧ l2.length * 8 ≤ 140737488351232 ∧ ∀ x ∈ l2, (Lit.int .i64 x).wf = true) (hr2 : Kd.C (Kd.int .i64) w A2 l2.length l2) (hc2 : l2.length ≤ c2) :
    Calls Try.prog 6 #[.slice A0 l0.length c0, .slice A1 l1.length c1, .slice A2 l2.length c2] w fun e w' => e = .returned (.bool true) ∧ Below w.heap.size w w' := by
  have HR0 := Aside0.mk hr0
  have HR1 := Aside0.mk hr1
  have HR2 := Aside0.mk hr2
  have hml := w0.2.1
  have HST := Aside0.mk (show St w (fun _ => False) w [Res.any] from St.less (St.mk0 w (fun _ => False) (Q := fun _ => True) (fun _ _ => trivial)) (fun i R' hi => by
    match i, hi with
    | 0, hi => cases hi; exact ⟨_, rfl, fun _ _ => trivial⟩))
  have hu2 := Try.underlying29
  clear w0 w1 w2 hr0 hr1 hr2
  go_enter Try.func6, Try.ntmps6
  go_wp2_with fail
  refine (newP_at HST.out).mono ?_
  rintro e v1 ⟨gf, rfl, h1⟩
  have HST1 := Aside0.mk h1
  clear h1
  go_wp2_with fail
  refine (newP_at HST1.out).mono ?_
  rintro e v2 ⟨ga, rfl, h2⟩
  have HST2 := Aside0.mk h2
  clear h2
  go_wp2_with fail
  refine (newP_at HST2.out).mono ?_
  rintro e v3 ⟨gb, rfl, h3⟩
  have HST3 := Aside0.mk (show St w (fun _ => False) v3 [Res.any, PSet gf lv0, PSet ga lv0, PSet gb lv0] from h3)
  clear h3
  go_wp2_with fail
  go_loopw [10] (fun s10 wr => ∃ (i : Nat) (F A B : List (List Int)), i ≤ l0.length ∧ i ≤ 40 ∧ s10 = .int .i64 (i : Int) ∧ Aside0 (Good F ∧ Good A ∧ Good B ∧ Pre F A (gOf l1) ∧ Pre F B (gOf l2)) ∧ Aside0 (St w (fun _ => False) wr [Res.any, PSet gf F, PSet ga A, PSet gb B])) (fun s10 _ => (41 - (intOf s10).toNat))
  case atStart => exact ⟨0, lv0, lv0, lv0, by omega, by omega, rfl, ⟨lv0_good, lv0_good, lv0_good, pre_new _, pre_new _⟩, HST3⟩
  case round =>
    obtain ⟨i, F, A, B, hi, hi40, rfl, HI, HSR⟩ := hrel
    clear HST HST1 HST2 HST3
    by_cases hlt : i < l0.length
    · by_cases h40 : i < 40
      · have b1 : decide ((i : Int) < (l0.length : Int)) = true := decide_eq_true (by omega)
        have b2 : decide ((i : Int) < 40) = true := decide_eq_true (by omega)
        obtain ⟨ad, eA, hx0, hx1⟩ := id_at HR0.out i hlt
        obtain ⟨x, ex⟩ : ∃ x, rd_T29 l0 (i : Int) = x := ⟨_, rfl⟩
        rw [ex] at hx0 hx1
        obtain ⟨d, s, e0, e1⟩ : ∃ d s, x.f0 = d ∧ x.f1 = s := ⟨_, _, rfl, rfl⟩
        rw [e0] at hx0
        rw [e1] at hx1
        subst eA
        have HX0 := Aside0.mk hx0
        have HX1 := Aside0.mk hx1
        replace hx0 := pw_cell_below HSR.out.below HX0.out
        replace hx1 := pw_cell_below HSR.out.below HX1.out
        clear e0 e1 ex
        go_wp2_with fail
        refine (addP_at HSR.out 1 rfl (by decide) HI.out.1 d s).mono ?_
        rintro e w1 ⟨rfl, h1⟩
        have HST1 := Aside0.mk (show St w (fun _ => False) w1 [Res.any, PSet gf (addL F d s), PSet ga A, PSet gb B] from h1)
        clear h1
        by_cases h0 : addN F d s = 0
        · rw [h0]
          have HPA := Aside0.mk (pre_step HI.out.1 HI.out.2.1 HI.out.2.2.2.1 h0)
          have HPB := Aside0.mk (pre_step HI.out.1 HI.out.2.2.1 HI.out.2.2.2.2 h0)
          have HGF := Aside0.mk (HI.out.1.add d s)
          obtain ⟨F2, eF⟩ : ∃ F2, addL F d s = F2 := ⟨_, rfl⟩
          rw [eF] at HST1 HPA HPB HGF
          replace hx0 := pw_cell_below HST1.out.below HX0.out
          replace hx1 := pw_cell_below HST1.out.below HX1.out
          clear h0 eF HSR
          go_wp2_with fail
          refine (rowP2_at HST1.out 1 rfl HGF.out d).mono ?_
          rintro e w2 ⟨A5, c5, rfl, hc5, hC5, hB5, h5⟩
          have HST2 := Aside0.mk h5
          have hnl := rowN_len HGF.out d
          obtain ⟨nl, enl⟩ : ∃ nl, (rowN F2 d).length = nl := ⟨_, rfl⟩
          rw [enl] at HPA HPB hnl ⊢
          obtain ⟨q1, eq1⟩ : ∃ q, getV l1 d = q := ⟨_, rfl⟩
          obtain ⟨q2, eq2⟩ : ∃ q, getV l2 d = q := ⟨_, rfl⟩
          rw [eq1] at HPA
          rw [eq2] at HPB
          have HQ1 := Aside0.mk eq1
          have HQ2 := Aside0.mk eq2
          replace hx0 := pw_cell_below HST2.out.below HX0.out
          replace hx1 := pw_cell_below HST2.out.below HX1.out
          clear hc5 hC5 hB5 h5 enl eq1 eq2 HST1
          go_wp2_with fail
          refine (liveryref10_Get.calls 1 A1 c1 l1 d q1 _ (Kd.C_below HR1.out (St.below HST2.out)) hc1 (by rw [ref_Get 1 l1 d (by decide), HQ1.out])).mono ?_
          rintro e w3_ ⟨rfl, ⟨n3, rfl⟩⟩
          obtain ⟨w3, e3⟩ : ∃ w3, w3 = World.drewN w2 n3 := ⟨_, rfl⟩
          rw [← e3]
          have HST3 := Aside0.mk (St.on (W' := w3) HST2.out (by rw [e3]; exact pw_below_drewN (Below.refl _ _) _))
          replace hx0 := pw_cell_below HST3.out.below HX0.out
          replace hx1 := pw_cell_below HST3.out.below HX1.out
          clear e3 HST2
          by_cases q1c : (nl : Int) ≤ q1
          · have b3 : decide ((nl : Int) ≤ q1) = true := decide_eq_true q1c
            have HA2 := Aside0.mk (show Pre F2 (addL A d s) (gOf l1) ∧ Good (addL A d s) by have h9 := HPA.out; rw [if_pos q1c] at h9; exact h9)
            clear q1c
            go_wp2_with fail
            refine (addP_at HST3.out 2 rfl (by decide) HI.out.2.1 d s).mono ?_
            rintro e w4 ⟨rfl, h4⟩
            have HST4 := Aside0.mk (show St w (fun _ => False) w4 [Res.any, PSet gf F2, PSet ga (addL A d s), PSet gb B] from h4)
            replace hx0 := pw_cell_below HST4.out.below HX0.out
            replace hx1 := pw_cell_below HST4.out.below HX1.out
            clear h4
            go_wp2_with fail
            refine (liveryref10_Get.calls 1 A2 c2 l2 d q2 _ (Kd.C_below HR2.out (St.below HST4.out)) hc2 (by rw [ref_Get 1 l2 d (by decide), HQ2.out])).mono ?_
            rintro e w5_ ⟨rfl, ⟨n5, rfl⟩⟩
            obtain ⟨w5, e5⟩ : ∃ w5, w5 = World.drewN w4 n5 := ⟨_, rfl⟩
            rw [← e5]
            have HST5 := Aside0.mk (St.on (W' := w5) HST4.out (by rw [e5]; exact pw_below_drewN (Below.refl _ _) _))
            clear e5
            by_cases q2c : (nl : Int) ≤ q2
            · have b4 : decide ((nl : Int) ≤ q2) = true := decide_eq_true q2c
              have HB2 := Aside0.mk (show Pre F2 (addL B d s) (gOf l2) ∧ Good (addL B d s) by have h9 := HPB.out; rw [if_pos q2c] at h9; exact h9)
              clear q2c
              replace hx0 := pw_cell_below HST5.out.below HX0.out
              replace hx1 := pw_cell_below HST5.out.below HX1.out
              go_wp2_with fail
              refine (addP_at HST5.out 3 rfl (by decide) HI.out.2.2.1 d s).mono ?_
              rintro e w6 ⟨rfl, h6⟩
              have HST6 := Aside0.mk (show St w (fun _ => False) w6 [Res.any, PSet gf F2, PSet ga (addL A d s), PSet gb (addL B d s)] from h6)
              clear h6
              go_wp2_with fail
              go_roundw
              case rel => exact ⟨i + 1, F2, (addL A d s), (addL B d s), by omega, by omega, by simp, ⟨HGF.out, HA2.out.2, HB2.out.2, HA2.out.1, HB2.out.1⟩, HST6⟩
              case measure => simp [intOf]; omega
            · have b4 : decide ((nl : Int) ≤ q2) = false := decide_eq_false q2c
              have HB2 := Aside0.mk (show Pre F2 B (gOf l2) ∧ Good B by have h9 := HPB.out; rw [if_neg q2c] at h9; exact h9)
              clear q2c
              go_wp2_with fail
              go_roundw
              case rel => exact ⟨i + 1, F2, (addL A d s), B, by omega, by omega, by simp, ⟨HGF.out, HA2.out.2, HB2.out.2, HA2.out.1, HB2.out.1⟩, HST5⟩
              case measure => simp [intOf]; omega
          · have b3 : decide ((nl : Int) ≤ q1) = false := decide_eq_false q1c
            have HA2 := Aside0.mk (show Pre F2 A (gOf l1) ∧ Good A by have h9 := HPA.out; rw [if_neg q1c] at h9; exact h9)
            clear q1c
            go_wp2_with fail
            refine (liveryref10_Get.calls 1 A2 c2 l2 d q2 _ (Kd.C_below HR2.out (St.below HST3.out)) hc2 (by rw [ref_Get 1 l2 d (by decide), HQ2.out])).mono ?_
            rintro e w5_ ⟨rfl, ⟨n5, rfl⟩⟩
            obtain ⟨w5, e5⟩ : ∃ w5, w5 = World.drewN w3 n5 := ⟨_, rfl⟩
            rw [← e5]
            have HST5 := Aside0.mk (St.on (W' := w5) HST3.out (by rw [e5]; exact pw_below_drewN (Below.refl _ _) _))
            clear e5
            by_cases q2c : (nl : Int) ≤ q2
            · have b4 : decide ((nl : Int) ≤ q2) = true := decide_eq_true q2c
              have HB2 := Aside0.mk (show Pre F2 (addL B d s) (gOf l2) ∧ Good (addL B d s) by have h9 := HPB.out; rw [if_pos q2c] at h9; exact h9)
              clear q2c
              replace hx0 := pw_cell_below HST5.out.below HX0.out
              replace hx1 := pw_cell_below HST5.out.below HX1.out
              go_wp2_with fail
              refine (addP_at HST5.out 3 rfl (by decide) HI.out.2.2.1 d s).mono ?_
              rintro e w6 ⟨rfl, h6⟩
              have HST6 := Aside0.mk (show St w (fun _ => False) w6 [Res.any, PSet gf F2, PSet ga A, PSet gb (addL B d s)] from h6)
              clear h6
              go_wp2_with fail
              go_roundw
              case rel => exact ⟨i + 1, F2, A, (addL B d s), by omega, by omega, by simp, ⟨HGF.out, HA2.out.2, HB2.out.2, HA2.out.1, HB2.out.1⟩, HST6⟩
              case measure => simp [intOf]; omega
            · have b4 : decide ((nl : Int) ≤ q2) = false := decide_eq_false q2c
              have HB2 := Aside0.mk (show Pre F2 B (gOf l2) ∧ Good B by have h9 := HPB.out; rw [if_neg q2c] at h9; exact h9)
              clear q2c
              go_wp2_with fail
              go_roundw
              case rel => exact ⟨i + 1, F2, A, B, by omega, by omega, by simp, ⟨HGF.out, HA2.out.2, HB2.out.2, HA2.out.1, HB2.out.1⟩, HST5⟩
              case measure => simp [intOf]; omega
        · have hF0 : addL F d s = F := by rw [addL, if_neg h0]
          rw [hF0] at HST1
          obtain ⟨n, en⟩ : ∃ n, addN F d s = n := ⟨_, rfl⟩
          rw [en] at h0 ⊢
          have b3 : (n == 0) = false := by simp [h0]
          have b4 : (n != 0) = true := by simp [h0]
          clear en hF0
          go_wp2_with fail
          go_roundw
          case rel => exact ⟨i + 1, F, A, B, by omega, by omega, by simp, HI, HST1⟩
          case measure => simp [intOf]; omega
      · have e40 : i = 40 := by omega
        subst e40
        have b1 : decide ((40 : Int) < (l0.length : Int)) = true := decide_eq_true (by omega)
        obtain ⟨M, hM, m1, m2, m3, m4, m5, m6⟩ := joined_all HI.out.1 HI.out.2.1 HI.out.2.2.1 HI.out.2.2.2.1 HI.out.2.2.2.2
        have HM := Aside0.mk hM
        have HM1 := Aside0.mk m1
        have HM2 := Aside0.mk m2
        have HM3 := Aside0.mk m3
        have HM4 := Aside0.mk m4
        have HM6 := Aside0.mk m6
        obtain ⟨J, eJ⟩ : ∃ J, bareOf (joinV (vectorS A) (vectorS B)) = J := ⟨_, rfl⟩
        have HM5 := Aside0.mk (m5.trans eJ)
        have HEJ := Aside0.mk eJ
        clear hM m1 m2 m3 m4 m5 m6 eJ
        go_wp2_with fail
        refine (vec_at HSR.out 2 rfl HI.out.2.1).mono ?_
        rintro e w1 ⟨Aa, ca, rfl, hca, h1⟩
        have HCA := Aside0.mk hca
        have HT1 := Aside0.mk h1
        clear hca h1 HSR
        go_wp2_with fail
        refine (vec_at HT1.out 3 rfl HI.out.2.2.1).mono ?_
        rintro e w2 ⟨Ab, cb, rfl, hcb, h2⟩
        have HCB := Aside0.mk hcb
        have HT2 := Aside0.mk h2
        clear hcb h2 HT1
        go_wp2_with fail
        refine (join_at HT2.out 4 5 rfl rfl HCA.out HCB.out).mono ?_
        rintro e w3 ⟨AJ, cJ, rfl, hcJ, h3⟩
        rw [HEJ.out] at hcJ h3 ⊢
        have HCJ := Aside0.mk hcJ
        have HT3 := Aside0.mk h3
        clear hcJ h3 HT2
        go_wp2_with fail
        refine (copyP_at HT3.out 2 rfl HI.out.2.1).mono ?_
        rintro e w4 ⟨gx, rfl, h4⟩
        have HT4 := Aside0.mk h4
        clear h4 HT3
        go_wp2_with fail
        refine (copyP_at HT4.out 3 rfl HI.out.2.2.1).mono ?_
        rintro e w5 ⟨gy, rfl, h5⟩
        have HT5 := Aside0.mk (show St w (fun _ => False) w5 [Res.any, PSet gf F, PSet ga A, PSet gb B, VW Aa (vectorS A), VW Ab (vectorS B), VW AJ J, PSet gx A, PSet gy B] from h5)
        clear h5 HT4

        go_wp2_with fail
        refine (vec_at HT5.out 2 rfl HI.out.2.1).mono ?_
        rintro e w61 ⟨A1_, c1_, rfl, hc1_, h1_⟩
        have HC1_ := Aside0.mk hc1_
        have HT1_ := Aside0.mk h1_
        clear hc1_ h1_
        go_wp2_with fail
        refine (vec_at HT1_.out 2 rfl HI.out.2.1).mono ?_
        rintro e w62 ⟨A2_, c2_, rfl, hc2_, h2_⟩
        have HC2_ := Aside0.mk hc2_
        have HT2_ := Aside0.mk h2_
        clear hc2_ h2_ HT1_
        go_wp2_with fail
        refine (delta_at HT2_.out 3 10 rfl HI.out.2.2.1 rfl HC2_.out).mono ?_
        rintro e w63 ⟨A3_, c3_, rfl, hc3_, h3_⟩
        have HC3_ := Aside0.mk hc3_
        have HT3_ := Aside0.mk h3_
        clear hc3_ h3_ HT2_ HC2_
        go_wp2_with fail
        refine (merge_at HT3_.out 7 9 11 rfl (by decide) (by decide) (by decide) HI.out.2.1 rfl rfl HC1_.out HC3_.out (by have := deltaS_len B (vectorS A); omega) (fun r hr => by have := deltaS_rows HI.out.2.2.1 (vectorS A) r hr; omega)).mono ?_
        rintro e w64 ⟨rfl, h4_⟩
        have hn15 := (mergeTo_bound HI.out.2.1 (vectorS A) (deltaS B (vectorS A)) 16).1
        obtain ⟨n15, en15⟩ : ∃ n, mergeN (vectorS A) (deltaS B (vectorS A)) A = n := ⟨_, rfl⟩
        rw [en15]
        rw [HM1.out] at h4_
        have b15 : decide (n15 < 0) = false := decide_eq_false (by rw [← en15]; unfold mergeN; omega)
        clear hn15 en15
        have HT6 := Aside0.mk (show St w (fun _ => False) w64 [Res.any, PSet gf F, PSet ga A, PSet gb B, VW Aa (vectorS A), VW Ab (vectorS B), VW AJ J, PSet gx M, PSet gy B] from St.drops (Xs := [VW A1_ (vectorS A), VW A2_ (vectorS A), DR A3_ c3_ (deltaS B (vectorS A))]) h4_)
        clear h4_ HT3_ HC1_ HC3_
        clear HT5

        go_wp2_with fail
        refine (vec_at HT6.out 3 rfl HI.out.2.2.1).mono ?_
        rintro e w71 ⟨A1_, c1_, rfl, hc1_, h1_⟩
        have HC1_ := Aside0.mk hc1_
        have HT1_ := Aside0.mk h1_
        clear hc1_ h1_
        go_wp2_with fail
        refine (vec_at HT1_.out 3 rfl HI.out.2.2.1).mono ?_
        rintro e w72 ⟨A2_, c2_, rfl, hc2_, h2_⟩
        have HC2_ := Aside0.mk hc2_
        have HT2_ := Aside0.mk h2_
        clear hc2_ h2_ HT1_
        go_wp2_with fail
        refine (delta_at HT2_.out 2 10 rfl HI.out.2.1 rfl HC2_.out).mono ?_
        rintro e w73 ⟨A3_, c3_, rfl, hc3_, h3_⟩
        have HC3_ := Aside0.mk hc3_
        have HT3_ := Aside0.mk h3_
        clear hc3_ h3_ HT2_ HC2_
        go_wp2_with fail
        refine (merge_at HT3_.out 8 9 11 rfl (by decide) (by decide) (by decide) HI.out.2.2.1 rfl rfl HC1_.out HC3_.out (by have := deltaS_len A (vectorS B); omega) (fun r hr => by have := deltaS_rows HI.out.2.1 (vectorS B) r hr; omega)).mono ?_
        rintro e w74 ⟨rfl, h4_⟩
        have hn16 := (mergeTo_bound HI.out.2.2.1 (vectorS B) (deltaS A (vectorS B)) 16).1
        obtain ⟨n16, en16⟩ : ∃ n, mergeN (vectorS B) (deltaS A (vectorS B)) B = n := ⟨_, rfl⟩
        rw [en16]
        rw [HM2.out] at h4_
        have b16 : decide (n16 < 0) = false := decide_eq_false (by rw [← en16]; unfold mergeN; omega)
        clear hn16 en16
        have HT7 := Aside0.mk (show St w (fun _ => False) w74 [Res.any, PSet gf F, PSet ga A, PSet gb B, VW Aa (vectorS A), VW Ab (vectorS B), VW AJ J, PSet gx M, PSet gy M] from St.drops (Xs := [VW A1_ (vectorS B), VW A2_ (vectorS B), DR A3_ c3_ (deltaS A (vectorS B))]) h4_)
        clear h4_ HT3_ HC1_ HC3_
        clear HT6

        go_wp2_with fail
        refine (vec_at HT7.out 2 rfl HI.out.2.1).mono ?_
        rintro e w81 ⟨A1_, c1_, rfl, hc1_, h1_⟩
        have HC1_ := Aside0.mk hc1_
        have HT1_ := Aside0.mk h1_
        clear hc1_ h1_
        go_wp2_with fail
        refine (vec_at HT1_.out 2 rfl HI.out.2.1).mono ?_
        rintro e w82 ⟨A2_, c2_, rfl, hc2_, h2_⟩
        have HC2_ := Aside0.mk hc2_
        have HT2_ := Aside0.mk h2_
        clear hc2_ h2_ HT1_
        go_wp2_with fail
        refine (delta_at HT2_.out 3 10 rfl HI.out.2.2.1 rfl HC2_.out).mono ?_
        rintro e w83 ⟨A3_, c3_, rfl, hc3_, h3_⟩
        have HC3_ := Aside0.mk hc3_
        have HT3_ := Aside0.mk h3_
        clear hc3_ h3_ HT2_ HC2_
        go_wp2_with fail
        refine (merge_at HT3_.out 7 9 11 rfl (by decide) (by decide) (by decide) HM.out rfl rfl HC1_.out HC3_.out (by have := deltaS_len B (vectorS A); omega) (fun r hr => by have := deltaS_rows HI.out.2.2.1 (vectorS A) r hr; omega)).mono ?_
        rintro e w84 ⟨rfl, h4_⟩
        rw [HM3.out]
        rw [HM4.out] at h4_
        have HT8 := Aside0.mk (show St w (fun _ => False) w84 [Res.any, PSet gf F, PSet ga A, PSet gb B, VW Aa (vectorS A), VW Ab (vectorS B), VW AJ J, PSet gx M, PSet gy M] from St.drops (Xs := [VW A1_ (vectorS A), VW A2_ (vectorS A), DR A3_ c3_ (deltaS B (vectorS A))]) h4_)
        clear h4_ HT3_ HC1_ HC3_

        clear HT7
        go_wp2_with fail
        refine (vec_at HT8.out 7 rfl HM.out).mono ?_
        rintro e w9 ⟨A9, c9, rfl, hc9, h9⟩
        have HC9 := Aside0.mk hc9
        have HT9 := Aside0.mk h9
        clear hc9 h9 HT8
        go_wp2_with fail
        refine (same_at HT9.out 9 6 rfl rfl HC9.out HCJ.out (by have := vectorS_len M; omega) HM5.out).mono ?_
        rintro e w10 ⟨rfl, h10⟩
        have HT10 := Aside0.mk (show St w (fun _ => False) w10 [Res.any, PSet gf F, PSet ga A, PSet gb B, VW Aa (vectorS A), VW Ab (vectorS B), VW AJ J, PSet gx M, PSet gy M] from St.drops (Xs := [VW A9 (vectorS M)]) h10)
        clear h10 HT9 HC9
        go_wp2_with fail
        refine (vec_at HT10.out 8 rfl HM.out).mono ?_
        rintro e w11 ⟨A11, c11, rfl, hc11, h11⟩
        have HC11 := Aside0.mk hc11
        have HT11 := Aside0.mk h11
        clear hc11 h11 HT10
        go_wp2_with fail
        refine (same_at HT11.out 9 6 rfl rfl HC11.out HCJ.out (by have := vectorS_len M; omega) HM5.out).mono ?_
        rintro e w12 ⟨rfl, h12⟩
        have HT12 := Aside0.mk (show St w (fun _ => False) w12 [Res.any, PSet gf F, PSet ga A, PSet gb B, VW Aa (vectorS A), VW Ab (vectorS B), VW AJ J, PSet gx M, PSet gy M] from St.drops (Xs := [VW A11 (vectorS M)]) h12)
        clear h12 HT11 HC11
        go_wp2_with fail
        clear b15 b16
        obtain ⟨wo, rfl⟩ : ∃ wo : World, wo = wr := ⟨_, rfl⟩
        go_loopw [20] (fun s20 wr => ∃ j : Nat, j ≤ 16 ∧ s20 = .int .i64 ((j : Int) + 1) ∧ Aside0 (St w (fun _ => False) wr [Res.any, PSet gf F, PSet ga A, PSet gb B, VW Aa (vectorS A), VW Ab (vectorS B), VW AJ J, PSet gx M, PSet gy M])) (fun s20 _ => (17 - (intOf s20).toNat))
        case atStart => exact ⟨0, by omega, rfl, HT12⟩
        case round =>
          obtain ⟨j, hj, rfl, HSB⟩ := hrel
          clear HT12
          by_cases hj16 : j < 16
          · have b5 : decide ((j : Int) + 1 ≤ 16) = true := decide_eq_true (by omega)
            go_wp2_with fail
            refine (row_at HSB.out 7 rfl HM.out hj16).mono ?_
            rintro e w13 ⟨A13, c13, rfl, hc13, h13⟩
            have HC13 := Aside0.mk hc13
            have HT13 := Aside0.mk h13
            clear hc13 h13
            go_wp2_with fail
            refine (row_at HT13.out 8 rfl HM.out hj16).mono ?_
            rintro e w14 ⟨A14, c14, rfl, hc14, h14⟩
            have HC14 := Aside0.mk hc14
            have HT14 := Aside0.mk h14
            clear hc14 h14 HT13
            go_wp2_with fail
            refine (same_at HT14.out 9 10 rfl rfl HC13.out HC14.out (by have := HM.out.len j; omega) rfl).mono ?_
            rintro e w15 ⟨rfl, h15⟩
            have HT15 := Aside0.mk (show St w (fun _ => False) w15 [Res.any, PSet gf F, PSet ga A, PSet gb B, VW Aa (vectorS A), VW Ab (vectorS B), VW AJ J, PSet gx M, PSet gy M] from St.drops (Xs := [VW A13 (M.getD j []), VW A14 (M.getD j [])]) h15)
            clear h15 HT14 HC13 HC14 HSB
            go_wp2_with fail
            refine (row_at HT15.out 1 rfl HI.out.1 hj16).mono ?_
            rintro e w16 ⟨A16, c16, rfl, hc16, h16⟩
            have HC16 := Aside0.mk hc16
            have HT16 := Aside0.mk h16
            clear hc16 h16
            go_wp2_with fail
            refine (row_at HT16.out 7 rfl HM.out hj16).mono ?_
            rintro e w17 ⟨A17, c17, rfl, hc17, h17⟩
            have HC17 := Aside0.mk hc17
            have HT17 := Aside0.mk h17
            clear hc17 h17 HT16
            go_wp2_with fail
            refine (begins_at HT17.out 9 10 rfl rfl HC16.out HC17.out (by have := HI.out.1.len j; omega) (HM6.out j hj16)).mono ?_
            rintro e w18 ⟨rfl, h18⟩
            have HT18 := Aside0.mk (show St w (fun _ => False) w18 [Res.any, PSet gf F, PSet ga A, PSet gb B, VW Aa (vectorS A), VW Ab (vectorS B), VW AJ J, PSet gx M, PSet gy M] from St.drops (Xs := [VW A16 (F.getD j []), VW A17 (M.getD j [])]) h18)
            clear h18 HT17 HC16 HC17 HT15
            go_wp2_with fail
            go_roundw
            case rel => exact ⟨j + 1, by omega, by simp, HT18⟩
            case measure => simp [intOf]; omega
          · have ej : j = 16 := by omega
            subst ej
            clear hj hj16
            go_wp2_with fail
            refine (lives_at HSB.out).mono ?_
            rintro e w19 ⟨rfl, h19⟩
            have HT19 := Aside0.mk h19
            clear h19
            go_wp2_with fail
            go_ret
            exact ⟨rfl, HT19.out.below⟩
    · have en : i = l0.length := by omega
      subst en
      have b1 : decide ((l0.length : Int) < (l0.length : Int)) = false := decide_eq_false (by omega)
      clear hlt
      obtain ⟨M, hM, m1, m2, m3, m4, m5, m6⟩ := joined_all HI.out.1 HI.out.2.1 HI.out.2.2.1 HI.out.2.2.2.1 HI.out.2.2.2.2
      have HM := Aside0.mk hM
      have HM1 := Aside0.mk m1
      have HM2 := Aside0.mk m2
      have HM3 := Aside0.mk m3
      have HM4 := Aside0.mk m4
      have HM6 := Aside0.mk m6
      obtain ⟨J, eJ⟩ : ∃ J, bareOf (joinV (vectorS A) (vectorS B)) = J := ⟨_, rfl⟩
      have HM5 := Aside0.mk (m5.trans eJ)
      have HEJ := Aside0.mk eJ
      clear hM m1 m2 m3 m4 m5 m6 eJ
      go_wp2_with fail
      refine (vec_at HSR.out 2 rfl HI.out.2.1).mono ?_
      rintro e w1 ⟨Aa, ca, rfl, hca, h1⟩
      have HCA := Aside0.mk hca
      have HT1 := Aside0.mk h1
      clear hca h1 HSR
      go_wp2_with fail
      refine (vec_at HT1.out 3 rfl HI.out.2.2.1).mono ?_
      rintro e w2 ⟨Ab, cb, rfl, hcb, h2⟩
      have HCB := Aside0.mk hcb
      have HT2 := Aside0.mk h2
      clear hcb h2 HT1
      go_wp2_with fail
      refine (join_at HT2.out 4 5 rfl rfl HCA.out HCB.out).mono ?_
      rintro e w3 ⟨AJ, cJ, rfl, hcJ, h3⟩
      rw [HEJ.out] at hcJ h3 ⊢
      have HCJ := Aside0.mk hcJ
      have HT3 := Aside0.mk h3
      clear hcJ h3 HT2
      go_wp2_with fail
      refine (copyP_at HT3.out 2 rfl HI.out.2.1).mono ?_
      rintro e w4 ⟨gx, rfl, h4⟩
      have HT4 := Aside0.mk h4
      clear h4 HT3
      go_wp2_with fail
      refine (copyP_at HT4.out 3 rfl HI.out.2.2.1).mono ?_
      rintro e w5 ⟨gy, rfl, h5⟩
      have HT5 := Aside0.mk (show St w (fun _ => False) w5 [Res.any, PSet gf F, PSet ga A, PSet gb B, VW Aa (vectorS A), VW Ab (vectorS B), VW AJ J, PSet gx A, PSet gy B] from h5)
      clear h5 HT4

      go_wp2_with fail
      refine (vec_at HT5.out 2 rfl HI.out.2.1).mono ?_
      rintro e w61 ⟨A1_, c1_, rfl, hc1_, h1_⟩
      have HC1_ := Aside0.mk hc1_
      have HT1_ := Aside0.mk h1_
      clear hc1_ h1_
      go_wp2_with fail
      refine (vec_at HT1_.out 2 rfl HI.out.2.1).mono ?_
      rintro e w62 ⟨A2_, c2_, rfl, hc2_, h2_⟩
      have HC2_ := Aside0.mk hc2_
      have HT2_ := Aside0.mk h2_
      clear hc2_ h2_ HT1_
      go_wp2_with fail
      refine (delta_at HT2_.out 3 10 rfl HI.out.2.2.1 rfl HC2_.out).mono ?_
      rintro e w63 ⟨A3_, c3_, rfl, hc3_, h3_⟩
      have HC3_ := Aside0.mk hc3_
      have HT3_ := Aside0.mk h3_
      clear hc3_ h3_ HT2_ HC2_
      go_wp2_with fail
      refine (merge_at HT3_.out 7 9 11 rfl (by decide) (by decide) (by decide) HI.out.2.1 rfl rfl HC1_.out HC3_.out (by have := deltaS_len B (vectorS A); omega) (fun r hr => by have := deltaS_rows HI.out.2.2.1 (vectorS A) r hr; omega)).mono ?_
      rintro e w64 ⟨rfl, h4_⟩
      have hn15 := (mergeTo_bound HI.out.2.1 (vectorS A) (deltaS B (vectorS A)) 16).1
      obtain ⟨n15, en15⟩ : ∃ n, mergeN (vectorS A) (deltaS B (vectorS A)) A = n := ⟨_, rfl⟩
      rw [en15]
      rw [HM1.out] at h4_
      have b15 : decide (n15 < 0) = false := decide_eq_false (by rw [← en15]; unfold mergeN; omega)
      clear hn15 en15
      have HT6 := Aside0.mk (show St w (fun _ => False) w64 [Res.any, PSet gf F, PSet ga A, PSet gb B, VW Aa (vectorS A), VW Ab (vectorS B), VW AJ J, PSet gx M, PSet gy B] from St.drops (Xs := [VW A1_ (vectorS A), VW A2_ (vectorS A), DR A3_ c3_ (deltaS B (vectorS A))]) h4_)
      clear h4_ HT3_ HC1_ HC3_
      clear HT5

      go_wp2_with fail
      refine (vec_at HT6.out 3 rfl HI.out.2.2.1).mono ?_
      rintro e w71 ⟨A1_, c1_, rfl, hc1_, h1_⟩
      have HC1_ := Aside0.mk hc1_
      have HT1_ := Aside0.mk h1_
      clear hc1_ h1_
      go_wp2_with fail
      refine (vec_at HT1_.out 3 rfl HI.out.2.2.1).mono ?_
      rintro e w72 ⟨A2_, c2_, rfl, hc2_, h2_⟩
      have HC2_ := Aside0.mk hc2_
      have HT2_ := Aside0.mk h2_
      clear hc2_ h2_ HT1_
      go_wp2_with fail
      refine (delta_at HT2_.out 2 10 rfl HI.out.2.1 rfl HC2_.out).mono ?_
      rintro e w73 ⟨A3_, c3_, rfl, hc3_, h3_⟩
      have HC3_ := Aside0.mk hc3_
      have HT3_ := Aside0.mk h3_
      clear hc3_ h3_ HT2_ HC2_
      go_wp2_with fail
      refine (merge_at HT3_.out 8 9 11 rfl (by decide) (by decide) (by decide) HI.out.2.2.1 rfl rfl HC1_.out HC3_.out (by have := deltaS_len A (vectorS B); omega) (fun r hr => by have := deltaS_rows HI.out.2.1 (vectorS B) r hr; omega)).mono ?_
      rintro e w74 ⟨rfl, h4_⟩
      have hn16 := (mergeTo_bound HI.out.2.2.1 (vectorS B) (deltaS A (vectorS B)) 16).1
      obtain ⟨n16, en16⟩ : ∃ n, mergeN (vectorS B) (deltaS A (vectorS B)) B = n := ⟨_, rfl⟩
      rw [en16]
      rw [HM2.out] at h4_
      have b16 : decide (n16 < 0) = false := decide_eq_false (by rw [← en16]; unfold mergeN; omega)
      clear hn16 en16
      have HT7 := Aside0.mk (show St w (fun _ => False) w74 [Res.any, PSet gf F, PSet ga A, PSet gb B, VW Aa (vectorS A), VW Ab (vectorS B), VW AJ J, PSet gx M, PSet gy M] from St.drops (Xs := [VW A1_ (vectorS B), VW A2_ (vectorS B), DR A3_ c3_ (deltaS A (vectorS B))]) h4_)
      clear h4_ HT3_ HC1_ HC3_
      clear HT6

      go_wp2_with fail
      refine (vec_at HT7.out 2 rfl HI.out.2.1).mono ?_
      rintro e w81 ⟨A1_, c1_, rfl, hc1_, h1_⟩
      have HC1_ := Aside0.mk hc1_
      have HT1_ := Aside0.mk h1_
      clear hc1_ h1_
      go_wp2_with fail
      refine (vec_at HT1_.out 2 rfl HI.out.2.1).mono ?_
      rintro e w82 ⟨A2_, c2_, rfl, hc2_, h2_⟩
      have HC2_ := Aside0.mk hc2_
      have HT2_ := Aside0.mk h2_
      clear hc2_ h2_ HT1_
      go_wp2_with fail
      refine (delta_at HT2_.out 3 10 rfl HI.out.2.2.1 rfl HC2_.out).mono ?_
      rintro e w83 ⟨A3_, c3_, rfl, hc3_, h3_⟩
      have HC3_ := Aside0.mk hc3_
      have HT3_ := Aside0.mk h3_
      clear hc3_ h3_ HT2_ HC2_
      go_wp2_with fail
      refine (merge_at HT3_.out 7 9 11 rfl (by decide) (by decide) (by decide) HM.out rfl rfl HC1_.out HC3_.out (by have := deltaS_len B (vectorS A); omega) (fun r hr => by have := deltaS_rows HI.out.2.2.1 (vectorS A) r hr; omega)).mono ?_
      rintro e w84 ⟨rfl, h4_⟩
      rw [HM3.out]
      rw [HM4.out] at h4_
      have HT8 := Aside0.mk (show St w (fun _ => False) w84 [Res.any, PSet gf F, PSet ga A, PSet gb B, VW Aa (vectorS A), VW Ab (vectorS B), VW AJ J, PSet gx M, PSet gy M] from St.drops (Xs := [VW A1_ (vectorS A), VW A2_ (vectorS A), DR A3_ c3_ (deltaS B (vectorS A))]) h4_)
      clear h4_ HT3_ HC1_ HC3_

      clear HT7
      go_wp2_with fail
      refine (vec_at HT8.out 7 rfl HM.out).mono ?_
      rintro e w9 ⟨A9, c9, rfl, hc9, h9⟩
      have HC9 := Aside0.mk hc9
      have HT9 := Aside0.mk h9
      clear hc9 h9 HT8
      go_wp2_with fail
      refine (same_at HT9.out 9 6 rfl rfl HC9.out HCJ.out (by have := vectorS_len M; omega) HM5.out).mono ?_
      rintro e w10 ⟨rfl, h10⟩
      have HT10 := Aside0.mk (show St w (fun _ => False) w10 [Res.any, PSet gf F, PSet ga A, PSet gb B, VW Aa (vectorS A), VW Ab (vectorS B), VW AJ J, PSet gx M, PSet gy M] from St.drops (Xs := [VW A9 (vectorS M)]) h10)
      clear h10 HT9 HC9
      go_wp2_with fail
      refine (vec_at HT10.out 8 rfl HM.out).mono ?_
      rintro e w11 ⟨A11, c11, rfl, hc11, h11⟩
      have HC11 := Aside0.mk hc11
      have HT11 := Aside0.mk h11
      clear hc11 h11 HT10
      go_wp2_with fail
      refine (same_at HT11.out 9 6 rfl rfl HC11.out HCJ.out (by have := vectorS_len M; omega) HM5.out).mono ?_
      rintro e w12 ⟨rfl, h12⟩
      have HT12 := Aside0.mk (show St w (fun _ => False) w12 [Res.any, PSet gf F, PSet ga A, PSet gb B, VW Aa (vectorS A), VW Ab (vectorS B), VW AJ J, PSet gx M, PSet gy M] from St.drops (Xs := [VW A11 (vectorS M)]) h12)
      clear h12 HT11 HC11
      go_wp2_with fail
      clear b15 b16
      obtain ⟨wo, rfl⟩ : ∃ wo : World, wo = wr := ⟨_, rfl⟩
      go_loopw [20] (fun s20 wr => ∃ j : Nat, j ≤ 16 ∧ s20 = .int .i64 ((j : Int) + 1) ∧ Aside0 (St w (fun _ => False) wr [Res.any, PSet gf F, PSet ga A, PSet gb B, VW Aa (vectorS A), VW Ab (vectorS B), VW AJ J, PSet gx M, PSet gy M])) (fun s20 _ => (17 - (intOf s20).toNat))
      case atStart => exact ⟨0, by omega, rfl, HT12⟩
      case round =>
        obtain ⟨j, hj, rfl, HSB⟩ := hrel
        clear HT12
        by_cases hj16 : j < 16
        · have b5 : decide ((j : Int) + 1 ≤ 16) = true := decide_eq_true (by omega)
          go_wp2_with fail
          refine (row_at HSB.out 7 rfl HM.out hj16).mono ?_
          rintro e w13 ⟨A13, c13, rfl, hc13, h13⟩
          have HC13 := Aside0.mk hc13
          have HT13 := Aside0.mk h13
          clear hc13 h13
          go_wp2_with fail
          refine (row_at HT13.out 8 rfl HM.out hj16).mono ?_
          rintro e w14 ⟨A14, c14, rfl, hc14, h14⟩
          have HC14 := Aside0.mk hc14
          have HT14 := Aside0.mk h14
          clear hc14 h14 HT13
          go_wp2_with fail
          refine (same_at HT14.out 9 10 rfl rfl HC13.out HC14.out (by have := HM.out.len j; omega) rfl).mono ?_
          rintro e w15 ⟨rfl, h15⟩
          have HT15 := Aside0.mk (show St w (fun _ => False) w15 [Res.any, PSet gf F, PSet ga A, PSet gb B, VW Aa (vectorS A), VW Ab (vectorS B), VW AJ J, PSet gx M, PSet gy M] from St.drops (Xs := [VW A13 (M.getD j []), VW A14 (M.getD j [])]) h15)
          clear h15 HT14 HC13 HC14 HSB
          go_wp2_with fail
          refine (row_at HT15.out 1 rfl HI.out.1 hj16).mono ?_
          rintro e w16 ⟨A16, c16, rfl, hc16, h16⟩
          have HC16 := Aside0.mk hc16
          have HT16 := Aside0.mk h16
          clear hc16 h16
          go_wp2_with fail
          refine (row_at HT16.out 7 rfl HM.out hj16).mono ?_
          rintro e w17 ⟨A17, c17, rfl, hc17, h17⟩
          have HC17 := Aside0.mk hc17
          have HT17 := Aside0.mk h17
          clear hc17 h17 HT16
          go_wp2_with fail
          refine (begins_at HT17.out 9 10 rfl rfl HC16.out HC17.out (by have := HI.out.1.len j; omega) (HM6.out j hj16)).mono ?_
          rintro e w18 ⟨rfl, h18⟩
          have HT18 := Aside0.mk (show St w (fun _ => False) w18 [Res.any, PSet gf F, PSet ga A, PSet gb B, VW Aa (vectorS A), VW Ab (vectorS B), VW AJ J, PSet gx M, PSet gy M] from St.drops (Xs := [VW A16 (F.getD j []), VW A17 (M.getD j [])]) h18)
          clear h18 HT17 HC16 HC17 HT15
          go_wp2_with fail
          go_roundw
          case rel => exact ⟨j + 1, by omega, by simp, HT18⟩
          case measure => simp [intOf]; omega
        · have ej : j = 16 := by omega
          subst ej
          clear hj hj16
          go_wp2_with fail
          refine (lives_at HSB.out).mono ?_
          rintro e w19 ⟨rfl, h19⟩
          have HT19 := Aside0.mk h19
          clear h19
          go_wp2_with fail
          go_ret
          exact ⟨rfl, HT19.out.below⟩
end Go.Proofs.Ytadkafhhkidecaa.P
