/- Contracts, typed by hand: the document's book: what it is; stamp, Fresh, Hear. -/
import Derived.Test.YtpdcmdofojckdaaDoorHBookU
import Derived.Test.YtpdcmdofojckdaaDoorP25
set_option linter.unusedVariables false
set_option linter.unusedSimpArgs false
namespace Go.Proofs.YtpdcmdofojckdaaDoor.P
open Go.RowKit Go.Proofs.YtpdcmdofojckdaaDoor.Pure Go.Proofs.YtpdcmdofojckdaaDoorW.PrintWords Go.Proofs.YtpdcmdofojckdaaDoorW.PrintLast Go.Proofs.YtpdcmdofojckdaaDoorW.PrintMore
abbrev ST := S75
instance : Inhabited ST := ⟨z75⟩
def stampOf (S : List ST) (d : Int) : Int := match S.find? fun s => s.f0 == d with
  | some s => s.f1
  | none => -1
structure SDom (S : List ST) : Prop where
  nodup : (S.map (·.f0)).Nodup
  dom : ∀ s ∈ S, 1 ≤ s.f0 ∧ s.f0 ≤ 16
theorem nodup_len : ∀ (n : Nat) (l : List Int), l.Nodup → (∀ x ∈ l, 1 ≤ x ∧ x ≤ (n : Int)) → l.length ≤ n
  | 0, l, _, h => by
    cases l with
    | nil => simp
    | cons x l => have := h x List.mem_cons_self; omega
  | n + 1, l, hn, h => by
    have h1 : (l.filter (· ≠ ((n + 1 : Nat) : Int))).length ≤ n := nodup_len n _ (hn.filter _) (fun x hx => by
      rw [List.mem_filter] at hx
      have h2 := h x hx.1
      have h3 : x ≠ ((n + 1 : Nat) : Int) := by simpa using hx.2
      omega)
    have h2 : l.length ≤ (l.filter (· ≠ ((n + 1 : Nat) : Int))).length + 1 := by
      have h3 := hn
      clear h1 h hn
      induction l with
      | nil => simp
      | cons x l ih =>
        rw [List.nodup_cons] at h3
        by_cases hx : x = ((n + 1 : Nat) : Int)
        · subst hx
          have h4 : l.filter (· ≠ ((n + 1 : Nat) : Int)) = l := List.filter_eq_self.2 fun y hy => by
            simp only [ne_eq, decide_not, Bool.not_eq_eq_eq_not, Bool.not_true, decide_eq_false_iff_not]
            exact fun e => h3.1 (e ▸ hy)
          rw [List.filter_cons_of_neg (by simp), h4, List.length_cons]
          exact Nat.le_refl _
        · rw [List.filter_cons_of_pos (by simpa using hx), List.length_cons, List.length_cons]
          have := ih h3.2
          omega
    omega
theorem SDom.len {S : List ST} (h : SDom S) : S.length ≤ 16 := by
  have := nodup_len 16 (S.map (·.f0)) h.nodup (fun x hx => by
    obtain ⟨s, hs, rfl⟩ := List.mem_map.1 hx
    exact h.dom s hs)
  rwa [List.length_map] at this
theorem SDom.nil : SDom [] := ⟨List.nodup_nil, fun s hs => by cases hs⟩
def hearS (S : List ST) (d a : Int) : List ST := S.filter (fun s => s.f0 != d) ++ [⟨d, a⟩]
theorem SDom.hear {S : List ST} (h : SDom S) {d a : Int} (hd : 1 ≤ d ∧ d ≤ 16) : SDom (hearS S d a) := by
  refine ⟨?_, fun s hs => ?_⟩
  · unfold hearS
    rw [List.map_append, List.nodup_append]
    refine ⟨h.nodup.sublist (List.filter_sublist.map _), by simp, fun x hx y hy => ?_⟩
    obtain ⟨s, hs, rfl⟩ := List.mem_map.1 hx
    rw [List.mem_filter] at hs
    have hy' : y = d := by simpa using hy
    rw [hy']
    simpa using hs.2
  · unfold hearS at hs
    rcases List.mem_append.1 hs with hs | hs
    · exact h.dom s (List.mem_filter.1 hs).1
    · rw [List.mem_singleton.1 hs]; exact hd
theorem stampOf_hear (S : List ST) (d a x : Int) : stampOf (hearS S d a) x = if x = d then a else stampOf S x := by
  unfold stampOf hearS
  rw [List.find?_append]
  by_cases e : x = d
  · subst e
    have : (S.filter fun s => s.f0 != x).find? (fun s => s.f0 == x) = none := by
      rw [List.find?_eq_none]
      intro s hs
      have := (List.mem_filter.1 hs).2
      simpa using this
    rw [this, if_pos rfl]
    simp
  · rw [if_neg e, List.find?_filter]
    have h1 : (S.find? fun s => decide ((s.f0 != d) = true ∧ (s.f0 == x) = true)) = S.find? fun s => s.f0 == x := by
      congr 1
      funext s
      by_cases h : s.f0 = x
      · subst h; simp [e]
      · simp [h]
    have h2 : ([⟨d, a⟩] : List ST).find? (fun s => s.f0 == x) = none := by
      rw [List.find?_eq_none]
      intro s hs
      rw [List.mem_singleton.1 hs]
      simpa using Ne.symm e
    rw [h1, h2]
    cases S.find? fun s => s.f0 == x <;> rfl
def RBook (g : Nat) (B : Bk) : Res where
  P := fun ok W => ∃ (v1 v2 : Value) (S : List ST), ok g ∧ W.heap[g]? = some (.cells #[.int .i64 B.own, v1, v2] 47 (0, 0)) ∧ k42.R 42 W 0 ok v1 (allL B) ∧ k75.R 75 W 0 ok v2 S ∧ (∀ d, stampOf S d = B.stamp d) ∧ SDom S
  mono := fun hok ⟨v1, v2, S, h1, h2, h3, h4, h5, h6⟩ => ⟨v1, v2, S, hok _ h1, h2, Kd.R_mono h3 hok, Kd.R_mono h4 hok, h5, h6⟩
  step := fun ⟨v1, v2, S, h1, h2, h3, h4, h5, h6⟩ hm => ⟨v1, v2, S, h1, (hm _ h1 (blk_lt h2)).trans h2, Kd.R_step h3 hm, Kd.R_step h4 hm, h5, h6⟩
  bound := fun ⟨v1, v2, S, h1, h2, h3, h4, h5, h6⟩ => ⟨v1, v2, S, ⟨h1, blk_lt h2⟩, h2, Kd.R_mono (Kd.R_bound h3) (fun k hk => ⟨hk.1, hk.2.2.1⟩), Kd.R_mono (Kd.R_bound h4) (fun k hk => ⟨hk.1, hk.2.2.1⟩), h5, h6⟩
section
variable {g : Nat} {B : Bk} {ok : Nat → Prop} {W : World}
theorem rbook_open (h : (RBook g B).P ok W) : ∃ (A1 : Option Addr) (c1 : Nat) (A2 : Option Addr) (c2 : Nat) (S : List ST), W.cell? ⟨g, 0, none⟩ = some (.int .i64 B.own) ∧ W.cell? ⟨g, 1, none⟩ = some (.slice A1 (allL B).length c1) ∧ W.cell? ⟨g, 2, none⟩ = some (.slice A2 S.length c2) ∧
    (allL B).length ≤ c1 ∧ S.length ≤ c2 ∧ k42.C W A1 (allL B).length (allL B) ∧ k75.C W A2 S.length S ∧ (∀ d, stampOf S d = B.stamp d) ∧ SDom S ∧
    (∀ (W1 : World), Below W.heap.size W W1 → ∀ j, W1.frozen? ⟨g, j, none⟩ = false) ∧
    (∀ (W1 : World) (v : Value) (d a : Int), Below W.heap.size W W1 → k75.R 75 W1 W.heap.size (fun k => W.heap.size ≤ k) v (hearS S d a) → 1 ≤ d ∧ d ≤ 16 → Turned ok W (W1.setCell ⟨g, 2, none⟩ v) (RBook g { B with stamp := fun x => if x = d then a else B.stamp x })) ∧
    (∀ (W1 : World) (v : Value) (B2 : Bk), Below W.heap.size W W1 → k42.R 42 W1 W.heap.size (fun k => W.heap.size ≤ k) v (allL B2) → B2.own = B.own → B2.stamp = B.stamp → Turned ok W (W1.setCell ⟨g, 1, none⟩ v) (RBook g B2)) := by
  obtain ⟨v1, v2, S, h1, h2, h3, h4, h5, h6⟩ := h
  obtain ⟨A1, c1, e1, l1, C1⟩ := Kd.R_reads h3
  obtain ⟨A2, c2, e2, l2, C2⟩ := Kd.R_reads h4
  subst e1 e2
  have hb1 : ∀ W1, Below W.heap.size W W1 → W1.heap[g]? = some (.cells #[.int .i64 B.own, .slice A1 (allL B).length c1, .slice A2 S.length c2] 47 (0, 0)) := fun W1 hb => blk_below h2 hb
  have n1 : ∀ q, q ∈ 42 :: k42.E → q ≠ 47 := by decide
  have n2 : ∀ q, q ∈ 75 :: k75.E → q ≠ 47 := by decide
  refine ⟨A1, c1, A2, c2, S, (blk_cell h2 0).trans rfl, (blk_cell h2 1).trans rfl, (blk_cell h2 2).trans rfl, l1, l2, C1, C2, h5, h6, fun W1 hb j => blk_frozen (hb1 W1 hb) j, fun W1 v d a hb hR hd => ?_, fun W1 v B2 hb hR ho hs => ?_⟩
  · have hk : Keeps W (W1.setCell ⟨g, 2, none⟩ v) ok := (Keeps.of_below hb ok).set (p := ⟨g, 2, none⟩) (.inl h1) v
    refine ⟨hk, .slice A1 (allL B).length c1, v, hearS S d a, .inl h1, ?_, ?_, ?_, fun x => ?_, h6.hear hd⟩
    · rw [blk_set (hb1 W1 hb) 2 v]; rfl
    · exact Kd.R_mono (Kd.R_set (Kd.R_below h3 hb) (hb1 W1 hb) n1 2 v) (fun _ hk => .inl hk)
    · exact Kd.R_mono (Kd.R_lower (Kd.R_set hR (hb1 W1 hb) n2 2 v) (Nat.zero_le _)) (fun _ hk => .inr hk)
    · rw [stampOf_hear, h5]
  · have hk : Keeps W (W1.setCell ⟨g, 1, none⟩ v) ok := (Keeps.of_below hb ok).set (p := ⟨g, 1, none⟩) (.inl h1) v
    refine ⟨hk, v, .slice A2 S.length c2, S, .inl h1, ?_, ?_, ?_, fun x => by rw [h5, hs], h6⟩
    · rw [blk_set (hb1 W1 hb) 1 v, ho]; rfl
    · exact Kd.R_mono (Kd.R_lower (Kd.R_set hR (hb1 W1 hb) n1 1 v) (Nat.zero_le _)) (fun _ hk => .inr hk)
    · exact Kd.R_mono (Kd.R_set (Kd.R_below h4 hb) (hb1 W1 hb) n2 1 v) (fun _ hk => .inl hk)
end
theorem addR_at (a b : Int) (W : World) : Calls Tryd.prog 34 #[.int .i64 a, .int .i64 b] W fun e W' => e = .returned (.int .i64 (addT a b)) ∧ Below W.heap.size W W' := (liveryref09_Add.calls a b _ W (addR_eq a b)).mono fun e W' h => ⟨h.1, h.2.below⟩
theorem overR_at (a b : Int) (W : World) : Calls Tryd.prog 29 #[.int .i64 a, .int .i64 b] W fun e W' => e = .returned (.bool (overT a b)) ∧ Below W.heap.size W W' := (liveryref09_Over.calls a b _ W (overR_eq a b)).mono fun e W' h => ⟨h.1, h.2.below⟩
/-! ### stamp -/
theorem at_stamp {W : World} {A : Option Addr} {n : Nat} {xs : List ST} (hC : k75.C W A n xs) (j : Nat) (hj : j < n) : ∃ ad, A = some ad ∧ W.cell? (ad.add (j * 2)) = some (.int .i64 (xs.getD j default).f0) ∧ W.cell? ⟨(ad.add (j * 2)).block, (ad.add (j * 2)).off + 1, none⟩ = some (.int .i64 (xs.getD j default).f1) := by
  obtain ⟨ad, e, h⟩ := at_T75 hC (j : Int) (by omega) (by omega)
  rw [Int.toNat_natCast] at h
  exact ⟨ad, e, h⟩
theorem stampOf_drop {S : List ST} {d : Int} {i : Nat} (h : i < S.length) : stampOf (S.drop i) d = if (S.getD i default).f0 = d then (S.getD i default).f1 else stampOf (S.drop (i + 1)) d := by
  unfold stampOf
  rw [find_drop h]
  by_cases e : (S.getD i default).f0 = d
  · rw [if_pos (by simpa using e), if_pos e]
  · rw [if_neg (by simpa using e), if_neg e]
set_option maxHeartbeats 4000000 in
set_option maxRecDepth 100000 in
theorem rbookStamp.calls (g : Nat) (B : Bk) (d : Int) (W : World) (ok : Nat → Prop) (hP : (RBook g B).P ok W) :
    Calls Tryd.prog 33 #[.pointer (some ⟨g, 0, none⟩), .int .i64 d] W fun e W' => e = .returned (.int .i64 (B.stamp d)) ∧ Below W.heap.size W W' := by
  obtain ⟨_, _, A2, c2, S, _, _, hc2, _, hcap, _, hC, hst, hS, _⟩ := rbook_open hP
  have HC := Aside0.mk hC
  have HC2 := Aside0.mk hc2
  have hn := hS.len
  have hsd := hst d
  rw [← hsd]
  clear hC hc2 hS hst hsd hP
  obtain ⟨n, en⟩ : ∃ n, S.length = n := ⟨_, rfl⟩
  rw [en] at HC HC2 hn hcap
  have HEN := Aside0.mk en
  clear en
  go_enter Tryd.func33, Tryd.ntmps33
  go_wp2_with fail
  go_loopw [5] (fun s5 wr => ∃ i : Nat, i ≤ n ∧ s5 = .int .i64 (i : Int) ∧ Aside0 (stampOf S d = stampOf (S.drop i) d) ∧ Aside0 (Below W.heap.size W wr)) (fun s5 _ => (n - (intOf s5).toNat))
  case atStart => exact ⟨0, by omega, rfl, ⟨rfl⟩, ⟨Below.refl _ _⟩⟩
  case round =>
    obtain ⟨i, hi, rfl, HX, HB⟩ := hrel
    have hc := pw_cell_below HB.out HC2.out
    by_cases hlt : i < n
    · have b1 : decide ((i : Int) < (n : Int)) = true := decide_eq_true (by omega)
      have b2 : decide (i < n) = true := decide_eq_true hlt
      obtain ⟨ad, rfl, hx0, hx1⟩ := at_stamp (Kd.C_below HC.out HB.out) i hlt
      have hsd := stampOf_drop (d := d) (show i < S.length by rw [HEN.out]; exact hlt)
      obtain ⟨s, es⟩ : ∃ s, S.getD i default = s := ⟨_, rfl⟩
      rw [es] at hx0 hx1 hsd
      clear es
      by_cases hd : s.f0 = d
      · have hdb : (s.f0 == d) = true := by simp [hd]
        rw [if_pos hd] at hsd
        have HSD := Aside0.mk hsd
        clear hd hsd
        go_wp2_with fail
        go_ret
        rw [HX.out, HSD.out]
        exact ⟨rfl, HB.out⟩
      · have hdb : (s.f0 == d) = false := by simp [hd]
        rw [if_neg hd] at hsd
        have HSD := Aside0.mk hsd
        clear hd hsd
        go_wp2_with fail
        go_roundw
        case rel => exact ⟨i + 1, by omega, by simp, ⟨HX.out.trans HSD.out⟩, HB⟩
        case measure => simp [intOf]; omega
    · have e : i = n := by omega
      subst e
      have b1 : decide ((i : Int) < (i : Int)) = false := decide_eq_false (by omega)
      have b2 : decide (i < i) = false := decide_eq_false (by omega)
      go_wp2_with fail
      go_ret
      rw [HX.out, List.drop_eq_nil_of_le (by rw [HEN.out]; exact Nat.le_refl _)]
      exact ⟨rfl, HB.out⟩
/-! ### Fresh -/
set_option maxHeartbeats 4000000 in
theorem rbookFresh.calls (g : Nat) (B : Bk) (d now : Int) (W : World) (ok : Nat → Prop) (hP : (RBook g B).P ok W) :
    Calls Tryd.prog 19 #[.pointer (some ⟨g, 0, none⟩), .int .i64 d, .int .i64 now] W fun e W' => e = .returned (.bool (freshB B d now)) ∧ Below W.heap.size W W' := by
  obtain ⟨_, _, _, _, _, hc0, _⟩ := rbook_open hP
  have HS := Aside0.mk (rbookStamp.calls g B d W ok hP)
  unfold freshB
  obtain ⟨o, eo⟩ : ∃ o, B.own = o := ⟨_, rfl⟩
  obtain ⟨st, est⟩ : ∃ st, B.stamp d = st := ⟨_, rfl⟩
  rw [eo] at hc0 ⊢
  rw [est] at HS ⊢
  clear hP eo est
  have HAD := Aside0.mk (fun W => addR_at st 48 W)
  have HOV := Aside0.mk (fun W => overR_at now (addT st 48) W)
  obtain ⟨t1, e1⟩ : ∃ t, addT st 48 = t := ⟨_, rfl⟩
  rw [e1] at HAD HOV ⊢
  obtain ⟨t2, e2⟩ : ∃ t, overT now t1 = t := ⟨_, rfl⟩
  rw [e2] at HOV ⊢
  clear e1 e2
  by_cases h1 : d = o
  · have h1b : (d == o) = true := by simp [h1]
    rw [decide_eq_true h1, Bool.true_or]
    clear h1
    go_enter Tryd.func19, Tryd.ntmps19
    go_wp2_with fail
    go_ret
    exact ⟨rfl, Below.refl _ _⟩
  · have h1b : (d == o) = false := by simp [h1]
    rw [decide_eq_false h1, Bool.false_or]
    by_cases h2 : 0 ≤ st
    · have h2b : decide (0 ≤ st) = true := decide_eq_true h2
      rw [h2b, Bool.true_and]
      clear h1 h2
      go_enter Tryd.func19, Tryd.ntmps19
      go_wp2_with fail
      refine HS.out.mono ?_
      rintro e w1 ⟨rfl, hB⟩
      have HB := Aside0.mk hB
      clear hB
      go_wp2_with fail
      refine (HAD.out _).mono ?_
      rintro e w2 ⟨rfl, hB⟩
      have HB2 := Aside0.mk (below_step HB.out hB)
      clear hB
      go_wp2_with fail
      refine (HOV.out _).mono ?_
      rintro e w3 ⟨rfl, hB⟩
      have HB3 := Aside0.mk (below_step HB2.out hB)
      clear hB
      go_wp2_with fail
      go_ret
      exact ⟨rfl, HB3.out⟩
    · have h2b : decide (0 ≤ st) = false := decide_eq_false h2
      rw [h2b, Bool.false_and]
      clear h1 h2
      go_enter Tryd.func19, Tryd.ntmps19
      go_wp2_with fail
      refine HS.out.mono ?_
      rintro e w1 ⟨rfl, hB⟩
      have HB := Aside0.mk hB
      clear hB
      go_wp2_with fail
      go_ret
      exact ⟨rfl, HB.out⟩
/-! ### Hear -/
theorem infoS : (Tryd.prog.info? 75).map (fun i => (i.zero, i.size, i.bytes)) = some (some (.agg #[.int .i64 0, .int .i64 0]), 2, 16) := by kernel_rfl
abbrev RowS (w0 W : World) (v : Value) (xs : List ST) : Prop := k75.R 75 W w0.heap.size (fun k => w0.heap.size ≤ k) v xs
theorem app_stamp {ops : Array Oper} {rest : List Oper} {o : Oper} {a : Act} {Q : Exit → Act → World → Prop} {w0 W : World} (hgd : o.guard = none) (s x : Operand) (ho : o.op = .call { callee := .builtin .append, args := #[s, x], argTypes := #[45, 45] }) (v : Value) (xs : List ST) (n : ST)
    (hs : a.eval s = v) (hx : a.eval x = .slice (some ⟨W.heap.size, 0, none⟩) 1 1) (HO : RowS w0 W v xs) (HB : Below w0.heap.size w0 W) (hl : xs.length ≤ 100000)
    (K : ∀ v1 w1, RowS w0 w1 v1 (xs ++ [n]) → Below w0.heap.size w0 w1 → wpList Tryd.prog ops Q rest (a.put o.dst v1) w1) :
    wpList Tryd.prog ops Q (o :: rest) a (W.alloc (.cells #[.int .i64 n.f0, .int .i64 n.f1] 75)) :=
  Kd.R_append k75 (w0 := w0) (W := W) w0.heap.size hgd s x 45 75 (.agg #[.int .i64 0, .int .i64 0]) 16 ho Tryd.underlying45 infoS rfl (by decide) (by omega) v xs n [.int .i64 n.f0, .int .i64 n.f1] (fun k => w0.heap.size ≤ k) (fun _ => False) hs hx
    (k75_mkM _ _ _ n) (fun _ hk => hk.elim) (fun k hk => Nat.le_trans HB.size hk) HO HB HB.size (by omega) (fun v1 w1 h1 h2 _ _ => K v1 w1 h1 h2)
theorem hear_drop {S : List ST} {d : Int} {i : Nat} (h : i < S.length) : (S.drop i).filter (fun s => s.f0 != d) = (if (S.getD i default).f0 = d then [] else [S.getD i default]) ++ (S.drop (i + 1)).filter (fun s => s.f0 != d) := by
  have e : S.getD i default = S[i] := by rw [List.getD_eq_getElem?_getD, List.getElem?_eq_getElem h]; rfl
  rw [List.drop_eq_getElem_cons h, e]
  by_cases hp : S[i].f0 = d
  · rw [List.filter_cons_of_neg (by simp [hp]), if_pos hp]; rfl
  · rw [List.filter_cons_of_pos (by simp [hp]), if_neg hp]; rfl
structure Tests (o d a : Int) : Prop where
  t0 : (d == o) = false
  t1 : decide (d < 1) = false
  t2 : decide (16 < d) = false
  t3 : decide (a < 0) = false
  t4 : decide (1099511627776 < a) = false
theorem tests_of {B : Bk} {d a : Int} (h : mayA B d a = true) : Tests B.own d a := by
  obtain ⟨h1, h2, h3, h4⟩ := mayA_iff.1 h
  exact ⟨by simpa using h1, decide_eq_false (by omega), decide_eq_false (by omega), decide_eq_false (by omega), decide_eq_false (by omega)⟩
theorem tests_not {B : Bk} {d a : Int} (h : mayA B d a = false) : (d == B.own) = true ∨ ((d == B.own) = false ∧ (decide (d < 1) = true ∨ (decide (d < 1) = false ∧ (decide (16 < d) = true ∨ (decide (16 < d) = false ∧ (decide (a < 0) = true ∨ (decide (a < 0) = false ∧ decide (1099511627776 < a) = true))))))) := by
  have h' : ¬ (mayA B d a = true) := by rw [h]; exact Bool.false_ne_true
  rw [mayA_iff] at h'
  simp only [beq_iff_eq, beq_eq_false_iff_ne, ne_eq, decide_eq_true_eq, decide_eq_false_iff_not]
  omega
set_option maxHeartbeats 8000000 in
set_option maxRecDepth 100000 in
theorem rbookHear.calls (g : Nat) (B : Bk) (d a : Int) (W : World) (ok : Nat → Prop) (hP : (RBook g B).P ok W) :
    Calls Tryd.prog 27 #[.pointer (some ⟨g, 0, none⟩), .int .i64 d, .int .i64 a] W fun e W' => e = .returned (.int .i64 (hearE B d a)) ∧ Turned ok W W' (RBook g (hearB B d a)) := by
  have HP := Aside0.mk hP
  obtain ⟨_, _, _, _, _, hc0, _⟩ := rbook_open hP
  have HST := Aside0.mk (rbookStamp.calls g B d W ok hP)
  unfold hearE hearB
  obtain ⟨m, em⟩ : ∃ m, mayA B d a = m := ⟨_, rfl⟩
  rw [em]
  cases m with
  | false =>
    rw [if_neg (by decide), if_neg (fun h => Bool.false_ne_true h.1)]
    have ht := tests_not em
    obtain ⟨o, eo⟩ : ∃ o, B.own = o := ⟨_, rfl⟩
    rw [eo] at ht hc0
    clear HST hP em eo
    rcases ht with t0 | ⟨t0, t1 | ⟨t1, t2 | ⟨t2, t3 | ⟨t3, t4⟩⟩⟩⟩
    all_goals
      go_enter Tryd.func27, Tryd.ntmps27
      go_wp2_with fail
      go_ret
      exact ⟨rfl, turned_same HP.out (Below.refl _ _)⟩
  | true =>
    obtain ⟨t0, t1, t2, t3, t4⟩ := tests_of em
    have hd := (mayA_iff.1 em).2.1
    have HD := Aside0.mk hd
    rw [if_pos rfl]
    obtain ⟨Bq, eq⟩ : ∃ Bq : Bk, (if true = true ∧ B.stamp d < a then { B with stamp := fun x => if x = d then a else B.stamp x } else B) = Bq := ⟨_, rfl⟩
    rw [eq]
    have HQ := Aside0.mk eq
    obtain ⟨st, est⟩ : ∃ st, B.stamp d = st := ⟨_, rfl⟩
    obtain ⟨o, eo⟩ : ∃ o, B.own = o := ⟨_, rfl⟩
    rw [est] at HST
    rw [eo] at hc0 t0
    clear em eq hP eo hd
    by_cases h1 : st < a
    · have h1b : decide (a ≤ st) = false := decide_eq_false (by omega)
      rw [if_pos ⟨by trivial, by rw [est]; exact h1⟩] at HQ
      clear h1 est
      go_enter Tryd.func27, Tryd.ntmps27
      go_wp2_with fail
      refine HST.out.mono ?_
      rintro e w1 ⟨rfl, hB1⟩
      obtain ⟨A1, c1, A2, c2, S, _, _, hc2, _, hcap, _, hC, _, hS, hfz, hput, _⟩ := rbook_open ((RBook g B).on HP.out hB1)
      have HB1 := Aside0.mk hB1
      have HC := Aside0.mk hC
      have HC2 := Aside0.mk hc2
      have HFZ := Aside0.mk hfz
      have HPUT := Aside0.mk hput
      have hn := hS.len
      clear hB1 hC hc2 hfz hput hS hc0 HST
      obtain ⟨n, en⟩ : ∃ n, S.length = n := ⟨_, rfl⟩
      rw [en] at HC HC2 hn hcap
      have HEN := Aside0.mk en
      clear en
      go_wp2_with fail
      obtain ⟨wa, rfl⟩ : ∃ x : World, x = w1 := ⟨_, rfl⟩
      go_loopw [8, 9] (fun s8 s9 wr => ∃ (i : Nat) (xs : List ST), i ≤ n ∧ s9 = .int .i64 (i : Int) ∧ Aside0 (xs ++ (S.drop i).filter (fun s => s.f0 != d) = S.filter (fun s => s.f0 != d)) ∧ Aside0 (xs.length ≤ i) ∧ Aside0 (RowS wa wr s8 xs) ∧ Aside0 (Below wa.heap.size wa wr)) (fun _ s9 _ => (n - (intOf s9).toNat))
      case atStart => exact ⟨0, [], by omega, rfl, ⟨rfl⟩, ⟨by simp⟩, ⟨Kd.R_nil _ _ _ _ _⟩, ⟨Below.refl _ _⟩⟩
      case round =>
        obtain ⟨i, xs, hi, rfl, HX, HXL, HR, HB⟩ := hrel
        have hc := pw_cell_below HB.out HC2.out
        by_cases hlt : i < n
        · have b1 : decide ((i : Int) < (n : Int)) = true := decide_eq_true (by omega)
          have b2 : decide (i < n) = true := decide_eq_true hlt
          obtain ⟨ad, rfl, hx0, hx1⟩ := at_stamp (Kd.C_below HC.out HB.out) i hlt
          have hsd := hear_drop (d := d) (show i < S.length by rw [HEN.out]; exact hlt)
          obtain ⟨s, es⟩ : ∃ s, S.getD i default = s := ⟨_, rfl⟩
          rw [es] at hx0 hx1 hsd
          clear es
          by_cases hd : s.f0 = d
          · have hdb : (s.f0 != d) = false := by simp [hd]
            rw [if_pos hd] at hsd
            have HSD := Aside0.mk hsd
            clear hd hsd
            go_wp2_with fail
            go_roundw
            case rel => exact ⟨i + 1, xs, by omega, by simp, ⟨by have := HX.out; rw [HSD.out] at this; exact this⟩, ⟨by have := HXL.out; omega⟩, HR, HB⟩
            case measure => simp [intOf]; omega
          · have hdb : (s.f0 != d) = true := by simp [hd]
            rw [if_neg hd] at hsd
            have HSD := Aside0.mk hsd
            clear hd hsd
            go_wp2_with (at_builtin; refine app_stamp (w0 := wa) rfl (.tmp 57) (.tmp 65) rfl u8 xs s rfl rfl HR.out HB.out (by have := HXL.out; omega) ?_)
            intro v3 w3 hR3 hB3
            have HR3 := Aside0.mk hR3
            have HB3 := Aside0.mk hB3
            clear hR3 hB3 HR HB hx0 hx1 hc
            go_wp2_with fail
            go_roundw
            case rel => exact ⟨i + 1, xs ++ [s], by omega, by simp, ⟨by have := HX.out; rw [HSD.out] at this; simpa using this⟩, ⟨by have := HXL.out; simp; omega⟩, HR3, HB3⟩
            case measure => simp [intOf]; omega
        · have e : i = n := by omega
          subst e
          have b1 : decide ((i : Int) < (i : Int)) = false := decide_eq_false (by omega)
          have b2 : decide (i < i) = false := decide_eq_false (by omega)
          have hx : xs = S.filter (fun s => s.f0 != d) := by
            have := HX.out
            rw [List.drop_eq_nil_of_le (by rw [HEN.out]; exact Nat.le_refl _), List.filter_nil, List.append_nil] at this
            exact this
          subst hx
          go_wp2_with (at_builtin; refine app_stamp (w0 := wa) rfl (.tmp 68) (.tmp 72) rfl u8 _ ⟨d, a⟩ rfl rfl HR.out HB.out (by have := HXL.out; omega) ?_)
          intro v3 w3 hR3 hB3
          have hT := HPUT.out w3 v3 d a hB3 hR3 HD.out
          have hR4 : RowS wa w3 v3 (hearS S d a) := hR3
          obtain ⟨S3, eS3⟩ : ∃ S3, hearS S d a = S3 := ⟨_, rfl⟩
          rw [eS3] at hR4
          obtain ⟨A3, c3, e3⟩ := Kd.R_slice hR4
          subst e3
          have HT := Aside0.mk hT
          have hfz3 := HFZ.out w3 hB3 2
          have hc3 := pw_cell_below hB3 HC2.out
          clear hR3 hR4 hB3 HR HB hc hT
          go_wp2_with fail
          go_ret
          rw [← HQ.out]
          exact ⟨rfl, turned_then (R := RBook g B) HB1.out HT.out⟩
    · have h1b : decide (a ≤ st) = true := decide_eq_true (by omega)
      rw [if_neg (fun h => h1 (by rw [← est]; exact h.2))] at HQ
      clear h1 est
      go_enter Tryd.func27, Tryd.ntmps27
      go_wp2_with fail
      refine HST.out.mono ?_
      rintro e w1 ⟨rfl, hB1⟩
      have HB1 := Aside0.mk hB1
      clear hB1
      go_wp2_with fail
      go_ret
      rw [← HQ.out]
      exact ⟨rfl, turned_same HP.out HB1.out⟩
end Go.Proofs.YtpdcmdofojckdaaDoor.P
