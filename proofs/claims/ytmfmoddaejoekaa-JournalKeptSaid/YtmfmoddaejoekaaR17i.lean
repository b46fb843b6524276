/- The plain model of layer 17: calls that fail, and what every loss of power leaves. -/
import Derived.Test.YtmfmoddaejoekaaR17g
set_option linter.unusedVariables false
set_option linter.unusedSimpArgs false
namespace Go.Proofs.Ytmfmoddaejoekaa.P
open Go.RowKit Go.Proofs.YtmfmoddaejoekaaW.PrintWords Go.Proofs.YtmfmoddaejoekaaW.PrintLast Go.Proofs.YtmfmoddaejoekaaW.PrintMore
/-- Two sides hold records of which X speaks. -/
def Hold (i : Nat) (a b : List Int) (X : List (List Int) → Prop) : Prop :=
  ∃ p g L, Keep a b p g L ∧ X L ∧ g ≤ 1 + (i : Int) ∧ L.length ≤ 5 + i ∧ (∀ r ∈ L, 1 ≤ r.length ∧ r.length ≤ 70) ∧ ∀ q, q = 0 ∨ q = 1 → (sideOf q a b).length ≤ 100 + 400 * i
theorem Hold.mono {i : Nat} {a b : List Int} {X Y : List (List Int) → Prop} (h : Hold i a b X) (hX : ∀ L, X L → Y L) : Hold (i + 1) a b Y := by
  obtain ⟨p, g, L, h1, h2, h3, h4, h5, h6⟩ := h
  exact ⟨p, g, L, h1, hX L h2, by omega, by omega, h5, fun q hq => by have := h6 q hq; omega⟩
/-- .. whatever of the units stays. -/
def Pend (T : TM) (P : List Int → List Int → Prop) : Prop := ∀ k, P (afterU T.s0 0 (T.us.take k)) (afterU T.s1 1 (T.us.take k))
theorem Pend.crash {T : TM} {P : List Int → List Int → Prop} (h : Pend T P) (n : Int) : P (T.crash n).s0 (T.crash n).s1 := h (T.stays n)
theorem Pend.none {T : TM} {P : List Int → List Int → Prop} (hu : T.us = []) (h : P T.s0 T.s1) : Pend T P := fun k => by rw [hu, List.take_nil]; exact h
theorem side_after (T : TM) (U : List Un) {q : Int} (hq : q = 0 ∨ q = 1) : sideOf q (afterU T.s0 0 U) (afterU T.s1 1 U) = afterU (T.safe q) q U := by
  rcases hq with rfl | rfl
  · rfl
  · rfl
/-- A tape and its journal, a fuse perhaps. -/
structure KeptS (i : Nat) (T : TM) (J : JM) : Prop where
  good : Good T J
  len : ∀ q, q = 0 ∨ q = 1 → (T.safe q).length ≤ 100 + 400 * i
  g : J.g ≤ 1 + i
  L : J.L.length ≤ 5 + i
  rcs : ∀ r ∈ J.L, 1 ≤ r.length ∧ r.length ≤ 70
  ok : T.Ok (20 + 70000 * i)
  by_ : T.By
theorem kept_new : ∃ T J, openM TM.new = (0, T, some J) ∧ KeptS 0 T J := by
  obtain ⟨T, J, h1, h2, _, _⟩ := calm_new
  exact ⟨T, J, h1, h2.good, h2.len, h2.g, h2.L, h2.rcs, h2.ok, h2.by_⟩
theorem KeptS.fuse {i : Nat} {T : TM} {J : JM} (h : KeptS i T J) (n : Int) : KeptS i (T.fuse n) J := by
  have hg : Good (T.fuse n) J := by
    unfold TM.fuse
    split
    · exact ⟨h.good.us, h.good.br, h.good.sd, h.good.gen, h.good.head, h.good.size, h.good.low⟩
    · exact h.good
  have hs : ∀ q, (T.fuse n).safe q = T.safe q := by
    intro q
    unfold TM.fuse
    split
    · rfl
    · rfl
  exact ⟨hg, fun q hq => by rw [hs]; exact h.len q hq, h.g, h.L, h.rcs, TM.fuse_ok h.ok n, h.by_.fuse n⟩
theorem KeptS.size {i : Nat} {T : TM} {J : JM} (h : KeptS i T J) (hi : i ≤ 40) : 0 ≤ J.size ∧ J.size ≤ 100000 := by
  have h1 := h.good.size
  have h2 := h.len J.side h.good.sd
  omega
theorem KeptS.hold {i : Nat} {T : TM} {J : JM} (h : KeptS i T J) {X : List (List Int) → Prop} (hX : X J.L) : Hold i T.s0 T.s1 X :=
  ⟨J.side, J.g, J.L, h.good.keep, hX, h.g, h.L, h.rcs, h.len⟩
theorem not0_40 {T : TM} {i : Int} (hi : i = 0 ∨ i = 1) (h : T.ready i ≠ 0) : T.ready i = 40 := (TM.ready_val T hi).resolve_left h
theorem brk40 : brk 40 = true := by decide
/-- What an append leaves. -/
theorem append_part {i : Nat} {T : TM} {J : JM} (h : KeptS i T J) {r : List Int} (hr : 1 ≤ r.length ∧ r.length ≤ 70) (k : Nat) {a b : List Int} (ha : sideOf J.side a b = T.safe J.side ++ (frameM r).take k) (hb : sideOf (1 - J.side) a b = T.safe (1 - J.side)) :
    Hold (i + 1) a b (fun L => L = J.L ∨ L = J.L ++ [r]) := by
  obtain ⟨x, h0, hx, hc⟩ := h.good.head
  have hrec : isRec r = true := decide_eq_true (by omega)
  obtain ⟨m, e, hm, he, _, _, hp⟩ := readA_part [r] k (fun y hy => by rw [List.mem_singleton.1 hy]; exact hrec)
  have hf : framesM [r] = frameM r := by unfold framesM; simp
  rw [hf] at hp
  have hA := readA_append (T.safe J.side) ((frameM r).take k) (x :: J.L) hx
  rw [hp] at hA
  have hlen : ∀ q, q = 0 ∨ q = 1 → (sideOf q a b).length ≤ 100 + 400 * (i + 1) := fun q hq => by
    by_cases e : q = J.side
    · have h1 := h.len J.side h.good.sd
      have h2 : ((frameM r).take k).length ≤ r.length + 4 := by rw [List.length_take, frameM_len]; omega
      rw [e, ha, List.length_append]
      omega
    · have h1 := h.len (1 - J.side) (other_side h.good.sd)
      have : q = 1 - J.side := by have := h.good.sd; omega
      rw [this, hb]
      omega
  have hgen := h.good.gen
  have hlow : Lower (sideOf (1 - J.side) a b) J.g := by rw [hb]; exact h.good.low
  by_cases hm0 : m = 0
  · subst hm0
    refine ⟨J.side, J.g, J.L, ⟨h.good.sd, hgen.1, x, h0, ⟨⟨(T.safe J.side).length + (framesM ([r].take 0)).length, e, he, ?_⟩, hc⟩, hlow⟩, .inl rfl, by have := h.g; omega, by have := h.L; omega, h.rcs, hlen⟩
    rw [ha, hA]
    simp only [glue, List.take_zero, List.append_nil]
  · have hm1 : m = 1 := by
      simp at hm
      omega
    subst hm1
    refine ⟨J.side, J.g, J.L ++ [r], ⟨h.good.sd, hgen.1, x, h0, ⟨⟨(T.safe J.side).length + (framesM ([r].take 1)).length, e, he, ?_⟩, countM_more hc (by omega) r⟩, hlow⟩, .inr rfl, by have := h.g; omega, by have := h.L; rw [List.length_append, List.length_singleton]; omega, ?_, hlen⟩
    · rw [ha, hA]
      rfl
    · intro y hy
      rcases List.mem_append.1 hy with hy | hy
      · exact h.rcs y hy
      · rw [List.mem_singleton.1 hy]; exact hr
theorem append_kept {i : Nat} {T : TM} {J : JM} (h : KeptS i T J) {r : List Int} (hr : 1 ≤ r.length ∧ r.length ≤ 70) (hb : okB r = true) (hi : i ≤ 40) :
    (∃ T' J', appendM T J r = (0, T', J') ∧ KeptS (i + 1) T' J' ∧ J'.L = J.L ++ [r]) ∨
    (∃ T', appendM T J r = (40, T', { J with broken := true }) ∧ T'.Ok (20 + 70000 * (i + 1)) ∧ T'.By ∧ Pend T' (fun a b => Hold (i + 1) a b (fun L => L = J.L ∨ L = J.L ++ [r]))) := by
  have hsd := h.good.sd
  have hl := h.len J.side hsd
  have hrec : isRec r = true := decide_eq_true (by omega)
  have hok := Ok_append h.ok J (r := r) (by omega)
  have hby := By_append h.by_ J hb
  by_cases hr0 : T.ready J.side = 0
  · have hw : T.writeE J.side (frameM r) = 0 := by rw [TM.writeE_ready hr0, safe_now h.good.us, frameM_len, if_neg (by omega)]
    by_cases hr1 : (T.write J.side (frameM r)).ready 0 = 0
    · obtain ⟨e1, hG⟩ := append_good h.good hrec hw hr1
      rw [e1] at hok hby
      refine .inl ⟨_, _, e1, ⟨hG, fun q hq => ?_, ?_, ?_, ?_, hok.mono (by omega), hby⟩, rfl⟩
      · rw [synced_safe hr1 hq]
        by_cases e : q = J.side
        · rw [e, TM.write_same hw, safe_now h.good.us, List.length_append, frameM_len]
          omega
        · rw [TM.write_other _ _ _ e, safe_now h.good.us]
          have := h.len q hq
          omega
      · show J.g ≤ _
        have := h.g
        omega
      · show (J.L ++ [r]).length ≤ _
        have := h.L
        rw [List.length_append, List.length_singleton]
        omega
      · intro x hx
        rcases List.mem_append.1 hx with hx | hx
        · exact h.rcs x hx
        · rw [List.mem_singleton.1 hx]; exact hr
    · have e40 := not0_40 (.inl rfl) hr1
      have e1 : appendM T J r = (40, T.write J.side (frameM r), { J with broken := true }) := by
        unfold appendM
        rw [if_neg (by rw [h.good.br]; decide), if_neg (by rw [hrec]; decide), if_neg (by rw [hw]; decide), if_pos hr1, e40, brk40, TM.sync_no hr1]
      rw [e1] at hok hby
      refine .inr ⟨_, e1, hok.mono (by omega), hby, fun k => ?_⟩
      rw [TM.write_yes hw]
      have hu : (T.does (TM.units J.side (frameM r))).us = TM.units J.side (frameM r) := by show T.us ++ _ = _; rw [h.good.us]; rfl
      rw [hu, units_take]
      refine append_part h hr k ?_ ?_
      · show sideOf J.side (afterU T.s0 0 _) (afterU T.s1 1 _) = _
        rw [side_after T _ hsd, afterU_units_same]
      · show sideOf (1 - J.side) (afterU T.s0 0 _) (afterU T.s1 1 _) = _
        rw [side_after T _ (other_side hsd), afterU_units_other _ _ _ (Ne.symm (other_ne hsd))]
  · have e40 := not0_40 hsd hr0
    have hw : T.writeE J.side (frameM r) = 40 := by unfold TM.writeE; rw [if_pos hr0, e40]
    have e1 : appendM T J r = (40, T, { J with broken := true }) := by
      unfold appendM
      rw [if_neg (by rw [h.good.br]; decide), if_neg (by rw [hrec]; decide), if_pos (by rw [hw]; decide), hw, brk40, TM.write_no (by rw [hw]; decide)]
    rw [e1] at hok hby
    exact .inr ⟨_, e1, hok.mono (by omega), hby, Pend.none h.good.us ((h.hold (X := fun L => L = J.L) rfl).mono (fun L hL => .inl hL))⟩
/-- What a renewal leaves. -/
theorem renew_part {i : Nat} {T : TM} {J : JM} (h : KeptS i T J) {l : List (List Int)} (hl : l.length ≤ 5) (hr : ∀ r ∈ l, 1 ≤ r.length ∧ r.length ≤ 70) (hi : i ≤ 40) (k : Nat) {a b : List Int} (ha : sideOf (1 - J.side) a b = (bodyM (J.g + 1) l).take k) (hb : sideOf J.side a b = T.safe J.side) :
    Hold (i + 1) a b (fun L => L = J.L ∨ L = l) := by
  obtain ⟨x, h0, hx, hc⟩ := h.good.head
  have hg := h.g
  have hgen := h.good.gen
  have hge : 1 ≤ J.g + 1 ∧ J.g + 1 ≤ 1099511627776 := by omega
  have hbl := bodyM_le (g := J.g + 1) (l := l) (m := 70) hge (by omega) (fun r hh => (hr r hh).2)
  have hrec : ∀ r ∈ l, isRec r = true := fun r hh => decide_eq_true (by have := hr r hh; omega)
  obtain ⟨m, e, hm, he, _, _, hp⟩ := readA_part (headR (J.g + 1) (l.length : Int) :: l) k (body_rec hge (by omega) hrec)
  have hlen : ∀ q, q = 0 ∨ q = 1 → (sideOf q a b).length ≤ 100 + 400 * (i + 1) := fun q hq => by
    by_cases e : q = J.side
    · have h1 := h.len J.side h.good.sd
      rw [e, hb]
      omega
    · have : q = 1 - J.side := by have := h.good.sd; omega
      rw [this, ha, List.length_take]
      omega
  have hown : Holds (sideOf J.side a b) (x :: J.L) J.g := by rw [hb]; exact ⟨⟨_, 0, by decide, hx⟩, hc⟩
  have hoth : readA (sideOf (1 - J.side) a b) = ((headR (J.g + 1) (l.length : Int) :: l).take m, (framesM ((headR (J.g + 1) (l.length : Int) :: l).take m)).length, e) := by rw [ha]; exact hp
  by_cases hmm : m = l.length + 1
  · have ht : (headR (J.g + 1) (l.length : Int) :: l).take m = headR (J.g + 1) (l.length : Int) :: l := List.take_of_length_le (by rw [List.length_cons]; omega)
    rw [ht] at hoth
    refine ⟨1 - J.side, J.g + 1, l, ⟨other_side h.good.sd, hge.1, _, head_len hge (by omega), ⟨⟨_, e, he, hoth⟩, body_count hge (by omega)⟩, ?_⟩, .inr rfl, by omega, by omega, hr, hlen⟩
    rw [show 1 - (1 - J.side) = J.side by omega]
    exact ⟨_, J.g, hown, by omega, by omega⟩
  · refine ⟨J.side, J.g, J.L, ⟨h.good.sd, hgen.1, x, h0, hown, ?_⟩, .inl rfl, by omega, by have := h.L; omega, h.rcs, hlen⟩
    refine ⟨_, 0, ⟨⟨_, e, he, hoth⟩, ?_⟩, Int.le_refl _, by omega⟩
    cases m with
    | zero => rfl
    | succ m =>
      rw [List.take_succ_cons, countM_head _ _ hge (by omega), if_neg]
      rw [List.length_cons] at hm
      rw [List.length_take]
      omega
theorem renew_kept {i : Nat} {T : TM} {J : JM} (h : KeptS i T J) {l : List (List Int)} (hl : l.length ≤ 5) (hr : ∀ r ∈ l, 1 ≤ r.length ∧ r.length ≤ 70) (hb : ∀ r ∈ l, okB r = true) (hi : i ≤ 40) :
    (∃ T' J', renewM T J l = (0, T', J') ∧ KeptS (i + 1) T' J' ∧ J'.L = l) ∨
    (∃ T', renewM T J l = (40, T', { J with broken := true }) ∧ T'.Ok (20 + 70000 * (i + 1)) ∧ T'.By ∧ Pend T' (fun a b => Hold (i + 1) a b (fun L => L = J.L ∨ L = l))) := by
  have hsd := h.good.sd
  have hso := other_side hsd
  have hg := h.g
  have hge := h.good.gen
  have hbl := bodyM_le (g := J.g + 1) (l := l) (m := 70) (by omega) (by omega) (fun r hh => (hr r hh).2)
  have hok := Ok_renew h.ok J l
  have hby := By_renew h.by_ J hb (by omega) (by omega)
  have hrec : ∀ r ∈ l, isRec r = true := fun r hh => decide_eq_true (by have := hr r hh; omega)
  have hc2 : ¬ (4000 < l.length ∨ 1099511627776 ≤ J.g ∨ ¬ (∀ r ∈ l, isRec r = true)) := by simp only [not_or]; exact ⟨by omega, by omega, fun hh => hh hrec⟩
  have hc3 : ¬ 65536 < (bodyM (J.g + 1) l).length := by omega
  have hcb : ¬ J.broken = true := by rw [h.good.br]; decide
  -- what stays of a trim, and of what was written behind it
  have part : ∀ (U : List Un) (d : List Int), U = ⟨1 - J.side, 0, 0⟩ :: TM.units (1 - J.side) d → (∃ j, d = (bodyM (J.g + 1) l).take j) → ∀ k, Hold (i + 1) (afterU T.s0 0 (U.take k)) (afterU T.s1 1 (U.take k)) (fun L => L = J.L ∨ L = l) := by
    intro U d hU ⟨j, hd⟩ k
    cases k with
    | zero => exact (h.hold (X := fun L => L = J.L) rfl).mono (fun L hL => .inl hL)
    | succ k =>
      rw [hU, List.take_succ_cons, units_take, hd, List.take_take]
      refine renew_part h hl hr hi (min k j) ?_ ?_
      · rw [side_after T _ hso]
        show afterU (unit1 (T.safe (1 - J.side)) (1 - J.side) ⟨1 - J.side, 0, 0⟩) (1 - J.side) _ = _
        rw [afterU_units_same]
        unfold unit1
        rw [if_pos rfl, if_pos (show (0 : Int) ≤ 0 from Int.le_refl _)]
        rfl
      · rw [side_after T _ hsd]
        show afterU (unit1 (T.safe J.side) J.side ⟨1 - J.side, 0, 0⟩) J.side _ = _
        rw [afterU_units_other _ _ _ (other_ne hsd)]
        unfold unit1
        rw [if_neg (other_ne hsd)]
  by_cases hr0 : T.ready (1 - J.side) = 0
  · have ht : T.trimE (1 - J.side) 0 = 0 := TM.trimE_ready hr0 (by decide) (by omega)
    have hn : (T.trim (1 - J.side) 0).now (1 - J.side) = [] := by rw [TM.trim_same ht (by decide)]; rfl
    have hu1 : (T.trim (1 - J.side) 0).us = [⟨1 - J.side, 0, 0⟩] := by rw [TM.trim_yes ht]; show T.us ++ _ = _; rw [h.good.us]; rfl
    by_cases hr1 : (T.trim (1 - J.side) 0).ready (1 - J.side) = 0
    · have hw : (T.trim (1 - J.side) 0).writeE (1 - J.side) (bodyM (J.g + 1) l) = 0 := by
        rw [TM.writeE_ready hr1, hn, List.length_nil, if_neg (by omega)]
      by_cases hr2 : ((T.trim (1 - J.side) 0).write (1 - J.side) (bodyM (J.g + 1) l)).ready 0 = 0
      · obtain ⟨e1, hG⟩ := renew_good h.good (l := l) (by omega) (by omega) hrec (by omega) ht hw hr2
        rw [e1] at hok hby
        refine .inl ⟨_, _, e1, ⟨hG, fun q hq => ?_, ?_, ?_, hr, hok.mono (by omega), hby⟩, rfl⟩
        · rw [synced_safe hr2 hq]
          by_cases e : q = 1 - J.side
          · rw [e, TM.write_same hw, hn, List.nil_append]
            omega
          · rw [TM.write_other _ _ _ e, TM.trim_other _ _ _ e, safe_now h.good.us]
            have := h.len q hq
            omega
        · show J.g + 1 ≤ _
          omega
        · show l.length ≤ _
          omega
      · have e40 := not0_40 (.inl rfl) hr2
        have e1 : renewM T J l = (40, (T.trim (1 - J.side) 0).write (1 - J.side) (bodyM (J.g + 1) l), { J with broken := true }) := by
          unfold renewM
          rw [if_neg hcb, if_neg hc2, if_neg hc3, if_neg (by rw [ht]; decide), if_neg (by rw [hw]; decide), if_pos hr2, e40, brk40, TM.sync_no hr2]
        rw [e1] at hok hby
        refine .inr ⟨_, e1, hok.mono (by omega), hby, ?_⟩
        have hs : ∀ k, _ := part _ (bodyM (J.g + 1) l) rfl ⟨(bodyM (J.g + 1) l).length, (List.take_length).symm⟩
        intro k
        rw [TM.write_yes hw]
        have hu : ((T.trim (1 - J.side) 0).does (TM.units (1 - J.side) (bodyM (J.g + 1) l))).us = ⟨1 - J.side, 0, 0⟩ :: TM.units (1 - J.side) (bodyM (J.g + 1) l) := by
          show (T.trim (1 - J.side) 0).us ++ _ = _
          rw [hu1]
          rfl
        rw [hu, TM.trim_yes ht]
        exact hs k
    · have e40 := not0_40 hso hr1
      have hw : (T.trim (1 - J.side) 0).writeE (1 - J.side) (bodyM (J.g + 1) l) = 40 := by unfold TM.writeE; rw [if_pos hr1, e40]
      have e1 : renewM T J l = (40, T.trim (1 - J.side) 0, { J with broken := true }) := by
        unfold renewM
        rw [if_neg hcb, if_neg hc2, if_neg hc3, if_neg (by rw [ht]; decide), if_pos (by rw [hw]; decide), hw, brk40, TM.write_no (by rw [hw]; decide)]
      rw [e1] at hok hby
      refine .inr ⟨_, e1, hok.mono (by omega), hby, ?_⟩
      have hs : ∀ k, _ := part _ [] rfl ⟨0, rfl⟩
      intro k
      rw [hu1, TM.trim_yes ht]
      exact hs k
  · have e40 := not0_40 hso hr0
    have ht : T.trimE (1 - J.side) 0 = 40 := by unfold TM.trimE; rw [if_pos hr0, e40]
    have e1 : renewM T J l = (40, T, { J with broken := true }) := by
      unfold renewM
      rw [if_neg hcb, if_neg hc2, if_neg hc3, if_pos (by rw [ht]; decide), ht, brk40, TM.trim_no (by rw [ht]; decide)]
    rw [e1] at hok hby
    exact .inr ⟨_, e1, hok.mono (by omega), hby, Pend.none h.good.us ((h.hold (X := fun L => L = J.L) rfl).mono (fun L hL => .inl hL))⟩
/-- What a trim of what is torn leaves. -/
theorem hold_trim {i : Nat} {a b a' b' : List Int} {X : List (List Int) → Prop} {p g : Int} {L : List (List Int)} (hk : Keep a b p g L) (hX : X L) (hg : g ≤ 1 + (i : Int)) (hL : L.length ≤ 5 + i) (hr : ∀ r ∈ L, 1 ≤ r.length ∧ r.length ≤ 70) (hl : ∀ q, q = 0 ∨ q = 1 → (sideOf q a b).length ≤ 100 + 400 * i)
    {h : List Int} {s e : Nat} (hh : h.length ≤ 18) (hra : readA (sideOf p a b) = (h :: L, s, e)) (hc : countM (h :: L) = (true, g)) (ha : sideOf p a' b' = (sideOf p a b).take s) (hb : sideOf (1 - p) a' b' = sideOf (1 - p) a b) : Hold i a' b' X := by
  obtain ⟨hp, hg1, _, _, _, hlow⟩ := hk
  refine ⟨p, g, L, ⟨hp, hg1, h, hh, ⟨⟨s, 0, by decide, ?_⟩, hc⟩, by rw [hb]; exact hlow⟩, hX, hg, hL, hr, fun q hq => ?_⟩
  · rw [ha]; exact (readA_take _ _ _ _ hra).2
  · by_cases e : q = p
    · rw [e, ha, List.length_take]
      have := hl p hp
      omega
    · have e2 : q = 1 - p := by omega
      rw [e2, hb]
      exact hl _ (by omega)
theorem open_pend {i : Nat} {T : TM} (hu : T.us = []) {X : List (List Int) → Prop} (h : Hold i T.s0 T.s1 X) : ∃ e T' oj, openM T = (e, T', oj) ∧ (e = 0 ∨ e = 40) ∧ Pend T' (fun a b => Hold i a b X) := by
  have hold := h
  obtain ⟨p, g, L, hk, hX, hg, hL, hr, hl⟩ := h
  have hp := hk.1
  by_cases hr0 : T.ready 0 = 0
  · have hn : ∀ q, T.now q = T.safe q := safe_now hu
    obtain ⟨s, e, he, hs, ⟨x, hx18, hra, hc⟩, ho⟩ := open_keep (T := T) (p := p) (g := g) (L := L) (by rw [hn, hn]; exact hk) hr0
    by_cases he1 : e = 1
    · rw [if_pos he1] at ho
      have ht : T.trimE p s = 0 := TM.trimE_ready (by rw [TM.ready_side T hp]; exact hr0) (by omega) (by omega)
      rw [if_neg (by rw [ht]; decide)] at ho
      have hu1 : (T.trim p s).us = [⟨p, s, 0⟩] := by rw [TM.trim_yes ht]; show T.us ++ _ = _; rw [hu]; rfl
      rw [hn] at hra
      have hafter : Hold i (afterU T.s0 0 [⟨p, s, 0⟩]) (afterU T.s1 1 [⟨p, s, 0⟩]) X := by
        refine hold_trim hk hX hg hL hr hl hx18 (a := T.s0) (b := T.s1) (s := s) (e := e) hra hc ?_ ?_
        · rw [side_after T _ hp]
          show unit1 (T.safe p) p ⟨p, s, 0⟩ = _
          unfold unit1
          rw [if_pos rfl, if_pos (show (0 : Int) ≤ (s : Int) by omega)]
          rfl
        · rw [side_after T _ (other_side hp)]
          show unit1 (T.safe (1 - p)) (1 - p) ⟨p, s, 0⟩ = _
          unfold unit1
          rw [if_neg (Ne.symm (other_ne hp))]
          rfl
      by_cases hr1 : (T.trim p s).ready 0 = 0
      · rw [if_neg (by rw [hr1]; decide)] at ho
        refine ⟨_, _, _, ho, .inl rfl, Pend.none (by rw [TM.sync_yes hr1]) ?_⟩
        rw [TM.sync_yes hr1]
        show Hold i ((T.trim p s).now 0) ((T.trim p s).now 1) X
        rw [TM.trim_yes ht, TM.does_now, TM.does_now, hn, hn]
        exact hafter
      · rw [if_pos hr1] at ho
        refine ⟨_, _, _, ho, .inr (not0_40 (.inl rfl) hr1), fun k => ?_⟩
        rw [TM.sync_no hr1, hu1, TM.trim_yes ht]
        cases k with
        | zero => exact hold
        | succ k => rw [List.take_succ_cons, List.take_nil]; exact hafter
    · rw [if_neg he1] at ho
      exact ⟨_, _, _, ho, .inl rfl, Pend.none hu hold⟩
  · refine ⟨T.ready 0, T, none, by unfold openM; rw [if_pos hr0], .inr (not0_40 (.inl rfl) hr0), Pend.none hu hold⟩
theorem open_calm {i : Nat} {T : TM} (hu : T.us = []) (hbu : T.burns = false) (hok : T.Ok (70000 * i)) (hby : T.By) {X : List (List Int) → Prop} (hi : i ≤ 41) (h : Hold i T.s0 T.s1 X) : ∃ T' J', openM T = (0, T', some J') ∧ KeptS i T' J' ∧ X J'.L := by
  obtain ⟨p, g, L, hk, hX, hg, hL, hr, hl⟩ := h
  have hp := hk.1
  have hg1 := hk.2.1
  have hlow := hk.2.2
  have hr0 := TM.calm_ready hbu (i := 0) (.inl rfl)
  have hn : ∀ q, T.now q = T.safe q := safe_now hu
  have ook := Ok_open hok
  have oby := By_open hby
  obtain ⟨s, e, he, hs, ⟨x, hx18, hra, hc⟩, ho⟩ := open_keep (T := T) (p := p) (g := g) (L := L) (by rw [hn, hn]; exact hk) hr0
  obtain ⟨_, _, _, hlow⟩ := hlow
  have hlow' : Lower (T.safe (1 - p)) g := hlow
  rw [hn] at hra hs
  by_cases he1 : e = 1
  · rw [if_pos he1] at ho
    have ht : T.trimE p s = 0 := TM.trimE_ready (by rw [TM.ready_side T hp]; exact hr0) (by omega) (by rw [hn]; omega)
    have hb1 := TM.calm_trim hbu p s
    have hr1 := TM.calm_ready hb1 (i := 0) (.inl rfl)
    rw [if_neg (by rw [ht]; decide), if_neg (by rw [hr1]; decide)] at ho
    have hsp : (T.trim p s).sync.safe p = (T.safe p).take s := by
      rw [synced_safe hr1 hp, TM.trim_same ht (by omega), hn, Int.toNat_natCast]
    have hso : (T.trim p s).sync.safe (1 - p) = T.safe (1 - p) := by
      rw [synced_safe hr1 (other_side hp), TM.trim_other _ _ _ (other_ne hp), hn]
    have htk := readA_take _ _ _ _ hra
    have hsl : ((T.safe p).take s).length = s := by rw [List.length_take]; omega
    rw [ho] at ook oby
    refine ⟨_, _, ho, ⟨⟨by rw [TM.sync_yes hr1], rfl, hp, ⟨hg1, by show g ≤ _; omega⟩, ⟨x, hx18, ?_, hc⟩, ?_, ?_⟩, fun q hq => ?_, hg, hL, hr, ook.mono (by omega), oby⟩, hX⟩
    · show readA ((T.trim p s).sync.safe p) = (x :: L, ((T.trim p s).sync.safe p).length, 0)
      rw [hsp, hsl]
      exact htk.2
    · show (s : Int) = (((T.trim p s).sync.safe p).length : Int)
      rw [hsp, hsl]
    · show Lower ((T.trim p s).sync.safe (1 - p)) g
      rw [hso]
      exact hlow'
    · by_cases e2 : q = p
      · rw [e2, hsp, hsl]
        have := hl p hp
        rw [← safe_eq] at this
        omega
      · have e3 : q = 1 - p := by omega
        rw [e3, hso]
        exact hl _ (other_side hp)
  · rw [if_neg he1] at ho
    have he0 : e = 0 := by omega
    subst he0
    have hfull := readA_full _ _ _ hra
    rw [ho] at ook oby
    refine ⟨_, _, ho, ⟨⟨hu, rfl, hp, ⟨hg1, by show g ≤ _; omega⟩, ⟨x, hx18, ?_, hc⟩, ?_, hlow'⟩, hl, hg, hL, hr, ook.mono (by omega), oby⟩, hX⟩
    · show readA (T.safe p) = (x :: L, (T.safe p).length, 0)
      rw [hra, ← hfull]
    · show (s : Int) = ((T.safe p).length : Int)
      rw [hfull]
/-- What an append or a renewal comes to. -/
def PostS (i : Nat) (e : Int) (T : TM) (J : JM) (L nx : List (List Int)) : Prop :=
  T.Ok (20 + 70000 * (i + 1)) ∧ T.By ∧ ((e = 0 ∧ KeptS (i + 1) T J ∧ J.L = nx) ∨ (e = 40 ∧ J.broken = true ∧ J.L.length ≤ 1000 ∧ (0 ≤ J.size ∧ J.size ≤ 100000) ∧ Pend T (fun a b => Hold (i + 1) a b (fun M => M = L ∨ M = nx))))
theorem post_append {i : Nat} {T : TM} {J : JM} (h : KeptS i T J) {r : List Int} (hr : 1 ≤ r.length ∧ r.length ≤ 70) (hb : okB r = true) (hi : i ≤ 40) : ∃ e T' J', appendM T J r = (e, T', J') ∧ PostS i e T' J' J.L (J.L ++ [r]) := by
  rcases append_kept h hr hb hi with ⟨T', J', h1, h2, h3⟩ | ⟨T', h1, h2, h3, h4⟩
  · exact ⟨0, T', J', h1, h2.ok, h2.by_, .inl ⟨rfl, h2, h3⟩⟩
  · exact ⟨40, T', _, h1, h2, h3, .inr ⟨rfl, rfl, by have := h.L; show J.L.length ≤ 1000; omega, h.size hi, h4⟩⟩
theorem post_renew {i : Nat} {T : TM} {J : JM} (h : KeptS i T J) {l : List (List Int)} (hl : l.length ≤ 5) (hr : ∀ r ∈ l, 1 ≤ r.length ∧ r.length ≤ 70) (hb : ∀ r ∈ l, okB r = true) (hi : i ≤ 40) : ∃ e T' J', renewM T J l = (e, T', J') ∧ PostS i e T' J' J.L l := by
  rcases renew_kept h hl hr hb hi with ⟨T', J', h1, h2, h3⟩ | ⟨T', h1, h2, h3, h4⟩
  · exact ⟨0, T', J', h1, h2.ok, h2.by_, .inl ⟨rfl, h2, h3⟩⟩
  · exact ⟨40, T', _, h1, h2, h3, .inr ⟨rfl, rfl, by have := h.L; show J.L.length ≤ 1000; omega, h.size hi, h4⟩⟩
theorem append_broken {T : TM} {J : JM} (h : J.broken = true) (r : List Int) : appendM T J r = (40, T, J) := by unfold appendM; rw [if_pos h]
/-- The rows that a renewal is given. -/
def rowK (mo : List (List Int)) (q : Nat) : List Int := (q : Int) :: (mo.getD q []).take 60
def nextK (mo : List (List Int)) (j : Nat) : List (List Int) := (List.range j).map (rowK mo)
theorem nextK_len (mo : List (List Int)) (j : Nat) : (nextK mo j).length = j := by simp [nextK]
theorem nextK_succ (mo : List (List Int)) (j : Nat) : nextK mo (j + 1) = nextK mo j ++ [rowK mo j] := by
  unfold nextK
  rw [List.range_succ, List.map_append]
  rfl
theorem nextK_rows (mo : List (List Int)) (j : Nat) : ∀ r ∈ nextK mo j, 1 ≤ r.length ∧ r.length ≤ 70 := fun r hr => by
  obtain ⟨q, _, rfl⟩ := List.mem_map.1 hr
  unfold rowK
  rw [List.length_cons, List.length_take]
  omega
theorem nextK_ok (mo : List (List Int)) (j : Nat) (hj : j ≤ 5) (hb : ∀ y ∈ mo, okB y = true) : ∀ r ∈ nextK mo j, okB r = true := fun r hr => by
  obtain ⟨q, hq, rfl⟩ := List.mem_map.1 hr
  have hq5 : q < j := List.mem_range.1 hq
  refine okB_append (a := [(q : Int)]) (okB_of fun z hz => ?_) (okB_take ?_ 60)
  · rw [List.mem_singleton.1 hz]; omega
  · rw [List.getD_eq_getElem?_getD]
    by_cases hl : q < mo.length
    · rw [List.getElem?_eq_getElem hl]; exact hb _ (List.getElem_mem hl)
    · rw [List.getElem?_eq_none (by omega)]; rfl
end Go.Proofs.Ytmfmoddaejoekaa.P
