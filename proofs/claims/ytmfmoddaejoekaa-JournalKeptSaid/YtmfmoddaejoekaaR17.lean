/- The plain model of layers 16 and 17: a tape's units, a journal; no program in sight. -/
import Derived.Test.YtmfmoddaejoekaaHRw
import Derived.Test.YtmfmoddaejoekaaP0
set_option linter.unusedVariables false
set_option linter.unusedSimpArgs false
namespace Go.Proofs.Ytmfmoddaejoekaa.P
open Go.RowKit Go.Proofs.YtmfmoddaejoekaaW.PrintWords Go.Proofs.YtmfmoddaejoekaaW.PrintLast Go.Proofs.YtmfmoddaejoekaaW.PrintMore
/-- A unit: its side, where it cuts (below 0: not), its byte. -/
abbrev Un := S89
/-- A side's bytes behind a unit. -/
def unit1 (l : List Int) (i : Int) (u : Un) : List Int := if u.f0 = i then (if 0 ≤ u.f1 then l.take u.f1.toNat else l ++ [u.f2]) else l
def afterU (l : List Int) (i : Int) (us : List Un) : List Int := us.foldl (fun l u => unit1 l i u) l
theorem afterU_append (l : List Int) (i : Int) (us vs : List Un) : afterU l i (us ++ vs) = afterU (afterU l i us) i vs := by simp [afterU]
theorem afterU_snoc (l : List Int) (i : Int) (us : List Un) (u : Un) : afterU l i (us ++ [u]) = unit1 (afterU l i us) i u := by simp [afterU]
/-- What units may be behind two sides. -/
def legal : List Int → List Int → List Un → Prop
  | a, b, [] => a.length ≤ 65536 ∧ b.length ≤ 65536
  | a, b, u :: us => a.length ≤ 65536 ∧ b.length ≤ 65536 ∧ (u.f0 = 0 ∨ u.f0 = 1) ∧ (0 ≤ u.f1 → u.f1 ≤ ((if u.f0 = 0 then a else b).length : Int)) ∧ legal (unit1 a 0 u) (unit1 b 1 u) us
theorem legal_len {a b : List Int} {us : List Un} (h : legal a b us) : a.length ≤ 65536 ∧ b.length ≤ 65536 := by
  cases us with
  | nil => exact h
  | cons u us => exact ⟨h.1, h.2.1⟩
theorem legal_append {us vs : List Un} : ∀ {a b : List Int}, legal a b (us ++ vs) ↔ legal a b us ∧ legal (afterU a 0 us) (afterU b 1 us) vs := by
  induction us with
  | nil =>
    intro a b
    refine ⟨fun h => ⟨legal_len h, h⟩, fun h => h.2⟩
  | cons u us ih =>
    intro a b
    show (_ ∧ _ ∧ _ ∧ _ ∧ legal _ _ (us ++ vs)) ↔ (_ ∧ _ ∧ _ ∧ _ ∧ legal _ _ us) ∧ legal (afterU (unit1 a 0 u) 0 us) (afterU (unit1 b 1 u) 1 us) vs
    rw [ih]
    exact ⟨fun ⟨h1, h2, h3, h4, h5, h6⟩ => ⟨⟨h1, h2, h3, h4, h5⟩, h6⟩, fun ⟨⟨h1, h2, h3, h4, h5⟩, h6⟩ => ⟨h1, h2, h3, h4, h5, h6⟩⟩
/-- A tape: what lasts, the units since, its fuse. -/
structure TM where
  s0 : List Int
  s1 : List Int
  us : List Un
  burns : Bool
  left : Int
namespace TM
def safe (T : TM) (i : Int) : List Int := if i = 0 then T.s0 else T.s1
def now (T : TM) (i : Int) : List Int := afterU (T.safe i) i T.us
/-- The error ahead of all others. -/
def ready (T : TM) (i : Int) : Int := if i < 0 ∨ 2 ≤ i then 1 else if T.burns = true ∧ T.left = 0 then 40 else 0
/-- One operation more was done. -/
def burn (T : TM) : TM := { T with left := if T.burns = true then T.left - 1 else T.left }
def does (T : TM) (l : List Un) : TM := { T.burn with us := T.us ++ l }
def units (i : Int) (data : List Int) : List Un := data.map fun b => ⟨i, -1, b⟩
def writeE (T : TM) (i : Int) (data : List Int) : Int := if T.ready i ≠ 0 then T.ready i else if 65536 < (T.now i).length + data.length then 42 else 0
def write (T : TM) (i : Int) (data : List Int) : TM := if T.writeE i data = 0 then T.does (units i data) else T
def trimE (T : TM) (i n : Int) : Int := if T.ready i ≠ 0 then T.ready i else if n < 0 ∨ ((T.now i).length : Int) < n then 1 else 0
def trim (T : TM) (i n : Int) : TM := if T.trimE i n = 0 then T.does [⟨i, n, 0⟩] else T
def sync (T : TM) : TM := if T.ready 0 = 0 then { T.burn with s0 := T.now 0, s1 := T.now 1, us := [] } else T
def fuseE (n : Int) : Int := if n < 0 ∨ 1099511627776 < n then 1 else 0
def fuse (T : TM) (n : Int) : TM := if fuseE n = 0 then { T with burns := true, left := if T.burns = true ∧ T.left < n then T.left else n } else T
/-- How many units stay. -/
def stays (T : TM) (n : Int) : Nat := ((if n < 0 then -(n + 1) else n).toNat) % (T.us.length + 1)
def crash (T : TM) (n : Int) : TM := ⟨afterU T.s0 0 (T.us.take (T.stays n)), afterU T.s1 1 (T.us.take (T.stays n)), [], false, 0⟩
def new : TM := ⟨[], [], [], false, 0⟩
/-- What a tape may be; at most N units. -/
def Ok (T : TM) (N : Nat) : Prop := (T.burns = true → 0 ≤ T.left ∧ T.left ≤ 1099511627776) ∧ T.us.length ≤ N ∧ legal T.s0 T.s1 T.us
theorem new_ok : new.Ok 0 := ⟨by simp [new], Nat.le_refl _, by simp [new, legal]⟩
theorem Ok.mono {T : TM} {N M : Nat} (h : T.Ok N) (hm : N ≤ M) : T.Ok M := ⟨h.1, Nat.le_trans h.2.1 hm, h.2.2⟩
theorem Ok.now_len {T : TM} {N : Nat} (h : T.Ok N) (i : Int) (hi : i = 0 ∨ i = 1) : (T.now i).length ≤ 65536 := by
  have h1 : legal T.s0 T.s1 (T.us ++ []) := by rw [List.append_nil]; exact h.2.2
  have h2 := legal_len (legal_append.1 h1).2
  rcases hi with rfl | rfl
  · exact h2.1
  · exact h2.2
theorem ready_pos {T : TM} {N : Nat} {i : Int} (h : T.Ok N) (hr : T.ready i = 0) : (i = 0 ∨ i = 1) ∧ (T.burns = true → 1 ≤ T.left) := by
  unfold ready at hr
  by_cases c : i < 0 ∨ 2 ≤ i
  · rw [if_pos c] at hr; omega
  · rw [if_neg c] at hr
    by_cases c2 : T.burns = true ∧ T.left = 0
    · rw [if_pos c2] at hr; omega
    · refine ⟨by omega, fun hb => ?_⟩
      have := h.1 hb
      have h3 : T.left ≠ 0 := fun e => c2 ⟨hb, e⟩
      omega
theorem burn_ok {T : TM} (h : T.burns = true → 0 ≤ T.left ∧ T.left ≤ 1099511627776) (h1 : T.burns = true → 1 ≤ T.left) : T.burn.burns = true → 0 ≤ T.burn.left ∧ T.burn.left ≤ 1099511627776 := fun hb => by
  have hb' : T.burns = true := hb
  have := h hb'
  have := h1 hb'
  show 0 ≤ (if T.burns = true then T.left - 1 else T.left) ∧ (if T.burns = true then T.left - 1 else T.left) ≤ 1099511627776
  rw [if_pos hb']
  omega
theorem legal_units (i : Int) (hi : i = 0 ∨ i = 1) (data : List Int) : ∀ (a b : List Int), a.length + (if i = 0 then data.length else 0) ≤ 65536 → b.length + (if i = 0 then 0 else data.length) ≤ 65536 → legal a b (units i data) := by
  induction data with
  | nil => intro a b ha hb; split at ha <;> split at hb <;> exact ⟨by simpa using ha, by simpa using hb⟩
  | cons x xs ih =>
    intro a b ha hb
    refine ⟨by omega, by omega, hi, fun h => by simp at h, ?_⟩
    have := ih
    refine ih _ _ ?_ ?_
    · unfold unit1
      rcases hi with rfl | rfl
      · simp at ha ⊢; omega
      · simpa using ha
    · unfold unit1
      rcases hi with rfl | rfl
      · simpa using hb
      · simp at hb ⊢; omega
theorem write_ok {T : TM} {N : Nat} (h : T.Ok N) (i : Int) (data : List Int) : (T.write i data).Ok (N + data.length) := by
  unfold write
  by_cases c : T.writeE i data = 0
  · rw [if_pos c]
    unfold writeE at c
    by_cases c1 : T.ready i ≠ 0
    · rw [if_pos c1] at c; exact absurd c c1
    · rw [if_neg c1] at c
      have c1' : T.ready i = 0 := by omega
      have hp := ready_pos h c1'
      by_cases c2 : 65536 < (T.now i).length + data.length
      · rw [if_pos c2] at c; omega
      · refine ⟨burn_ok h.1 hp.2, ?_, ?_⟩
        · show (T.us ++ units i data).length ≤ _
          rw [List.length_append]
          have := h.2.1
          simp [units]
          omega
        · show legal T.s0 T.s1 (T.us ++ units i data)
          refine legal_append.2 ⟨h.2.2, ?_⟩
          have l0 := h.now_len 0 (.inl rfl)
          have l1 := h.now_len 1 (.inr rfl)
          have e0 : T.now 0 = afterU T.s0 0 T.us := rfl
          have e1 : T.now 1 = afterU T.s1 1 T.us := rfl
          rw [← e0, ← e1]
          refine legal_units i hp.1 data _ _ ?_ ?_
          · rcases hp.1 with e | e <;> subst e
            · simp; omega
            · simp; omega
          · rcases hp.1 with e | e <;> subst e
            · simp; omega
            · simp; omega
  · rw [if_neg c]
    exact h.mono (by omega)
theorem trim_ok {T : TM} {N : Nat} (h : T.Ok N) (i n : Int) : (T.trim i n).Ok (N + 1) := by
  unfold trim
  by_cases c : T.trimE i n = 0
  · rw [if_pos c]
    unfold trimE at c
    by_cases c1 : T.ready i ≠ 0
    · rw [if_pos c1] at c; exact absurd c c1
    · rw [if_neg c1] at c
      have hp := ready_pos h (i := i) (by omega)
      by_cases c2 : n < 0 ∨ ((T.now i).length : Int) < n
      · rw [if_pos c2] at c; omega
      · refine ⟨burn_ok h.1 hp.2, ?_, ?_⟩
        · show (T.us ++ [_]).length ≤ _
          rw [List.length_append]
          have := h.2.1
          simp
          omega
        · show legal T.s0 T.s1 (T.us ++ [_])
          refine legal_append.2 ⟨h.2.2, ?_⟩
          have l0 := h.now_len 0 (.inl rfl)
          have l1 := h.now_len 1 (.inr rfl)
          have e0 : T.now 0 = afterU T.s0 0 T.us := rfl
          have e1 : T.now 1 = afterU T.s1 1 T.us := rfl
          rw [← e0, ← e1]
          refine ⟨l0, l1, hp.1, fun _ => ?_, ?_, ?_⟩
          · rcases hp.1 with e | e <;> subst e
            · simp at c2 ⊢; omega
            · simp at c2 ⊢; omega
          · simp only [unit1]
            split
            · split
              · rw [List.length_take]; omega
              · omega
            · exact l0
          · simp only [unit1]
            split
            · split
              · rw [List.length_take]; omega
              · omega
            · exact l1
  · rw [if_neg c]
    exact h.mono (by omega)
theorem sync_ok {T : TM} {N : Nat} (h : T.Ok N) : T.sync.Ok N := by
  unfold sync
  by_cases c : T.ready 0 = 0
  · rw [if_pos c]
    exact ⟨burn_ok h.1 (ready_pos h c).2, Nat.zero_le _, h.now_len 0 (.inl rfl), h.now_len 1 (.inr rfl)⟩
  · rw [if_neg c]; exact h
theorem fuse_ok {T : TM} {N : Nat} (h : T.Ok N) (n : Int) : (T.fuse n).Ok N := by
  unfold fuse
  by_cases c : fuseE n = 0
  · rw [if_pos c]
    unfold fuseE at c
    by_cases c2 : n < 0 ∨ 1099511627776 < n
    · rw [if_pos c2] at c; omega
    · refine ⟨fun _ => ?_, h.2.1, h.2.2⟩
      show 0 ≤ (if T.burns = true ∧ T.left < n then T.left else n) ∧ (if T.burns = true ∧ T.left < n then T.left else n) ≤ _
      split
      · rename_i c3
        have := h.1 c3.1
        omega
      · omega
  · rw [if_neg c]; exact h
theorem crash_ok {T : TM} {N : Nat} (h : T.Ok N) (n : Int) : (T.crash n).Ok 0 := by
  have h1 : legal T.s0 T.s1 (T.us.take (T.stays n) ++ T.us.drop (T.stays n)) := by rw [List.take_append_drop]; exact h.2.2
  exact ⟨fun hb => by simp [crash] at hb, Nat.le_refl _, legal_len (legal_append.1 h1).2⟩
end TM
end Go.Proofs.Ytmfmoddaejoekaa.P
