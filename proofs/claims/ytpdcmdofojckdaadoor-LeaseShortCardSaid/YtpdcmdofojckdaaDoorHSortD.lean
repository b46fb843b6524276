/- Contracts, typed by hand: slices.SortStableFunc at elements of k cells: stableCmpFunc at 40 elements or fewer. -/
import Derived.Test.YtpdcmdofojckdaaDoorHSortC
set_option linter.unusedVariables false
set_option linter.unusedSimpArgs false
namespace Go.Proofs.YtpdcmdofojckdaaDoor.P
open Go.Shelf Go.RowKit Go.Lib Go.Sort
section
variable {α : Type} [Inhabited α]
def insB (lt : α → α → Bool) : Nat → Array α → Array α
  | 0, d => d
  | i + 1, d => insertionSort lt (insB lt i d) (20 * i) (20 * i + 20)
theorem stab_low (lt : α → α → Bool) (q n : Nat) (d : Array α) (h1 : 20 * q ≤ n) (h2 : n < 20 * q + 20) (h : n ≤ 20) : stabS lt n d = insertionSort lt (insB lt q d) (20 * q) n := by
  unfold stabS
  by_cases c1 : n < 20
  · rw [if_pos c1, show q = 0 by omega]; rfl
  · rw [if_neg c1, if_pos (by omega), show q = 1 by omega, show n = 20 by omega]; rfl
theorem stab_high (lt : α → α → Bool) (q n : Nat) (d : Array α) (h1 : 20 * q ≤ n) (h2 : n < 20 * q + 20) (h : 20 < n) (h3 : n ≤ 40) : stabS lt n d = symM lt n 0 20 n (insertionSort lt (insB lt q d) (20 * q) n) := by
  unfold stabS
  rw [if_neg (by omega), if_neg (by omega)]
  by_cases c1 : n < 40
  · rw [if_pos c1, show q = 1 by omega]; rfl
  · rw [if_neg c1, show q = 2 by omega, show n = 40 by omega]; rfl
set_option maxHeartbeats 4000000 in
set_option maxRecDepth 1000000 in
theorem stable.calls {P : Program} {k : Nat} (L : SortL P k) (enc : α → List Value) (cf : α → α → Int) (g : Nat) (cb : Array Value) (blk off cap : Nat) (d0 : Array α) (w0 : World)
    (eg : ∀ args w, (callFunc g args).run P w = .ok (.enter g args) w) (hcmp : CmpLays P g cb enc k cf blk off d0.size w0) (R : RowK enc k w0 blk off d0) (d : Array α) (w : World) (hd : d.size = d0.size) (S : SWK enc k w0 blk off d w) (hn : d0.size ≤ 40) :
    Calls P 55 #[.slice (some ⟨blk, off, none⟩) d0.size cap, .int .i64 d0.size, .func (.func g) #[] cb] w fun e w' => e = .returned (.tuple #[]) ∧ SWK enc k w0 blk off (stabS (ltOf cf) d0.size d) w' := by
  have HINS : Hid (∀ (a b : Nat) (d : Array α) (w : World), d.size = d0.size → a ≤ b → b ≤ d0.size → SWK enc k w0 blk off d w →
      Calls P 63 #[.slice (some ⟨blk, off, none⟩) d0.size cap, .int .i64 a, .int .i64 b, .func (.func g) #[] cb] w fun e w' => e = .returned (.tuple #[]) ∧ SWK enc k w0 blk off (insertionSort (ltOf cf) d a b) w') := by
    intro a b d w hd hab hb S
    have := insertion.calls L enc cf g cb blk off cap a b d0 d w0 w eg hcmp R hd.symm S hab (by omega) (by omega)
    rw [hd] at this
    exact this
  have HSYM : Hid (∀ (f a m b : Nat) (d : Array α) (w : World), b - a ≤ f → a < m → m < b → b ≤ d0.size → d.size = d0.size → SWK enc k w0 blk off d w →
      Calls P 64 #[.slice (some ⟨blk, off, none⟩) d0.size cap, .int .i64 a, .int .i64 m, .int .i64 b, .func (.func g) #[] cb] w fun e w' => e = .returned (.tuple #[]) ∧ SWK enc k w0 blk off (symM (ltOf cf) f a m b d) w') := fun f a m b d w h1 h2 h3 h4 h5 h6 => symMerge.calls L enc cf g cb blk off cap d0 w0 eg hcmp R (by omega) f a m b d w h1 h2 h3 h4 h5 h6
  have S0 : Aside (SWK enc k w0 blk off d w) := S
  have eSy : ∀ args w, (callFunc 64 args).run P w = .ok (.enter 64 args) w := enters_of L.fSym (by kernel_rfl) rfl
  have eIn : ∀ args w, (callFunc 63 args).run P w = .ok (.enter 63 args) w := enters_of L.fIns (by kernel_rfl) rfl
  clear S hcmp
  obtain ⟨mixed, _, _, _, _, FG, aE, zE, t0, a0, z0, v0, t3, a3, z3, v3, t4, a4, z4, v4, t60, a60, z60, v60, t22, a22, z22, v22, t36, a36, z36, v36⟩ := L
  obtain ⟨n, en⟩ : ∃ n, d0.size = n := ⟨_, rfl⟩
  rw [en] at hn hd HINS HSYM ⊢
  obtain ⟨dF, eF⟩ : ∃ dF, stabS (ltOf cf) n d = dF := ⟨_, rfl⟩
  rw [eF]
  have HF : Hid (stabS (ltOf cf) n d = dF) := eF
  clear eF
  go_enter FG, Tryd.ntmps55
  go_wp2_with fail
  go_loopg [7, 8] n (fun kx s7 s8 wr => ∃ (i : Nat) (dk : Array α), s7 = .int .i64 ((20 * i : Nat) : Int) ∧ s8 = .int .i64 ((20 * i + 20 : Nat) : Int) ∧ 20 * i ≤ n ∧ n - 20 * i ≤ kx ∧ dk.size = n ∧ Aside (SWK enc k w0 blk off dk wr) ∧ Hid (dk = insB (ltOf cf) i d))
  case atStart => exact ⟨0, d, rfl, rfl, by omega, by omega, hd, S0, rfl⟩
  case round =>
    clear S0
    obtain ⟨i, dk, rfl, rfl, hin, hkx, hds, S1, heq⟩ := hrel
    by_cases hlt : 20 * i + 20 ≤ n
    · obtain ⟨u, eu⟩ : ∃ u, 20 * i = u := ⟨_, rfl⟩
      obtain ⟨v, ev⟩ : ∃ v, u + 20 = v := ⟨_, rfl⟩
      rw [eu] at hlt hkx hin ⊢
      rw [ev] at hlt ⊢
      have l1 : decide ((v : Int) ≤ (n : Int)) = true := decide_eq_true (by omega)
      have hq := HINS.out u v dk wr hds (by omega) hlt S1.out
      go_wp2_with (go_at_fn 63; refine hq.mono ?_; rintro e w' ⟨rfl, hS⟩)
      have S2 : Aside _ := hS
      clear hS hq S1
      go_wp2_with fail
      go_roundg (n - v)
      case measure => omega
      case rel => exact ⟨i + 1, _, by congr 1; omega, by congr 1; omega, by omega, by omega, by rw [insertionSort_size]; exact hds, S2, by show _ = insertionSort (ltOf cf) (insB (ltOf cf) i d) (20 * i) (20 * i + 20); rw [← heq.out, eu, ev]⟩
    · have hlo : n ≤ 20 → Hid (dF = insertionSort (ltOf cf) dk (20 * i) n) := fun h => by show _ = _; rw [← HF.out, heq.out]; exact stab_low _ i n d hin (by omega) h
      have hhi : 20 < n → Hid (dF = symM (ltOf cf) n 0 20 n (insertionSort (ltOf cf) dk (20 * i) n)) := fun h => by show _ = _; rw [← HF.out, heq.out]; exact stab_high _ i n d hin (by omega) h hn
      clear heq
      obtain ⟨u, eu⟩ : ∃ u, 20 * i = u := ⟨_, rfl⟩
      obtain ⟨v, ev⟩ : ∃ v, u + 20 = v := ⟨_, rfl⟩
      rw [eu] at hlt hkx hin hlo hhi ⊢
      rw [ev] at hlt ⊢
      have l1 : decide ((v : Int) ≤ (n : Int)) = false := decide_eq_false (by omega)
      have hq := HINS.out u n dk wr hds hin (Nat.le_refl _) S1.out
      have hd2 : (insertionSort (ltOf cf) dk u n).size = n := by rw [insertionSort_size]; exact hds
      generalize insertionSort (ltOf cf) dk u n = d2 at hq hlo hhi hd2
      go_wp2_with (go_at_fn 63; refine hq.mono ?_; rintro e w' ⟨rfl, hS⟩)
      have S2 : Aside _ := hS
      clear hS hq S1 hlt hkx hin eu ev l1
      have HL : Aside (n ≤ 20 → Hid (dF = d2)) := hlo
      have HI : Aside (20 < n → Hid (dF = symM (ltOf cf) n 0 20 n d2)) := hhi
      clear hlo hhi HF
      go_wp2_with fail
      go_loopg [6] 2 (fun kx s6 wr => (s6 = .int .i64 20 ∧ 1 ≤ kx ∧ Aside (SWK enc k w0 blk off d2 wr)) ∨ (s6 = .int .i64 40 ∧ Aside (SWK enc k w0 blk off dF wr)))
      case atStart => exact .inl ⟨rfl, by omega, S2⟩
      case round =>
        clear S2
        rcases hrel with ⟨rfl, hkx, S3⟩ | ⟨rfl, S3⟩
        · by_cases hlt : 20 < n
          · have l1 : decide ((20 : Int) < (n : Int)) = true := decide_eq_true (by omega)
            go_wp2_with fail
            go_loopg [7, 8] 1 (fun kx s7 s8 wr => (s7 = .int .i64 0 ∧ s8 = .int .i64 40 ∧ 1 ≤ kx ∧ Aside (SWK enc k w0 blk off d2 wr)) ∨ (n = 40 ∧ s7 = .int .i64 40 ∧ s8 = .int .i64 80 ∧ Aside (SWK enc k w0 blk off dF wr)))
            case atStart => exact .inl ⟨rfl, rfl, by omega, S3⟩
            case round =>
              clear S3
              rcases hrel with ⟨rfl, rfl, hkx2, S4⟩ | ⟨h40, rfl, rfl, S4⟩
              · by_cases h40 : n = 40
                · subst h40
                  have hq := HSYM.out 40 0 20 40 d2 _ (by omega) (by omega) (by omega) (by omega) hd2 S4.out
                  rw [← (HI.out (by omega)).out] at hq
                  go_wp2_with (go_at_fn 64; refine hq.mono ?_; rintro e w' ⟨rfl, hS⟩)
                  have S5 : Aside _ := hS
                  clear hS hq S4
                  go_wp2_with fail
                  go_roundg 0
                  case measure => omega
                  case rel => exact .inr ⟨by trivial, rfl, rfl, S5⟩
                · have l2 : decide ((40 : Int) ≤ (n : Int)) = false := decide_eq_false (by omega)
                  have l3 : decide ((20 : Int) < (n : Int)) = true := decide_eq_true (by omega)
                  have hq := HSYM.out n 0 20 n d2 _ (by omega) (by omega) (by omega) (by omega) hd2 S4.out
                  rw [← (HI.out (by omega)).out] at hq
                  go_wp2_with (go_at_fn 64; refine hq.mono ?_; rintro e w' ⟨rfl, hS⟩)
                  have S5 : Aside _ := hS
                  clear hS hq S4
                  go_wp2_with fail
                  go_roundg 0
                  case measure => omega
                  case rel => exact .inr ⟨rfl, S5⟩
              · subst h40
                go_wp2_with fail
                go_roundg 0
                case measure => omega
                case rel => exact .inr ⟨rfl, S4⟩
          · have l1 : decide ((20 : Int) < (n : Int)) = false := decide_eq_false (by omega)
            go_wp2
            go_end0
            exact ⟨rfl, by rw [(HL.out (by omega)).out]; exact S3.out⟩
        · have l1 : decide ((40 : Int) < (n : Int)) = false := decide_eq_false (by omega)
          go_wp2
          go_end0
          exact ⟨rfl, S3.out⟩
end
end Go.Proofs.YtpdcmdofojckdaaDoor.P
