/- Contracts, typed by hand: slices.SortStableFunc's family at elements of k cells: symMerge. -/
import Derived.Test.YtpdcmdofojckdaaDoorHSortA
import Derived.Deep.DeepCutAuto
set_option linter.unusedVariables false
set_option linter.unusedSimpArgs false
namespace Go.Proofs.YtpdcmdofojckdaaDoor.P
open Go.Shelf Go.RowKit Go.Lib Go.Sort
section
variable {α : Type} [Inhabited α]
theorem bsR_stop (p : Nat → Bool) (q i j : Nat) (h : ¬ i < j) : bsR p q i j = i := by
  cases q with
  | zero => rfl
  | succ q => rw [bsR, if_neg h]
theorem bsR_yes (p : Nat → Bool) (q i j h : Nat) (hij : i < j) (eh : (i + j) / 2 = h) (hp : p h = true) : bsR p (q + 1) i j = bsR p q (h + 1) j := by rw [bsR, if_pos hij, eh, if_pos hp]
theorem bsR_no (p : Nat → Bool) (q i j h : Nat) (hij : i < j) (eh : (i + j) / 2 = h) (hp : p h = false) : bsR p (q + 1) i j = bsR p q i h := by rw [bsR, if_pos hij, eh, if_neg (by rw [hp]; decide)]
set_option maxHeartbeats 8000000 in
set_option maxRecDepth 1000000 in
theorem symMerge.calls {P : Program} {k : Nat} (L : SortL P k) (enc : α → List Value) (cf : α → α → Int) (g : Nat) (cb : Array Value) (blk off cap : Nat) (d0 : Array α) (w0 : World)
    (eg : ∀ args w, (callFunc g args).run P w = .ok (.enter g args) w) (hcmp : CmpLays P g cb enc k cf blk off d0.size w0) (R : RowK enc k w0 blk off d0) (hsz : d0.size < 4611686018427387904) :
    ∀ (f a m b : Nat) (d : Array α) (w : World), b - a ≤ f → a < m → m < b → b ≤ d0.size → d.size = d0.size → SWK enc k w0 blk off d w →
    Calls P 64 #[.slice (some ⟨blk, off, none⟩) d0.size cap, .int .i64 a, .int .i64 m, .int .i64 b, .func (.func g) #[] cb] w fun e w' => e = .returned (.tuple #[]) ∧ SWK enc k w0 blk off (symM (ltOf cf) f a m b d) w' := by
  intro f
  induction f with
  | zero => intro a m b d w hf h1 h2; omega
  | succ f ih =>
    intro a m b d w hf h1 h2 hb hd S
    have HC : Aside (CmpLays P g cb enc k cf blk off d0.size w0) := hcmp
    have S0 : Aside (SWK enc k w0 blk off d w) := S
    have eSy : ∀ args w, (callFunc 64 args).run P w = .ok (.enter 64 args) w := enters_of L.fSym (by kernel_rfl) rfl
    have eRo : ∀ args w, (callFunc 67 args).run P w = .ok (.enter 67 args) w := enters_of L.fRot (by kernel_rfl) rfl
    have HL : Hid (SortL P k) := L
    have IH : Hid (∀ (a m b : Nat) (d : Array α) (w : World), b - a ≤ f → a < m → m < b → b ≤ d0.size → d.size = d0.size → SWK enc k w0 blk off d w →
      Calls P 64 #[.slice (some ⟨blk, off, none⟩) d0.size cap, .int .i64 a, .int .i64 m, .int .i64 b, .func (.func g) #[] cb] w fun e w' => e = .returned (.tuple #[]) ∧ SWK enc k w0 blk off (symM (ltOf cf) f a m b d) w') := ih
    clear S hcmp ih
    obtain ⟨mixed, _, _, _, FG, _, aE, zE, t0, a0, z0, v0, t3, a3, z3, v3, t4, a4, z4, v4, t60, a60, z60, v60, t22, a22, z22, v22, t36, a36, z36, v36⟩ := L
    go_enter FG, Tryd.ntmps64
    by_cases c1 : m - a = 1
    · as_aux_lemma =>
        have b1 : ((m : Int) - (a : Int) == 1) = true := by simp; omega
        have HM : Hid (symM (ltOf cf) (f + 1) a m b d = shUp a (bsR (fun h => ltOf cf d[h]! d[a]!) (b - m) m b - 1 - a) d) := by show _ = _; rw [symM, if_pos c1]
        go_wp2_with fail
        go_loopg [10, 11] (b - m) (fun kx s10 s11 wr => ∃ (i j q : Nat), s10 = .int .i64 i ∧ s11 = .int .i64 j ∧ m ≤ i ∧ i ≤ j ∧ j ≤ b ∧ j - i ≤ q ∧ j - i ≤ kx ∧ Aside (SWK enc k w0 blk off d wr) ∧ Hid (bsR (fun h => ltOf cf d[h]! d[a]!) q i j = bsR (fun h => ltOf cf d[h]! d[a]!) (b - m) m b))
        case atStart => exact ⟨m, b, b - m, rfl, rfl, Nat.le_refl _, by omega, Nat.le_refl _, Nat.le_refl _, Nat.le_refl _, S0, rfl⟩
        case round =>
          as_aux_lemma =>
            clear S0
            obtain ⟨i, j, q, rfl, rfl, hmi, hij, hjb, hq, hkx, S1, heq⟩ := hrel
            by_cases hlt : i < j
            · have l1 : decide ((i : Int) < (j : Int)) = true := decide_eq_true (by omega)
              obtain ⟨q, rfl⟩ : ∃ q', q = q' + 1 := ⟨q - 1, by omega⟩
              obtain ⟨h, eh⟩ : ∃ h, (i + j) / 2 = h := ⟨_, rfl⟩
              have eh2 : ((i : Int) + (j : Int)) / 2 = (h : Int) := by omega
              have ea : ((h:Int)).toNat = h := by omega
              have pa : (0 : Int) ≤ (h:Int) := by omega
              have ba : (h:Int) < (d0.size : Int) := by omega
              have ra : IntKind.i64.wrap ((h:Int)) = (h:Int) := by rw [IntKind.wrap_i64]; omega
              have ec : ((a:Int)).toNat = a := by omega
              have pc : (0 : Int) ≤ (a:Int) := by omega
              have bc : (a:Int) < (d0.size : Int) := by omega
              have rc : IntKind.i64.wrap ((a:Int)) = (a:Int) := by rw [IntKind.wrap_i64]; omega
              obtain ⟨xx, hxx⟩ : ∃ x, x = d[h]! := ⟨_, rfl⟩
              obtain ⟨yy, hyy⟩ : ∃ x, x = d[a]! := ⟨_, rfl⟩
              have la := S1.out.ld R hd P (h) (by omega)
              have lb := S1.out.ld R hd P (a) (by omega)
              rw [← hxx] at la
              rw [← hyy] at lb
              have hcc := S1.out.cmp HC.out hd xx yy
              cases hlv : ltOf cf d[h]! d[a]! with
              | true =>
                as_aux_lemma =>
                  have hv : cf xx yy < 0 := by rw [hxx, hyy]; exact of_decide_eq_true hlv
                  have hdv : decide (cf xx yy < 0) = true := decide_eq_true hv
                  clear hxx hyy
                  go_wp2_with fail
                  go_quiet_grown (first | (go_at_fn g; refine Calls.grown_of (hcc _ _)))
                  have S2 : Aside (SWK enc k w0 blk off d (grow (wr.drewN nq) osq)) := S1.out.grown nq osq
                  clear la lb hcc S1
                  generalize grow (wr.drewN nq) osq = wu at S2 ⊢
                  clear nq osq
                  go_wp2
                  go_roundg (j - (h + 1))
                  case measure => omega
                  case rel => exact ⟨h + 1, j, q, by simp, rfl, by omega, by omega, hjb, by omega, Nat.le_refl _, S2, by show _ = _; rw [← heq.out, bsR_yes _ q i j h hlt eh hlv]⟩
              | false =>
                as_aux_lemma =>
                  have hv : ¬ cf xx yy < 0 := by rw [hxx, hyy]; exact of_decide_eq_false hlv
                  have hdv : decide (cf xx yy < 0) = false := decide_eq_false hv
                  clear hxx hyy
                  go_wp2_with fail
                  go_quiet_grown (first | (go_at_fn g; refine Calls.grown_of (hcc _ _)))
                  have S2 : Aside (SWK enc k w0 blk off d (grow (wr.drewN nq) osq)) := S1.out.grown nq osq
                  clear la lb hcc S1
                  generalize grow (wr.drewN nq) osq = wu at S2 ⊢
                  clear nq osq
                  go_wp2
                  go_roundg (h - i)
                  case measure => omega
                  case rel => exact ⟨i, h, q, rfl, by simp, hmi, by omega, by omega, by omega, Nat.le_refl _, S2, by show _ = _; rw [← heq.out, bsR_no _ q i j h hlt eh hlv]⟩
            · have l1 : decide ((i : Int) < (j : Int)) = false := decide_eq_false (by omega)
              have hi : Hid (bsR (fun h => ltOf cf d[h]! d[a]!) (b - m) m b = i) := by show _ = _; rw [← heq.out, bsR_stop _ _ _ _ hlt]
              clear heq
              go_wp2_with fail
              go_loopg [13] (i - 1 - a) (fun kx s13 wr => ∃ (c : Nat) (dk : Array α), s13 = .int .i64 ((a + c : Nat) : Int) ∧ a + c ≤ i - 1 ∧ i - 1 - (a + c) ≤ kx ∧ dk.size = d0.size ∧ Aside (SWK enc k w0 blk off dk wr) ∧ Hid (dk = shUp a c d))
              case atStart => exact ⟨0, d, rfl, by omega, by omega, hd, S1, rfl⟩
              case round =>
                as_aux_lemma =>
                  clear S1
                  obtain ⟨c, dk, rfl, hc, hkx2, hds, S1, hdk⟩ := hrel
                  obtain ⟨u, eu⟩ : ∃ u, a + c = u := ⟨_, rfl⟩
                  rw [eu] at hc hkx2 ⊢
                  by_cases hlt2 : u < i - 1
                  · have l2 : decide ((u : Int) < (i : Int) - 1) = true := decide_eq_true (by omega)
                    have ea : ((u : Int)).toNat = u := by omega
                    have pa : (0 : Int) ≤ (u : Int) := by omega
                    have ba : (u : Int) < (d0.size : Int) := by omega
                    have ra : IntKind.i64.wrap ((u : Int)) = (u : Int) := by rw [IntKind.wrap_i64]; omega
                    have ec : (((u:Int)+1)).toNat = (u+1) := by omega
                    have pc : (0 : Int) ≤ ((u:Int)+1) := by omega
                    have bc : ((u:Int)+1) < (d0.size : Int) := by omega
                    have rc : IntKind.i64.wrap (((u:Int)+1)) = ((u:Int)+1) := by rw [IntKind.wrap_i64]; omega
                    have S2 : Aside (SWK enc k w0 blk off (swp dk (u) ((u+1))) ((wr.drew.setCells blk (off + (u) * k) (enc dk[(u+1)]!)).setCells blk (off + ((u+1)) * k) (enc dk[u]!))) := S1.out.swapped R (u) ((u+1)) (by omega) (by omega)
                    have la := S1.out.ld1 R hds P (u) (by omega)
                    have lb := S1.out.ld1 R hds P ((u+1)) (by omega)
                    have sa := S1.out.st1 R hds P (u) (by omega) dk[(u+1)]!
                    have sb := S1.out.st2 R hds P (u) ((u+1)) (by omega) (by omega) dk[(u+1)]! dk[u]!
                    have na : (enc dk[u]!).length = k := R.hk _
                    have nb : (enc dk[(u+1)]!).length = k := R.hk _
                    generalize enc dk[u]! = cI at S2 la sb na
                    generalize enc dk[(u+1)]! = cJ at S2 lb sa sb nb
                    clear S1
                    go_wp2_with fail
                    go_big_region_o
                    clear la lb sa sb
                    generalize (wr.drew.setCells blk (off + (u) * k) cJ).setCells blk (off + ((u+1)) * k) cI = w2 at S2 ⊢
                    go_wp2
                    go_roundg (i - 1 - (u + 1))
                    case measure => omega
                    case rel => exact ⟨c + 1, swp dk u (u + 1), by rw [← eu]; simp; omega, by omega, by omega, by rw [size_swp]; exact hds, S2, by show _ = swp (shUp a c d) (a + c) (a + c + 1); rw [eu, ← hdk.out]⟩
                  · have l2 : decide ((u : Int) < (i : Int) - 1) = false := decide_eq_false (by omega)
                    have ec : i - 1 - a = c := by omega
                    go_wp2
                    ((try simp only [Exit.inBlock, Exit.then]); refine bodyPost_ret (results_none rfl _ _ _) rfl ?_)
                    refine ⟨rfl, ?_⟩
                    rw [HM.out, hi.out, ec, ← hdk.out]
                    exact S1.out
    have b1 : ((m : Int) - (a : Int) == 1) = false := by simp; omega
    by_cases c2 : b - m = 1
    · as_aux_lemma =>
        have b2 : ((b : Int) - (m : Int) == 1) = true := by simp; omega
        have HM : Hid (symM (ltOf cf) (f + 1) a m b d = shDn m (m - bsR (fun h => !ltOf cf d[m]! d[h]!) (m - a) a m) d) := by show _ = _; rw [symM, if_neg c1, if_pos c2]
        go_wp2_with fail
        go_loopg [14, 15] (m - a) (fun kx s10 s11 wr => ∃ (i j q : Nat), s10 = .int .i64 i ∧ s11 = .int .i64 j ∧ a ≤ i ∧ i ≤ j ∧ j ≤ m ∧ j - i ≤ q ∧ j - i ≤ kx ∧ Aside (SWK enc k w0 blk off d wr) ∧ Hid (bsR (fun h => !ltOf cf d[m]! d[h]!) q i j = bsR (fun h => !ltOf cf d[m]! d[h]!) (m - a) a m))
        case atStart => exact ⟨a, m, m - a, rfl, rfl, Nat.le_refl _, by omega, Nat.le_refl _, Nat.le_refl _, Nat.le_refl _, S0, rfl⟩
        case round =>
          as_aux_lemma =>
            clear S0
            obtain ⟨i, j, q, rfl, rfl, hmi, hij, hjb, hq, hkx, S1, heq⟩ := hrel
            by_cases hlt : i < j
            · have l1 : decide ((i : Int) < (j : Int)) = true := decide_eq_true (by omega)
              obtain ⟨q, rfl⟩ : ∃ q', q = q' + 1 := ⟨q - 1, by omega⟩
              obtain ⟨h, eh⟩ : ∃ h, (i + j) / 2 = h := ⟨_, rfl⟩
              have eh2 : ((i : Int) + (j : Int)) / 2 = (h : Int) := by omega
              have ea : ((m:Int)).toNat = m := by omega
              have pa : (0 : Int) ≤ (m:Int) := by omega
              have ba : (m:Int) < (d0.size : Int) := by omega
              have ra : IntKind.i64.wrap ((m:Int)) = (m:Int) := by rw [IntKind.wrap_i64]; omega
              have ec : ((h:Int)).toNat = h := by omega
              have pc : (0 : Int) ≤ (h:Int) := by omega
              have bc : (h:Int) < (d0.size : Int) := by omega
              have rc : IntKind.i64.wrap ((h:Int)) = (h:Int) := by rw [IntKind.wrap_i64]; omega
              obtain ⟨xx, hxx⟩ : ∃ x, x = d[m]! := ⟨_, rfl⟩
              obtain ⟨yy, hyy⟩ : ∃ x, x = d[h]! := ⟨_, rfl⟩
              have la := S1.out.ld R hd P (m) (by omega)
              have lb := S1.out.ld R hd P (h) (by omega)
              rw [← hxx] at la
              rw [← hyy] at lb
              have hcc := S1.out.cmp HC.out hd xx yy
              cases hlv : ltOf cf d[m]! d[h]! with
              | true =>
                as_aux_lemma =>
                  have hv : cf xx yy < 0 := by rw [hxx, hyy]; exact of_decide_eq_true hlv
                  have hdv : decide (cf xx yy < 0) = true := decide_eq_true hv
                  clear hxx hyy
                  go_wp2_with fail
                  go_quiet_grown (first | (go_at_fn g; refine Calls.grown_of (hcc _ _)))
                  have S2 : Aside (SWK enc k w0 blk off d (grow (wr.drewN nq) osq)) := S1.out.grown nq osq
                  clear la lb hcc S1
                  generalize grow (wr.drewN nq) osq = wu at S2 ⊢
                  clear nq osq
                  go_wp2
                  go_roundg (h - i)
                  case measure => omega
                  case rel => exact ⟨i, h, q, rfl, by simp, hmi, by omega, by omega, by omega, Nat.le_refl _, S2, by show _ = _; rw [← heq.out, bsR_no _ q i j h hlt eh (by rw [hlv]; rfl)]⟩
              | false =>
                as_aux_lemma =>
                  have hv : ¬ cf xx yy < 0 := by rw [hxx, hyy]; exact of_decide_eq_false hlv
                  have hdv : decide (cf xx yy < 0) = false := decide_eq_false hv
                  clear hxx hyy
                  go_wp2_with fail
                  go_quiet_grown (first | (go_at_fn g; refine Calls.grown_of (hcc _ _)))
                  have S2 : Aside (SWK enc k w0 blk off d (grow (wr.drewN nq) osq)) := S1.out.grown nq osq
                  clear la lb hcc S1
                  generalize grow (wr.drewN nq) osq = wu at S2 ⊢
                  clear nq osq
                  go_wp2
                  go_roundg (j - (h + 1))
                  case measure => omega
                  case rel => exact ⟨h + 1, j, q, by simp, rfl, by omega, by omega, hjb, by omega, Nat.le_refl _, S2, by show _ = _; rw [← heq.out, bsR_yes _ q i j h hlt eh (by rw [hlv]; rfl)]⟩
            · have l1 : decide ((i : Int) < (j : Int)) = false := decide_eq_false (by omega)
              have hi : Hid (bsR (fun h => !ltOf cf d[m]! d[h]!) (m - a) a m = i) := by show _ = _; rw [← heq.out, bsR_stop _ _ _ _ hlt]
              clear heq
              go_wp2_with fail
              go_loopg [17] (m - i) (fun kx s17 wr => ∃ (c : Nat) (dk : Array α), s17 = .int .i64 ((m - c : Nat) : Int) ∧ i + c ≤ m ∧ m - (i + c) ≤ kx ∧ dk.size = d0.size ∧ Aside (SWK enc k w0 blk off dk wr) ∧ Hid (dk = shDn m c d))
              case atStart => exact ⟨0, d, rfl, by omega, by omega, hd, S1, rfl⟩
              case round =>
                as_aux_lemma =>
                  clear S1
                  obtain ⟨c, dk, rfl, hc, hkx2, hds, S1, hdk⟩ := hrel
                  obtain ⟨u, eu⟩ : ∃ u, m - c = u := ⟨_, rfl⟩
                  rw [eu]
                  by_cases hlt2 : i < u
                  · have l2 : decide ((u : Int) > (i : Int)) = true := decide_eq_true (by omega)
                    have l3 : decide ((i : Int) < (u : Int)) = true := decide_eq_true (by omega)
                    have ea : ((u : Int)).toNat = u := by omega
                    have pa : (0 : Int) ≤ (u : Int) := by omega
                    have ba : (u : Int) < (d0.size : Int) := by omega
                    have ra : IntKind.i64.wrap ((u : Int)) = (u : Int) := by rw [IntKind.wrap_i64]; omega
                    have ec : (((u:Int)-1)).toNat = (u-1) := by omega
                    have pc : (0 : Int) ≤ ((u:Int)-1) := by omega
                    have bc : ((u:Int)-1) < (d0.size : Int) := by omega
                    have rc : IntKind.i64.wrap (((u:Int)-1)) = ((u:Int)-1) := by rw [IntKind.wrap_i64]; omega
                    have S2 : Aside (SWK enc k w0 blk off (swp dk (u) ((u-1))) ((wr.drew.setCells blk (off + (u) * k) (enc dk[(u-1)]!)).setCells blk (off + ((u-1)) * k) (enc dk[u]!))) := S1.out.swapped R (u) ((u-1)) (by omega) (by omega)
                    have la := S1.out.ld1 R hds P (u) (by omega)
                    have lb := S1.out.ld1 R hds P ((u-1)) (by omega)
                    have sa := S1.out.st1 R hds P (u) (by omega) dk[(u-1)]!
                    have sb := S1.out.st2 R hds P (u) ((u-1)) (by omega) (by omega) dk[(u-1)]! dk[u]!
                    have na : (enc dk[u]!).length = k := R.hk _
                    have nb : (enc dk[(u-1)]!).length = k := R.hk _
                    generalize enc dk[u]! = cI at S2 la sb na
                    generalize enc dk[(u-1)]! = cJ at S2 lb sa sb nb
                    clear S1
                    go_wp2_with fail
                    go_big_region_o
                    clear la lb sa sb
                    generalize (wr.drew.setCells blk (off + (u) * k) cJ).setCells blk (off + ((u-1)) * k) cI = w2 at S2 ⊢
                    go_wp2
                    go_roundg (m - (i + (c + 1)))
                    case measure => omega
                    case rel => exact ⟨c + 1, swp dk u (u - 1), by congr 1; omega, by omega, by omega, by rw [size_swp]; exact hds, S2, by show _ = swp (shDn m c d) (m - c) (m - c - 1); rw [eu, ← hdk.out]⟩
                  · have l2 : decide ((u : Int) > (i : Int)) = false := decide_eq_false (by omega)
                    have l3 : decide ((i : Int) < (u : Int)) = false := decide_eq_false (by omega)
                    have ec : m - i = c := by omega
                    go_wp2
                    ((try simp only [Exit.inBlock, Exit.then]); refine bodyPost_ret (results_none rfl _ _ _) rfl ?_)
                    refine ⟨rfl, ?_⟩
                    rw [HM.out, hi.out, ec, ← hdk.out]
                    exact S1.out
    have b2 : ((b : Int) - (m : Int) == 1) = false := by simp; omega
    obtain ⟨mid, emid⟩ : ∃ mid, (a + b) / 2 = mid := ⟨_, rfl⟩
    have em2 : ((a : Int) + (b : Int)) / 2 = (mid : Int) := by omega
    have hmid : a < mid ∧ mid < b := by omega
    obtain ⟨s, es⟩ : ∃ s, symAt (ltOf cf) a m b d = s := ⟨_, rfl⟩
    have HM : Hid (symM (ltOf cf) (f + 1) a m b d = (fun d1 : Array α => (fun d2 : Array α => if mid < mid + m - s ∧ mid + m - s < b then symM (ltOf cf) f mid (mid + m - s) b d2 else d2) (if a < s ∧ s < mid then symM (ltOf cf) f a s mid d1 else d1)) (symRot m s (mid + m - s) d)) := by
      show _ = _
      rw [symM, if_neg c1, if_neg c2, es, emid]
    have hlo : (mid < m ∧ symLo a m b = mid + m - b ∧ symHi a m b = mid) ∨ (m ≤ mid ∧ symLo a m b = a ∧ symHi a m b = m) := by
      unfold symLo symHi
      rw [emid]
      by_cases c : m > mid
      · rw [if_pos c, if_pos c]; exact .inl ⟨c, rfl, rfl⟩
      · rw [if_neg c, if_neg c]; exact .inr ⟨by omega, rfl, rfl⟩
    have hes : bsR (fun c => !ltOf cf d[mid + m - 1 - c]! d[c]!) (symHi a m b - symLo a m b) (symLo a m b) (symHi a m b) = s := by rw [← es]; unfold symAt; rw [emid]
    obtain ⟨lo, elo⟩ : ∃ lo, symLo a m b = lo := ⟨_, rfl⟩
    obtain ⟨hi, ehi⟩ : ∃ hi, symHi a m b = hi := ⟨_, rfl⟩
    rw [elo, ehi] at hlo hes
    have HES : Hid (bsR (fun c => !ltOf cf d[mid + m - 1 - c]! d[c]!) (hi - lo) lo hi = s) := hes
    clear hes elo ehi es
    have hlh : a ≤ lo ∧ lo ≤ hi ∧ hi ≤ m ∧ hi ≤ mid := by omega
    have hpc : ∀ c, lo ≤ c → c < hi → m ≤ mid + m - 1 - c ∧ mid + m - 1 - c < b := by omega
    go_upto_if 140 with fail
    (try simp only [Act.put, List.setIfInBounds_toArray, List.set_cons_zero, List.set_cons_succ])
    go_cut [20, 21] (fun s20 s21 wc => s20 = .int .i64 (lo : Int) ∧ s21 = .int .i64 (hi : Int) ∧ Aside (SWK enc k w0 blk off d wc))
    case first =>
      as_aux_lemma =>
        rcases hlo with ⟨g1, g2, g3⟩ | ⟨g1, g2, g3⟩
        · have b3 : decide ((m : Int) > (mid : Int)) = true := decide_eq_true (by omega)
          have b4 : decide ((mid : Int) < (m : Int)) = true := decide_eq_true (by omega)
          go_wp2_with fail
          go_meet
          case rel => exact ⟨by congr 1; omega, by congr 1; omega, S0⟩
        · have b3 : decide ((m : Int) > (mid : Int)) = false := decide_eq_false (by omega)
          have b4 : decide ((mid : Int) < (m : Int)) = false := decide_eq_false (by omega)
          go_wp2_with fail
          go_meet
          case rel => exact ⟨by congr 1; omega, by congr 1; omega, S0⟩
    case rest =>
      as_aux_lemma =>
        obtain ⟨rfl, rfl, S3⟩ := hcut
        clear S0
        go_wp2_with fail
        go_loopg [20, 21] (hi - lo) (fun kx s20 s21 wr => ∃ (i j q : Nat), s20 = .int .i64 i ∧ s21 = .int .i64 j ∧ lo ≤ i ∧ i ≤ j ∧ j ≤ hi ∧ j - i ≤ q ∧ j - i ≤ kx ∧ Aside (SWK enc k w0 blk off d wr) ∧ Hid (bsR (fun c => !ltOf cf d[mid + m - 1 - c]! d[c]!) q i j = s))
        case atStart => exact ⟨lo, hi, hi - lo, rfl, rfl, Nat.le_refl _, hlh.2.1, Nat.le_refl _, Nat.le_refl _, Nat.le_refl _, S3, HES⟩
        case round =>
          as_aux_lemma =>
            clear S3
            obtain ⟨i, j, q, rfl, rfl, hmi, hij, hjb, hq, hkx, S1, heq⟩ := hrel
            by_cases hlt : i < j
            · have l1 : decide ((i : Int) < (j : Int)) = true := decide_eq_true (by omega)
              obtain ⟨q, rfl⟩ : ∃ q', q = q' + 1 := ⟨q - 1, by omega⟩
              obtain ⟨h, eh⟩ : ∃ h, (i + j) / 2 = h := ⟨_, rfl⟩
              have eh2 : ((i : Int) + (j : Int)) / 2 = (h : Int) := by omega
              have hh := hpc h (by omega) (by omega)
              obtain ⟨u, eu⟩ : ∃ u, mid + m - 1 - h = u := ⟨_, rfl⟩
              rw [eu] at hh
              have hux : (mid : Int) + (m : Int) - 1 - (h : Int) = (u : Int) := by omega
              have ea : ((u:Int)).toNat = u := by omega
              have pa : (0 : Int) ≤ (u:Int) := by omega
              have ba : (u:Int) < (d0.size : Int) := by omega
              have ra : IntKind.i64.wrap ((u:Int)) = (u:Int) := by rw [IntKind.wrap_i64]; omega
              have ec : ((h:Int)).toNat = h := by omega
              have pc : (0 : Int) ≤ (h:Int) := by omega
              have bc : (h:Int) < (d0.size : Int) := by omega
              have rc : IntKind.i64.wrap ((h:Int)) = (h:Int) := by rw [IntKind.wrap_i64]; omega
              obtain ⟨xx, hxx⟩ : ∃ x, x = d[u]! := ⟨_, rfl⟩
              obtain ⟨yy, hyy⟩ : ∃ x, x = d[h]! := ⟨_, rfl⟩
              have la := S1.out.ld R hd P (u) (by omega)
              have lb := S1.out.ld R hd P (h) (by omega)
              rw [← hxx] at la
              rw [← hyy] at lb
              have hcc := S1.out.cmp HC.out hd xx yy
              cases hlv : ltOf cf d[u]! d[h]! with
              | true =>
                as_aux_lemma =>
                  have hv : cf xx yy < 0 := by rw [hxx, hyy]; exact of_decide_eq_true hlv
                  have hdv : decide (cf xx yy < 0) = true := decide_eq_true hv
                  clear hxx hyy
                  go_wp2_with fail
                  go_quiet_grown (first | (go_at_fn g; refine Calls.grown_of (hcc _ _)))
                  have S2 : Aside (SWK enc k w0 blk off d (grow (wr.drewN nq) osq)) := S1.out.grown nq osq
                  clear la lb hcc S1
                  generalize grow (wr.drewN nq) osq = wu at S2 ⊢
                  clear nq osq
                  go_wp2
                  go_roundg (h - i)
                  case measure => omega
                  case rel => exact ⟨i, h, q, rfl, by simp, hmi, by omega, by omega, by omega, Nat.le_refl _, S2, by show _ = _; rw [← heq.out, bsR_no _ q i j h hlt eh (by rw [eu, hlv]; rfl)]⟩
              | false =>
                as_aux_lemma =>
                  have hv : ¬ cf xx yy < 0 := by rw [hxx, hyy]; exact of_decide_eq_false hlv
                  have hdv : decide (cf xx yy < 0) = false := decide_eq_false hv
                  clear hxx hyy
                  go_wp2_with fail
                  go_quiet_grown (first | (go_at_fn g; refine Calls.grown_of (hcc _ _)))
                  have S2 : Aside (SWK enc k w0 blk off d (grow (wr.drewN nq) osq)) := S1.out.grown nq osq
                  clear la lb hcc S1
                  generalize grow (wr.drewN nq) osq = wu at S2 ⊢
                  clear nq osq
                  go_wp2
                  go_roundg (j - (h + 1))
                  case measure => omega
                  case rel => exact ⟨h + 1, j, q, by simp, rfl, by omega, by omega, hjb, by omega, Nat.le_refl _, S2, by show _ = _; rw [← heq.out, bsR_yes _ q i j h hlt eh (by rw [eu, hlv]; rfl)]⟩
            · have l1 : decide ((i : Int) < (j : Int)) = false := decide_eq_false (by omega)
              have ei : i = s := by rw [← heq.out, bsR_stop _ _ _ _ hlt]
              subst ei
              clear heq HES
              obtain ⟨en, een⟩ : ∃ en, mid + m - i = en := ⟨_, rfl⟩
              rw [een] at HM
              have een2 : (mid : Int) + (m : Int) - (i : Int) = (en : Int) := by omega
              have hen : m ≤ en ∧ en ≤ b ∧ mid ≤ en := by omega
              have hi1 : a ≤ i ∧ i ≤ m ∧ i ≤ mid := by omega
              clear hpc een hq hkx
              obtain ⟨d1, ed1⟩ : ∃ d1, symRot m i en d = d1 := ⟨_, rfl⟩
              have hd1 : d1.size = d0.size := by rw [← ed1, symRot_size]; exact hd
              rw [ed1] at HM
              have HRT : Hid (symRot m i en d = d1) := ed1
              clear ed1
              obtain ⟨v1, hv1⟩ : ∃ v : Bool, Hid (v = decide (i < m ∧ m < en)) := ⟨_, rfl⟩
              go_upto_region 39 with fail
              (try simp only [Act.put, List.setIfInBounds_toArray, List.set_cons_zero, List.set_cons_succ])
              go_cut [185] (fun sc wc => sc = .bool v1 ∧ Aside (SWK enc k w0 blk off d wc))
              case first =>
                as_aux_lemma =>
                  by_cases r1 : i < m
                  · have q1 : decide ((i : Int) < (m : Int)) = true := decide_eq_true (by omega)
                    have q3 : decide (i < m) = true := decide_eq_true r1
                    by_cases r2 : m < en
                    · have q2 : decide ((m : Int) < (en : Int)) = true := decide_eq_true (by omega)
                      have q4 : decide (m < en) = true := decide_eq_true r2
                      have e1 : v1 = true := by rw [hv1.out]; exact decide_eq_true ⟨r1, r2⟩
                      clear hv1
                      go_wp2_with fail
                      go_meet
                      case rel => exact ⟨by rw [e1], S1⟩
                    · have q2 : decide ((m : Int) < (en : Int)) = false := decide_eq_false (by omega)
                      have q4 : decide (m < en) = false := decide_eq_false r2
                      have e1 : v1 = false := by rw [hv1.out]; exact decide_eq_false (fun h => r2 h.2)
                      clear hv1
                      go_wp2_with fail
                      go_meet
                      case rel => exact ⟨by rw [e1], S1⟩
                  · have q1 : decide ((i : Int) < (m : Int)) = false := decide_eq_false (by omega)
                    have q3 : decide (i < m) = false := decide_eq_false r1
                    have e1 : v1 = false := by rw [hv1.out]; exact decide_eq_false (fun h => r1 h.1)
                    clear hv1
                    go_wp2_with fail
                    go_meet
                    case rel => exact ⟨by rw [e1], S1⟩
              case rest =>
                as_aux_lemma =>
                  obtain ⟨rfl, S5⟩ := hcut
                  clear S1
                  go_upto_if 185 with fail
                  (try simp only [Act.put, List.setIfInBounds_toArray, List.set_cons_zero, List.set_cons_succ])
                  go_cut [] (fun wc => Aside (SWK enc k w0 blk off d1 wc))
                  case first =>
                    as_aux_lemma =>
                      cases v1 with
                      | true =>
                        as_aux_lemma =>
                          have r1 := of_decide_eq_true hv1.out.symm
                          have hro := rotate.calls HL.out enc g cb blk off cap i m en d0 d w0 _ R hd.symm S5.out r1.1 r1.2 (by omega) (by omega)
                          have hrt : rotR m (en - i) (m - i) (en - m) d = d1 := by rw [← HRT.out]; unfold symRot; rw [if_pos r1]
                          rw [hrt, hd] at hro
                          clear r1 hv1
                          go_wp2_with (go_at_fn 67; refine hro.mono ?_; rintro e w' ⟨rfl, hS⟩)
                          go_meet
                          case rel => exact hS
                      | false =>
                        as_aux_lemma =>
                          have r1 := of_decide_eq_false hv1.out.symm
                          have e1 : d1 = d := by rw [← HRT.out]; unfold symRot; rw [if_neg r1]
                          clear r1 hv1
                          go_wp2_with fail
                          go_meet
                          case rel => rw [e1]; exact S5
                  case rest =>
                    as_aux_lemma =>
                      have S4 := hcut
                      clear S5 hcut hv1 HRT
                      obtain ⟨d2, ed2⟩ : ∃ d2, (if a < i ∧ i < mid then symM (ltOf cf) f a i mid d1 else d1) = d2 := ⟨_, rfl⟩
                      have HM2 : Hid (symM (ltOf cf) (f + 1) a m b d = (if mid < en ∧ en < b then symM (ltOf cf) f mid en b d2 else d2)) := by
                        show _ = _
                        rw [HM.out]
                        (try simp only)
                        rw [ed2]
                      clear HM
                      have hd2 : d2.size = d0.size := by
                        rw [← ed2]
                        split
                        · rw [symM_size]; exact hd1
                        · exact hd1
                      have HD2 : Hid ((if a < i ∧ i < mid then symM (ltOf cf) f a i mid d1 else d1) = d2) := ed2
                      clear ed2
                      obtain ⟨v2, hv2⟩ : ∃ v : Bool, Hid (v = decide (a < i ∧ i < mid)) := ⟨_, rfl⟩
                      go_upto_region 41 with fail
                      (try simp only [Act.put, List.setIfInBounds_toArray, List.set_cons_zero, List.set_cons_succ])
                      go_cut [199] (fun sc wc => sc = .bool v2 ∧ Aside (SWK enc k w0 blk off d1 wc))
                      case first =>
                        as_aux_lemma =>
                          by_cases r1 : a < i
                          · have q1 : decide ((a : Int) < (i : Int)) = true := decide_eq_true (by omega)
                            have q3 : decide (a < i) = true := decide_eq_true r1
                            by_cases r2 : i < mid
                            · have q2 : decide ((i : Int) < (mid : Int)) = true := decide_eq_true (by omega)
                              have q4 : decide (i < mid) = true := decide_eq_true r2
                              have e1 : v2 = true := by rw [hv2.out]; exact decide_eq_true ⟨r1, r2⟩
                              clear hv2
                              go_wp2_with fail
                              go_meet
                              case rel => exact ⟨by rw [e1], S4⟩
                            · have q2 : decide ((i : Int) < (mid : Int)) = false := decide_eq_false (by omega)
                              have q4 : decide (i < mid) = false := decide_eq_false r2
                              have e1 : v2 = false := by rw [hv2.out]; exact decide_eq_false (fun h => r2 h.2)
                              clear hv2
                              go_wp2_with fail
                              go_meet
                              case rel => exact ⟨by rw [e1], S4⟩
                          · have q1 : decide ((a : Int) < (i : Int)) = false := decide_eq_false (by omega)
                            have q3 : decide (a < i) = false := decide_eq_false r1
                            have e1 : v2 = false := by rw [hv2.out]; exact decide_eq_false (fun h => r1 h.1)
                            clear hv2
                            go_wp2_with fail
                            go_meet
                            case rel => exact ⟨by rw [e1], S4⟩
                      case rest =>
                        as_aux_lemma =>
                          obtain ⟨rfl, S6⟩ := hcut
                          clear S4
                          go_upto_if 199 with fail
                          (try simp only [Act.put, List.setIfInBounds_toArray, List.set_cons_zero, List.set_cons_succ])
                          go_cut [] (fun wc => Aside (SWK enc k w0 blk off d2 wc))
                          case first =>
                            as_aux_lemma =>
                              cases v2 with
                              | true =>
                                as_aux_lemma =>
                                  have r1 := of_decide_eq_true hv2.out.symm
                                  have hro := IH.out a i mid d1 _ (by omega) r1.1 r1.2 (by omega) hd1 S6.out
                                  have hrt : symM (ltOf cf) f a i mid d1 = d2 := by rw [← HD2.out, if_pos r1]
                                  rw [hrt] at hro
                                  clear r1 hv2
                                  go_wp2_with (go_at_fn 64; refine hro.mono ?_; rintro e w' ⟨rfl, hS⟩)
                                  go_meet
                                  case rel => exact hS
                              | false =>
                                as_aux_lemma =>
                                  have r1 := of_decide_eq_false hv2.out.symm
                                  have e1 : d2 = d1 := by rw [← HD2.out, if_neg r1]
                                  clear r1 hv2
                                  go_wp2_with fail
                                  go_meet
                                  case rel => rw [e1]; exact S6
                          case rest =>
                            as_aux_lemma =>
                              have S7 := hcut
                              clear S6 hcut hv2 HD2
                              obtain ⟨v3, hv3⟩ : ∃ v : Bool, Hid (v = decide (mid < en ∧ en < b)) := ⟨_, rfl⟩
                              go_upto_region 43 with fail
                              (try simp only [Act.put, List.setIfInBounds_toArray, List.set_cons_zero, List.set_cons_succ])
                              go_cut [213] (fun sc wc => sc = .bool v3 ∧ Aside (SWK enc k w0 blk off d2 wc))
                              case first =>
                                as_aux_lemma =>
                                  by_cases r1 : mid < en
                                  · have q1 : decide ((mid : Int) < (en : Int)) = true := decide_eq_true (by omega)
                                    have q3 : decide (mid < en) = true := decide_eq_true r1
                                    by_cases r2 : en < b
                                    · have q2 : decide ((en : Int) < (b : Int)) = true := decide_eq_true (by omega)
                                      have q4 : decide (en < b) = true := decide_eq_true r2
                                      have e1 : v3 = true := by rw [hv3.out]; exact decide_eq_true ⟨r1, r2⟩
                                      clear hv3
                                      go_wp2_with fail
                                      go_meet
                                      case rel => exact ⟨by rw [e1], S7⟩
                                    · have q2 : decide ((en : Int) < (b : Int)) = false := decide_eq_false (by omega)
                                      have q4 : decide (en < b) = false := decide_eq_false r2
                                      have e1 : v3 = false := by rw [hv3.out]; exact decide_eq_false (fun h => r2 h.2)
                                      clear hv3
                                      go_wp2_with fail
                                      go_meet
                                      case rel => exact ⟨by rw [e1], S7⟩
                                  · have q1 : decide ((mid : Int) < (en : Int)) = false := decide_eq_false (by omega)
                                    have q3 : decide (mid < en) = false := decide_eq_false r1
                                    have e1 : v3 = false := by rw [hv3.out]; exact decide_eq_false (fun h => r1 h.1)
                                    clear hv3
                                    go_wp2_with fail
                                    go_meet
                                    case rel => exact ⟨by rw [e1], S7⟩
                              case rest =>
                                as_aux_lemma =>
                                  obtain ⟨rfl, S8⟩ := hcut
                                  clear S7
                                  cases v3 with
                                  | true =>
                                    as_aux_lemma =>
                                      have r1 := of_decide_eq_true hv3.out.symm
                                      have hro := IH.out mid en b d2 _ (by omega) r1.1 r1.2 (by omega) hd2 S8.out
                                      have hrt := HM2.out
                                      rw [if_pos r1] at hrt
                                      clear r1 hv3
                                      go_wp2_with (go_at_fn 64; refine hro.mono ?_; rintro e w' ⟨rfl, hS⟩)
                                      go_end0
                                      exact ⟨rfl, by rw [hrt]; exact hS⟩
                                  | false =>
                                    as_aux_lemma =>
                                      have r1 := of_decide_eq_false hv3.out.symm
                                      have hrt := HM2.out
                                      rw [if_neg r1] at hrt
                                      clear r1 hv3
                                      go_wp2_with fail
                                      go_end0
                                      exact ⟨rfl, by rw [hrt]; exact S8.out⟩
end
end Go.Proofs.YtpdcmdofojckdaaDoor.P
