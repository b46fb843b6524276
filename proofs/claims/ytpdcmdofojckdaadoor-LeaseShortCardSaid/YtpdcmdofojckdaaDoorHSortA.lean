/- Contracts, typed by hand: slices.SortStableFunc's family at elements of 9 cells (credentials): swapRange, rotate. -/
import Derived.Shelf.SlSortCmp.KitK
import Derived.Sort.WalkB2
import Derived.Sort.WalkB12
import Derived.Deep.LoopGhost
import Derived.Test.YtpdcmdofojckdaaDoorProg
import Derived.Test.YtpdcmdofojckdaaDoorHSym
set_option linter.unusedVariables false
set_option linter.unusedSimpArgs false
namespace Go.Proofs.YtpdcmdofojckdaaDoor.P
open Go.Shelf Go.RowKit Go.Lib Go.Sort
/-- What a program must have: the five bodies, their types; the elements' type has k cells. -/
structure SortL (P : Program) (k : Nat) : Prop where
  mixed : P.follows .mixedOrders = true
  fIns : P.funcs[63]? = some Tryd.f63
  fSwap : P.funcs[69]? = some Tryd.f69
  fRot : P.funcs[67]? = some Tryd.f67
  fSym : P.funcs[64]? = some Tryd.f64
  fStab : P.funcs[55]? = some Tryd.f55
  aE : ∀ w, (isAgg 40).run P w = .ok true w
  zE : ∀ w, (Go.sizeOf 40).run P w = .ok k w
  t0 : P.underlying 0 = some (TypeDesc.tuple #[])
  a0 : ∀ w, (isAgg 0).run P w = .ok false w
  z0 : ∀ w, (Go.sizeOf 0).run P w = .ok 1 w
  v0 : ∀ w, (zeroValue 0).run P w = .ok (Value.tuple #[]) w
  t3 : P.underlying 3 = some (TypeDesc.int IntKind.i64)
  a3 : ∀ w, (isAgg 3).run P w = .ok false w
  z3 : ∀ w, (Go.sizeOf 3).run P w = .ok 1 w
  v3 : ∀ w, (zeroValue 3).run P w = .ok (Value.int IntKind.i64 0) w
  t4 : P.underlying 4 = some (TypeDesc.bool)
  a4 : ∀ w, (isAgg 4).run P w = .ok false w
  z4 : ∀ w, (Go.sizeOf 4).run P w = .ok 1 w
  v4 : ∀ w, (zeroValue 4).run P w = .ok (Value.bool false) w
  t60 : P.underlying 89 = some (TypeDesc.int IntKind.u64)
  a60 : ∀ w, (isAgg 89).run P w = .ok false w
  z60 : ∀ w, (Go.sizeOf 89).run P w = .ok 1 w
  v60 : ∀ w, (zeroValue 89).run P w = .ok (Value.int IntKind.u64 0) w
  t22 : P.underlying 27 = some (TypeDesc.slice 40)
  a22 : ∀ w, (isAgg 27).run P w = .ok false w
  z22 : ∀ w, (Go.sizeOf 27).run P w = .ok 1 w
  v22 : ∀ w, (zeroValue 27).run P w = .ok (Value.slice none 0 0) w
  t36 : P.underlying 79 = some (TypeDesc.func #[40, 40] #[3] false)
  a36 : ∀ w, (isAgg 79).run P w = .ok false w
  z36 : ∀ w, (Go.sizeOf 79).run P w = .ok 1 w
  v36 : ∀ w, (zeroValue 79).run P w = .ok (Value.nilFunc) w
section
variable {α : Type} [Inhabited α]
set_option maxHeartbeats 4000000 in
set_option maxRecDepth 1000000 in
theorem swapRange.calls {P : Program} {k : Nat} (L : SortL P k) (enc : α → List Value) (g : Nat) (cb : Array Value) (blk off cap a b n : Nat) (d0 d : Array α) (w0 w : World)
    (R : RowK enc k w0 blk off d0) (hs : d0.size = d.size) (S : SWK enc k w0 blk off d w) (hab : a + n ≤ b) (hb : b + n ≤ d.size) (hsz : d.size < 4611686018427387904) :
    Calls P 69 #[.slice (some ⟨blk, off, none⟩) d.size cap, .int .i64 a, .int .i64 b, .int .i64 n, .func (.func g) #[] cb] w fun e w' => e = .returned (.tuple #[]) ∧ SWK enc k w0 blk off (swapR a b n d) w' := by
  obtain ⟨mixed, _, FG, _, _, _, aE, zE, t0, a0, z0, v0, t3, a3, z3, v3, t4, a4, z4, v4, t60, a60, z60, v60, t22, a22, z22, v22, t36, a36, z36, v36⟩ := L
  have S0 : Aside (SWK enc k w0 blk off d w) := S
  clear S
  go_enter FG, Tryd.ntmps69
  go_wp2
  go_loopg [10] n (fun kx s10 wr => ∃ (i : Nat) (dk : Array α), s10 = .int .i64 i ∧ i ≤ n ∧ n - i ≤ kx ∧ dk.size = d.size ∧ Aside (SWK enc k w0 blk off dk wr) ∧ Hid (dk = swapR a b i d))
  case atStart => exact ⟨0, d, rfl, Nat.zero_le _, by omega, rfl, S0, rfl⟩
  case round =>
    clear S0
    obtain ⟨i, dk, rfl, hin, hkx, hds, S1, heq⟩ := hrel
    by_cases hlt : i < n
    · have hltz : (i : Int) < (n : Int) := by omega
      go_wp2_with fail
      have ea : ((a : Int) + (i : Int)).toNat = a + i := by omega
      have pa : (0 : Int) ≤ (a : Int) + (i : Int) := by omega
      have ba : (a : Int) + (i : Int) < (d.size : Int) := by omega
      have ra : IntKind.i64.wrap ((a : Int) + (i : Int)) = (a : Int) + (i : Int) := by rw [IntKind.wrap_i64]; omega
      have ec : ((b : Int) + (i : Int)).toNat = b + i := by omega
      have pc : (0 : Int) ≤ (b : Int) + (i : Int) := by omega
      have bc : (b : Int) + (i : Int) < (d.size : Int) := by omega
      have rc : IntKind.i64.wrap ((b : Int) + (i : Int)) = (b : Int) + (i : Int) := by rw [IntKind.wrap_i64]; omega
      have S2 : Aside (SWK enc k w0 blk off (swp dk (a + i) (b + i)) ((wr.drew.setCells blk (off + (a + i) * k) (enc dk[b + i]!)).setCells blk (off + (b + i) * k) (enc dk[a + i]!))) := S1.out.swapped R (a + i) (b + i) (by omega) (by omega)
      have la := S1.out.ld1 R (by omega) P (a + i) (by omega)
      have lb := S1.out.ld1 R (by omega) P (b + i) (by omega)
      have sa := S1.out.st1 R (by omega) P (a + i) (by omega) dk[b + i]!
      have sb := S1.out.st2 R (by omega) P (a + i) (b + i) (by omega) (by omega) dk[b + i]! dk[a + i]!
      have na : (enc dk[a + i]!).length = k := R.hk _
      have nb : (enc dk[b + i]!).length = k := R.hk _
      generalize enc dk[a + i]! = cI at S2 la sb na
      generalize enc dk[b + i]! = cJ at S2 lb sa sb nb
      clear S1
      go_big_region_o
      clear la lb sa sb
      generalize (wr.drew.setCells blk (off + (a + i) * k) cJ).setCells blk (off + (b + i) * k) cI = w2 at S2 ⊢
      go_wp2
      go_roundg (n - (i + 1))
      case measure => omega
      case rel => exact ⟨i + 1, swp dk (a + i) (b + i), by simp, by omega, Nat.le_refl _, by rw [size_swp]; exact hds, S2, by show _ = swp (swapR a b i d) (a + i) (b + i); rw [← heq.out]⟩
    · have e : i = n := by omega
      subst e
      go_wp2
      go_end0
      exact ⟨rfl, by rw [← heq.out]; exact S1.out⟩
theorem rotR_eq (m f i : Nat) (d : Array α) : rotR m (f + 1) i i d = swapR (m - i) m i d := by rw [rotR, if_pos rfl]
theorem rotR_gt (m f i j : Nat) (d : Array α) (h : j < i) : rotR m (f + 1) i j d = rotR m f (i - j) j (swapR (m - i) m j d) := by rw [rotR, if_neg (by omega), if_pos h]
theorem rotR_lt (m f i j : Nat) (d : Array α) (h : i < j) : rotR m (f + 1) i j d = rotR m f i (j - i) (swapR (m - i) (m + j - i) i d) := by rw [rotR, if_neg (by omega), if_neg (by omega)]
set_option maxHeartbeats 4000000 in
set_option maxRecDepth 1000000 in
theorem rotate.calls {P : Program} {k : Nat} (L : SortL P k) (enc : α → List Value) (g : Nat) (cb : Array Value) (blk off cap a m b : Nat) (d0 d : Array α) (w0 w : World)
    (R : RowK enc k w0 blk off d0) (hs : d0.size = d.size) (S : SWK enc k w0 blk off d w) (ham : a < m) (hmb : m < b) (hb : b ≤ d.size) (hsz : d.size < 4611686018427387904) :
    Calls P 67 #[.slice (some ⟨blk, off, none⟩) d.size cap, .int .i64 a, .int .i64 m, .int .i64 b, .func (.func g) #[] cb] w fun e w' => e = .returned (.tuple #[]) ∧ SWK enc k w0 blk off (rotR m (b - a) (m - a) (b - m) d) w' := by
  have HSW : ∀ (a1 b1 n1 : Nat) (A1 B1 : Int) (d1 : Array α) (w1 : World), A1 = a1 → B1 = b1 → d1.size = d.size → SWK enc k w0 blk off d1 w1 → a1 + n1 ≤ b1 → b1 + n1 ≤ d.size → Calls P 69 #[.slice (some ⟨blk, off, none⟩) d.size cap, .int .i64 A1, .int .i64 B1, .int .i64 n1, .func (.func g) #[] cb] w1 fun e w' => e = .returned (.tuple #[]) ∧ SWK enc k w0 blk off (swapR a1 b1 n1 d1) w' := by
    intro a1 b1 n1 A1 B1 d1 w1 eA eB hs1 S1 h1 h2
    subst eA eB
    rw [← hs1]
    exact swapRange.calls L enc g cb blk off cap a1 b1 n1 d0 d1 w0 w1 R (by omega) S1 h1 (by omega) (by omega)
  have eSw : ∀ args w, (callFunc 69 args).run P w = .ok (.enter 69 args) w := enters_of L.fSwap (by kernel_rfl) rfl
  obtain ⟨mixed, _, _, FG, _, _, aE, zE, t0, a0, z0, v0, t3, a3, z3, v3, t4, a4, z4, v4, t60, a60, z60, v60, t22, a22, z22, v22, t36, a36, z36, v36⟩ := L
  have S0 : Aside (SWK enc k w0 blk off d w) := S
  have HSW' : Aside _ := HSW
  clear S HSW
  go_enter FG, Tryd.ntmps67
  go_wp2
  go_loopg [10, 11] (b - a) (fun kx s10 s11 wr => ∃ (i j f : Nat) (dk : Array α), s10 = .int .i64 i ∧ s11 = .int .i64 j ∧ 0 < i ∧ 0 < j ∧ i ≤ m ∧ m + j ≤ d.size ∧ i + j ≤ f ∧ i + j ≤ kx ∧ dk.size = d.size ∧ Aside (SWK enc k w0 blk off dk wr) ∧ Hid (rotR m f i j dk = rotR m (b - a) (m - a) (b - m) d))
  case atStart => exact ⟨m - a, b - m, b - a, d, by congr 1; omega, by congr 1; omega, by omega, by omega, by omega, by omega, by omega, by omega, rfl, S0, rfl⟩
  case round =>
    clear S0
    obtain ⟨i, j, f, dk, rfl, rfl, hi, hj, him, hjm, hf, hkx, hds, S1, heq⟩ := hrel
    obtain ⟨f, rfl⟩ : ∃ f', f = f' + 1 := ⟨f - 1, by omega⟩
    by_cases hij : i = j
    · subst hij
      have e1 : ((i : Int) != (i : Int)) = false := by simp
      have hq := HSW'.out (m - i) m i ((m : Int) - (i : Int)) (m : Int) dk wr (by omega) rfl hds S1.out (by omega) (by omega)
      go_wp2_with (go_at_fn 69; refine hq.mono ?_; rintro e w' ⟨rfl, hS⟩)
      go_end0
      refine ⟨rfl, ?_⟩
      rw [← heq.out, rotR_eq]
      exact hS
    · have e1 : ((i : Int) != (j : Int)) = true := by simp; omega
      by_cases hlt : j < i
      · have e2 : decide ((i : Int) > (j : Int)) = true := decide_eq_true (by omega)
        have e3 : (j : Int) < (i : Int) := by omega
        have hq := HSW'.out (m - i) m j ((m : Int) - (i : Int)) (m : Int) dk wr (by omega) rfl hds S1.out (by omega) (by omega)
        go_wp2_with (go_at_fn 69; refine hq.mono ?_; rintro e w2 ⟨rfl, hS⟩)
        have S2 : Aside _ := hS
        clear hS hq S1
        go_wp2_with fail
        go_roundg (i - j + j)
        case measure => omega
        case rel => exact ⟨i - j, j, f, _, by congr 1; omega, rfl, by omega, hj, by omega, hjm, by omega, Nat.le_refl _, by rw [swapR_size]; exact hds, S2, by show _ = _; rw [← heq.out, rotR_gt _ _ _ _ _ hlt]⟩
      · have e2 : decide ((i : Int) > (j : Int)) = false := decide_eq_false (by omega)
        have e3 : ¬ (j : Int) < (i : Int) := by omega
        have hq := HSW'.out (m - i) (m + j - i) i ((m : Int) - (i : Int)) ((m : Int) + (j : Int) - (i : Int)) dk wr (by omega) (by omega) hds S1.out (by omega) (by omega)
        go_wp2_with (go_at_fn 69; refine hq.mono ?_; rintro e w2 ⟨rfl, hS⟩)
        have S2 : Aside _ := hS
        clear hS hq S1
        go_wp2_with fail
        go_roundg (i + (j - i))
        case measure => omega
        case rel => exact ⟨i, j - i, f, _, rfl, by congr 1; omega, hi, by omega, him, by omega, by omega, Nat.le_refl _, by rw [swapR_size]; exact hds, S2, by show _ = _; rw [← heq.out, rotR_lt _ _ _ _ _ (by omega)]⟩
end
end Go.Proofs.YtpdcmdofojckdaaDoor.P
