/- Contracts, typed by hand: slices.SortStableFunc's family at elements of k cells: insertionSort (the kit's own), laid at this program's numbers. -/
import Derived.Shelf.SlSortCmp.InsertionK
import Derived.Test.YtpdcmdofojckdaaDoorHSortB
set_option linter.unusedVariables false
set_option linter.unusedSimpArgs false
namespace Go.Proofs.YtpdcmdofojckdaaDoor.P
open Go.Shelf Go.RowKit Go.Lib Go.Sort
/-- The kit's numbers, turned to this program's. -/
def renS : Ren := ⟨fun x => if x = 20 then 63 else x, fun x => if x = 22 then 27 else if x = 24 then 40 else if x = 25 then 79 else x, fun x => x⟩
theorem SortL.ins {P : Program} {k : Nat} (L : SortL P k) : SlLaysF0.n20 P renS where
  mixed := L.mixed
  f20 := ⟨Tryd.f63.name, by kernel_rfl, L.fIns.trans (by kernel_rfl)⟩
  t0 := L.t0
  a0 := L.a0
  z0 := L.z0
  v0 := L.v0
  t3 := L.t3
  a3 := L.a3
  z3 := L.z3
  v3 := L.v3
  t4 := L.t4
  a4 := L.a4
  z4 := L.z4
  v4 := L.v4
  t22 := L.t22
  a22 := L.a22
  z22 := L.z22
  v22 := L.v22
  t25 := L.t36
  a25 := L.a36
  z25 := L.z36
  v25 := L.v36
section
variable {α : Type} [Inhabited α]
theorem insInner_size (lt : α → α → Bool) (a : Nat) : ∀ (j : Nat) (d : Array α), (insInner lt a j d).size = d.size
  | 0, d => by rw [insInner_stop _ _ _ _ (.inl (Nat.zero_le _))]
  | j + 1, d => by
    by_cases h : a < j + 1 ∧ lt d[j + 1]! d[j + 1 - 1]! = true
    · rw [insInner_go _ _ _ _ h.1 h.2, Nat.add_sub_cancel, insInner_size lt a j, size_swp]
    · rw [insInner_stop]
      by_cases h1 : a < j + 1
      · right
        cases hl : lt d[j + 1]! d[j + 1 - 1]! with
        | false => rfl
        | true => exact absurd ⟨h1, hl⟩ h
      · exact .inl (by omega)
theorem insOuter_size (lt : α → α → Bool) (a b : Nat) : ∀ (q i : Nat) (d : Array α), b - i ≤ q → (insOuter lt a b i d).size = d.size
  | 0, i, d, h => by rw [insOuter_stop _ _ _ _ _ (by omega)]
  | q + 1, i, d, h => by
    by_cases hi : i < b
    · rw [insOuter_go _ _ _ _ _ hi, insOuter_size lt a b q _ _ (by omega), insInner_size]
    · rw [insOuter_stop _ _ _ _ _ hi]
theorem insertionSort_size (lt : α → α → Bool) (d : Array α) (a b : Nat) : (insertionSort lt d a b).size = d.size := insOuter_size lt a b _ _ _ (Nat.le_refl _)
/-- slices.insertionSortCmpFunc, from a world of the sort's to a world of the sort's, whatever cmp says. -/
theorem insertion.calls {P : Program} {k : Nat} (L : SortL P k) (enc : α → List Value) (cf : α → α → Int) (g : Nat) (cb : Array Value) (blk off cap a b : Nat) (d0 d : Array α) (w0 w : World)
    (eg : ∀ args w, (callFunc g args).run P w = .ok (.enter g args) w) (hcmp : CmpLays P g cb enc k cf blk off d0.size w0) (R : RowK enc k w0 blk off d0) (hs : d0.size = d.size) (S : SWK enc k w0 blk off d w) (hab : a ≤ b) (hb : b ≤ d.size) (hsz : d.size < 4611686018427387904) :
    Calls P 63 #[.slice (some ⟨blk, off, none⟩) d.size cap, .int .i64 a, .int .i64 b, .func (.func g) #[] cb] w fun e w' => e = .returned (.tuple #[]) ∧ SWK enc k w0 blk off (insertionSort (ltOf cf) d a b) w' := by
  have hC : CmpLays P g cb enc k cf blk off d.size w := fun m os dk hdk x y => by
    obtain ⟨n0, os0, rfl⟩ := S
    rw [sortWorldK_on enc k w0 blk off n0 m d dk os0 os R.hblk hdk]
    exact hcmp _ _ dk (by omega) x y
  refine (AnyQ.insertionSortCmpFunc L.ins k L.aE L.zE enc R.hk R.h1 cf g cb blk off cap a b d w eg hC (S.holds R.hblk R.hH hs.symm) (S.lt R.hblk) hab hb hsz).mono ?_
  rintro e w' ⟨rfl, n, os, rfl⟩
  exact ⟨rfl, S.on R.hblk n _ os (insertionSort_size _ _ _ _)⟩
end
end Go.Proofs.YtpdcmdofojckdaaDoor.P
