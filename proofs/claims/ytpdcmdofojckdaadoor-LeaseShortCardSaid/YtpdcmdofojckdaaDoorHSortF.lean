/- Texts of this claim, laid into one. -/
import Derived.Shelf.SlicesG.Cmp
import Derived.Test.YtpdcmdofojckdaaDoorHSortC
import Derived.Test.YtpdcmdofojckdaaDoorHSortD
section
/- Contracts, typed by hand: cmp.Compare, cmp.Or and the closure by which the credentials are sorted. -/
set_option linter.unusedVariables false
set_option linter.unusedSimpArgs false
namespace Go.Proofs.YtpdcmdofojckdaaDoor.P
open Go.Shelf Go.RowKit Go.Lib Go.Sort
theorem sortT : SortL Tryd.prog 9 where
  mixed := by kernel_rfl
  fIns := Tryd.func63
  fSwap := Tryd.func69
  fRot := Tryd.func67
  fSym := Tryd.func64
  fStab := Tryd.func55
  aE := Tryd.isAgg40
  zE := Tryd.sizeOf40
  t0 := Tryd.underlying0
  a0 := Tryd.isAgg0
  z0 := Tryd.sizeOf0
  v0 := Tryd.zeroValue0
  t3 := Tryd.underlying3
  a3 := Tryd.isAgg3
  z3 := Tryd.sizeOf3
  v3 := Tryd.zeroValue3
  t4 := Tryd.underlying4
  a4 := Tryd.isAgg4
  z4 := Tryd.sizeOf4
  v4 := Tryd.zeroValue4
  t60 := Tryd.underlying89
  a60 := Tryd.isAgg89
  z60 := Tryd.sizeOf89
  v60 := Tryd.zeroValue89
  t22 := Tryd.underlying27
  a22 := Tryd.isAgg27
  z22 := Tryd.sizeOf27
  v22 := Tryd.zeroValue27
  t36 := Tryd.underlying79
  a36 := Tryd.isAgg79
  z36 := Tryd.sizeOf79
  v36 := Tryd.zeroValue79
def renC : Ren := ⟨fun x => if x = 5 then 47 else if x = 7 then 56 else x, fun x => if x = 3 then 3 else if x = 4 then 4 else if x = 22 then 3 else x, fun x => x⟩
theorem compareL : SlLaysC2.n5 Tryd.prog renC where
  mixed := by kernel_rfl
  f5 := ⟨Tryd.f47.name, by kernel_rfl, Tryd.func47.trans (by kernel_rfl)⟩
  f7 := ⟨Tryd.f56.name, by kernel_rfl, Tryd.func56.trans (by kernel_rfl)⟩
  t3 := Tryd.underlying3
  a3 := Tryd.isAgg3
  z3 := Tryd.sizeOf3
  v3 := Tryd.zeroValue3
  t4 := Tryd.underlying4
  a4 := Tryd.isAgg4
  z4 := Tryd.sizeOf4
  v4 := Tryd.zeroValue4
  t22 := Tryd.underlying3
  a22 := Tryd.isAgg3
  z22 := Tryd.sizeOf3
  v22 := Tryd.zeroValue3
theorem compare.calls (x y : Int) (w : World) : Calls Tryd.prog 47 #[.int .i64 x, .int .i64 y] w fun e w' => e = .returned (.int .i64 (Lib.compareInt x y)) ∧ w' = w := AnyG.cmp_Compare_int compareL x y w
/-- The first that is not zero, of two. -/
def orI (x y : Int) : Int := if x ≠ 0 then x else y
set_option maxHeartbeats 4000000 in
set_option maxRecDepth 1000000 in
theorem cmpOr.calls (blk : Nat) (x y : Int) (w : World) (h0 : w.cell? ⟨blk, 0, none⟩ = some (.int .i64 x)) (h1 : w.cell? ⟨blk, 1, none⟩ = some (.int .i64 y)) :
    Calls Tryd.prog 46 #[.slice (some ⟨blk, 0, none⟩) 2 2] w fun e w' => e = .returned (.int .i64 (orI x y)) ∧ w' = w := by
  go_enter Tryd.func46, Tryd.ntmps46
  go_wp2_with fail
  go_loopg [8] 3 (fun kx s8 wr => wr = w ∧ ((s8 = .int .i64 0 ∧ 2 ≤ kx) ∨ (s8 = .int .i64 1 ∧ x = 0 ∧ 1 ≤ kx) ∨ (s8 = .int .i64 2 ∧ x = 0 ∧ y = 0)))
  case atStart => exact ⟨rfl, .inl ⟨rfl, by omega⟩⟩
  case round =>
    rcases hrel with ⟨rfl, ⟨rfl, hk⟩ | ⟨rfl, hx, hk⟩ | ⟨rfl, hx, hy⟩⟩
    · by_cases e : x = 0
      · have e1 : ((x : Int) != 0) = false := by simp [e]
        go_wp2
        go_roundg 1
        case measure => omega
        case rel => exact ⟨rfl, .inr (.inl ⟨rfl, e, by omega⟩)⟩
      · have e1 : ((x : Int) != 0) = true := by simp [e]
        go_wp2
        go_ret
        exact ⟨by rw [orI, if_pos e]; rfl, rfl⟩
    · by_cases e : y = 0
      · have e1 : ((y : Int) != 0) = false := by simp [e]
        go_wp2
        go_roundg 0
        case measure => omega
        case rel => exact ⟨rfl, .inr (.inr ⟨rfl, hx, e⟩)⟩
      · have e1 : ((y : Int) != 0) = true := by simp [e]
        go_wp2
        go_ret
        exact ⟨by rw [orI, if_neg (by simp [hx])]; rfl, rfl⟩
    · go_wp2
      go_ret
      exact ⟨by rw [orI, if_neg (by simp [hx]), hy]; rfl, rfl⟩
end Go.Proofs.YtpdcmdofojckdaaDoor.P
end
section
/- Contracts, typed by hand: slices.SortStableFunc at credentials, 40 or fewer. -/
set_option linter.unusedVariables false
set_option linter.unusedSimpArgs false
namespace Go.Proofs.YtpdcmdofojckdaaDoor.P
open Go.Shelf Go.RowKit Go.Lib Go.Sort
section
variable {α : Type} [Inhabited α]
set_option maxHeartbeats 4000000 in
set_option maxRecDepth 1000000 in
theorem sortStable.calls (enc : α → List Value) (cf : α → α → Int) (g : Nat) (cb : Array Value) (blk off cap : Nat) (d0 : Array α) (w0 : World)
    (eg : ∀ args w, (callFunc g args).run Tryd.prog w = .ok (.enter g args) w) (hcmp : CmpLays Tryd.prog g cb enc 9 cf blk off d0.size w0) (R : RowK enc 9 w0 blk off d0) (d : Array α) (w : World) (hd : d.size = d0.size) (S : SWK enc 9 w0 blk off d w) (hn : d0.size ≤ 40) :
    Calls Tryd.prog 44 #[.slice (some ⟨blk, off, none⟩) d0.size cap, .func (.func g) #[] cb] w fun e w' => e = .returned (.tuple #[]) ∧ SWK enc 9 w0 blk off (stabS (ltOf cf) d0.size d) w' := by
  have hq := stable.calls sortT enc cf g cb blk off cap d0 w0 eg hcmp R d w hd S hn
  clear hcmp R S
  generalize stabS (ltOf cf) d0.size d = dF at hq ⊢
  go_enter Tryd.func44, Tryd.ntmps44
  go_wp2_with (go_at_call 55; refine hq.mono ?_; rintro e w' ⟨rfl, hS⟩)
  go_end0
  exact ⟨rfl, hS⟩
end
end Go.Proofs.YtpdcmdofojckdaaDoor.P
end
