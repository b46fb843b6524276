/- Contract, typed by hand: cred.Sorted, at 40 credentials or fewer: a row of its own, sorted; the first of the least ones again and again. -/
import Derived.Test.YtpdcmdofojckdaaDoorHSortG
import Derived.Test.YtpdcmdofojckdaaDoorHClos
import Derived.Test.YtpdcmdofojckdaaDoorHStab
import Derived.Test.YtpdcmdofojckdaaDoorP15
set_option linter.unusedVariables false
set_option linter.unusedSimpArgs false
namespace Go.Proofs.YtpdcmdofojckdaaDoor.P
open Go.Shelf Go.RowKit Go.Lib Go.Sort
open Go.Proofs.YtpdcmdofojckdaaDoorW.PrintWords Go.Proofs.YtpdcmdofojckdaaDoorW.PrintLast Go.Proofs.YtpdcmdofojckdaaDoorW.PrintMore
instance : Inhabited S40 := ⟨z40⟩
/-- A credential's nine cells. -/
def encC (x : S40) : List Value := [.int .i64 x.f0.f0, .int .i64 x.f0.f1, .string x.f1, .int .i64 x.f2, .string x.f3, .string x.f4.f0, .string x.f4.f1, .string x.f5.f0, .string x.f5.f1]
def encT (p : S40 × Nat) : List Value := encC p.1
def cmpC (x y : S40) : Int := orI (Lib.compareInt x.f0.f0 y.f0.f0) (Lib.compareInt x.f0.f1 y.f0.f1)
/-- By domain, then by number. -/
def ltC (x y : S40) : Bool := decide (x.f0.f0 < y.f0.f0 ∨ (x.f0.f0 = y.f0.f0 ∧ x.f0.f1 < y.f0.f1))
theorem ltC_eq : ltOf cmpC = ltC := by
  funext x y
  unfold ltOf cmpC ltC orI Lib.compareInt
  apply decide_eq_decide.2
  repeat' split
  all_goals omega
theorem ltC_swo : SWO ltC where
  irrefl x := by unfold ltC; simp
  trans x y z h1 h2 := by
    unfold ltC at *
    simp only [decide_eq_true_eq] at *
    omega
  ntrans x y z h1 h2 := by
    unfold ltC at *
    simp only [decide_eq_false_iff_not] at *
    omega
/-- Credentials, sorted. -/
def sortC (l : List S40) : List S40 := selS ltC default l.length l
def cred_Sorted.f (l : List S40) : Option (List S40) := if l.length ≤ 40 then some (sortC l) else none
theorem flatC : Flat k40 encC where
  len _ := rfl
  one x v hv := by
    simp only [encC, List.mem_cons, List.not_mem_nil, or_false] at hv
    rcases hv with rfl | rfl | rfl | rfl | rfl | rfl | rfl | rfl | rfl <;> rfl
  M {w base ok x cs} := ⟨fun h => k40_openM h, fun h => by rw [h]; exact k40_mkM w base ok x⟩
theorem closure_lays (blk off n : Nat) (W : World) : CmpLays Tryd.prog 45 #[] encT 9 (fun p q => cmpC p.1 q.1) blk off n W := by
  intro m os dk _ x y
  exact (closure.calls x.1.f0.f0 x.1.f0.f1 x.1.f1 x.1.f2 x.1.f3 x.1.f4.f0 x.1.f4.f1 x.1.f5.f0 x.1.f5.f1 y.1.f0.f0 y.1.f0.f1 y.1.f1 y.1.f2 y.1.f3 y.1.f4.f0 y.1.f4.f1 y.1.f5.f0 y.1.f5.f1 _).mono fun e w' h => h
/-! slices.Clone at credentials -/
theorem cloneC_empty {α : Type} {d : Kd α} {w : World} {n : Nat} {l : List α} (h : d.C w none n l) : l = [] := by
  rcases Nat.eq_zero_or_pos n with h0 | h0
  · exact List.eq_nil_of_length_eq_zero (h.1.trans h0)
  · obtain ⟨ad, e, _⟩ := h.2.2 h0
    cases e
set_option maxHeartbeats 2000000 in
theorem CloneC.calls (A : Option Addr) (c : Nat) (l : List S40) (W : World) (hC : k40.C W A l.length l) (hl : l.length ≤ 1000000) :
    Calls Tryd.prog 43 #[.slice A l.length c] W fun e W' => ∃ v : Value, e = .returned v ∧ k40.R 40 W' W.heap.size (fun k => W.heap.size ≤ k) v l ∧ Below W.heap.size W W' := by
  have HR := Aside0.mk hC
  cases A with
  | none =>
    obtain rfl : l = [] := cloneC_empty hC
    clear hC
    have hnil := fun W : World => Lib.run_eql_slice_nil (P := Tryd.prog) W 27 40 none 0 c 0 0 Tryd.underlying27
    go_enter Tryd.func43, Tryd.ntmps43
    go_wp2_with fail
    go_ret
    exact ⟨.slice none 0 0, rfl, Kd.R_nil _ _ _ _ _, Below.refl _ _⟩
  | some ad =>
    have hnil := fun W : World => Lib.run_eql_slice_nil (P := Tryd.prog) W 27 40 (some ad) l.length c 0 0 Tryd.underlying27
    clear hC
    go_enter Tryd.func43, Tryd.ntmps43
    have HO := Aside0.mk (show k40.R 40 (W.alloc (.cells #[] 40)) W.heap.size (fun k => W.heap.size ≤ k) (.slice (some ⟨W.heap.size, 0, none⟩) 0 0) ([] : List S40) from
      flat_R (xs := []) flatC (Nat.le_refl _) (Nat.le_refl _) (blk_new W _) (Nat.le_refl _) (Nat.zero_le _) rfl (fun j x i u hx => by simp at hx))
    go_wp2_with (at_builtin; refine Kd.R_append_rows k40 (w0 := W) W.heap.size rfl (.tmp 5) (.tmp 6) 27 40 (.agg #[(.int .i64 0), (.int .i64 0), (.string ⟨#[]⟩), (.int .i64 0), (.string ⟨#[]⟩), (.string ⟨#[]⟩), (.string ⟨#[]⟩), (.string ⟨#[]⟩), (.string ⟨#[]⟩)]) 120 rfl Tryd.underlying27 info40 rfl (by decide) (by omega) (.slice (some ⟨W.heap.size, 0, none⟩) 0 0) ([] : List (S40)) l (some ad) l.length c (fun k_ => (W.heap.size ≤ k_)) (fun _ => False) rfl rfl HO.out ?aR (fun _ _ h => h) (fun _ h => h.elim) ?aF ?aB ?aS ?aL ?_)
    case aR => exact Kd.C_alloc HR.out _
    case aF => exact fun k hk => by simp at hk; omega
    case aB => exact below_alloc (Below.refl _ _) _
    case aS => simp
    case aL => simp only [List.length_nil]; omega
    intro v1 w1 hR hB hg hat
    have HR1 := Aside0.mk hR
    have HB := Aside0.mk hB
    clear hR hB hg hat HO hnil
    go_wp2_with fail
    go_ret
    exact ⟨v1, rfl, HR1.out, HB.out⟩
/-! the sort at no element -/
set_option maxHeartbeats 2000000 in
theorem insertion.zero (A : Option Addr) (c g : Nat) (cb : Array Value) (W : World) :
    Calls Tryd.prog 63 #[.slice A 0 c, .int .i64 0, .int .i64 0, .func (.func g) #[] cb] W fun e w' => e = .returned (.tuple #[]) ∧ w' = W := by
  go_enter Tryd.func63, Tryd.ntmps63
  go_wp2_with fail
  go_loopg [8] 1 (fun kx s wr => s = .int .i64 1 ∧ wr = W)
  case atStart => exact ⟨rfl, rfl⟩
  case round =>
    obtain ⟨rfl, rfl⟩ := hrel
    go_wp2_with fail
    go_end0
    exact ⟨rfl, rfl⟩
set_option maxHeartbeats 2000000 in
theorem stable.zero (A : Option Addr) (c g : Nat) (cb : Array Value) (W : World) :
    Calls Tryd.prog 55 #[.slice A 0 c, .int .i64 0, .func (.func g) #[] cb] W fun e w' => e = .returned (.tuple #[]) ∧ w' = W := by
  go_enter Tryd.func55, Tryd.ntmps55
  go_wp2_with fail
  go_loopg [7, 8] 1 (fun kx s7 s8 wr => s7 = .int .i64 0 ∧ s8 = .int .i64 20 ∧ wr = W)
  case atStart => exact ⟨rfl, rfl, rfl⟩
  case round =>
    obtain ⟨rfl, rfl, hw⟩ := hrel
    have HW := Aside0.mk hw
    clear hw
    go_wp2_with (go_at_call 63; refine (insertion.zero A c g cb _).mono ?_; rintro e w' ⟨rfl, rfl⟩)
    go_loopg [6] 1 (fun kx s6 w2 => s6 = .int .i64 20 ∧ w2 = W)
    case atStart => exact ⟨rfl, HW.out⟩
    case round =>
      obtain ⟨rfl, hw2⟩ := hrel
      go_wp2_with fail
      go_end0
      exact ⟨rfl, rfl⟩
set_option maxHeartbeats 2000000 in
theorem sortStable.zero (A : Option Addr) (c g : Nat) (cb : Array Value) (W : World) :
    Calls Tryd.prog 44 #[.slice A 0 c, .func (.func g) #[] cb] W fun e w' => e = .returned (.tuple #[]) ∧ w' = W := by
  go_enter Tryd.func44, Tryd.ntmps44
  go_wp2_with (go_at_call 55; refine (stable.zero A c g cb _).mono ?_; rintro e w' ⟨rfl, rfl⟩)
  go_end0
  exact ⟨rfl, rfl⟩
/-! the sort of a row of the call's own -/
theorem sortRow.calls (v : Value) (l : List S40) (w W : World) (hb : Below w.heap.size w W) (hR : k40.R 40 W w.heap.size (fun k => w.heap.size ≤ k) v l) (hl : l.length ≤ 40) :
    Calls Tryd.prog 44 #[v, .func (.func 45) #[] #[]] W fun e W' => e = .returned (.tuple #[]) ∧ k40.R 40 W' w.heap.size (fun k => w.heap.size ≤ k) v (sortC l) ∧ Below w.heap.size w W' := by
  by_cases hne : l = []
  · subst hne
    obtain ⟨A, c, rfl, _, _⟩ := Kd.R_reads hR
    refine (sortStable.zero A c _ _ W).mono ?_
    rintro e W' ⟨rfl, rfl⟩
    exact ⟨rfl, hR, hb⟩
  · obtain ⟨g, cap, cur, rfl, hok, hg, hh, hcap, hml, hsz, hc⟩ := R_flat flatC hR hne
    have hlen := tags_length 0 l
    have hts : (tags 0 l).toArray.size = l.length := by simpa using hlen
    have hH : HoldsK encT 9 W g 0 (tags 0 l).toArray := holdsK_of (fun _ => rfl) hh fun j x i u hx hu => by
      have h1 : (tags 0 l)[j]? = some x := by simpa using hx
      have h2 : l[j]? = some x.1 := by rw [← tags_fst 0 l, List.getElem?_map, h1]; rfl
      exact hc j x.1 i u h2 hu
    have R : RowK encT 9 W g 0 (tags 0 l).toArray := ⟨fun _ => rfl, fun x v hv => flatC.one x.1 v hv, hH, blk_lt hh⟩
    have hq := sortStable.calls encT (fun p q => cmpC p.1 q.1) 45 #[] g 0 cap (tags 0 l).toArray W (enters_of Tryd.func45 (by kernel_rfl) rfl) (closure_lays g 0 _ W) R _ W rfl (SWK.start hH) (by rw [hts]; exact hl)
    rw [hts] at hq
    refine hq.mono ?_
    rintro e W' ⟨rfl, m, os, rfl⟩
    have hst := stab_is_sel ltC_swo l hl
    rw [← ltC_eq] at hst
    have hsrt : ((stabS (ltOf fun p q : S40 × Nat => cmpC p.1 q.1) l.length (tags 0 l).toArray).toList).map Prod.fst = sortC l := by unfold sortC; rw [← ltC_eq]; exact hst
    obtain ⟨dF, eF⟩ : ∃ dF, stabS (ltOf fun p q : S40 × Nat => cmpC p.1 q.1) l.length (tags 0 l).toArray = dF := ⟨_, rfl⟩
    rw [eF] at hsrt ⊢
    have hdl : (sortC l).length = dF.size := by rw [← hsrt]; simp
    have hcl : (sortC l).length = l.length := (selS_perm ltC_swo default l.length l (Nat.le_refl _)).length_eq
    refine ⟨rfl, ?_, ((Keeps.of_below hb (fun _ => False)).then_ (sortK_keeps m os) (fun k hk => .inr (by rw [hk]; exact hg))).belowF⟩
    rw [← hcl]
    refine flat_R (cur := putCells id 0 (flatK encT 9 dF) cur) flatC hok hg (sortK_heap hh m os) (by rw [hcl]; exact hcap) hml (by simp [putCells]; exact hsz) fun j x i u hx hu => ?_
    rw [← hsrt, List.getElem?_map] at hx
    obtain ⟨p, hp, rfl⟩ := Option.map_eq_some_iff.1 hx
    exact putK_get (enc := encT) (k := 9) (dk := dF) (cap := cap) (x := p) (fun _ => rfl) (by rw [← hdl, hcl]; exact hcap) hsz (by simpa using hp) hu
set_option maxHeartbeats 2000000 in
theorem cred_Sorted.calls (A0 : Option Addr) (c0 : Nat) (l0 r : List S40) (w : World) (hr0 : Kd.C k40 w A0 l0.length l0) (hc0 : l0.length ≤ c0) (h : cred_Sorted.f l0 = some r) :
    Calls Tryd.prog 37 #[.slice A0 l0.length c0] w fun e w' => ∃ v0_ : Value, e = .returned v0_ ∧ Kd.R k40 40 w' w.heap.size (fun _ => True) v0_ r ∧ Below w.heap.size w w' := by
  unfold cred_Sorted.f at h
  by_cases hl : l0.length ≤ 40
  · rw [if_pos hl] at h
    obtain rfl := Option.some.inj h
    have HR := Aside0.mk hr0
    have HL := Aside0.mk hl
    clear hr0 h hl
    have hsort := fun v w1 hB hR => sortRow.calls v l0 w w1 hB hR HL.out
    obtain ⟨lS, eS⟩ : ∃ lS, sortC l0 = lS := ⟨_, rfl⟩
    rw [eS] at hsort ⊢
    have HSO := Aside0.mk hsort
    clear hsort eS
    go_enter Tryd.func37, Tryd.ntmps37
    go_wp2_with fail
    refine (CloneC.calls A0 c0 l0 _ HR.out (by have := HL.out; omega)).mono ?_
    rintro e w1 ⟨v, rfl, hR, hB⟩
    have HS := Aside0.mk (HSO.out v w1 hB hR)
    clear hR hB
    go_wp2_with fail
    refine HS.out.mono ?_
    rintro e w2 ⟨rfl, hR, hB⟩
    have HR2 := Aside0.mk hR
    have HB2 := Aside0.mk hB
    clear hR hB HS
    go_wp2_with fail
    go_ret
    exact ⟨v, rfl, Kd.R_mono HR2.out (fun _ _ => trivial), HB2.out⟩
  · rw [if_neg hl] at h
    cases h
end Go.Proofs.YtpdcmdofojckdaaDoor.P
