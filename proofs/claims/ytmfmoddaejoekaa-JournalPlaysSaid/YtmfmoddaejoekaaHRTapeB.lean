/- Texts of this claim, laid into one. -/
import Derived.Test.YtmfmoddaejoekaaHLaws17
section
/- Contracts, typed by hand: the document's tape: what it is; New, ready, Fuse, Done, Now. -/
set_option linter.unusedVariables false
set_option linter.unusedSimpArgs false
namespace Go.Proofs.Ytmfmoddaejoekaa.P
open Go.RowKit Go.Proofs.YtmfmoddaejoekaaW.PrintWords Go.Proofs.YtmfmoddaejoekaaW.PrintLast Go.Proofs.YtmfmoddaejoekaaW.PrintMore
attribute [local go_sem] max2_int min2_int max_two min_two
/-- Two rows in a literal. -/
theorem two_rows {W : World} {ok : Nat → Prop} {u0 u1 : Value} {l0 l1 : List Int} (h0 : (Kd.int .u8).R 5 W 0 ok u0 l0) (h1 : (Kd.int .u8).R 5 W 0 ok u1 l1) :
  (Kd.slice 5 (Kd.int .u8)).R 30 (W.alloc (.cells #[u0, u1] 30)) 0 (fun k => ok k ∨ W.heap.size ≤ k) (.slice (some ⟨W.heap.size, 0, none⟩) 2 2) [l0, l1] := by
 have hb : Below W.heap.size W (W.alloc (.cells #[u0, u1] 30)) := below_alloc (Below.refl _ _) _
 have move : ∀ {u : Value} {l : List Int}, (Kd.int .u8).R 5 W 0 ok u l → (Kd.int .u8).R 5 (W.alloc (.cells #[u0, u1] 30)) 0 (fun k => (ok k ∨ W.heap.size ≤ k) ∧ some k ≠ (Value.slice (some ⟨W.heap.size, 0, none⟩) 2 2).ownBlock) u l := fun h =>
  Kd.R_mono (Kd.R_below (Kd.R_bound h) hb) (fun k hk => ⟨.inl hk.1, fun he => by
   have h2 : k = W.heap.size := by
    simp only [Value.ownBlock] at he
    injection he
   have := hk.2.2.1
   omega⟩)
 refine ⟨fun k hk => .inr ?_, [u0, u1], ?_, rfl, fun j p hj => ?_⟩
 ·simp only [Value.ownBlock] at hk
  injection hk with hk
  omega
 ·have := World.ownsRow_lit (base := 0) (e := 30) (size := 1) W #[u0, u1] 2 (Nat.zero_le _) (by decide) rfl
  exact this
 ·match j, hj with
  | 0, hj => cases hj; exact ⟨u0, rfl, move h0⟩
  | 1, hj => cases hj; exact ⟨u1, rfl, move h1⟩
abbrev UnD (v : Value) (us : List Un) : Res := Res.row k89 89 v us
abbrev RTapeC (g : Nat) (v0 vu : Value) (a b : List Int) (us : List Un) (burns : Bool) (x : Int) : Res :=
 Res.obj g 82 [v0, vu, .bool burns, .int .i64 x] [RowL v0 [a, b], UnD vu us]
/-- The document's tape. -/
def RTape (g : Nat) (T : TM) : Res := Res.ex fun p : Value × Value => RTapeC g p.1 p.2 T.s0 T.s1 T.us T.burns T.left
theorem rtape_open {g : Nat} {T : TM} {ok : Nat → Prop} {W : World} (h : (RTape g T).P ok W) : ∃ v0 vu, (RTapeC g v0 vu T.s0 T.s1 T.us T.burns T.left).P ok W := by
 obtain ⟨p, h2⟩ := h
 exact ⟨_, _, h2⟩
theorem rtape_mk {g : Nat} {T : TM} {ok : Nat → Prop} {W : World} {v0 vu : Value} (h2 : (RTapeC g v0 vu T.s0 T.s1 T.us T.burns T.left).P ok W) : (RTape g T).P ok W := ⟨(v0, vu), h2⟩
theorem rtape_blk {g : Nat} {v0 vu : Value} {a b : List Int} {us : List Un} {burns : Bool} {x : Int} {ok : Nat → Prop} {W : World} (h : (RTapeC g v0 vu a b us burns x).P ok W) : W.heap[g]? = some (.cells #[v0, vu, .bool burns, .int .i64 x] 82 (0, 0)) := obj_blk h
theorem rtape_New.calls (W : World) :
  Calls Try.prog 18 #[] W fun e W' => ∃ g, e = .returned (.pointer (some ⟨g, 0, none⟩)) ∧ (RTape g TM.new).P (fun k => W.heap.size ≤ k) W' ∧ Below W.heap.size W W' := by
 go_enter Try.func18, Try.ntmps18
 go_wp2_with fail
 go_ret
 have hr := two_rows (W := W) (ok := fun _ => False) (Kd.R_nil (Kd.int .u8) 5 W 0 _) (Kd.R_nil (Kd.int .u8) 5 W 0 _)
 have hb : Below W.heap.size W (W.alloc (.cells #[.slice none 0 0, .slice none 0 0] 30)) := below_alloc (Below.refl _ _) _
 have hz : (W.alloc (.cells #[.slice none 0 0, .slice none 0 0] 30)).heap.size = W.heap.size + 1 := heap_size_alloc2 _ _
 refine ⟨W.heap.size + 1, by simp, rtape_mk (v0 := .slice (some ⟨W.heap.size, 0, none⟩) 2 2) (vu := .slice none 0 0) ⟨by omega, ?_, fun k => 0, fun i R hi => ?_⟩, below_alloc hb _⟩
 ·have := heap_alloc_new (W.alloc (.cells #[.slice none 0 0, .slice none 0 0] 30)) (.cells #[.slice (some ⟨W.heap.size, 0, none⟩) 2 2, .slice none 0 0, .bool false, .int .i64 0] 82)
  rw [hz] at this
  exact this
 ·match i, hi with
  | 0, hi =>
   cases hi
   refine Kd.R_mono (Kd.R_below (Kd.R_bound hr) (below_alloc (Below.refl _ _) _)) (fun k hk => ?_)
   have h1 := hk.2.2.1
   have h2 : W.heap.size ≤ k := hk.1.elim (fun h => h.elim) id
   rw [hz] at h1
   refine ⟨⟨h2, ?_⟩, by omega, rfl⟩
   rw [heap_size_alloc2, hz]
   omega
  | 1, hi => cases hi; exact Kd.R_nil _ _ _ _ _
set_option maxHeartbeats 2000000 in
theorem rtape_ready.calls (g : Nat) (T : TM) (i : Int) (W : World) (ok : Nat → Prop) (hP : (RTape g T).P ok W) :
  Calls Try.prog 50 #[.pointer (some ⟨g, 0, none⟩), .int .i64 i] W fun e W' => e = .returned (.int .i64 (T.ready i)) ∧ W = W' := by
 obtain ⟨v0, vu, hC⟩ := rtape_open hP
 obtain ⟨x0, x1, x2, x3, _⟩ := blk_all4 (rtape_blk hC)
 clear hP hC
 obtain ⟨bu, eb⟩ : ∃ bu, T.burns = bu := ⟨_, rfl⟩
 obtain ⟨x, ex⟩ : ∃ x, T.left = x := ⟨_, rfl⟩
 rw [eb] at x2
 rw [ex] at x3
 by_cases h1 : i < 0
 ·have b1 : decide (i < 0) = true := decide_eq_true h1
  have HR := Aside0.mk (show T.ready i = 1 by unfold TM.ready; rw [if_pos (.inl h1)])
  clear h1 eb ex
  go_enter Try.func50, Try.ntmps50
  go_wp2_with fail
  go_ret
  exact ⟨by rw [HR.out]; rfl, rfl⟩
 ·have b1 : decide (i < 0) = false := decide_eq_false h1
  by_cases h2 : 2 ≤ i
  ·have b2 : decide (i > 1) = true := decide_eq_true (by omega)
   have b3 : decide (1 < i) = true := decide_eq_true (by omega)
   have HR := Aside0.mk (show T.ready i = 1 by unfold TM.ready; rw [if_pos (.inr h2)])
   clear h1 h2 eb ex
   go_enter Try.func50, Try.ntmps50
   go_wp2_with fail
   go_ret
   exact ⟨by rw [HR.out]; rfl, rfl⟩
  ·have b2 : decide (i > 1) = false := decide_eq_false (by omega)
   have b3 : decide (1 < i) = false := decide_eq_false (by omega)
   cases bu with
   | false =>
    have HR := Aside0.mk (show T.ready i = 0 by unfold TM.ready; rw [if_neg (by omega), if_neg (by rw [eb]; simp)])
    clear h1 h2 eb ex
    go_enter Try.func50, Try.ntmps50
    go_wp2_with fail
    go_ret
    exact ⟨by rw [HR.out]; rfl, rfl⟩
   | true =>
    by_cases h0 : x = 0
    ·have HR := Aside0.mk (show T.ready i = 40 by unfold TM.ready; rw [if_neg (by omega), if_pos ⟨eb, by omega⟩])
     have b4 : (x == 0) = true := by simp [h0]
     clear h1 h2 eb ex h0
     go_enter Try.func50, Try.ntmps50
     go_wp2_with fail
     go_ret
     exact ⟨by rw [HR.out]; rfl, rfl⟩
    ·have HR := Aside0.mk (show T.ready i = 0 by unfold TM.ready; rw [if_neg (by omega), if_neg (by rw [ex]; exact fun hh => h0 hh.2)])
     have b4 : (x == 0) = false := by simp [h0]
     clear h1 h2 eb ex h0
     go_enter Try.func50, Try.ntmps50
     go_wp2_with fail
     go_ret
     exact ⟨by rw [HR.out]; rfl, rfl⟩
/-- The fuse's two cells are written. -/
theorem rtape_fused {g : Nat} {T : TM} {ok : Nat → Prop} {W : World} (h : (RTape g T).P ok W) (y : Int) : Turned ok W ((W.setCell ⟨g, 2, none⟩ (.bool true)).setCell ⟨g, 3, none⟩ (.int .i64 y)) (RTape g { T with burns := true, left := y }) := by
 obtain ⟨v0, vu, hC⟩ := rtape_open h
 have h1 := obj_set hC 2 (.bool true)
 have h2 := obj_set h1.1 3 (.int .i64 y)
 exact ⟨h1.2.then_ h2.2 (fun k hk => .inl hk), (RTape g _).mono (fun k hk => .inl hk) (rtape_mk (T := { T with burns := true, left := y }) h2.1)⟩
set_option maxHeartbeats 2000000 in
theorem rtape_Fuse.calls (g : Nat) (T : TM) (n : Int) (W : World) (ok : Nat → Prop) (hP : (RTape g T).P ok W) :
  Calls Try.prog 31 #[.pointer (some ⟨g, 0, none⟩), .int .i64 n] W fun e W' => e = .returned (.int .i64 (TM.fuseE n)) ∧ Turned ok W W' (RTape g (T.fuse n)) := by
 obtain ⟨v0, vu, hC⟩ := rtape_open hP
 obtain ⟨x0, x1, x2, x3, f0, f1, f2, f3⟩ := blk_all4 (rtape_blk hC)
 have HP := Aside0.mk hP
 clear hP hC
 by_cases h1 : n < 0
 ·have b1 : decide (n < 0) = true := decide_eq_true h1
  have HE := Aside0.mk (show TM.fuseE n = 1 by unfold TM.fuseE; rw [if_pos (.inl h1)])
  have HT := Aside0.mk (show T.fuse n = T by unfold TM.fuse; rw [if_neg (by rw [HE.out]; decide)])
  clear h1
  go_enter Try.func31, Try.ntmps31
  go_wp2_with fail
  go_ret
  exact ⟨by rw [HE.out]; rfl, by rw [HT.out]; exact Turned.refl HP.out⟩
 have b1 : decide (n < 0) = false := decide_eq_false h1
 by_cases h2 : 1099511627776 < n
 ·have b2 : decide (1099511627776 < n) = true := decide_eq_true h2
  have b3 : decide (n > 1099511627776) = true := decide_eq_true h2
  have HE := Aside0.mk (show TM.fuseE n = 1 by unfold TM.fuseE; rw [if_pos (.inr h2)])
  have HT := Aside0.mk (show T.fuse n = T by unfold TM.fuse; rw [if_neg (by rw [HE.out]; decide)])
  clear h1 h2
  go_enter Try.func31, Try.ntmps31
  go_wp2_with fail
  go_ret
  exact ⟨by rw [HE.out]; rfl, by rw [HT.out]; exact Turned.refl HP.out⟩
 have b2 : decide (1099511627776 < n) = false := decide_eq_false h2
 have b3 : decide (n > 1099511627776) = false := decide_eq_false h2
 have HE := Aside0.mk (show TM.fuseE n = 0 by unfold TM.fuseE; rw [if_neg (by omega)])
 obtain ⟨bu, eb⟩ : ∃ bu, T.burns = bu := ⟨_, rfl⟩
 obtain ⟨x, ex⟩ : ∃ x, T.left = x := ⟨_, rfl⟩
 rw [eb] at x2
 rw [ex] at x3
 cases bu with
 | false =>
  have HT := Aside0.mk (show T.fuse n = { T with burns := true, left := n } by unfold TM.fuse; rw [if_pos HE.out, if_neg (by rw [eb]; simp)])
  clear h1 h2 eb ex
  go_enter Try.func31, Try.ntmps31
  go_wp2_with fail
  go_ret
  exact ⟨by rw [HE.out]; rfl, by rw [HT.out]; exact rtape_fused HP.out n⟩
 | true =>
  by_cases h3 : x < n
  ·have HT := Aside0.mk (show T.fuse n = { T with burns := true, left := x } by unfold TM.fuse; rw [if_pos HE.out, if_pos ⟨eb, by omega⟩, ex])
   have b4 : decide (x < n) = true := decide_eq_true h3
   clear h1 h2 eb ex h3
   go_enter Try.func31, Try.ntmps31
   go_wp2_with fail
   go_ret
   exact ⟨by rw [HE.out]; rfl, by rw [HT.out]; exact rtape_fused HP.out x⟩
  ·have HT := Aside0.mk (show T.fuse n = { T with burns := true, left := n } by unfold TM.fuse; rw [if_pos HE.out, if_neg (by omega)])
   have b4 : decide (x < n) = false := decide_eq_false h3
   clear h1 h2 eb ex h3
   go_enter Try.func31, Try.ntmps31
   go_wp2_with fail
   go_ret
   exact ⟨by rw [HE.out]; rfl, by rw [HT.out]; exact rtape_fused HP.out n⟩
end Go.Proofs.Ytmfmoddaejoekaa.P
end
section
/- Contracts, typed by hand: the document's tape: Done, Now. -/
set_option linter.unusedVariables false
set_option linter.unusedSimpArgs false
namespace Go.Proofs.Ytmfmoddaejoekaa.P
open Go.RowKit Go.Proofs.YtmfmoddaejoekaaW.PrintWords Go.Proofs.YtmfmoddaejoekaaW.PrintLast Go.Proofs.YtmfmoddaejoekaaW.PrintMore
theorem sides_at (T : TM) (p : Nat) (hp : p < 2) : ([T.s0, T.s1] : List (List Int)).getD p [] = T.safe (p : Int) := by
 match p, hp with
 | 0, _ => rfl
 | 1, _ => rfl
/-- What a unit may be, of one side. -/
theorem legal_side {T : TM} {N : Nat} (hT : T.Ok N) (j : Nat) (hj : j < T.us.length) (p : Nat) (hp : p < 2) (u : Un) (hu : T.us.getD j z89 = u) :
  (afterU (T.safe p) p (T.us.take j)).length ≤ 65536 ∧ (u.f0 = (p : Int) → 0 ≤ u.f1 → u.f1 ≤ ((afterU (T.safe p) p (T.us.take j)).length : Int)) := by
 have h := legal_at hT.2.2 j hj
 have e : T.us.drop j = u :: T.us.drop (j + 1) := by
  rw [List.drop_eq_getElem_cons hj]
  congr 1
  rw [← hu, List.getD_eq_getElem?_getD, List.getElem?_eq_getElem hj]
  rfl
 rw [e] at h
 match p, hp with
 | 0, _ => exact ⟨h.1, fun h0 h1 => by have := h.2.2.2.1 h1; rw [if_pos (show u.f0 = 0 from h0)] at this; exact this⟩
 | 1, _ => exact ⟨h.2.1, fun h0 h1 => by have := h.2.2.2.1 h1; rw [if_neg (show ¬ u.f0 = 0 by rw [show u.f0 = 1 from h0]; decide)] at this; exact this⟩
set_option maxHeartbeats 8000000 in
set_option maxRecDepth 100000 in
theorem rtape_Done.calls (g : Nat) (T : TM) (N : Nat) (hT : T.Ok N) (hN : N ≤ 1000000000) (p n : Nat) (hp : p < 2) (hn : n ≤ T.us.length) (W : World) (ok : Nat → Prop) (hP : (RTape g T).P ok W) :
  Calls Try.prog 62 #[.pointer (some ⟨g, 0, none⟩), .int .i64 (p : Int), .int .i64 (n : Int)] W fun e W' => ∃ v, e = .returned v ∧ (Kd.int .u8).R 5 W' 0 (fun k => W.heap.size ≤ k) v (afterU (T.safe p) p (T.us.take n)) ∧ Below W.heap.size W W' := by
 obtain ⟨v0, vu, hC⟩ := rtape_open hP
 obtain ⟨ok0, hS0, _⟩ := obj_get hC 0 rfl
 obtain ⟨oku, hU0, _⟩ := obj_get hC 1 rfl
 obtain ⟨A0, c0, ev0⟩ := Kd.R_slice (show (Kd.slice 5 (Kd.int .u8)).R 30 W 0 ok0 v0 [T.s0, T.s1] from hS0)
 subst ev0
 obtain ⟨Au, cu, evu⟩ := Kd.R_slice (show (k89).R 89 W 0 oku vu T.us from hU0)
 subst evu
 have HS := Aside0.mk (Kd.R_reads' (show (Kd.slice 5 (Kd.int .u8)).R 30 W 0 ok0 (.slice A0 2 c0) [T.s0, T.s1] from hS0)).2.2
 have HU := Aside0.mk (Kd.R_reads' (show (k89).R 89 W 0 oku (.slice Au T.us.length cu) T.us from hU0)).2.2
 have HG := Aside0.mk (rtape_blk hC)
 have HT := Aside0.mk hT
 have hul : T.us.length ≤ 1000000000 := Nat.le_trans hT.2.1 hN
 obtain ⟨x0, x1, x2, x3, _⟩ := blk_all4 HG.out
 obtain ⟨ad, B, cb, eA, hcell, hcb, hCB⟩ := at_slice HS.out p hp
 subst eA
 rw [sides_at T p hp] at hcell hcb hCB
 have HSL := Aside0.mk (show (T.safe p).length ≤ 65536 from by
  have := legal_len hT.2.2
  match p, hp with
  | 0, _ => exact this.1
  | 1, _ => exact this.2)
 obtain ⟨s, es⟩ : ∃ s, T.safe p = s := ⟨_, rfl⟩
 rw [es] at hcell hcb hCB HSL ⊢
 have HES := Aside0.mk es
 have HCB := Aside0.mk hCB
 have hpi : (p : Int) < 2 := by omega
 clear hP hC hS0 hU0 hT hCB es
 go_enter Try.func62, Try.ntmps62
 go_wp2_with (at_builtin; refine app_int (k := .u8) rfl (.tmp 10) (.tmp 17) 30 5 1 rfl Try.underlying30 hinfoB (by decide) (.slice none 0 0) [] s B s.length cb (fun k => W.heap.size ≤ k) rfl rfl (Kd.R_nil _ _ _ _ _) HCB.out (by have := HSL.out; simp; omega) ?_)
 intro v7 w7 hR7 hg7
 have hR7' := Kd.R_mono (ok' := fun k => W.heap.size ≤ k) hR7 (fun k hk => hk)
 have HR7 := Aside0.mk (show (Kd.int .u8).R 5 w7 0 (fun k => W.heap.size ≤ k) v7 (afterU s p (T.us.take 0)) from hR7')
 have HB7 := Aside0.mk (show Below W.heap.size W w7 from (Keeps.of_grown hg7).below (fun k _ hk => by simp [Value.ownBlock] at hk))
 clear hR7 hR7' hg7 hcell hcb x0 x1 x2 x3 HCB HS
 go_wp2_with fail
 go_loopw [7, 8] (fun s7 s8 wr => ∃ j : Nat, j ≤ n ∧ s8 = .int .i64 (j : Int) ∧ Aside0 ((Kd.int .u8).R 5 wr 0 (fun k => W.heap.size ≤ k) s7 (afterU s p (T.us.take j))) ∧ Aside0 (Below W.heap.size W wr)) (fun _ s8 _ => (n + 1 - (intOf s8).toNat))
 case atStart => exact ⟨0, Nat.zero_le _, rfl, HR7, HB7⟩
 case round =>
  obtain ⟨j, hj, rfl, HRJ, HBJ⟩ := hrel
  clear HR7 HB7
  by_cases hjn : j < n
  ·have b1 : decide ((j : Int) < (n : Int)) = true := decide_eq_true (by omega)
   obtain ⟨adu, eAu, hc0, hc1, hc2⟩ := at_T89 (Kd.C_below HU.out HBJ.out) (j : Int) (by omega) (by omega)
   subst eAu
   rw [Int.toNat_natCast] at hc0 hc1 hc2
   obtain ⟨u, eu⟩ : ∃ u, rd_T89 T.us (j : Int) = u := ⟨_, rfl⟩
   have hug : T.us.getD j z89 = u := by rw [← eu]; show _ = T.us.getD (j : Int).toNat _; rw [Int.toNat_natCast]
   have hleg := legal_side HT.out j (by omega) p hp u hug
   have hstep := afterU_take (T.safe p) (p : Int) T.us j z89 (by omega)
   rw [hug] at hstep
   rw [HES.out] at hleg hstep
   rw [eu] at hc0 hc1 hc2
   obtain ⟨l, el⟩ : ∃ l, afterU s p (T.us.take j) = l := ⟨_, rfl⟩
   rw [el] at HRJ hleg hstep
   obtain ⟨Al, cl, evl⟩ := Kd.R_slice HRJ.out
   subst evl
   have hlc := (Kd.R_reads' HRJ.out).2.1
   have HL := Aside0.mk hleg
   have HNX := Aside0.mk hstep
   obtain ⟨y0, y1, y2, y3, _⟩ := blk_all4 (blk_below HG.out HBJ.out)
   obtain ⟨u0, u1, u2, e0, e1, e2⟩ : ∃ u0 u1 u2, u.f0 = u0 ∧ u.f1 = u1 ∧ u.f2 = u2 := ⟨_, _, _, rfl, rfl, rfl⟩
   rw [e0] at hc0
   rw [e1] at hc1
   rw [e2] at hc2
   have HUN := Aside0.mk (show unit1 l p u = if u0 = (p : Int) then (if 0 ≤ u1 then l.take u1.toNat else l ++ [u2]) else l by unfold unit1; rw [e0, e1, e2])
   have HLL := Aside0.mk hleg.1
   have HLC := Aside0.mk (show u0 = (p : Int) → 0 ≤ u1 → u1 ≤ (l.length : Int) by rw [← e0, ← e1]; exact hleg.2)
   have HBX := Aside0.mk (below_step HBJ.out (below_alloc (Below.refl wr.heap.size wr) (.cells #[.int .i64 u0, .int .i64 u1, .int .u8 u2] 89)))
   have HRX := Aside0.mk (Kd.R_below HRJ.out (below_alloc (Below.refl wr.heap.size wr) (.cells #[.int .i64 u0, .int .i64 u1, .int .u8 u2] 89)))
   clear hug hleg hstep eu el e0 e1 e2 HL HRJ HBJ
   by_cases h0 : u0 = (p : Int)
   ·have b2 : (u0 != (p : Int)) = false := by simpa using h0
    by_cases h1 : 0 ≤ u1
    ·obtain ⟨m, em⟩ : ∃ m : Nat, u1 = (m : Int) := ⟨u1.toNat, by omega⟩
     have hm : m ≤ l.length := by have := HLC.out h0 h1; omega
     have HF := Aside0.mk (show unit1 l p u = l.take m by rw [HUN.out, if_pos h0, if_pos h1, em, Int.toNat_natCast])
     subst em
     have b3 : decide ((m : Int) ≥ 0) = true := decide_eq_true (by omega)
     have b4 : decide ((0 : Int) ≤ (m : Int)) = true := decide_eq_true (by omega)
     have hcut := hcutB Al l.length cl m hm hlc
     clear h0 h1 HUN HLC
     go_wp2_with fail
     go_roundw
     case rel => exact ⟨j + 1, by omega, by simp, ⟨by rw [HNX.out, HF.out]; exact Kd.R_take HRX.out hm⟩, HBX⟩
     case measure => simp [intOf]; omega
    ·have HF := Aside0.mk (show unit1 l p u = l ++ [u2] by rw [HUN.out, if_pos h0, if_neg h1])
     have b3 : decide (u1 ≥ 0) = false := decide_eq_false (by omega)
     have b4 : decide ((0 : Int) ≤ u1) = false := decide_eq_false (by omega)
     clear h0 h1 HUN HLC
     go_wp2_with (at_builtin; refine Kd.R_append (Kd.int .u8) (w0 := wr.alloc (.cells #[.int .i64 u0, .int .i64 u1, .int .u8 u2] 89)) 0 rfl (.tmp 42) (.tmp 45) 30 5 (.int .u8 0) 1 rfl Try.underlying30 hinfoB rfl (by decide) (by decide) (.slice Al l.length cl) l u2 [.int .u8 u2] (fun k => W.heap.size ≤ k) (fun _ => False) rfl (by rw [heap_size_alloc2]; rfl) ?aM ?aK ?aF HRX.out (Below.refl _ _) (Nat.zero_le _) ?aL ?_)
     case aM => exact rfl
     case aK => exact fun k hk => hk.elim
     case aF => exact fun k hk => Nat.le_trans HBX.out.size hk
     case aL => have := HLL.out; omega
     intro v9 w9 hR9 _ hg9 hat9
     have HB9 := Aside0.mk (show Below W.heap.size W w9 from ((Keeps.of_below HBX.out (fun k => W.heap.size ≤ k)).grown hg9 (fun k hk => .inl (HRX.out.1 k hk))).below (fun k hk h => absurd h (Nat.not_le.2 hk)))
     have HR9 := Aside0.mk hR9
     clear hR9 hg9 hat9 HBX HRX
     go_wp2_with fail
     go_roundw
     case rel => exact ⟨j + 1, by omega, by simp, ⟨by rw [HNX.out, HF.out]; exact HR9.out⟩, HB9⟩
     case measure => simp [intOf]; omega
   ·have HF := Aside0.mk (show unit1 l p u = l by rw [HUN.out, if_neg h0])
    have b2 : (u0 != (p : Int)) = true := by simpa using h0
    clear h0 HUN HLC
    go_wp2_with fail
    go_roundw
    case rel => exact ⟨j + 1, by omega, by simp, ⟨by rw [HNX.out, HF.out]; exact HRX.out⟩, HBX⟩
    case measure => simp [intOf]; omega
  ·have ejn : n = j := by omega
   subst ejn
   have b1 : decide ((n : Int) < (n : Int)) = false := decide_eq_false (by omega)
   go_wp2_with fail
   go_ret
   exact ⟨_, rfl, HRJ.out, HBJ.out⟩
theorem rtape_Now.calls (g : Nat) (T : TM) (N : Nat) (hT : T.Ok N) (hN : N ≤ 1000000000) (p : Nat) (hp : p < 2) (W : World) (ok : Nat → Prop) (hP : (RTape g T).P ok W) :
  Calls Try.prog 51 #[.pointer (some ⟨g, 0, none⟩), .int .i64 (p : Int)] W fun e W' => ∃ v, e = .returned v ∧ (Kd.int .u8).R 5 W' 0 (fun k => W.heap.size ≤ k) v (T.now p) ∧ Below W.heap.size W W' := by
 obtain ⟨v0, vu, hC⟩ := rtape_open hP
 obtain ⟨oku, hU0, _⟩ := obj_get hC 1 rfl
 obtain ⟨Au, cu, evu⟩ := Kd.R_slice (show (k89).R 89 W 0 oku vu T.us from hU0)
 subst evu
 obtain ⟨x0, x1, x2, x3, _⟩ := blk_all4 (rtape_blk hC)
 have HP := Aside0.mk hP
 have HT := Aside0.mk hT
 clear hC hU0 hP hT
 go_enter Try.func51, Try.ntmps51
 go_wp2_with fail
 refine (rtape_Done.calls g T N HT.out hN p T.us.length hp (Nat.le_refl _) W ok HP.out).mono ?_
 rintro e w7 ⟨v7, rfl, hR7, hB7⟩
 rw [List.take_length] at hR7
 have HR7 := Aside0.mk hR7
 have HB7 := Aside0.mk hB7
 clear hR7 hB7
 go_wp2_with fail
 go_ret
 exact ⟨_, rfl, HR7.out, HB7.out⟩
end Go.Proofs.Ytmfmoddaejoekaa.P
end
