/- Contracts, typed by hand and by a program: a side is read. -/
import Derived.Test.YtmfmoddaejoekaaHCount
import Derived.Test.YtmfmoddaejoekaaHFew
import Derived.Test.YtmfmoddaejoekaaHFrame
set_option linter.unusedVariables false
set_option linter.unusedSimpArgs false
namespace Go.Proofs.Ytmfmoddaejoekaa.P
open Go.RowKit Go.Proofs.YtmfmoddaejoekaaW.PrintWords Go.Proofs.YtmfmoddaejoekaaW.PrintLast Go.Proofs.YtmfmoddaejoekaaW.PrintMore
theorem results_cell_row2 {P : Program} {fn : Func} {p u : Tmp} {ty : TypeId} (h : fn.results = #[.cell p ty, .tmp u]) (tmps : Array Value) (w : World) (g : Nat) (t : TypeId) (cs : Array Value) (fr : Nat × Nat) (d : TypeDesc)
  (hp : tmps.getD p undef = .pointer (some ⟨g, 0, none⟩)) (hg : w.heap[g]? = some (.cells cs t fr))
  (hu : P.underlying ty = some d) (hd : (match d with | .struct _ | .array _ _ => true | _ => false) = true) (hi : (P.info? ty).map (·.size) = some cs.size) :
  (results fn tmps).run P w = .ok (.tuple #[.agg cs, tmps.getD u undef]) w := by
 rw [results_cell_tmp h, hp]
 simp [asAddr, run_loadVar_row w g t ty cs fr d hg hu hd hi, Result.andThen]
theorem nextJ_cases (b : List Int) : (b.length = 0 ∧ nextJ b = 0) ∨ (0 < b.length ∧ b.length < 2 ∧ nextJ b = 1) ∨ (2 ≤ b.length ∧ (nJ b < 1 ∨ 8192 < nJ b) ∧ nextJ b = 2) ∨ (2 ≤ b.length ∧ 1 ≤ nJ b ∧ nJ b ≤ 8192 ∧ b.length < nJ b + 4 ∧ nextJ b = 1) ∨
  (1 ≤ nJ b ∧ nJ b ≤ 8192 ∧ nJ b + 4 ≤ b.length ∧ (b.take (nJ b + 4)).drop (nJ b + 2) ≠ putM (sumM (b.take (nJ b + 2))) ∧ nextJ b = 2) ∨ (1 ≤ nJ b ∧ nJ b ≤ 8192 ∧ nJ b + 4 ≤ b.length ∧ (b.take (nJ b + 4)).drop (nJ b + 2) = putM (sumM (b.take (nJ b + 2))) ∧ nextJ b = 3) := by
 unfold nextJ
 by_cases h1 : b.length = 0
 ·exact .inl ⟨h1, if_pos h1⟩
 rw [if_neg h1]
 by_cases h2 : b.length < 2
 ·exact .inr (.inl ⟨by omega, h2, if_pos h2⟩)
 rw [if_neg h2]
 by_cases h3 : nJ b < 1 ∨ 8192 < nJ b
 ·exact .inr (.inr (.inl ⟨by omega, h3, if_pos h3⟩))
 rw [if_neg h3]
 by_cases h4 : b.length < nJ b + 4
 ·exact .inr (.inr (.inr (.inl ⟨by omega, by omega, by omega, h4, if_pos h4⟩)))
 rw [if_neg h4]
 by_cases h5 : (b.take (nJ b + 4)).drop (nJ b + 2) = putM (sumM (b.take (nJ b + 2)))
 ·exact .inr (.inr (.inr (.inr (.inr ⟨by omega, by omega, by omega, h5, if_pos h5⟩))))
 ·exact .inr (.inr (.inr (.inr (.inl ⟨by omega, by omega, by omega, h5, if_neg h5⟩))))
theorem hcut_mid (lo hi : Nat) (A : Option Addr) (n c : Nat) (h0 : lo ≤ hi) (h : hi ≤ n) (hc : n ≤ c) : ∀ W : World, (Instr.slice 30 (.slice A n c) (some (.int .i64 (lo : Int))) (some (.int .i64 (hi : Int))) none).run Try.prog W = .ok (.slice (if c = lo then A else A.map (·.add (lo * 1))) (hi - lo) (c - lo)) W := by
 obtain ⟨i0, hi0, _, hs, _⟩ := info_parts hinfo5
 have := cut_mid (P := Try.prog) 30 5 .i64 .i64 Try.underlying30 hi0 1 hs A n c (lo : Int) (hi : Int) (by omega) (by omega) (by omega) hc
 simpa using this
theorem C_take' {w : World} {A : Option Addr} {l : List Int} {m : Nat} (h : Kd.C (Kd.int .u8) w A l.length l) (hm : m ≤ l.length) : Kd.C (Kd.int .u8) w A (l.take m).length (l.take m) := by
 exact Kd.C_take h hm
theorem C_mid' {w : World} {A : Option Addr} {l : List Int} {lo hi c : Nat} (h : Kd.C (Kd.int .u8) w A l.length l) (h0 : lo ≤ hi) (h1 : hi ≤ l.length) (hc : l.length ≤ c) : Kd.C (Kd.int .u8) w (if c = lo then A else A.map (·.add (lo * 1))) ((l.take hi).drop lo).length ((l.take hi).drop lo) :=
 drop_C (C_take' h h1) (by rw [List.length_take]; omega) (by rw [List.length_take]; omega)
theorem w64n (n : Nat) (d : Int) (h : n ≤ 8192) (hd : 0 ≤ d ∧ d ≤ 100) : wrap64 ((n : Int) + d) = (n : Int) + d := by unfold wrap64; omega
theorem w64s (s n : Nat) {m : Nat} (h : s + (n + 4) ≤ m) (hm : m ≤ 65536) : wrap64 ((s : Int) + ((n : Int) + 4)) = (s : Int) + ((n : Int) + 4) := by unfold wrap64; omega
theorem pq_le {W wr w1 : World} {o1 o2 : Obj} {k : Nat} (h1 : wr.heap[W.heap.size]? = some o1) (h2 : wr.heap[W.heap.size + 1]? = some o2) (hs : wr.heap.size ≤ w1.heap.size) (hk : w1.heap.size ≤ k) : W.heap.size + 2 ≤ k := by
 have := blk_lt h2
 omega
theorem callsClone {A : Option Addr} {c n : Nat} {l : List Int} {W : World} (e : l.length = n) (hC : Kd.C (Kd.int .u8) W A l.length l) (hl : n + 2 ≤ 1000000) :
  Calls Try.prog 42 #[.slice A n c] W fun e W' => ∃ v : Value, e = .returned v ∧ (Kd.int .u8).R 5 W' 0 (fun k => W.heap.size ≤ k) v l ∧ Below W.heap.size W W' := by
 subst e
 exact Clone8.calls A c l W hC (by omega)
theorem callsSum {A : Option Addr} {c n : Nat} {l : List Int} {W : World} (e : l.length = n) (hC : Kd.C (Kd.int .u8) W A l.length l) (hl : n ≤ 1000000) :
  Calls Try.prog 65 #[.slice A n c] W fun e W' => e = .returned (.int .i64 (sumM l)) ∧ W = W' := by
 subst e
 exact sums_Sum.calls A c l W hC hl
theorem equal2 (a b : Int) (l : List Int) (h : l.length = 2) : slices_Equal_byte_byte.f 4 [a, b] l = some (decide ([a, b] = l)) := by
 match l, h with
 | [x, y], _ =>
  by_cases h1 : a = x <;> by_cases h2 : b = y <;> simp [slices_Equal_byte_byte.f, slices_Equal_byte_byte.l0, rd, wrap64, h1, h2]
theorem callsEqual {A8 A2 : Option Addr} {c8 n2 c2 : Nat} {s : Int} {l : List Int} {W : World} (h8 : (putM s).length ≤ c8) (hC8 : Kd.C (Kd.int .u8) W A8 (putM s).length (putM s)) (e : l.length = n2) (h2 : n2 ≤ c2) (hC2 : Kd.C (Kd.int .u8) W A2 l.length l) (hn2 : n2 = 2 := by rfl) :
  Calls Try.prog 63 #[.slice A8 2 c8, .slice A2 n2 c2] W fun e w' => e = .returned (.bool (decide (putM s = l))) ∧ Drawn0 W w' := by
 subst e
 exact slices_Equal_byte_byte.calls 4 A8 c8 (putM s) A2 c2 l (decide (putM s = l)) W hC8 h8 hC2 h2 (equal2 _ _ l hn2)
/-- What the loop of 'parse' has reached. -/
structure Prs (W : World) (b : List Int) (wr : World) (A1 : Option Addr) (c1 : Nat) (L : List (List Int)) (s : Nat) : Prop where
 bel : Below W.heap.size W wr
 zero : wr.heap[W.heap.size]? = some (.cells #[.slice none 0 0, .int .i64 0, .bool false, .int .i64 0] 64 (0, 0))
 box : wr.heap[W.heap.size + 1]? = some (.cells #[.slice A1 L.length c1, .int .i64 (s : Int), .bool false, .int .i64 0] 64 (0, 0))
 row : (Kd.slice 5 (Kd.int .u8)).R 30 wr 0 (fun k => W.heap.size + 2 ≤ k) (.slice A1 L.length c1) L
 len : s ≤ b.length
 rows : L.length ≤ s
 recs : ∀ r ∈ L, okB r = true ∧ r.length ≤ 8192
 all : readA b = glue L s (readA (b.drop s))
theorem boxes2 (W : World) (o1 o2 : Obj) : ((W.alloc o1).alloc o2).heap[W.heap.size]? = some o1 ∧ ((W.alloc o1).alloc o2).heap[W.heap.size + 1]? = some o2 := by
 refine ⟨blk_alloc (heap_alloc_new W o1) o2, ?_⟩
 have := heap_alloc_new (W.alloc o1) o2
 rwa [heap_size_alloc2] at this
set_option maxHeartbeats 8000000 in
set_option maxRecDepth 100000 in
theorem journal_parse.calls (A : Option Addr) (c : Nat) (b : List Int) (W : World) (hC : Kd.C (Kd.int .u8) W A b.length b) (hc : b.length ≤ c) (hb : okB b = true) (hl : b.length ≤ 65536) :
  Calls Try.prog 34 #[.slice A b.length c] W fun e W' => ∃ v, e = .returned (.tuple #[.agg #[v, .int .i64 (sideM b).2.1, .bool (sideM b).2.2.1, .int .i64 (sideM b).2.2.2.1], .bool (sideM b).2.2.2.2]) ∧ (Kd.slice 5 (Kd.int .u8)).R 30 W' 0 (fun k => W.heap.size ≤ k) v (sideM b).1 ∧ Below W.heap.size W W' := by
 have HC := Aside0.mk hC
 have HOK := Aside0.mk hb
 clear hC hb
 have hu64 := Try.underlying64
 go_enter Try.func34, Try.ntmps34
 go_wp2_with fail
 go_step3
 go_wp2_with fail
 go_step3
 go_wp2_with fail
 go_loopw [] (fun wr => ∃ A1 c1 L s, Aside0 (Prs W b wr A1 c1 L s)) (fun w' => b.length - (intOf ((w'.cell? ⟨W.heap.size + 1, 1, none⟩).getD undef)).toNat)
 case atStart =>
  refine ⟨none, 0, [], 0, ⟨⟨below_alloc (below_alloc (Below.refl _ _) _) _, (boxes2 W _ _).1, (boxes2 W _ _).2, Kd.R_nil _ _ _ _ _, Nat.zero_le _, Nat.le_refl _, by simp, ?_⟩⟩⟩
  rw [List.drop_zero, glue_zero]
 case round =>
  obtain ⟨A1, c1, L, s, HP⟩ := hrel
  have HB := Aside0.mk HP.out.bel
  have HZ := Aside0.mk HP.out.zero
  have HG := Aside0.mk HP.out.box
  have HRW := Aside0.mk HP.out.row
  have HLK := Aside0.mk HP.out.recs
  have hsl := HP.out.len
  have hLs := HP.out.rows
  have HALL := Aside0.mk HP.out.all
  have HLN := Aside0.mk (show L.length ≤ 1000000 by omega)
  have HX1 := Aside0.mk (show wr.cell? ⟨W.heap.size + 1, 1, none⟩ = some (.int .i64 (s : Int)) by rw [blk_cell HG.out]; rfl)
  clear HP
  obtain ⟨x0, x1, x2, x3, f0, f1, f2, f3⟩ := blk_all4 HG.out
  have hcs : s ≤ c := Nat.le_trans hsl hc
  obtain ⟨l, el⟩ : ∃ l, b.drop s = l := ⟨_, rfl⟩
  have hll : b.length - s = l.length := by rw [← el, List.length_drop]
  have HLB := Aside0.mk (show okB l = true by rw [← el]; exact okB_drop HOK.out s)
  have HCL := Aside0.mk (show Kd.C (Kd.int .u8) wr (if c = s then A else A.map (·.add (s * 1))) l.length l by rw [← el]; exact drop_C (Kd.C_below HC.out HB.out) hsl hc)
  have hcf := hcut_from s A b.length c hsl
  rw [hll] at hcf
  rw [el] at HALL
  obtain ⟨Al, eAl⟩ : ∃ x, (if c = s then A else A.map (·.add (s * 1))) = x := ⟨_, rfl⟩
  rw [eAl] at hcf HCL
  clear eAl
  have hlen : s + l.length = b.length := by omega
  have hcl : l.length ≤ c - s := by omega
  rcases nextJ_cases l with ⟨h0, hn⟩ | ⟨h0, h1, hn⟩ | ⟨h0, h1, hn⟩ | ⟨h0, h1, h2, h3, hn⟩ | ⟨h1, h2, h3, h4, hn⟩ | ⟨h1, h2, h3, h4, hn⟩
  ·have b1 : decide ((s : Int) < (b.length : Int)) = false := decide_eq_false (by omega)
   have b1n : decide (s < b.length) = false := decide_eq_false (by omega)
   have HEND := Aside0.mk (show readA b = (L, s, 0) by rw [HALL.out, ← el, glue_stop L s b (by rw [el, hn]; decide), el, hn])
   clear h0 hn HALL HLB HCL hcf hll hsl hLs hlen hcl hcs el
   go_wp2_with fail
   refine (side_count.calls (W.heap.size + 1) A1 c1 L (s : Int) false wr HG.out (Kd.R_reads' HRW.out).2.2 HLK.out HLN.out).mono ?_
   rintro e w2 ⟨rfl, hk2, hg2⟩
   have HK2 := Aside0.mk hk2
   have HG2 := Aside0.mk hg2
   have HZ2 := Aside0.mk ((hk2.block _ (blk_lt HZ.out) (by omega)).trans HZ.out)
   have HRW2 := Aside0.mk (Kd.R_step HRW.out (fun k hk hlt => hk2.block k hlt (by omega)))
   have HB2 := Aside0.mk ((Keeps.of_below HB.out (fun _ => False)).then_ hk2 (fun k hk => .inr (by omega))).belowF
   obtain ⟨y0, y1, y2, y3, p0, p1, p2, p3⟩ := blk_all4 hg2
   obtain ⟨z0, z1, z2, z3, q0, q1, q2, q3⟩ := blk_all4 HZ2.out
   obtain ⟨gn, egn⟩ : ∃ x, (countM L).2 = x := ⟨_, rfl⟩
   obtain ⟨ri, eri⟩ : ∃ x, (countM L).1 = x := ⟨_, rfl⟩
   have HSM := Aside0.mk (show sideM b = (L, (s : Int), false, gn, ri) by
    unfold sideM
    rw [HEND.out, if_neg (by simp)]
    simp [egn, eri])
   rw [egn] at y3 HG2
   rw [eri]
   clear hk2 hg2 egn eri
   go_wp2_with fail
   (try rw [Exit.noGoto_ret])
   (try simp only [Exit.inBlock, Exit.then])
   refine bodyPost_ret (results_cell_row2 rfl _ _ W.heap.size 64 #[.slice A1 L.length c1, .int .i64 (s : Int), .bool false, .int .i64 gn] (0, 0) _ rfl (by
    refine blk_put (cs := #[.slice A1 L.length c1, .int .i64 (s : Int), .bool false, .int .i64 0]) ?_ _ _ rfl
    refine blk_put (cs := #[.slice A1 L.length c1, .int .i64 (s : Int), .bool false, .int .i64 0]) ?_ _ _ rfl
    refine blk_put (cs := #[.slice A1 L.length c1, .int .i64 0, .bool false, .int .i64 0]) ?_ _ _ rfl
    refine blk_put (cs := #[.slice none 0 0, .int .i64 0, .bool false, .int .i64 0]) ?_ _ _ rfl
    exact HZ2.out) hu64 rfl (by kernel_rfl)) rfl ?_
   rw [HSM.out]
   have k0 := Keeps.of_below HB2.out (fun _ => False)
   have k1 := k0.set (p := ⟨W.heap.size, 0, none⟩) (.inr (Nat.le_refl _)) (.slice A1 L.length c1)
   have k2 := k1.set (p := ⟨W.heap.size, 1, none⟩) (.inr (Nat.le_refl _)) (.int .i64 (s : Int))
   have k3 := k2.set (p := ⟨W.heap.size, 2, none⟩) (.inr (Nat.le_refl _)) (.bool false)
   have k4 := k3.set (p := ⟨W.heap.size, 3, none⟩) (.inr (Nat.le_refl _)) (.int .i64 gn)
   have hne : ∀ k, W.heap.size + 2 ≤ k → k ≠ W.heap.size := fun k hk he => by omega
   have r1 := Kd.R_far HRW2.out (p := ⟨W.heap.size, 0, none⟩) hne (.slice A1 L.length c1)
   have r2 := Kd.R_far r1 (p := ⟨W.heap.size, 1, none⟩) hne (.int .i64 (s : Int))
   have r3 := Kd.R_far r2 (p := ⟨W.heap.size, 2, none⟩) hne (.bool false)
   have r4 := Kd.R_far r3 (p := ⟨W.heap.size, 3, none⟩) hne (.int .i64 gn)
   exact ⟨_, rfl, Kd.R_mono r4 (fun k hk => by omega), k4.belowF⟩

  ·have b1 : decide ((s : Int) < (b.length : Int)) = true := decide_eq_true (by omega)
   have b1n : decide (s < b.length) = true := decide_eq_true (by omega)
   have b2 : decide ((l.length : Int) < 2) = true := decide_eq_true (by omega)
   have b2n : decide (l.length < 2) = true := decide_eq_true (by omega)
   have HEND := Aside0.mk (show readA b = (L, s, 1) by rw [HALL.out, ← el, glue_stop L s b (by rw [el, hn]; decide), el, hn])
   clear h0 h1 hn HALL HLB HCL hll hsl hLs hlen hcl hcs el
   go_wp2_with fail
   obtain ⟨wT, eT⟩ : ∃ wT, wT = wr.setCell ⟨W.heap.size + 1, 2, none⟩ (.bool true) := ⟨_, rfl⟩
   have HGT := Aside0.mk (show wT.heap[W.heap.size + 1]? = some (.cells #[.slice A1 L.length c1, .int .i64 (s : Int), .bool true, .int .i64 0] 64 (0, 0)) by rw [eT]; exact blk_put HG.out 2 _ rfl)
   have HZT := Aside0.mk (show wT.heap[W.heap.size]? = some (.cells #[.slice none 0 0, .int .i64 0, .bool false, .int .i64 0] 64 (0, 0)) by rw [eT]; exact (Below.heap_setCell wr _ _ _ (by show W.heap.size ≠ W.heap.size + 1; omega)).trans HZ.out)
   have HBT := Aside0.mk (show Below W.heap.size W wT by rw [eT]; exact (Keeps.set (S := fun _ => False) (Keeps.of_below HB.out _) (p := ⟨W.heap.size + 1, 2, none⟩) (.inr (by show W.heap.size ≤ W.heap.size + 1; omega)) _).belowF)
   have HRWT := Aside0.mk (show (Kd.slice 5 (Kd.int .u8)).R 30 wT 0 (fun k => W.heap.size + 2 ≤ k) (.slice A1 L.length c1) L by rw [eT]; exact Kd.R_far HRW.out (p := ⟨W.heap.size + 1, 2, none⟩) (fun k hk he => by have he' : k = W.heap.size + 1 := he; omega) _)
   rw [← eT]
   clear eT x0 x1 x2 x3 f0 f1 f2 f3
   refine (side_count.calls (W.heap.size + 1) A1 c1 L (s : Int) true wT HGT.out (Kd.R_reads' HRWT.out).2.2 HLK.out HLN.out).mono ?_
   rintro e w2 ⟨rfl, hk2, hg2⟩
   have HK2 := Aside0.mk hk2
   have HG2 := Aside0.mk hg2
   have HZ2 := Aside0.mk ((hk2.block _ (blk_lt HZT.out) (by omega)).trans HZT.out)
   have HRW2 := Aside0.mk (Kd.R_step HRWT.out (fun k hk hlt => hk2.block k hlt (by omega)))
   have HB2 := Aside0.mk ((Keeps.of_below HBT.out (fun _ => False)).then_ hk2 (fun k hk => .inr (by omega))).belowF
   obtain ⟨y0, y1, y2, y3, p0, p1, p2, p3⟩ := blk_all4 hg2
   obtain ⟨z0, z1, z2, z3, q0, q1, q2, q3⟩ := blk_all4 HZ2.out
   obtain ⟨gn, egn⟩ : ∃ x, (countM L).2 = x := ⟨_, rfl⟩
   obtain ⟨ri, eri⟩ : ∃ x, (countM L).1 = x := ⟨_, rfl⟩
   have HSM := Aside0.mk (show sideM b = (L, (s : Int), true, gn, ri) by
    unfold sideM
    rw [HEND.out, if_neg (by simp)]
    simp [egn, eri])
   rw [egn] at y3 HG2
   rw [eri]
   clear hk2 hg2 egn eri
   go_wp2_with fail
   (try rw [Exit.noGoto_ret])
   (try simp only [Exit.inBlock, Exit.then])
   refine bodyPost_ret (results_cell_row2 rfl _ _ W.heap.size 64 #[.slice A1 L.length c1, .int .i64 (s : Int), .bool true, .int .i64 gn] (0, 0) _ rfl (by
    refine blk_put (cs := #[.slice A1 L.length c1, .int .i64 (s : Int), .bool true, .int .i64 0]) ?_ _ _ rfl
    refine blk_put (cs := #[.slice A1 L.length c1, .int .i64 (s : Int), .bool false, .int .i64 0]) ?_ _ _ rfl
    refine blk_put (cs := #[.slice A1 L.length c1, .int .i64 0, .bool false, .int .i64 0]) ?_ _ _ rfl
    refine blk_put (cs := #[.slice none 0 0, .int .i64 0, .bool false, .int .i64 0]) ?_ _ _ rfl
    exact HZ2.out) hu64 rfl (by kernel_rfl)) rfl ?_
   rw [HSM.out]
   have k0 := Keeps.of_below HB2.out (fun _ => False)
   have k1 := k0.set (p := ⟨W.heap.size, 0, none⟩) (.inr (Nat.le_refl _)) (.slice A1 L.length c1)
   have k2 := k1.set (p := ⟨W.heap.size, 1, none⟩) (.inr (Nat.le_refl _)) (.int .i64 (s : Int))
   have k3 := k2.set (p := ⟨W.heap.size, 2, none⟩) (.inr (Nat.le_refl _)) (.bool true)
   have k4 := k3.set (p := ⟨W.heap.size, 3, none⟩) (.inr (Nat.le_refl _)) (.int .i64 gn)
   have hne : ∀ k, W.heap.size + 2 ≤ k → k ≠ W.heap.size := fun k hk he => by omega
   have r1 := Kd.R_far HRW2.out (p := ⟨W.heap.size, 0, none⟩) hne (.slice A1 L.length c1)
   have r2 := Kd.R_far r1 (p := ⟨W.heap.size, 1, none⟩) hne (.int .i64 (s : Int))
   have r3 := Kd.R_far r2 (p := ⟨W.heap.size, 2, none⟩) hne (.bool true)
   have r4 := Kd.R_far r3 (p := ⟨W.heap.size, 3, none⟩) hne (.int .i64 gn)
   exact ⟨_, rfl, Kd.R_mono r4 (fun k hk => by omega), k4.belowF⟩

  ·have hl2 : 2 ≤ l.length := h0
   obtain ⟨n, en⟩ : ∃ n, n = nJ l := ⟨_, rfl⟩
   rw [← en] at h1 
   obtain ⟨ba, eba⟩ : ∃ x, rd l 0 = x := ⟨_, rfl⟩
   obtain ⟨bb, ebb⟩ : ∃ x, rd l 1 = x := ⟨_, rfl⟩
   have hra : 0 ≤ ba ∧ ba ≤ 255 := by
    rw [← eba]
    have : rd l 0 = l[0] := by simp [rd, show 0 < l.length by omega]
    rw [this]
    exact okB_mem HLB.out _ (List.getElem_mem _)
   have hrb : 0 ≤ bb ∧ bb ≤ 255 := by
    rw [← ebb]
    have : rd l 1 = l[1] := by simp [rd, show 1 < l.length by omega]
    rw [this]
    exact okB_mem HLB.out _ (List.getElem_mem _)
   have hnn : 256 * ba + bb = (n : Int) := by rw [en]; unfold nJ; rw [eba, ebb]; omega
   obtain ⟨ad, eA, hxa⟩ := Kd.at_int HCL.out 0 (by omega) (by omega)
   obtain ⟨ad', eA', hxb⟩ := Kd.at_int HCL.out 1 (by omega) (by omega)
   subst eA
   cases eA'
   rw [eba] at hxa
   rw [ebb] at hxb
   rw [show ad.add (0 : Int).toNat = ad by simp [Addr.add]] at hxa
   rw [show ad.add (1 : Int).toNat = ⟨ad.block, ad.off + 1, none⟩ from by have := add_field ad 0 1 (by omega); rwa [show ad.add 0 = ad by simp [Addr.add]] at this] at hxb
   have hor := or_byte ba bb hra.1 (by omega) hrb.1 hrb.2
   rw [hnn] at hor
   have hor2 : Go.bits .or .i64 (ba * 256) bb = (n : Int) := by rw [← hor, w64' (by omega) (by omega), w64' (by omega) (by omega)]
   have wa : wrap64 ba = ba := w64' (by omega) (by omega)
   have wb : wrap64 bb = bb := w64' (by omega) (by omega)
   have wc : wrap64 (ba * 256) = ba * 256 := w64' (by omega) (by omega)
   have b1 : decide ((s : Int) < (b.length : Int)) = true := decide_eq_true (by omega)
   have b1n : decide (s < b.length) = true := decide_eq_true (by omega)
   have b2 : decide ((l.length : Int) < 2) = false := decide_eq_false (by omega)
   have b2n : decide (l.length < 2) = false := decide_eq_false (by omega)
   have l0 : (0 : Int) < (l.length : Int) := by omega
   have l1 : (1 : Int) < (l.length : Int) := by omega
   have l0d : decide ((0 : Int) < (l.length : Int)) = true := decide_eq_true l0
   have l1d : decide ((1 : Int) < (l.length : Int)) = true := decide_eq_true l1
   have l0n : 0 < l.length := by omega
   have l1n : 1 < l.length := by omega
   have HEN := Aside0.mk en
   clear hra hrb hnn eba ebb en
   have HEND := Aside0.mk (show readA b = (L, s, 2) by rw [HALL.out, ← el, glue_stop L s b (by rw [el, hn]; decide), el, hn])
   by_cases h5 : n < 1
   ·have b3 : decide ((n : Int) < 1) = true := decide_eq_true (by omega)
    have b3n : decide (n < 1) = true := decide_eq_true h5
    clear h0 h1 h5 hn HALL HLB HCL hll hsl hLs hlen hcl hcs el hl2
    go_wp2_with fail
    obtain ⟨wq, eq_⟩ : ∃ wq, wq = wr.drew := ⟨_, rfl⟩
    have HBQ := Aside0.mk (show Below wr.heap.size wr wq by rw [eq_]; exact below_drew (Below.refl _ _))
    refine start_ (n := 11) (S := fun w' => w'.cell? ad = some (.int .u8 ba) ∧ w'.cell? ⟨ad.block, ad.off + 1, none⟩ = some (.int .u8 bb)) (ds := []) #[false, false, false, false, false, false, false, false, false, false, false] (by kernel_rfl) rfl rfl ⟨(by rw [← eq_]; exact pw_cell_below HBQ.out hxa), (by rw [← eq_]; exact pw_cell_below HBQ.out hxb)⟩ (fun hHeld => ?_)
    rw [← eq_] at hHeld ⊢
    clear eq_ hxa hxb
    refine pure_ (i := 0) (N := some 21) (v := ?_) (a' := ?_) #[true, false, false, false, false, false, false, false, false, false, false] rfl rfl (by kernel_rfl) (fun _ _ _ h => h) (Or.inl ⟨by rfl, ?_⟩) ?_ ?_
    rotate_left
    ·intro w'
     go_simp
     with_reducible rfl
    rotate_left
    ·simp only [Act.put, List.setIfInBounds_toArray, List.set_cons_zero, List.set_cons_succ, i64_w, i32_w]
     rfl
    refine pure_ (i := 1) (N := some 22) (v := ?_) (a' := ?_) #[true, true, false, false, false, false, false, false, false, false, false] rfl rfl (by kernel_rfl) (fun _ _ _ h => h) (Or.inl ⟨by rfl, ?_⟩) ?_ ?_
    rotate_left
    ·intro w'
     go_simp
     with_reducible rfl
    rotate_left
    ·simp only [Act.put, List.setIfInBounds_toArray, List.set_cons_zero, List.set_cons_succ, i64_w, i32_w]
     rfl
    refine pure_ (i := 5) (N := some 26) (v := ?_) (a' := ?_) #[true, true, false, false, false, true, false, false, false, false, false] rfl rfl (by kernel_rfl) (fun _ _ _ h => h) (Or.inl ⟨by rfl, ?_⟩) ?_ ?_
    rotate_left
    ·intro w'
     go_simp
     with_reducible rfl
    rotate_left
    ·simp only [Act.put, List.setIfInBounds_toArray, List.set_cons_zero, List.set_cons_succ, i64_w, i32_w]
     rfl
    refine pure_ (i := 6) (N := some 27) (v := ?_) (a' := ?_) #[true, true, false, false, false, true, true, false, false, false, false] rfl rfl (by kernel_rfl) (fun _ _ _ h => h) (Or.inl ⟨by rfl, ?_⟩) ?_ ?_
    rotate_left
    ·intro w'
     go_simp
     with_reducible rfl
    rotate_left
    ·simp only [Act.put, List.setIfInBounds_toArray, List.set_cons_zero, List.set_cons_succ, i64_w, i32_w]
     rfl
    refine take_ (i := 2) (N := some 23) (v := ?_) (a' := ?_) #[true, true, true, false, false, true, true, false, false, false, false] rfl rfl (by kernel_rfl) (fun _ _ _ h => h) (Or.inl ⟨by rfl, ?_⟩) hHeld ?_ ?_
    rotate_left
    ·rintro w' ⟨s0, s1⟩
     go_simp
     with_reducible rfl
    rotate_left
    ·simp only [Act.put, List.setIfInBounds_toArray, List.set_cons_zero, List.set_cons_succ, i64_w, i32_w]
     rfl
    refine pure_ (i := 3) (N := some 24) (v := ?_) (a' := ?_) #[true, true, true, true, false, true, true, false, false, false, false] rfl rfl (by kernel_rfl) (fun _ _ _ h => h) (Or.inl ⟨by rfl, ?_⟩) ?_ ?_
    rotate_left
    ·intro w'
     go_simp
     with_reducible rfl
    rotate_left
    ·simp only [Act.put, List.setIfInBounds_toArray, List.set_cons_zero, List.set_cons_succ, i64_w, i32_w]
     rfl
    refine pure_ (i := 4) (N := some 25) (v := ?_) (a' := ?_) #[true, true, true, true, true, true, true, false, false, false, false] rfl rfl (by kernel_rfl) (fun _ _ _ h => h) (Or.inl ⟨by rfl, ?_⟩) ?_ ?_
    rotate_left
    ·intro w'
     go_simp
     with_reducible rfl
    rotate_left
    ·simp only [Act.put, List.setIfInBounds_toArray, List.set_cons_zero, List.set_cons_succ, i64_w, i32_w]
     rfl
    refine take_ (i := 7) (N := some 28) (v := ?_) (a' := ?_) #[true, true, true, true, true, true, true, true, false, false, false] rfl rfl (by kernel_rfl) (fun _ _ _ h => h) (Or.inl ⟨by rfl, ?_⟩) hHeld ?_ ?_
    rotate_left
    ·rintro w' ⟨s0, s1⟩
     go_simp
     with_reducible rfl
    rotate_left
    ·simp only [Act.put, List.setIfInBounds_toArray, List.set_cons_zero, List.set_cons_succ, i64_w, i32_w]
     rfl
    refine pure_ (i := 8) (N := some 29) (v := ?_) (a' := ?_) #[true, true, true, true, true, true, true, true, true, false, false] rfl rfl (by kernel_rfl) (fun _ _ _ h => h) (Or.inl ⟨by rfl, ?_⟩) ?_ ?_
    rotate_left
    ·intro w'
     go_simp
     with_reducible rfl
    rotate_left
    ·simp only [Act.put, List.setIfInBounds_toArray, List.set_cons_zero, List.set_cons_succ, i64_w, i32_w]
     rfl
    refine pure_ (i := 9) (N := some 30) (v := ?_) (a' := ?_) #[true, true, true, true, true, true, true, true, true, true, false] rfl rfl (by kernel_rfl) (fun _ _ _ h => h) (Or.inl ⟨by rfl, ?_⟩) ?_ ?_
    rotate_left
    ·intro w'
     go_simp
     with_reducible rfl
    rotate_left
    ·simp only [Act.put, List.setIfInBounds_toArray, List.set_cons_zero, List.set_cons_succ, i64_w, i32_w]
     rfl
    refine pure_ (i := 10) (N := some 6) (v := ?_) (a' := ?_) #[true, true, true, true, true, true, true, true, true, true, true] rfl rfl (by kernel_rfl) (fun _ _ _ h => h) (Or.inl ⟨by rfl, ?_⟩) ?_ ?_
    rotate_left
    ·intro w'
     go_simp
     with_reducible rfl
    rotate_left
    ·simp only [Act.put, List.setIfInBounds_toArray, List.set_cons_zero, List.set_cons_succ, i64_w, i32_w]
     rfl
    refine done_ (by kernel_rfl) ?_
    clear hHeld
    have HBF := Aside0.mk (below_step HB.out HBQ.out)
    have HZF := Aside0.mk (blk_below HZ.out HBQ.out)
    obtain ⟨z0, z1, z2, z3, q0, q1, q2, q3⟩ := blk_all4 HZF.out
    go_wp2_with fail
    (try rw [Exit.noGoto_ret])
    (try simp only [Exit.inBlock, Exit.then])
    refine bodyPost_ret (results_cell_row2 rfl _ _ W.heap.size 64 #[.slice none 0 0, .int .i64 0, .bool false, .int .i64 0] (0, 0) _ rfl (by
     refine blk_put (cs := #[.slice none 0 0, .int .i64 0, .bool false, .int .i64 0]) ?_ _ _ rfl
     refine blk_put (cs := #[.slice none 0 0, .int .i64 0, .bool false, .int .i64 0]) ?_ _ _ rfl
     refine blk_put (cs := #[.slice none 0 0, .int .i64 0, .bool false, .int .i64 0]) ?_ _ _ rfl
     refine blk_put (cs := #[.slice none 0 0, .int .i64 0, .bool false, .int .i64 0]) ?_ _ _ rfl
     exact HZF.out) hu64 rfl (by kernel_rfl)) rfl ?_
    rw [show sideM b = ([], 0, false, 0, false) by unfold sideM; rw [HEND.out, if_pos rfl]]
    have k0 := Keeps.of_below HBF.out (fun _ => False)
    have k1 := k0.set (p := ⟨W.heap.size, 0, none⟩) (.inr (Nat.le_refl _)) (.slice none 0 0)
    have k2 := k1.set (p := ⟨W.heap.size, 1, none⟩) (.inr (Nat.le_refl _)) (.int .i64 0)
    have k3 := k2.set (p := ⟨W.heap.size, 2, none⟩) (.inr (Nat.le_refl _)) (.bool false)
    have k4 := k3.set (p := ⟨W.heap.size, 3, none⟩) (.inr (Nat.le_refl _)) (.int .i64 0)
    exact ⟨_, rfl, Kd.R_nil _ _ _ _ _, k4.belowF⟩

   ·have b3 : decide ((n : Int) < 1) = false := decide_eq_false (by omega)
    have b3n : decide (n < 1) = false := decide_eq_false h5
    have b4 : decide (8192 < (n : Int)) = true := decide_eq_true (by omega)
    have b4n : decide (8192 < n) = true := decide_eq_true (by omega)
    clear h0 h1 h5 hn HALL HLB HCL hll hsl hLs hlen hcl hcs el hl2
    go_wp2_with fail
    obtain ⟨wq, eq_⟩ : ∃ wq, wq = wr.drew := ⟨_, rfl⟩
    have HBQ := Aside0.mk (show Below wr.heap.size wr wq by rw [eq_]; exact below_drew (Below.refl _ _))
    refine start_ (n := 11) (S := fun w' => w'.cell? ad = some (.int .u8 ba) ∧ w'.cell? ⟨ad.block, ad.off + 1, none⟩ = some (.int .u8 bb)) (ds := []) #[false, false, false, false, false, false, false, false, false, false, false] (by kernel_rfl) rfl rfl ⟨(by rw [← eq_]; exact pw_cell_below HBQ.out hxa), (by rw [← eq_]; exact pw_cell_below HBQ.out hxb)⟩ (fun hHeld => ?_)
    rw [← eq_] at hHeld ⊢
    clear eq_ hxa hxb
    refine pure_ (i := 0) (N := some 21) (v := ?_) (a' := ?_) #[true, false, false, false, false, false, false, false, false, false, false] rfl rfl (by kernel_rfl) (fun _ _ _ h => h) (Or.inl ⟨by rfl, ?_⟩) ?_ ?_
    rotate_left
    ·intro w'
     go_simp
     with_reducible rfl
    rotate_left
    ·simp only [Act.put, List.setIfInBounds_toArray, List.set_cons_zero, List.set_cons_succ, i64_w, i32_w]
     rfl
    refine pure_ (i := 1) (N := some 22) (v := ?_) (a' := ?_) #[true, true, false, false, false, false, false, false, false, false, false] rfl rfl (by kernel_rfl) (fun _ _ _ h => h) (Or.inl ⟨by rfl, ?_⟩) ?_ ?_
    rotate_left
    ·intro w'
     go_simp
     with_reducible rfl
    rotate_left
    ·simp only [Act.put, List.setIfInBounds_toArray, List.set_cons_zero, List.set_cons_succ, i64_w, i32_w]
     rfl
    refine pure_ (i := 5) (N := some 26) (v := ?_) (a' := ?_) #[true, true, false, false, false, true, false, false, false, false, false] rfl rfl (by kernel_rfl) (fun _ _ _ h => h) (Or.inl ⟨by rfl, ?_⟩) ?_ ?_
    rotate_left
    ·intro w'
     go_simp
     with_reducible rfl
    rotate_left
    ·simp only [Act.put, List.setIfInBounds_toArray, List.set_cons_zero, List.set_cons_succ, i64_w, i32_w]
     rfl
    refine pure_ (i := 6) (N := some 27) (v := ?_) (a' := ?_) #[true, true, false, false, false, true, true, false, false, false, false] rfl rfl (by kernel_rfl) (fun _ _ _ h => h) (Or.inl ⟨by rfl, ?_⟩) ?_ ?_
    rotate_left
    ·intro w'
     go_simp
     with_reducible rfl
    rotate_left
    ·simp only [Act.put, List.setIfInBounds_toArray, List.set_cons_zero, List.set_cons_succ, i64_w, i32_w]
     rfl
    refine take_ (i := 2) (N := some 23) (v := ?_) (a' := ?_) #[true, true, true, false, false, true, true, false, false, false, false] rfl rfl (by kernel_rfl) (fun _ _ _ h => h) (Or.inl ⟨by rfl, ?_⟩) hHeld ?_ ?_
    rotate_left
    ·rintro w' ⟨s0, s1⟩
     go_simp
     with_reducible rfl
    rotate_left
    ·simp only [Act.put, List.setIfInBounds_toArray, List.set_cons_zero, List.set_cons_succ, i64_w, i32_w]
     rfl
    refine pure_ (i := 3) (N := some 24) (v := ?_) (a' := ?_) #[true, true, true, true, false, true, true, false, false, false, false] rfl rfl (by kernel_rfl) (fun _ _ _ h => h) (Or.inl ⟨by rfl, ?_⟩) ?_ ?_
    rotate_left
    ·intro w'
     go_simp
     with_reducible rfl
    rotate_left
    ·simp only [Act.put, List.setIfInBounds_toArray, List.set_cons_zero, List.set_cons_succ, i64_w, i32_w]
     rfl
    refine pure_ (i := 4) (N := some 25) (v := ?_) (a' := ?_) #[true, true, true, true, true, true, true, false, false, false, false] rfl rfl (by kernel_rfl) (fun _ _ _ h => h) (Or.inl ⟨by rfl, ?_⟩) ?_ ?_
    rotate_left
    ·intro w'
     go_simp
     with_reducible rfl
    rotate_left
    ·simp only [Act.put, List.setIfInBounds_toArray, List.set_cons_zero, List.set_cons_succ, i64_w, i32_w]
     rfl
    refine take_ (i := 7) (N := some 28) (v := ?_) (a' := ?_) #[true, true, true, true, true, true, true, true, false, false, false] rfl rfl (by kernel_rfl) (fun _ _ _ h => h) (Or.inl ⟨by rfl, ?_⟩) hHeld ?_ ?_
    rotate_left
    ·rintro w' ⟨s0, s1⟩
     go_simp
     with_reducible rfl
    rotate_left
    ·simp only [Act.put, List.setIfInBounds_toArray, List.set_cons_zero, List.set_cons_succ, i64_w, i32_w]
     rfl
    refine pure_ (i := 8) (N := some 29) (v := ?_) (a' := ?_) #[true, true, true, true, true, true, true, true, true, false, false] rfl rfl (by kernel_rfl) (fun _ _ _ h => h) (Or.inl ⟨by rfl, ?_⟩) ?_ ?_
    rotate_left
    ·intro w'
     go_simp
     with_reducible rfl
    rotate_left
    ·simp only [Act.put, List.setIfInBounds_toArray, List.set_cons_zero, List.set_cons_succ, i64_w, i32_w]
     rfl
    refine pure_ (i := 9) (N := some 30) (v := ?_) (a' := ?_) #[true, true, true, true, true, true, true, true, true, true, false] rfl rfl (by kernel_rfl) (fun _ _ _ h => h) (Or.inl ⟨by rfl, ?_⟩) ?_ ?_
    rotate_left
    ·intro w'
     go_simp
     with_reducible rfl
    rotate_left
    ·simp only [Act.put, List.setIfInBounds_toArray, List.set_cons_zero, List.set_cons_succ, i64_w, i32_w]
     rfl
    refine pure_ (i := 10) (N := some 6) (v := ?_) (a' := ?_) #[true, true, true, true, true, true, true, true, true, true, true] rfl rfl (by kernel_rfl) (fun _ _ _ h => h) (Or.inl ⟨by rfl, ?_⟩) ?_ ?_
    rotate_left
    ·intro w'
     go_simp
     with_reducible rfl
    rotate_left
    ·simp only [Act.put, List.setIfInBounds_toArray, List.set_cons_zero, List.set_cons_succ, i64_w, i32_w]
     rfl
    refine done_ (by kernel_rfl) ?_
    clear hHeld
    have HBF := Aside0.mk (below_step HB.out HBQ.out)
    have HZF := Aside0.mk (blk_below HZ.out HBQ.out)
    obtain ⟨z0, z1, z2, z3, q0, q1, q2, q3⟩ := blk_all4 HZF.out
    go_wp2_with fail
    (try rw [Exit.noGoto_ret])
    (try simp only [Exit.inBlock, Exit.then])
    refine bodyPost_ret (results_cell_row2 rfl _ _ W.heap.size 64 #[.slice none 0 0, .int .i64 0, .bool false, .int .i64 0] (0, 0) _ rfl (by
     refine blk_put (cs := #[.slice none 0 0, .int .i64 0, .bool false, .int .i64 0]) ?_ _ _ rfl
     refine blk_put (cs := #[.slice none 0 0, .int .i64 0, .bool false, .int .i64 0]) ?_ _ _ rfl
     refine blk_put (cs := #[.slice none 0 0, .int .i64 0, .bool false, .int .i64 0]) ?_ _ _ rfl
     refine blk_put (cs := #[.slice none 0 0, .int .i64 0, .bool false, .int .i64 0]) ?_ _ _ rfl
     exact HZF.out) hu64 rfl (by kernel_rfl)) rfl ?_
    rw [show sideM b = ([], 0, false, 0, false) by unfold sideM; rw [HEND.out, if_pos rfl]]
    have k0 := Keeps.of_below HBF.out (fun _ => False)
    have k1 := k0.set (p := ⟨W.heap.size, 0, none⟩) (.inr (Nat.le_refl _)) (.slice none 0 0)
    have k2 := k1.set (p := ⟨W.heap.size, 1, none⟩) (.inr (Nat.le_refl _)) (.int .i64 0)
    have k3 := k2.set (p := ⟨W.heap.size, 2, none⟩) (.inr (Nat.le_refl _)) (.bool false)
    have k4 := k3.set (p := ⟨W.heap.size, 3, none⟩) (.inr (Nat.le_refl _)) (.int .i64 0)
    exact ⟨_, rfl, Kd.R_nil _ _ _ _ _, k4.belowF⟩

  ·have hl2 : 2 ≤ l.length := h0
   obtain ⟨n, en⟩ : ∃ n, n = nJ l := ⟨_, rfl⟩
   rw [← en] at h1 h2 h3
   obtain ⟨ba, eba⟩ : ∃ x, rd l 0 = x := ⟨_, rfl⟩
   obtain ⟨bb, ebb⟩ : ∃ x, rd l 1 = x := ⟨_, rfl⟩
   have hra : 0 ≤ ba ∧ ba ≤ 255 := by
    rw [← eba]
    have : rd l 0 = l[0] := by simp [rd, show 0 < l.length by omega]
    rw [this]
    exact okB_mem HLB.out _ (List.getElem_mem _)
   have hrb : 0 ≤ bb ∧ bb ≤ 255 := by
    rw [← ebb]
    have : rd l 1 = l[1] := by simp [rd, show 1 < l.length by omega]
    rw [this]
    exact okB_mem HLB.out _ (List.getElem_mem _)
   have hnn : 256 * ba + bb = (n : Int) := by rw [en]; unfold nJ; rw [eba, ebb]; omega
   obtain ⟨ad, eA, hxa⟩ := Kd.at_int HCL.out 0 (by omega) (by omega)
   obtain ⟨ad', eA', hxb⟩ := Kd.at_int HCL.out 1 (by omega) (by omega)
   subst eA
   cases eA'
   rw [eba] at hxa
   rw [ebb] at hxb
   rw [show ad.add (0 : Int).toNat = ad by simp [Addr.add]] at hxa
   rw [show ad.add (1 : Int).toNat = ⟨ad.block, ad.off + 1, none⟩ from by have := add_field ad 0 1 (by omega); rwa [show ad.add 0 = ad by simp [Addr.add]] at this] at hxb
   have hor := or_byte ba bb hra.1 (by omega) hrb.1 hrb.2
   rw [hnn] at hor
   have hor2 : Go.bits .or .i64 (ba * 256) bb = (n : Int) := by rw [← hor, w64' (by omega) (by omega), w64' (by omega) (by omega)]
   have wa : wrap64 ba = ba := w64' (by omega) (by omega)
   have wb : wrap64 bb = bb := w64' (by omega) (by omega)
   have wc : wrap64 (ba * 256) = ba * 256 := w64' (by omega) (by omega)
   have b1 : decide ((s : Int) < (b.length : Int)) = true := decide_eq_true (by omega)
   have b1n : decide (s < b.length) = true := decide_eq_true (by omega)
   have b2 : decide ((l.length : Int) < 2) = false := decide_eq_false (by omega)
   have b2n : decide (l.length < 2) = false := decide_eq_false (by omega)
   have l0 : (0 : Int) < (l.length : Int) := by omega
   have l1 : (1 : Int) < (l.length : Int) := by omega
   have l0d : decide ((0 : Int) < (l.length : Int)) = true := decide_eq_true l0
   have l1d : decide ((1 : Int) < (l.length : Int)) = true := decide_eq_true l1
   have l0n : 0 < l.length := by omega
   have l1n : 1 < l.length := by omega
   have HEN := Aside0.mk en
   clear hra hrb hnn eba ebb en
   have HEND := Aside0.mk (show readA b = (L, s, 1) by rw [HALL.out, ← el, glue_stop L s b (by rw [el, hn]; decide), el, hn])
   have b3 : decide ((n : Int) < 1) = false := decide_eq_false (by omega)
   have b3n : decide (n < 1) = false := decide_eq_false (by omega)
   have b4 : decide (8192 < (n : Int)) = false := decide_eq_false (by omega)
   have b4n : decide (8192 < n) = false := decide_eq_false (by omega)
   have b5 : decide ((l.length : Int) < (n : Int) + 4) = true := decide_eq_true (by omega)
   have b5n : decide (l.length < n + 4) = true := decide_eq_true (by omega)
   have wn4 := w64n n 4 h2 (by decide)
   have wn2 := w64n n 2 h2 (by decide)
   clear h0 h1 h2 h3 hn HALL HLB HCL hll hsl hLs hlen hcl hcs el hl2
   go_wp2_with fail
   obtain ⟨wq, eq_⟩ : ∃ wq, wq = wr.drew := ⟨_, rfl⟩
   have HBQ := Aside0.mk (show Below wr.heap.size wr wq by rw [eq_]; exact below_drew (Below.refl _ _))
   refine start_ (n := 11) (S := fun w' => w'.cell? ad = some (.int .u8 ba) ∧ w'.cell? ⟨ad.block, ad.off + 1, none⟩ = some (.int .u8 bb)) (ds := []) #[false, false, false, false, false, false, false, false, false, false, false] (by kernel_rfl) rfl rfl ⟨(by rw [← eq_]; exact pw_cell_below HBQ.out hxa), (by rw [← eq_]; exact pw_cell_below HBQ.out hxb)⟩ (fun hHeld => ?_)
   rw [← eq_] at hHeld ⊢
   clear eq_ hxa hxb
   refine pure_ (i := 0) (N := some 21) (v := ?_) (a' := ?_) #[true, false, false, false, false, false, false, false, false, false, false] rfl rfl (by kernel_rfl) (fun _ _ _ h => h) (Or.inl ⟨by rfl, ?_⟩) ?_ ?_
   rotate_left
   ·intro w'
    go_simp
    with_reducible rfl
   rotate_left
   ·simp only [Act.put, List.setIfInBounds_toArray, List.set_cons_zero, List.set_cons_succ, i64_w, i32_w]
    rfl
   refine pure_ (i := 1) (N := some 22) (v := ?_) (a' := ?_) #[true, true, false, false, false, false, false, false, false, false, false] rfl rfl (by kernel_rfl) (fun _ _ _ h => h) (Or.inl ⟨by rfl, ?_⟩) ?_ ?_
   rotate_left
   ·intro w'
    go_simp
    with_reducible rfl
   rotate_left
   ·simp only [Act.put, List.setIfInBounds_toArray, List.set_cons_zero, List.set_cons_succ, i64_w, i32_w]
    rfl
   refine pure_ (i := 5) (N := some 26) (v := ?_) (a' := ?_) #[true, true, false, false, false, true, false, false, false, false, false] rfl rfl (by kernel_rfl) (fun _ _ _ h => h) (Or.inl ⟨by rfl, ?_⟩) ?_ ?_
   rotate_left
   ·intro w'
    go_simp
    with_reducible rfl
   rotate_left
   ·simp only [Act.put, List.setIfInBounds_toArray, List.set_cons_zero, List.set_cons_succ, i64_w, i32_w]
    rfl
   refine pure_ (i := 6) (N := some 27) (v := ?_) (a' := ?_) #[true, true, false, false, false, true, true, false, false, false, false] rfl rfl (by kernel_rfl) (fun _ _ _ h => h) (Or.inl ⟨by rfl, ?_⟩) ?_ ?_
   rotate_left
   ·intro w'
    go_simp
    with_reducible rfl
   rotate_left
   ·simp only [Act.put, List.setIfInBounds_toArray, List.set_cons_zero, List.set_cons_succ, i64_w, i32_w]
    rfl
   refine take_ (i := 2) (N := some 23) (v := ?_) (a' := ?_) #[true, true, true, false, false, true, true, false, false, false, false] rfl rfl (by kernel_rfl) (fun _ _ _ h => h) (Or.inl ⟨by rfl, ?_⟩) hHeld ?_ ?_
   rotate_left
   ·rintro w' ⟨s0, s1⟩
    go_simp
    with_reducible rfl
   rotate_left
   ·simp only [Act.put, List.setIfInBounds_toArray, List.set_cons_zero, List.set_cons_succ, i64_w, i32_w]
    rfl
   refine pure_ (i := 3) (N := some 24) (v := ?_) (a' := ?_) #[true, true, true, true, false, true, true, false, false, false, false] rfl rfl (by kernel_rfl) (fun _ _ _ h => h) (Or.inl ⟨by rfl, ?_⟩) ?_ ?_
   rotate_left
   ·intro w'
    go_simp
    with_reducible rfl
   rotate_left
   ·simp only [Act.put, List.setIfInBounds_toArray, List.set_cons_zero, List.set_cons_succ, i64_w, i32_w]
    rfl
   refine pure_ (i := 4) (N := some 25) (v := ?_) (a' := ?_) #[true, true, true, true, true, true, true, false, false, false, false] rfl rfl (by kernel_rfl) (fun _ _ _ h => h) (Or.inl ⟨by rfl, ?_⟩) ?_ ?_
   rotate_left
   ·intro w'
    go_simp
    with_reducible rfl
   rotate_left
   ·simp only [Act.put, List.setIfInBounds_toArray, List.set_cons_zero, List.set_cons_succ, i64_w, i32_w]
    rfl
   refine take_ (i := 7) (N := some 28) (v := ?_) (a' := ?_) #[true, true, true, true, true, true, true, true, false, false, false] rfl rfl (by kernel_rfl) (fun _ _ _ h => h) (Or.inl ⟨by rfl, ?_⟩) hHeld ?_ ?_
   rotate_left
   ·rintro w' ⟨s0, s1⟩
    go_simp
    with_reducible rfl
   rotate_left
   ·simp only [Act.put, List.setIfInBounds_toArray, List.set_cons_zero, List.set_cons_succ, i64_w, i32_w]
    rfl
   refine pure_ (i := 8) (N := some 29) (v := ?_) (a' := ?_) #[true, true, true, true, true, true, true, true, true, false, false] rfl rfl (by kernel_rfl) (fun _ _ _ h => h) (Or.inl ⟨by rfl, ?_⟩) ?_ ?_
   rotate_left
   ·intro w'
    go_simp
    with_reducible rfl
   rotate_left
   ·simp only [Act.put, List.setIfInBounds_toArray, List.set_cons_zero, List.set_cons_succ, i64_w, i32_w]
    rfl
   refine pure_ (i := 9) (N := some 30) (v := ?_) (a' := ?_) #[true, true, true, true, true, true, true, true, true, true, false] rfl rfl (by kernel_rfl) (fun _ _ _ h => h) (Or.inl ⟨by rfl, ?_⟩) ?_ ?_
   rotate_left
   ·intro w'
    go_simp
    with_reducible rfl
   rotate_left
   ·simp only [Act.put, List.setIfInBounds_toArray, List.set_cons_zero, List.set_cons_succ, i64_w, i32_w]
    rfl
   refine pure_ (i := 10) (N := some 6) (v := ?_) (a' := ?_) #[true, true, true, true, true, true, true, true, true, true, true] rfl rfl (by kernel_rfl) (fun _ _ _ h => h) (Or.inl ⟨by rfl, ?_⟩) ?_ ?_
   rotate_left
   ·intro w'
    go_simp
    with_reducible rfl
   rotate_left
   ·simp only [Act.put, List.setIfInBounds_toArray, List.set_cons_zero, List.set_cons_succ, i64_w, i32_w]
    rfl
   refine done_ (by kernel_rfl) ?_
   clear hHeld
   have HB_ := Aside0.mk (below_step HB.out HBQ.out)
   have HZ_ := Aside0.mk (blk_below HZ.out HBQ.out)
   have HG_ := Aside0.mk (blk_below HG.out HBQ.out)
   have HRW_ := Aside0.mk (Kd.R_below HRW.out HBQ.out)
   clear HB HZ HG HRW
   have HB := HB_
   have HZ := HZ_
   have HG := HG_
   have HRW := HRW_
   clear HB_ HZ_ HG_ HRW_
   clear x0 x1 x2 x3 f0 f1 f2 f3 
   obtain ⟨x0, x1, x2, x3, f0, f1, f2, f3⟩ := blk_all4 HG.out
   go_wp2_with fail
   obtain ⟨wT, eT⟩ : ∃ wT, wT = wq.setCell ⟨W.heap.size + 1, 2, none⟩ (.bool true) := ⟨_, rfl⟩
   have HGT := Aside0.mk (show wT.heap[W.heap.size + 1]? = some (.cells #[.slice A1 L.length c1, .int .i64 (s : Int), .bool true, .int .i64 0] 64 (0, 0)) by rw [eT]; exact blk_put HG.out 2 _ rfl)
   have HZT := Aside0.mk (show wT.heap[W.heap.size]? = some (.cells #[.slice none 0 0, .int .i64 0, .bool false, .int .i64 0] 64 (0, 0)) by rw [eT]; exact (Below.heap_setCell wq _ _ _ (by show W.heap.size ≠ W.heap.size + 1; omega)).trans HZ.out)
   have HBT := Aside0.mk (show Below W.heap.size W wT by rw [eT]; exact (Keeps.set (S := fun _ => False) (Keeps.of_below HB.out _) (p := ⟨W.heap.size + 1, 2, none⟩) (.inr (by show W.heap.size ≤ W.heap.size + 1; omega)) _).belowF)
   have HRWT := Aside0.mk (show (Kd.slice 5 (Kd.int .u8)).R 30 wT 0 (fun k => W.heap.size + 2 ≤ k) (.slice A1 L.length c1) L by rw [eT]; exact Kd.R_far HRW.out (p := ⟨W.heap.size + 1, 2, none⟩) (fun k hk he => by have he' : k = W.heap.size + 1 := he; omega) _)
   rw [← eT]
   clear eT x0 x1 x2 x3 f0 f1 f2 f3
   refine (side_count.calls (W.heap.size + 1) A1 c1 L (s : Int) true wT HGT.out (Kd.R_reads' HRWT.out).2.2 HLK.out HLN.out).mono ?_
   rintro e w2 ⟨rfl, hk2, hg2⟩
   have HK2 := Aside0.mk hk2
   have HG2 := Aside0.mk hg2
   have HZ2 := Aside0.mk ((hk2.block _ (blk_lt HZT.out) (by omega)).trans HZT.out)
   have HRW2 := Aside0.mk (Kd.R_step HRWT.out (fun k hk hlt => hk2.block k hlt (by omega)))
   have HB2 := Aside0.mk ((Keeps.of_below HBT.out (fun _ => False)).then_ hk2 (fun k hk => .inr (by omega))).belowF
   obtain ⟨y0, y1, y2, y3, p0, p1, p2, p3⟩ := blk_all4 hg2
   obtain ⟨z0, z1, z2, z3, q0, q1, q2, q3⟩ := blk_all4 HZ2.out
   obtain ⟨gn, egn⟩ : ∃ x, (countM L).2 = x := ⟨_, rfl⟩
   obtain ⟨ri, eri⟩ : ∃ x, (countM L).1 = x := ⟨_, rfl⟩
   have HSM := Aside0.mk (show sideM b = (L, (s : Int), true, gn, ri) by
    unfold sideM
    rw [HEND.out, if_neg (by simp)]
    simp [egn, eri])
   rw [egn] at y3 HG2
   rw [eri]
   clear hk2 hg2 egn eri
   go_wp2_with fail
   (try rw [Exit.noGoto_ret])
   (try simp only [Exit.inBlock, Exit.then])
   refine bodyPost_ret (results_cell_row2 rfl _ _ W.heap.size 64 #[.slice A1 L.length c1, .int .i64 (s : Int), .bool true, .int .i64 gn] (0, 0) _ rfl (by
    refine blk_put (cs := #[.slice A1 L.length c1, .int .i64 (s : Int), .bool true, .int .i64 0]) ?_ _ _ rfl
    refine blk_put (cs := #[.slice A1 L.length c1, .int .i64 (s : Int), .bool false, .int .i64 0]) ?_ _ _ rfl
    refine blk_put (cs := #[.slice A1 L.length c1, .int .i64 0, .bool false, .int .i64 0]) ?_ _ _ rfl
    refine blk_put (cs := #[.slice none 0 0, .int .i64 0, .bool false, .int .i64 0]) ?_ _ _ rfl
    exact HZ2.out) hu64 rfl (by kernel_rfl)) rfl ?_
   rw [HSM.out]
   have k0 := Keeps.of_below HB2.out (fun _ => False)
   have k1 := k0.set (p := ⟨W.heap.size, 0, none⟩) (.inr (Nat.le_refl _)) (.slice A1 L.length c1)
   have k2 := k1.set (p := ⟨W.heap.size, 1, none⟩) (.inr (Nat.le_refl _)) (.int .i64 (s : Int))
   have k3 := k2.set (p := ⟨W.heap.size, 2, none⟩) (.inr (Nat.le_refl _)) (.bool true)
   have k4 := k3.set (p := ⟨W.heap.size, 3, none⟩) (.inr (Nat.le_refl _)) (.int .i64 gn)
   have hne : ∀ k, W.heap.size + 2 ≤ k → k ≠ W.heap.size := fun k hk he => by omega
   have r1 := Kd.R_far HRW2.out (p := ⟨W.heap.size, 0, none⟩) hne (.slice A1 L.length c1)
   have r2 := Kd.R_far r1 (p := ⟨W.heap.size, 1, none⟩) hne (.int .i64 (s : Int))
   have r3 := Kd.R_far r2 (p := ⟨W.heap.size, 2, none⟩) hne (.bool true)
   have r4 := Kd.R_far r3 (p := ⟨W.heap.size, 3, none⟩) hne (.int .i64 gn)
   exact ⟨_, rfl, Kd.R_mono r4 (fun k hk => by omega), k4.belowF⟩

  ·have hl2 : 2 ≤ l.length := by omega
   obtain ⟨n, en⟩ : ∃ n, n = nJ l := ⟨_, rfl⟩
   rw [← en] at h1 h2 h3
   obtain ⟨ba, eba⟩ : ∃ x, rd l 0 = x := ⟨_, rfl⟩
   obtain ⟨bb, ebb⟩ : ∃ x, rd l 1 = x := ⟨_, rfl⟩
   have hra : 0 ≤ ba ∧ ba ≤ 255 := by
    rw [← eba]
    have : rd l 0 = l[0] := by simp [rd, show 0 < l.length by omega]
    rw [this]
    exact okB_mem HLB.out _ (List.getElem_mem _)
   have hrb : 0 ≤ bb ∧ bb ≤ 255 := by
    rw [← ebb]
    have : rd l 1 = l[1] := by simp [rd, show 1 < l.length by omega]
    rw [this]
    exact okB_mem HLB.out _ (List.getElem_mem _)
   have hnn : 256 * ba + bb = (n : Int) := by rw [en]; unfold nJ; rw [eba, ebb]; omega
   obtain ⟨ad, eA, hxa⟩ := Kd.at_int HCL.out 0 (by omega) (by omega)
   obtain ⟨ad', eA', hxb⟩ := Kd.at_int HCL.out 1 (by omega) (by omega)
   subst eA
   cases eA'
   rw [eba] at hxa
   rw [ebb] at hxb
   rw [show ad.add (0 : Int).toNat = ad by simp [Addr.add]] at hxa
   rw [show ad.add (1 : Int).toNat = ⟨ad.block, ad.off + 1, none⟩ from by have := add_field ad 0 1 (by omega); rwa [show ad.add 0 = ad by simp [Addr.add]] at this] at hxb
   have hor := or_byte ba bb hra.1 (by omega) hrb.1 hrb.2
   rw [hnn] at hor
   have hor2 : Go.bits .or .i64 (ba * 256) bb = (n : Int) := by rw [← hor, w64' (by omega) (by omega), w64' (by omega) (by omega)]
   have wa : wrap64 ba = ba := w64' (by omega) (by omega)
   have wb : wrap64 bb = bb := w64' (by omega) (by omega)
   have wc : wrap64 (ba * 256) = ba * 256 := w64' (by omega) (by omega)
   have b1 : decide ((s : Int) < (b.length : Int)) = true := decide_eq_true (by omega)
   have b1n : decide (s < b.length) = true := decide_eq_true (by omega)
   have b2 : decide ((l.length : Int) < 2) = false := decide_eq_false (by omega)
   have b2n : decide (l.length < 2) = false := decide_eq_false (by omega)
   have l0 : (0 : Int) < (l.length : Int) := by omega
   have l1 : (1 : Int) < (l.length : Int) := by omega
   have l0d : decide ((0 : Int) < (l.length : Int)) = true := decide_eq_true l0
   have l1d : decide ((1 : Int) < (l.length : Int)) = true := decide_eq_true l1
   have l0n : 0 < l.length := by omega
   have l1n : 1 < l.length := by omega
   have HEN := Aside0.mk en
   clear hra hrb hnn eba ebb en
   have HEND := Aside0.mk (show readA b = (L, s, 2) by rw [HALL.out, ← el, glue_stop L s b (by rw [el, hn]; decide), el, hn])
   have b3 : decide ((n : Int) < 1) = false := decide_eq_false (by omega)
   have b3n : decide (n < 1) = false := decide_eq_false (by omega)
   have b4 : decide (8192 < (n : Int)) = false := decide_eq_false (by omega)
   have b4n : decide (8192 < n) = false := decide_eq_false (by omega)
   have b5 : decide ((l.length : Int) < (n : Int) + 4) = false := decide_eq_false (by omega)
   have b5n : decide (l.length < n + 4) = false := decide_eq_false (by omega)
   have hcu := hcut_to (n + 2) (some ad) l.length (c - s) (by omega) hcl
   have hcu2 := hcut_mid (n + 2) (n + 4) (some ad) l.length (c - s) (by omega) (by omega) hcl
   have hcu3 := hcut_mid 2 (n + 2) (some ad) l.length (c - s) (by omega) (by omega) hcl
   rw [show ((n + 2 : Nat) : Int) = (n : Int) + 2 from rfl] at hcu hcu2 hcu3
   rw [show ((n + 4 : Nat) : Int) = (n : Int) + 4 from rfl] at hcu2
   rw [show ((2 : Nat) : Int) = 2 from rfl] at hcu3
   rw [show n + 4 - (n + 2) = 2 by omega] at hcu2
   rw [show n + 2 - 2 = n by omega] at hcu3
   obtain ⟨A2, eA2⟩ : ∃ x, (if c - s = n + 2 then some ad else (some ad).map (·.add ((n + 2) * 1))) = x := ⟨_, rfl⟩
   obtain ⟨A3, eA3⟩ : ∃ x, (if c - s = 2 then some ad else (some ad).map (·.add (2 * 1))) = x := ⟨_, rfl⟩
   rw [eA2] at hcu2
   rw [eA3] at hcu3
   have HK1 := Aside0.mk (show Kd.C (Kd.int .u8) wr (some ad) (l.take (n + 2)).length (l.take (n + 2)) from C_take' HCL.out (by omega))
   have HK2 := Aside0.mk (show Kd.C (Kd.int .u8) wr A2 ((l.take (n + 4)).drop (n + 2)).length ((l.take (n + 4)).drop (n + 2)) by rw [← eA2]; exact C_mid' HCL.out (by omega) (by omega) hcl)
   have HK3 := Aside0.mk (show Kd.C (Kd.int .u8) wr A3 ((l.take (n + 2)).drop 2).length ((l.take (n + 2)).drop 2) by rw [← eA3]; exact C_mid' HCL.out (by omega) (by omega) hcl)
   have HT1 := Aside0.mk (show (l.take (n + 2)).length = n + 2 ∧ n + 2 ≤ c - s by rw [List.length_take]; omega)
   have HT2 := Aside0.mk (show ((l.take (n + 4)).drop (n + 2)).length = 2 ∧ 2 ≤ c - s - (n + 2) by rw [List.length_drop, List.length_take]; omega)
   have HT3 := Aside0.mk (show ((l.take (n + 2)).drop 2).length = n by rw [List.length_drop, List.length_take]; omega)
   rw [← HEN.out] at h4
   have HN := Aside0.mk (show n ≤ 8192 ∧ recJ l = (l.take (n + 2)).drop 2 from ⟨by omega, by unfold recJ; rw [← HEN.out]⟩)
   have HN6 := Aside0.mk (show n + 2 ≤ 1000000 by omega)
   clear eA2 eA3
   have wn4 := w64n n 4 h2 (by decide)
   have wn2 := w64n n 2 h2 (by decide)
   clear h1 h2 h3 hn HALL HLB hll hsl hLs hlen hcl hcs el hl2
   go_wp2_with fail
   obtain ⟨wq, eq_⟩ : ∃ wq, wq = wr.drew := ⟨_, rfl⟩
   have HBQ := Aside0.mk (show Below wr.heap.size wr wq by rw [eq_]; exact below_drew (Below.refl _ _))
   refine start_ (n := 11) (S := fun w' => w'.cell? ad = some (.int .u8 ba) ∧ w'.cell? ⟨ad.block, ad.off + 1, none⟩ = some (.int .u8 bb)) (ds := []) #[false, false, false, false, false, false, false, false, false, false, false] (by kernel_rfl) rfl rfl ⟨(by rw [← eq_]; exact pw_cell_below HBQ.out hxa), (by rw [← eq_]; exact pw_cell_below HBQ.out hxb)⟩ (fun hHeld => ?_)
   rw [← eq_] at hHeld ⊢
   clear eq_ hxa hxb
   refine pure_ (i := 0) (N := some 21) (v := ?_) (a' := ?_) #[true, false, false, false, false, false, false, false, false, false, false] rfl rfl (by kernel_rfl) (fun _ _ _ h => h) (Or.inl ⟨by rfl, ?_⟩) ?_ ?_
   rotate_left
   ·intro w'
    go_simp
    with_reducible rfl
   rotate_left
   ·simp only [Act.put, List.setIfInBounds_toArray, List.set_cons_zero, List.set_cons_succ, i64_w, i32_w]
    rfl
   refine pure_ (i := 1) (N := some 22) (v := ?_) (a' := ?_) #[true, true, false, false, false, false, false, false, false, false, false] rfl rfl (by kernel_rfl) (fun _ _ _ h => h) (Or.inl ⟨by rfl, ?_⟩) ?_ ?_
   rotate_left
   ·intro w'
    go_simp
    with_reducible rfl
   rotate_left
   ·simp only [Act.put, List.setIfInBounds_toArray, List.set_cons_zero, List.set_cons_succ, i64_w, i32_w]
    rfl
   refine pure_ (i := 5) (N := some 26) (v := ?_) (a' := ?_) #[true, true, false, false, false, true, false, false, false, false, false] rfl rfl (by kernel_rfl) (fun _ _ _ h => h) (Or.inl ⟨by rfl, ?_⟩) ?_ ?_
   rotate_left
   ·intro w'
    go_simp
    with_reducible rfl
   rotate_left
   ·simp only [Act.put, List.setIfInBounds_toArray, List.set_cons_zero, List.set_cons_succ, i64_w, i32_w]
    rfl
   refine pure_ (i := 6) (N := some 27) (v := ?_) (a' := ?_) #[true, true, false, false, false, true, true, false, false, false, false] rfl rfl (by kernel_rfl) (fun _ _ _ h => h) (Or.inl ⟨by rfl, ?_⟩) ?_ ?_
   rotate_left
   ·intro w'
    go_simp
    with_reducible rfl
   rotate_left
   ·simp only [Act.put, List.setIfInBounds_toArray, List.set_cons_zero, List.set_cons_succ, i64_w, i32_w]
    rfl
   refine take_ (i := 2) (N := some 23) (v := ?_) (a' := ?_) #[true, true, true, false, false, true, true, false, false, false, false] rfl rfl (by kernel_rfl) (fun _ _ _ h => h) (Or.inl ⟨by rfl, ?_⟩) hHeld ?_ ?_
   rotate_left
   ·rintro w' ⟨s0, s1⟩
    go_simp
    with_reducible rfl
   rotate_left
   ·simp only [Act.put, List.setIfInBounds_toArray, List.set_cons_zero, List.set_cons_succ, i64_w, i32_w]
    rfl
   refine pure_ (i := 3) (N := some 24) (v := ?_) (a' := ?_) #[true, true, true, true, false, true, true, false, false, false, false] rfl rfl (by kernel_rfl) (fun _ _ _ h => h) (Or.inl ⟨by rfl, ?_⟩) ?_ ?_
   rotate_left
   ·intro w'
    go_simp
    with_reducible rfl
   rotate_left
   ·simp only [Act.put, List.setIfInBounds_toArray, List.set_cons_zero, List.set_cons_succ, i64_w, i32_w]
    rfl
   refine pure_ (i := 4) (N := some 25) (v := ?_) (a' := ?_) #[true, true, true, true, true, true, true, false, false, false, false] rfl rfl (by kernel_rfl) (fun _ _ _ h => h) (Or.inl ⟨by rfl, ?_⟩) ?_ ?_
   rotate_left
   ·intro w'
    go_simp
    with_reducible rfl
   rotate_left
   ·simp only [Act.put, List.setIfInBounds_toArray, List.set_cons_zero, List.set_cons_succ, i64_w, i32_w]
    rfl
   refine take_ (i := 7) (N := some 28) (v := ?_) (a' := ?_) #[true, true, true, true, true, true, true, true, false, false, false] rfl rfl (by kernel_rfl) (fun _ _ _ h => h) (Or.inl ⟨by rfl, ?_⟩) hHeld ?_ ?_
   rotate_left
   ·rintro w' ⟨s0, s1⟩
    go_simp
    with_reducible rfl
   rotate_left
   ·simp only [Act.put, List.setIfInBounds_toArray, List.set_cons_zero, List.set_cons_succ, i64_w, i32_w]
    rfl
   refine pure_ (i := 8) (N := some 29) (v := ?_) (a' := ?_) #[true, true, true, true, true, true, true, true, true, false, false] rfl rfl (by kernel_rfl) (fun _ _ _ h => h) (Or.inl ⟨by rfl, ?_⟩) ?_ ?_
   rotate_left
   ·intro w'
    go_simp
    with_reducible rfl
   rotate_left
   ·simp only [Act.put, List.setIfInBounds_toArray, List.set_cons_zero, List.set_cons_succ, i64_w, i32_w]
    rfl
   refine pure_ (i := 9) (N := some 30) (v := ?_) (a' := ?_) #[true, true, true, true, true, true, true, true, true, true, false] rfl rfl (by kernel_rfl) (fun _ _ _ h => h) (Or.inl ⟨by rfl, ?_⟩) ?_ ?_
   rotate_left
   ·intro w'
    go_simp
    with_reducible rfl
   rotate_left
   ·simp only [Act.put, List.setIfInBounds_toArray, List.set_cons_zero, List.set_cons_succ, i64_w, i32_w]
    rfl
   refine pure_ (i := 10) (N := some 6) (v := ?_) (a' := ?_) #[true, true, true, true, true, true, true, true, true, true, true] rfl rfl (by kernel_rfl) (fun _ _ _ h => h) (Or.inl ⟨by rfl, ?_⟩) ?_ ?_
   rotate_left
   ·intro w'
    go_simp
    with_reducible rfl
   rotate_left
   ·simp only [Act.put, List.setIfInBounds_toArray, List.set_cons_zero, List.set_cons_succ, i64_w, i32_w]
    rfl
   refine done_ (by kernel_rfl) ?_
   clear hHeld
   have HB_ := Aside0.mk (below_step HB.out HBQ.out)
   have HZ_ := Aside0.mk (blk_below HZ.out HBQ.out)
   have HG_ := Aside0.mk (blk_below HG.out HBQ.out)
   have HRW_ := Aside0.mk (Kd.R_below HRW.out HBQ.out)
   clear HB HZ HG HRW
   have HB := HB_
   have HZ := HZ_
   have HG := HG_
   have HRW := HRW_
   clear HB_ HZ_ HG_ HRW_
   clear x0 x1 x2 x3 f0 f1 f2 f3
   go_wp2_with fail
   refine start_ (n := 15) (S := fun w' => True) (ds := []) #[false, false, false, false, false, false, false, false, false, false, false, false, false, false, false] (by kernel_rfl) rfl rfl trivial (fun hHeld => ?_)
   obtain ⟨w6, e6⟩ : ∃ w6, w6 = wq.drew := ⟨_, rfl⟩
   rw [← e6]
   have HB6 := Aside0.mk (show Below wq.heap.size wq w6 by rw [e6]; exact below_drew (Below.refl _ _))
   clear e6
   refine pure_ (i := 0) (N := some 47) (v := ?_) (a' := ?_) #[true, false, false, false, false, false, false, false, false, false, false, false, false, false, false] rfl rfl (by kernel_rfl) (fun _ _ _ h => h) (Or.inl ⟨by rfl, ?_⟩) ?_ ?_
   rotate_left
   ·intro w'
    go_simp
    with_reducible rfl
   rotate_left
   ·simp only [Act.put, List.setIfInBounds_toArray, List.set_cons_zero, List.set_cons_succ, i64_w, i32_w]
    rfl
   refine pure_ (i := 1) (N := some 48) (v := ?_) (a' := ?_) #[true, true, false, false, false, false, false, false, false, false, false, false, false, false, false] rfl rfl (by kernel_rfl) (fun _ _ _ h => h) (Or.inl ⟨by rfl, ?_⟩) ?_ ?_
   rotate_left
   ·intro w'
    go_simp
    with_reducible rfl
   rotate_left
   ·simp only [Act.put, List.setIfInBounds_toArray, List.set_cons_zero, List.set_cons_succ, i64_w, i32_w]
    rfl
   refine pure_ (i := 2) (N := some 49) (v := ?_) (a' := ?_) #[true, true, true, false, false, false, false, false, false, false, false, false, false, false, false] rfl rfl (by kernel_rfl) (fun _ _ _ h => h) (Or.inl ⟨by rfl, ?_⟩) ?_ ?_
   rotate_left
   ·intro w'
    go_simp
    with_reducible rfl
   rotate_left
   ·simp only [Act.put, List.setIfInBounds_toArray, List.set_cons_zero, List.set_cons_succ, i64_w, i32_w]
    rfl
   refine pure_ (i := 3) (N := some 50) (v := ?_) (a' := ?_) #[true, true, true, true, false, false, false, false, false, false, false, false, false, false, false] rfl rfl (by kernel_rfl) (fun _ _ _ h => h) (Or.inl ⟨by rfl, ?_⟩) ?_ ?_
   rotate_left
   ·intro w'
    go_simp
    with_reducible rfl
   rotate_left
   ·simp only [Act.put, List.setIfInBounds_toArray, List.set_cons_zero, List.set_cons_succ, i64_w, i32_w]
    rfl
   refine pure_ (i := 6) (N := some 53) (v := ?_) (a' := ?_) #[true, true, true, true, false, false, true, false, false, false, false, false, false, false, false] rfl rfl (by kernel_rfl) (fun _ _ _ h => h) (Or.inl ⟨by rfl, ?_⟩) ?_ ?_
   rotate_left
   ·intro w'
    go_simp
    with_reducible rfl
   rotate_left
   ·simp only [Act.put, List.setIfInBounds_toArray, List.set_cons_zero, List.set_cons_succ, i64_w, i32_w]
    rfl
   refine pure_ (i := 7) (N := some 54) (v := ?_) (a' := ?_) #[true, true, true, true, false, false, true, true, false, false, false, false, false, false, false] rfl rfl (by kernel_rfl) (fun _ _ _ h => h) (Or.inl ⟨by rfl, ?_⟩) ?_ ?_
   rotate_left
   ·intro w'
    go_simp
    with_reducible rfl
   rotate_left
   ·simp only [Act.put, List.setIfInBounds_toArray, List.set_cons_zero, List.set_cons_succ, i64_w, i32_w]
    rfl
   refine pure_ (i := 8) (N := some 55) (v := ?_) (a' := ?_) #[true, true, true, true, false, false, true, true, true, false, false, false, false, false, false] rfl rfl (by kernel_rfl) (fun _ _ _ h => h) (Or.inl ⟨by rfl, ?_⟩) ?_ ?_
   rotate_left
   ·intro w'
    go_simp
    with_reducible rfl
   rotate_left
   ·simp only [Act.put, List.setIfInBounds_toArray, List.set_cons_zero, List.set_cons_succ, i64_w, i32_w]
    rfl
   refine pure_ (i := 9) (N := some 56) (v := ?_) (a' := ?_) #[true, true, true, true, false, false, true, true, true, true, false, false, false, false, false] rfl rfl (by kernel_rfl) (fun _ _ _ h => h) (Or.inl ⟨by rfl, ?_⟩) ?_ ?_
   rotate_left
   ·intro w'
    go_simp
    with_reducible rfl
   rotate_left
   ·simp only [Act.put, List.setIfInBounds_toArray, List.set_cons_zero, List.set_cons_succ, i64_w, i32_w]
    rfl
   refine pure_ (i := 10) (N := some 57) (v := ?_) (a' := ?_) #[true, true, true, true, false, false, true, true, true, true, true, false, false, false, false] rfl rfl (by kernel_rfl) (fun _ _ _ h => h) (Or.inl ⟨by rfl, ?_⟩) ?_ ?_
   rotate_left
   ·intro w'
    go_simp
    with_reducible rfl
   rotate_left
   ·simp only [Act.put, List.setIfInBounds_toArray, List.set_cons_zero, List.set_cons_succ, i64_w, i32_w]
    rfl
   refine pure_ (i := 11) (N := some 58) (v := ?_) (a' := ?_) #[true, true, true, true, false, false, true, true, true, true, true, true, false, false, false] rfl rfl (by kernel_rfl) (fun _ _ _ h => h) (Or.inl ⟨by rfl, ?_⟩) ?_ ?_
   rotate_left
   ·intro w'
    go_simp
    with_reducible rfl
   rotate_left
   ·simp only [Act.put, List.setIfInBounds_toArray, List.set_cons_zero, List.set_cons_succ, i64_w, i32_w]
    rfl
   refine one_ (i := 4) (N := some 51) #[true, true, true, true, true, false, true, true, true, true, true, true, false, false, false] rfl rfl (by kernel_rfl) (by decide) (fun K hK => ?_)
   refine goes_ Try.func65 (by kernel_rfl) rfl #[.slice (some ad) (n + 2) (c - s)] (by rfl) rfl rfl (by simp only [List.map_toArray, List.map_cons, List.map_nil]; rfl) ?_
   with_reducible refine (callsSum HT1.out.1 (Kd.C_below HK1.out (below_step HBQ.out HB6.out)) HN6.out).mono ?_
   rintro e w7 ⟨rfl, rfl⟩
   refine ⟨_, rfl, ?_⟩
   refine hK.out _ _ trivial (fun hHeld => ?_)
   clear hK K
   refine norm_ (a' := ?_) ?_ ?_
   rotate_left
   ·show Act.put _ (some 51) _ = _
    simp only [Act.put, List.setIfInBounds_toArray, List.set_cons_zero, List.set_cons_succ, i64_w, i32_w]
    rfl
   refine one_ (i := 5) (N := some 52) #[true, true, true, true, true, true, true, true, true, true, true, true, false, false, false] rfl rfl (by kernel_rfl) (by decide) (fun K hK => ?_)
   refine goes_ Try.func64 (by kernel_rfl) rfl #[.int .i64 (sumM (l.take (n + 2)))] (by rfl) rfl rfl (by simp only [List.map_toArray, List.map_cons, List.map_nil]; rfl) ?_
   with_reducible refine (sums_Put.calls (sumM (l.take (n + 2))) (putM (sumM (l.take (n + 2)))) w6 rfl).mono ?_
   rintro e w8 ⟨v8, rfl, hR8, hB8⟩
   obtain ⟨A8, c8, ev8⟩ := Kd.R_slice hR8
   subst ev8
   have HR8 := Aside0.mk (Kd.R_reads' hR8).2
   have HB8 := Aside0.mk (below_step HB6.out hB8)
   clear hR8 hB8
   refine ⟨_, rfl, ?_⟩
   refine hK.out _ _ trivial (fun hHeld => ?_)
   clear hK K
   refine norm_ (a' := ?_) ?_ ?_
   rotate_left
   ·show Act.put _ (some 52) _ = _
    simp only [Act.put, List.setIfInBounds_toArray, List.set_cons_zero, List.set_cons_succ, i64_w, i32_w]
    rfl
   refine one_ (i := 12) (N := some 59) #[true, true, true, true, true, true, true, true, true, true, true, true, true, false, false] rfl rfl (by kernel_rfl) (by decide) (fun K hK => ?_)
   refine goes_ Try.func63 (by kernel_rfl) rfl #[.slice A8 2 c8, .slice A2 2 (c - s - (n + 2))] (by rfl) rfl rfl (by simp only [List.map_toArray, List.map_cons, List.map_nil]; rfl) ?_
   with_reducible refine (callsEqual HR8.out.1 HR8.out.2 HT2.out.1 HT2.out.2 (Kd.C_below HK2.out (below_step HBQ.out HB8.out))).mono ?_
   rintro e w9 ⟨rfl, hd9⟩
   obtain ⟨dc, hdc⟩ : ∃ dc, dc = decide (putM (sumM (l.take (n + 2))) = (l.take (n + 4)).drop (n + 2)) := ⟨_, rfl⟩
   rw [← hdc]
   have HDC := Aside0.mk hdc
   have HB9 := Aside0.mk (below_step HB8.out hd9.below)
   clear hd9 hdc
   refine ⟨_, rfl, ?_⟩
   refine hK.out _ _ trivial (fun hHeld => ?_)
   clear hK K
   refine norm_ (a' := ?_) ?_ ?_
   rotate_left
   ·show Act.put _ (some 59) _ = _
    simp only [Act.put, List.setIfInBounds_toArray, List.set_cons_zero, List.set_cons_succ, i64_w, i32_w]
    rfl
   refine pure_ (i := 13) (N := some 60) (v := ?_) (a' := ?_) #[true, true, true, true, true, true, true, true, true, true, true, true, true, true, false] rfl rfl (by kernel_rfl) (fun _ _ _ h => h) (Or.inl ⟨by rfl, ?_⟩) ?_ ?_
   rotate_left
   ·intro w'
    go_simp
    with_reducible rfl
   rotate_left
   ·simp only [Act.put, List.setIfInBounds_toArray, List.set_cons_zero, List.set_cons_succ, i64_w, i32_w]
    rfl
   refine pure_ (i := 14) (N := some 46) (v := ?_) (a' := ?_) #[true, true, true, true, true, true, true, true, true, true, true, true, true, true, true] rfl rfl (by kernel_rfl) (fun _ _ _ h => h) (Or.inl ⟨by rfl, ?_⟩) ?_ ?_
   rotate_left
   ·intro w'
    go_simp
    with_reducible rfl
   rotate_left
   ·simp only [Act.put, List.setIfInBounds_toArray, List.set_cons_zero, List.set_cons_succ, i64_w, i32_w]
    rfl
   refine done_ (by kernel_rfl) ?_
   have HBF := Aside0.mk (below_step HB.out HB9.out)
   have HZF := Aside0.mk (blk_below HZ.out HB9.out)
   have hcond : dc = false := HDC.out.trans (decide_eq_false (fun he => h4 he.symm))
   subst hcond
   obtain ⟨z0, z1, z2, z3, q0, q1, q2, q3⟩ := blk_all4 HZF.out
   go_wp2_with fail
   (try rw [Exit.noGoto_ret])
   (try simp only [Exit.inBlock, Exit.then])
   refine bodyPost_ret (results_cell_row2 rfl _ _ W.heap.size 64 #[.slice none 0 0, .int .i64 0, .bool false, .int .i64 0] (0, 0) _ rfl (by
    refine blk_put (cs := #[.slice none 0 0, .int .i64 0, .bool false, .int .i64 0]) ?_ _ _ rfl
    refine blk_put (cs := #[.slice none 0 0, .int .i64 0, .bool false, .int .i64 0]) ?_ _ _ rfl
    refine blk_put (cs := #[.slice none 0 0, .int .i64 0, .bool false, .int .i64 0]) ?_ _ _ rfl
    refine blk_put (cs := #[.slice none 0 0, .int .i64 0, .bool false, .int .i64 0]) ?_ _ _ rfl
    exact HZF.out) hu64 rfl (by kernel_rfl)) rfl ?_
   rw [show sideM b = ([], 0, false, 0, false) by unfold sideM; rw [HEND.out, if_pos rfl]]
   have k0 := Keeps.of_below HBF.out (fun _ => False)
   have k1 := k0.set (p := ⟨W.heap.size, 0, none⟩) (.inr (Nat.le_refl _)) (.slice none 0 0)
   have k2 := k1.set (p := ⟨W.heap.size, 1, none⟩) (.inr (Nat.le_refl _)) (.int .i64 0)
   have k3 := k2.set (p := ⟨W.heap.size, 2, none⟩) (.inr (Nat.le_refl _)) (.bool false)
   have k4 := k3.set (p := ⟨W.heap.size, 3, none⟩) (.inr (Nat.le_refl _)) (.int .i64 0)
   exact ⟨_, rfl, Kd.R_nil _ _ _ _ _, k4.belowF⟩

  ·have hl2 : 2 ≤ l.length := by omega
   obtain ⟨n, en⟩ : ∃ n, n = nJ l := ⟨_, rfl⟩
   rw [← en] at h1 h2 h3
   obtain ⟨ba, eba⟩ : ∃ x, rd l 0 = x := ⟨_, rfl⟩
   obtain ⟨bb, ebb⟩ : ∃ x, rd l 1 = x := ⟨_, rfl⟩
   have hra : 0 ≤ ba ∧ ba ≤ 255 := by
    rw [← eba]
    have : rd l 0 = l[0] := by simp [rd, show 0 < l.length by omega]
    rw [this]
    exact okB_mem HLB.out _ (List.getElem_mem _)
   have hrb : 0 ≤ bb ∧ bb ≤ 255 := by
    rw [← ebb]
    have : rd l 1 = l[1] := by simp [rd, show 1 < l.length by omega]
    rw [this]
    exact okB_mem HLB.out _ (List.getElem_mem _)
   have hnn : 256 * ba + bb = (n : Int) := by rw [en]; unfold nJ; rw [eba, ebb]; omega
   obtain ⟨ad, eA, hxa⟩ := Kd.at_int HCL.out 0 (by omega) (by omega)
   obtain ⟨ad', eA', hxb⟩ := Kd.at_int HCL.out 1 (by omega) (by omega)
   subst eA
   cases eA'
   rw [eba] at hxa
   rw [ebb] at hxb
   rw [show ad.add (0 : Int).toNat = ad by simp [Addr.add]] at hxa
   rw [show ad.add (1 : Int).toNat = ⟨ad.block, ad.off + 1, none⟩ from by have := add_field ad 0 1 (by omega); rwa [show ad.add 0 = ad by simp [Addr.add]] at this] at hxb
   have hor := or_byte ba bb hra.1 (by omega) hrb.1 hrb.2
   rw [hnn] at hor
   have hor2 : Go.bits .or .i64 (ba * 256) bb = (n : Int) := by rw [← hor, w64' (by omega) (by omega), w64' (by omega) (by omega)]
   have wa : wrap64 ba = ba := w64' (by omega) (by omega)
   have wb : wrap64 bb = bb := w64' (by omega) (by omega)
   have wc : wrap64 (ba * 256) = ba * 256 := w64' (by omega) (by omega)
   have b1 : decide ((s : Int) < (b.length : Int)) = true := decide_eq_true (by omega)
   have b1n : decide (s < b.length) = true := decide_eq_true (by omega)
   have b2 : decide ((l.length : Int) < 2) = false := decide_eq_false (by omega)
   have b2n : decide (l.length < 2) = false := decide_eq_false (by omega)
   have l0 : (0 : Int) < (l.length : Int) := by omega
   have l1 : (1 : Int) < (l.length : Int) := by omega
   have l0d : decide ((0 : Int) < (l.length : Int)) = true := decide_eq_true l0
   have l1d : decide ((1 : Int) < (l.length : Int)) = true := decide_eq_true l1
   have l0n : 0 < l.length := by omega
   have l1n : 1 < l.length := by omega
   have HEN := Aside0.mk en
   clear hra hrb hnn eba ebb en
   have b3 : decide ((n : Int) < 1) = false := decide_eq_false (by omega)
   have b3n : decide (n < 1) = false := decide_eq_false (by omega)
   have b4 : decide (8192 < (n : Int)) = false := decide_eq_false (by omega)
   have b4n : decide (8192 < n) = false := decide_eq_false (by omega)
   have b5 : decide ((l.length : Int) < (n : Int) + 4) = false := decide_eq_false (by omega)
   have b5n : decide (l.length < n + 4) = false := decide_eq_false (by omega)
   have hcu := hcut_to (n + 2) (some ad) l.length (c - s) (by omega) hcl
   have hcu2 := hcut_mid (n + 2) (n + 4) (some ad) l.length (c - s) (by omega) (by omega) hcl
   have hcu3 := hcut_mid 2 (n + 2) (some ad) l.length (c - s) (by omega) (by omega) hcl
   rw [show ((n + 2 : Nat) : Int) = (n : Int) + 2 from rfl] at hcu hcu2 hcu3
   rw [show ((n + 4 : Nat) : Int) = (n : Int) + 4 from rfl] at hcu2
   rw [show ((2 : Nat) : Int) = 2 from rfl] at hcu3
   rw [show n + 4 - (n + 2) = 2 by omega] at hcu2
   rw [show n + 2 - 2 = n by omega] at hcu3
   obtain ⟨A2, eA2⟩ : ∃ x, (if c - s = n + 2 then some ad else (some ad).map (·.add ((n + 2) * 1))) = x := ⟨_, rfl⟩
   obtain ⟨A3, eA3⟩ : ∃ x, (if c - s = 2 then some ad else (some ad).map (·.add (2 * 1))) = x := ⟨_, rfl⟩
   rw [eA2] at hcu2
   rw [eA3] at hcu3
   have HK1 := Aside0.mk (show Kd.C (Kd.int .u8) wr (some ad) (l.take (n + 2)).length (l.take (n + 2)) from C_take' HCL.out (by omega))
   have HK2 := Aside0.mk (show Kd.C (Kd.int .u8) wr A2 ((l.take (n + 4)).drop (n + 2)).length ((l.take (n + 4)).drop (n + 2)) by rw [← eA2]; exact C_mid' HCL.out (by omega) (by omega) hcl)
   have HK3 := Aside0.mk (show Kd.C (Kd.int .u8) wr A3 ((l.take (n + 2)).drop 2).length ((l.take (n + 2)).drop 2) by rw [← eA3]; exact C_mid' HCL.out (by omega) (by omega) hcl)
   have HT1 := Aside0.mk (show (l.take (n + 2)).length = n + 2 ∧ n + 2 ≤ c - s by rw [List.length_take]; omega)
   have HT2 := Aside0.mk (show ((l.take (n + 4)).drop (n + 2)).length = 2 ∧ 2 ≤ c - s - (n + 2) by rw [List.length_drop, List.length_take]; omega)
   have HT3 := Aside0.mk (show ((l.take (n + 2)).drop 2).length = n by rw [List.length_drop, List.length_take]; omega)
   rw [← HEN.out] at h4
   have HN := Aside0.mk (show n ≤ 8192 ∧ recJ l = (l.take (n + 2)).drop 2 from ⟨by omega, by unfold recJ; rw [← HEN.out]⟩)
   have HN6 := Aside0.mk (show n + 2 ≤ 1000000 by omega)
   clear eA2 eA3
   have HALL2 := Aside0.mk (show readA b = glue (L ++ [recJ l]) (s + (n + 4)) (readA (b.drop (s + (n + 4)))) by
    have := glue_step L s b (by rw [el]; exact hn)
    rw [el, ← HEN.out] at this
    rw [HALL.out]
    exact this)
   have HRO := Aside0.mk (show okB (recJ l) = true ∧ (recJ l).length = n from ⟨okB_recJ HLB.out, by rw [recJ_len hn, HEN.out]⟩)
   have HLE := Aside0.mk (show s + (n + 4) ≤ b.length ∧ L.length + 1 ≤ s + (n + 4) by omega)
   have HSL := Aside0.mk hsl
   have wn4 := w64n n 4 h2 (by decide)
   have wn2 := w64n n 2 h2 (by decide)
   clear h1 h2 h3 hn HALL HLB hll hsl hLs hlen hcl hcs el hl2
   go_wp2_with fail
   obtain ⟨wq, eq_⟩ : ∃ wq, wq = wr.drew := ⟨_, rfl⟩
   have HBQ := Aside0.mk (show Below wr.heap.size wr wq by rw [eq_]; exact below_drew (Below.refl _ _))
   refine start_ (n := 11) (S := fun w' => w'.cell? ad = some (.int .u8 ba) ∧ w'.cell? ⟨ad.block, ad.off + 1, none⟩ = some (.int .u8 bb)) (ds := []) #[false, false, false, false, false, false, false, false, false, false, false] (by kernel_rfl) rfl rfl ⟨(by rw [← eq_]; exact pw_cell_below HBQ.out hxa), (by rw [← eq_]; exact pw_cell_below HBQ.out hxb)⟩ (fun hHeld => ?_)
   rw [← eq_] at hHeld ⊢
   clear eq_ hxa hxb
   refine pure_ (i := 0) (N := some 21) (v := ?_) (a' := ?_) #[true, false, false, false, false, false, false, false, false, false, false] rfl rfl (by kernel_rfl) (fun _ _ _ h => h) (Or.inl ⟨by rfl, ?_⟩) ?_ ?_
   rotate_left
   ·intro w'
    go_simp
    with_reducible rfl
   rotate_left
   ·simp only [Act.put, List.setIfInBounds_toArray, List.set_cons_zero, List.set_cons_succ, i64_w, i32_w]
    rfl
   refine pure_ (i := 1) (N := some 22) (v := ?_) (a' := ?_) #[true, true, false, false, false, false, false, false, false, false, false] rfl rfl (by kernel_rfl) (fun _ _ _ h => h) (Or.inl ⟨by rfl, ?_⟩) ?_ ?_
   rotate_left
   ·intro w'
    go_simp
    with_reducible rfl
   rotate_left
   ·simp only [Act.put, List.setIfInBounds_toArray, List.set_cons_zero, List.set_cons_succ, i64_w, i32_w]
    rfl
   refine pure_ (i := 5) (N := some 26) (v := ?_) (a' := ?_) #[true, true, false, false, false, true, false, false, false, false, false] rfl rfl (by kernel_rfl) (fun _ _ _ h => h) (Or.inl ⟨by rfl, ?_⟩) ?_ ?_
   rotate_left
   ·intro w'
    go_simp
    with_reducible rfl
   rotate_left
   ·simp only [Act.put, List.setIfInBounds_toArray, List.set_cons_zero, List.set_cons_succ, i64_w, i32_w]
    rfl
   refine pure_ (i := 6) (N := some 27) (v := ?_) (a' := ?_) #[true, true, false, false, false, true, true, false, false, false, false] rfl rfl (by kernel_rfl) (fun _ _ _ h => h) (Or.inl ⟨by rfl, ?_⟩) ?_ ?_
   rotate_left
   ·intro w'
    go_simp
    with_reducible rfl
   rotate_left
   ·simp only [Act.put, List.setIfInBounds_toArray, List.set_cons_zero, List.set_cons_succ, i64_w, i32_w]
    rfl
   refine take_ (i := 2) (N := some 23) (v := ?_) (a' := ?_) #[true, true, true, false, false, true, true, false, false, false, false] rfl rfl (by kernel_rfl) (fun _ _ _ h => h) (Or.inl ⟨by rfl, ?_⟩) hHeld ?_ ?_
   rotate_left
   ·rintro w' ⟨s0, s1⟩
    go_simp
    with_reducible rfl
   rotate_left
   ·simp only [Act.put, List.setIfInBounds_toArray, List.set_cons_zero, List.set_cons_succ, i64_w, i32_w]
    rfl
   refine pure_ (i := 3) (N := some 24) (v := ?_) (a' := ?_) #[true, true, true, true, false, true, true, false, false, false, false] rfl rfl (by kernel_rfl) (fun _ _ _ h => h) (Or.inl ⟨by rfl, ?_⟩) ?_ ?_
   rotate_left
   ·intro w'
    go_simp
    with_reducible rfl
   rotate_left
   ·simp only [Act.put, List.setIfInBounds_toArray, List.set_cons_zero, List.set_cons_succ, i64_w, i32_w]
    rfl
   refine pure_ (i := 4) (N := some 25) (v := ?_) (a' := ?_) #[true, true, true, true, true, true, true, false, false, false, false] rfl rfl (by kernel_rfl) (fun _ _ _ h => h) (Or.inl ⟨by rfl, ?_⟩) ?_ ?_
   rotate_left
   ·intro w'
    go_simp
    with_reducible rfl
   rotate_left
   ·simp only [Act.put, List.setIfInBounds_toArray, List.set_cons_zero, List.set_cons_succ, i64_w, i32_w]
    rfl
   refine take_ (i := 7) (N := some 28) (v := ?_) (a' := ?_) #[true, true, true, true, true, true, true, true, false, false, false] rfl rfl (by kernel_rfl) (fun _ _ _ h => h) (Or.inl ⟨by rfl, ?_⟩) hHeld ?_ ?_
   rotate_left
   ·rintro w' ⟨s0, s1⟩
    go_simp
    with_reducible rfl
   rotate_left
   ·simp only [Act.put, List.setIfInBounds_toArray, List.set_cons_zero, List.set_cons_succ, i64_w, i32_w]
    rfl
   refine pure_ (i := 8) (N := some 29) (v := ?_) (a' := ?_) #[true, true, true, true, true, true, true, true, true, false, false] rfl rfl (by kernel_rfl) (fun _ _ _ h => h) (Or.inl ⟨by rfl, ?_⟩) ?_ ?_
   rotate_left
   ·intro w'
    go_simp
    with_reducible rfl
   rotate_left
   ·simp only [Act.put, List.setIfInBounds_toArray, List.set_cons_zero, List.set_cons_succ, i64_w, i32_w]
    rfl
   refine pure_ (i := 9) (N := some 30) (v := ?_) (a' := ?_) #[true, true, true, true, true, true, true, true, true, true, false] rfl rfl (by kernel_rfl) (fun _ _ _ h => h) (Or.inl ⟨by rfl, ?_⟩) ?_ ?_
   rotate_left
   ·intro w'
    go_simp
    with_reducible rfl
   rotate_left
   ·simp only [Act.put, List.setIfInBounds_toArray, List.set_cons_zero, List.set_cons_succ, i64_w, i32_w]
    rfl
   refine pure_ (i := 10) (N := some 6) (v := ?_) (a' := ?_) #[true, true, true, true, true, true, true, true, true, true, true] rfl rfl (by kernel_rfl) (fun _ _ _ h => h) (Or.inl ⟨by rfl, ?_⟩) ?_ ?_
   rotate_left
   ·intro w'
    go_simp
    with_reducible rfl
   rotate_left
   ·simp only [Act.put, List.setIfInBounds_toArray, List.set_cons_zero, List.set_cons_succ, i64_w, i32_w]
    rfl
   refine done_ (by kernel_rfl) ?_
   clear hHeld
   have HB_ := Aside0.mk (below_step HB.out HBQ.out)
   have HZ_ := Aside0.mk (blk_below HZ.out HBQ.out)
   have HG_ := Aside0.mk (blk_below HG.out HBQ.out)
   have HRW_ := Aside0.mk (Kd.R_below HRW.out HBQ.out)
   clear HB HZ HG HRW
   have HB := HB_
   have HZ := HZ_
   have HG := HG_
   have HRW := HRW_
   clear HB_ HZ_ HG_ HRW_
   clear x0 x1 x2 x3 f0 f1 f2 f3
   go_wp2_with fail
   refine start_ (n := 15) (S := fun w' => True) (ds := []) #[false, false, false, false, false, false, false, false, false, false, false, false, false, false, false] (by kernel_rfl) rfl rfl trivial (fun hHeld => ?_)
   obtain ⟨w6, e6⟩ : ∃ w6, w6 = wq.drew := ⟨_, rfl⟩
   rw [← e6]
   have HB6 := Aside0.mk (show Below wq.heap.size wq w6 by rw [e6]; exact below_drew (Below.refl _ _))
   clear e6
   refine pure_ (i := 0) (N := some 47) (v := ?_) (a' := ?_) #[true, false, false, false, false, false, false, false, false, false, false, false, false, false, false] rfl rfl (by kernel_rfl) (fun _ _ _ h => h) (Or.inl ⟨by rfl, ?_⟩) ?_ ?_
   rotate_left
   ·intro w'
    go_simp
    with_reducible rfl
   rotate_left
   ·simp only [Act.put, List.setIfInBounds_toArray, List.set_cons_zero, List.set_cons_succ, i64_w, i32_w]
    rfl
   refine pure_ (i := 1) (N := some 48) (v := ?_) (a' := ?_) #[true, true, false, false, false, false, false, false, false, false, false, false, false, false, false] rfl rfl (by kernel_rfl) (fun _ _ _ h => h) (Or.inl ⟨by rfl, ?_⟩) ?_ ?_
   rotate_left
   ·intro w'
    go_simp
    with_reducible rfl
   rotate_left
   ·simp only [Act.put, List.setIfInBounds_toArray, List.set_cons_zero, List.set_cons_succ, i64_w, i32_w]
    rfl
   refine pure_ (i := 2) (N := some 49) (v := ?_) (a' := ?_) #[true, true, true, false, false, false, false, false, false, false, false, false, false, false, false] rfl rfl (by kernel_rfl) (fun _ _ _ h => h) (Or.inl ⟨by rfl, ?_⟩) ?_ ?_
   rotate_left
   ·intro w'
    go_simp
    with_reducible rfl
   rotate_left
   ·simp only [Act.put, List.setIfInBounds_toArray, List.set_cons_zero, List.set_cons_succ, i64_w, i32_w]
    rfl
   refine pure_ (i := 3) (N := some 50) (v := ?_) (a' := ?_) #[true, true, true, true, false, false, false, false, false, false, false, false, false, false, false] rfl rfl (by kernel_rfl) (fun _ _ _ h => h) (Or.inl ⟨by rfl, ?_⟩) ?_ ?_
   rotate_left
   ·intro w'
    go_simp
    with_reducible rfl
   rotate_left
   ·simp only [Act.put, List.setIfInBounds_toArray, List.set_cons_zero, List.set_cons_succ, i64_w, i32_w]
    rfl
   refine pure_ (i := 6) (N := some 53) (v := ?_) (a' := ?_) #[true, true, true, true, false, false, true, false, false, false, false, false, false, false, false] rfl rfl (by kernel_rfl) (fun _ _ _ h => h) (Or.inl ⟨by rfl, ?_⟩) ?_ ?_
   rotate_left
   ·intro w'
    go_simp
    with_reducible rfl
   rotate_left
   ·simp only [Act.put, List.setIfInBounds_toArray, List.set_cons_zero, List.set_cons_succ, i64_w, i32_w]
    rfl
   refine pure_ (i := 7) (N := some 54) (v := ?_) (a' := ?_) #[true, true, true, true, false, false, true, true, false, false, false, false, false, false, false] rfl rfl (by kernel_rfl) (fun _ _ _ h => h) (Or.inl ⟨by rfl, ?_⟩) ?_ ?_
   rotate_left
   ·intro w'
    go_simp
    with_reducible rfl
   rotate_left
   ·simp only [Act.put, List.setIfInBounds_toArray, List.set_cons_zero, List.set_cons_succ, i64_w, i32_w]
    rfl
   refine pure_ (i := 8) (N := some 55) (v := ?_) (a' := ?_) #[true, true, true, true, false, false, true, true, true, false, false, false, false, false, false] rfl rfl (by kernel_rfl) (fun _ _ _ h => h) (Or.inl ⟨by rfl, ?_⟩) ?_ ?_
   rotate_left
   ·intro w'
    go_simp
    with_reducible rfl
   rotate_left
   ·simp only [Act.put, List.setIfInBounds_toArray, List.set_cons_zero, List.set_cons_succ, i64_w, i32_w]
    rfl
   refine pure_ (i := 9) (N := some 56) (v := ?_) (a' := ?_) #[true, true, true, true, false, false, true, true, true, true, false, false, false, false, false] rfl rfl (by kernel_rfl) (fun _ _ _ h => h) (Or.inl ⟨by rfl, ?_⟩) ?_ ?_
   rotate_left
   ·intro w'
    go_simp
    with_reducible rfl
   rotate_left
   ·simp only [Act.put, List.setIfInBounds_toArray, List.set_cons_zero, List.set_cons_succ, i64_w, i32_w]
    rfl
   refine pure_ (i := 10) (N := some 57) (v := ?_) (a' := ?_) #[true, true, true, true, false, false, true, true, true, true, true, false, false, false, false] rfl rfl (by kernel_rfl) (fun _ _ _ h => h) (Or.inl ⟨by rfl, ?_⟩) ?_ ?_
   rotate_left
   ·intro w'
    go_simp
    with_reducible rfl
   rotate_left
   ·simp only [Act.put, List.setIfInBounds_toArray, List.set_cons_zero, List.set_cons_succ, i64_w, i32_w]
    rfl
   refine pure_ (i := 11) (N := some 58) (v := ?_) (a' := ?_) #[true, true, true, true, false, false, true, true, true, true, true, true, false, false, false] rfl rfl (by kernel_rfl) (fun _ _ _ h => h) (Or.inl ⟨by rfl, ?_⟩) ?_ ?_
   rotate_left
   ·intro w'
    go_simp
    with_reducible rfl
   rotate_left
   ·simp only [Act.put, List.setIfInBounds_toArray, List.set_cons_zero, List.set_cons_succ, i64_w, i32_w]
    rfl
   refine one_ (i := 4) (N := some 51) #[true, true, true, true, true, false, true, true, true, true, true, true, false, false, false] rfl rfl (by kernel_rfl) (by decide) (fun K hK => ?_)
   refine goes_ Try.func65 (by kernel_rfl) rfl #[.slice (some ad) (n + 2) (c - s)] (by rfl) rfl rfl (by simp only [List.map_toArray, List.map_cons, List.map_nil]; rfl) ?_
   with_reducible refine (callsSum HT1.out.1 (Kd.C_below HK1.out (below_step HBQ.out HB6.out)) HN6.out).mono ?_
   rintro e w7 ⟨rfl, rfl⟩
   refine ⟨_, rfl, ?_⟩
   refine hK.out _ _ trivial (fun hHeld => ?_)
   clear hK K
   refine norm_ (a' := ?_) ?_ ?_
   rotate_left
   ·show Act.put _ (some 51) _ = _
    simp only [Act.put, List.setIfInBounds_toArray, List.set_cons_zero, List.set_cons_succ, i64_w, i32_w]
    rfl
   refine one_ (i := 5) (N := some 52) #[true, true, true, true, true, true, true, true, true, true, true, true, false, false, false] rfl rfl (by kernel_rfl) (by decide) (fun K hK => ?_)
   refine goes_ Try.func64 (by kernel_rfl) rfl #[.int .i64 (sumM (l.take (n + 2)))] (by rfl) rfl rfl (by simp only [List.map_toArray, List.map_cons, List.map_nil]; rfl) ?_
   with_reducible refine (sums_Put.calls (sumM (l.take (n + 2))) (putM (sumM (l.take (n + 2)))) w6 rfl).mono ?_
   rintro e w8 ⟨v8, rfl, hR8, hB8⟩
   obtain ⟨A8, c8, ev8⟩ := Kd.R_slice hR8
   subst ev8
   have HR8 := Aside0.mk (Kd.R_reads' hR8).2
   have HB8 := Aside0.mk (below_step HB6.out hB8)
   clear hR8 hB8
   refine ⟨_, rfl, ?_⟩
   refine hK.out _ _ trivial (fun hHeld => ?_)
   clear hK K
   refine norm_ (a' := ?_) ?_ ?_
   rotate_left
   ·show Act.put _ (some 52) _ = _
    simp only [Act.put, List.setIfInBounds_toArray, List.set_cons_zero, List.set_cons_succ, i64_w, i32_w]
    rfl
   refine one_ (i := 12) (N := some 59) #[true, true, true, true, true, true, true, true, true, true, true, true, true, false, false] rfl rfl (by kernel_rfl) (by decide) (fun K hK => ?_)
   refine goes_ Try.func63 (by kernel_rfl) rfl #[.slice A8 2 c8, .slice A2 2 (c - s - (n + 2))] (by rfl) rfl rfl (by simp only [List.map_toArray, List.map_cons, List.map_nil]; rfl) ?_
   with_reducible refine (callsEqual HR8.out.1 HR8.out.2 HT2.out.1 HT2.out.2 (Kd.C_below HK2.out (below_step HBQ.out HB8.out))).mono ?_
   rintro e w9 ⟨rfl, hd9⟩
   obtain ⟨dc, hdc⟩ : ∃ dc, dc = decide (putM (sumM (l.take (n + 2))) = (l.take (n + 4)).drop (n + 2)) := ⟨_, rfl⟩
   rw [← hdc]
   have HDC := Aside0.mk hdc
   have HB9 := Aside0.mk (below_step HB8.out hd9.below)
   clear hd9 hdc
   refine ⟨_, rfl, ?_⟩
   refine hK.out _ _ trivial (fun hHeld => ?_)
   clear hK K
   refine norm_ (a' := ?_) ?_ ?_
   rotate_left
   ·show Act.put _ (some 59) _ = _
    simp only [Act.put, List.setIfInBounds_toArray, List.set_cons_zero, List.set_cons_succ, i64_w, i32_w]
    rfl
   refine pure_ (i := 13) (N := some 60) (v := ?_) (a' := ?_) #[true, true, true, true, true, true, true, true, true, true, true, true, true, true, false] rfl rfl (by kernel_rfl) (fun _ _ _ h => h) (Or.inl ⟨by rfl, ?_⟩) ?_ ?_
   rotate_left
   ·intro w'
    go_simp
    with_reducible rfl
   rotate_left
   ·simp only [Act.put, List.setIfInBounds_toArray, List.set_cons_zero, List.set_cons_succ, i64_w, i32_w]
    rfl
   refine pure_ (i := 14) (N := some 46) (v := ?_) (a' := ?_) #[true, true, true, true, true, true, true, true, true, true, true, true, true, true, true] rfl rfl (by kernel_rfl) (fun _ _ _ h => h) (Or.inl ⟨by rfl, ?_⟩) ?_ ?_
   rotate_left
   ·intro w'
    go_simp
    with_reducible rfl
   rotate_left
   ·simp only [Act.put, List.setIfInBounds_toArray, List.set_cons_zero, List.set_cons_succ, i64_w, i32_w]
    rfl
   refine done_ (by kernel_rfl) ?_
   have hcond : dc = true := HDC.out.trans (decide_eq_true h4.symm)
   subst hcond
   go_wp2_with fail
   have HB_ := Aside0.mk (below_step HB.out HB9.out)
   have HZ_ := Aside0.mk (blk_below HZ.out HB9.out)
   have HG_ := Aside0.mk (blk_below HG.out HB9.out)
   have HRW_ := Aside0.mk (Kd.R_below HRW.out HB9.out)
   have HK3_ := Aside0.mk (Kd.C_below HK3.out (below_step HBQ.out HB9.out))
   clear HB HZ HG HRW HK3
   have HB := HB_
   have HZ := HZ_
   have HG := HG_
   have HRW := HRW_
   have HK3 := HK3_
   clear HB_ HZ_ HG_ HRW_ HK3_ HB9
   obtain ⟨r, er⟩ : ∃ r, (l.take (n + 2)).drop 2 = r := ⟨_, rfl⟩
   have HRR := Aside0.mk (show recJ l = r from HN.out.2.trans er)
   rw [er] at HK3 HT3
   clear er
   have hx0 : w9.cell? ⟨W.heap.size + 1, 0, none⟩ = some (.slice A1 L.length c1) := by rw [blk_cell HG.out]; rfl
   obtain ⟨w10, e10⟩ : ∃ w10, w10 = w9.drew := ⟨_, rfl⟩
   have HB10 := Aside0.mk (show Below w9.heap.size w9 w10 by rw [e10]; exact below_drew (Below.refl _ _))
   refine start_ (n := 11) (S := fun w' => w'.cell? ⟨W.heap.size + 1, 0, none⟩ = some (.slice A1 L.length c1)) (ds := [10]) #[false, false, false, false, false, false, false, false, false, false, false] (by kernel_rfl) rfl rfl ((by rw [← e10]; exact pw_cell_below HB10.out hx0)) (fun hHeld => ?_)
   rw [← e10] at hHeld ⊢
   clear e10
   refine pure_ (i := 0) (N := some 62) (v := ?_) (a' := ?_) #[true, false, false, false, false, false, false, false, false, false, false] rfl rfl (by kernel_rfl) (fun _ _ _ h => h) (Or.inl ⟨by rfl, ?_⟩) ?_ ?_
   rotate_left
   ·intro w'
    go_simp
    with_reducible rfl
   rotate_left
   ·simp only [Act.put, List.setIfInBounds_toArray, List.set_cons_zero, List.set_cons_succ, i64_w, i32_w]
    rfl
   refine pure_ (i := 2) (N := some 64) (v := ?_) (a' := ?_) #[true, false, true, false, false, false, false, false, false, false, false] rfl rfl (by kernel_rfl) (fun _ _ _ h => h) (Or.inl ⟨by rfl, ?_⟩) ?_ ?_
   rotate_left
   ·intro w'
    go_simp
    with_reducible rfl
   rotate_left
   ·simp only [Act.put, List.setIfInBounds_toArray, List.set_cons_zero, List.set_cons_succ, i64_w, i32_w]
    rfl
   refine pure_ (i := 3) (N := some 65) (v := ?_) (a' := ?_) #[true, false, true, true, false, false, false, false, false, false, false] rfl rfl (by kernel_rfl) (fun _ _ _ h => h) (Or.inl ⟨by rfl, ?_⟩) ?_ ?_
   rotate_left
   ·intro w'
    go_simp
    with_reducible rfl
   rotate_left
   ·simp only [Act.put, List.setIfInBounds_toArray, List.set_cons_zero, List.set_cons_succ, i64_w, i32_w]
    rfl
   refine pure_ (i := 4) (N := some 66) (v := ?_) (a' := ?_) #[true, false, true, true, true, false, false, false, false, false, false] rfl rfl (by kernel_rfl) (fun _ _ _ h => h) (Or.inl ⟨by rfl, ?_⟩) ?_ ?_
   rotate_left
   ·intro w'
    go_simp
    with_reducible rfl
   rotate_left
   ·simp only [Act.put, List.setIfInBounds_toArray, List.set_cons_zero, List.set_cons_succ, i64_w, i32_w]
    rfl
   refine pure_ (i := 5) (N := some 67) (v := ?_) (a' := ?_) #[true, false, true, true, true, true, false, false, false, false, false] rfl rfl (by kernel_rfl) (fun _ _ _ h => h) (Or.inl ⟨by rfl, ?_⟩) ?_ ?_
   rotate_left
   ·intro w'
    go_simp
    with_reducible rfl
   rotate_left
   ·simp only [Act.put, List.setIfInBounds_toArray, List.set_cons_zero, List.set_cons_succ, i64_w, i32_w]
    rfl
   refine take_ (i := 1) (N := some 63) (v := ?_) (a' := ?_) #[true, true, true, true, true, true, false, false, false, false, false] rfl rfl (by kernel_rfl) (fun _ _ _ h => h) (Or.inl ⟨by rfl, ?_⟩) hHeld ?_ ?_
   rotate_left
   ·intro w' s0
    go_simp
    with_reducible rfl
   rotate_left
   ·simp only [Act.put, List.setIfInBounds_toArray, List.set_cons_zero, List.set_cons_succ, i64_w, i32_w]
    rfl
   refine one_ (i := 6) (N := some 68) #[true, true, true, true, true, true, true, false, false, false, false] rfl rfl (by kernel_rfl) (by decide) (fun K hK => ?_)
   refine goes_ Try.func42 (by kernel_rfl) rfl #[.slice A3 n (c - s - 2)] (by rfl) rfl rfl (by simp only [List.map_toArray, List.map_cons, List.map_nil]; rfl) ?_
   with_reducible refine (callsClone HT3.out (Kd.C_below HK3.out HB10.out) HN6.out).mono ?_
   rintro e w11 ⟨v11, rfl, hR11, hB11⟩
   obtain ⟨A11, c11, ev11⟩ := Kd.R_slice hR11
   subst ev11
   have HR11 := Aside0.mk hR11
   have HB11 := Aside0.mk hB11
   clear hR11 hB11
   refine ⟨_, rfl, ?_⟩
   refine hK.out _ _ ((pw_cell_below (below_step HB10.out HB11.out) hx0)) (fun hHeld => ?_)
   clear hK K
   refine norm_ (a' := ?_) ?_ ?_
   rotate_left
   ·show Act.put _ (some 68) _ = _
    simp only [Act.put, List.setIfInBounds_toArray, List.set_cons_zero, List.set_cons_succ, i64_w, i32_w]
    rfl
   refine one_ (i := 7) (N := some 69) #[true, true, true, true, true, true, true, true, false, false, false] rfl rfl (by kernel_rfl) (by decide) (fun K hK => ?_)
   refine value_ (w1 := ?_) (v := ?_) (by rfl) rfl ?_ ?_
   rotate_left 2
   ·go_simp
    constructor
    ·rfl
    ·rfl
   refine hK.out _ _ ((pw_cell_below (below_alloc (below_step HB10.out HB11.out) _) hx0)) (fun hHeld => ?_)
   clear hK K
   refine norm_ (a' := ?_) ?_ ?_
   rotate_left
   ·show Act.put _ (some 69) _ = _
    simp only [Act.put, List.setIfInBounds_toArray, List.set_cons_zero, List.set_cons_succ, i64_w, i32_w]
    rfl
   refine one_ (i := 8) (N := some 70) #[true, true, true, true, true, true, true, true, true, false, false] rfl rfl (by kernel_rfl) (by decide) (fun K hK => ?_)
   refine Kd.R_append_step (Kd.slice 5 (Kd.int .u8)) (w0 := w11) 0 (by rfl) (.tmp 63) (.tmp 69) 29 30 (.slice none 0 0) 24 rfl Try.underlying29 info30 rfl (by decide) (by decide) (.slice A1 L.length c1) L r [.slice A11 r.length c11] (fun k => W.heap.size + 2 ≤ k) (fun k => w10.heap.size ≤ k) rfl rfl ⟨_, rfl, HR11.out⟩ ?aK ?aF (Kd.R_below HRW.out (below_step HB10.out HB11.out)) (Below.refl _ _) (Nat.zero_le _) ?aL ?_
   case aK => exact fun k hk => ⟨pq_le HZ.out HG.out HB10.out.size hk, fun he => absurd (Kd.R_lt HRW.out k he.symm) (Nat.not_lt.2 (Nat.le_trans HB10.out.size hk))⟩
   case aF => exact fun k hk => pq_le HZ.out HG.out HB10.out.size (Nat.le_trans HB11.out.size hk)
   case aL => exact Nat.le_trans (Nat.mul_le_mul_right 24 (Nat.succ_le_succ HLN.out)) (by decide)
   intro v12 w13 hR12 _ hg12 _
   obtain ⟨A12, c12, ev12⟩ := Kd.R_slice hR12
   subst ev12
   have HR13 := Aside0.mk hR12
   have HGR := Aside0.mk hg12
   clear hR12 hg12
   have hnr : ∀ k, k = W.heap.size ∨ k = W.heap.size + 1 → some k ≠ (Value.slice A1 L.length c1).ownBlock := fun k hk he => by have h2 := HRW.out.1 k he.symm; rcases hk with rfl | rfl <;> exact absurd h2 (by simp)
   have HB13 := Aside0.mk (show Below W.heap.size W w13 from ((Keeps.of_below (below_step HB.out (below_step HB10.out HB11.out)) (fun _ => False)).then_ (Keeps.of_grown HGR.out) (fun k hk => .inr (Nat.le_trans (Nat.le_add_right _ 2) (HRW.out.1 k hk.symm)))).belowF)
   have HZ13 := Aside0.mk (blk_grown (blk_below HZ.out (below_step HB10.out HB11.out)) HGR.out (hnr _ (.inl rfl)))
   have HG13 := Aside0.mk (blk_grown (blk_below HG.out (below_step HB10.out HB11.out)) HGR.out (hnr _ (.inr rfl)))
   have hfz13 : w13.frozen? ⟨W.heap.size + 1, 0, none⟩ = false := blk_frozen HG13.out 0
   refine hK.out _ _ ((by rw [blk_cell HG13.out]; rfl)) (fun hHeld => ?_)
   clear hK K
   refine norm_ (a' := ?_) ?_ ?_
   rotate_left
   ·show Act.put _ (some 70) _ = _
    simp only [Act.put, List.setIfInBounds_toArray, List.set_cons_zero, List.set_cons_succ, i64_w, i32_w]
    rfl
   refine pure_ (i := 9) (N := some 71) (v := ?_) (a' := ?_) #[true, true, true, true, true, true, true, true, true, true, false] rfl rfl (by kernel_rfl) (fun _ _ _ h => h) (Or.inl ⟨by rfl, ?_⟩) ?_ ?_
   rotate_left
   ·intro w'
    go_simp
    with_reducible rfl
   rotate_left
   ·simp only [Act.put, List.setIfInBounds_toArray, List.set_cons_zero, List.set_cons_succ, i64_w, i32_w]
    rfl
   refine last_ (i := 10) (N := none) #[true, true, true, true, true, true, true, true, true, true, true] rfl rfl (by kernel_rfl) (by decide) (fun K hK => ?_)
   refine skip_ (w1 := ?_) (by rfl) rfl ?_ ?_
   rotate_left
   ·go_simp
    rfl
   refine hK.out _ _ ?_
   clear hK K
   refine done_ (by kernel_rfl) ?_
   have hsz10 := HB10.out.size
   obtain ⟨w14, e14⟩ : ∃ w14, w14 = w13.setCell ⟨W.heap.size + 1, 0, none⟩ (.slice A12 (L ++ [r]).length c12) := ⟨_, rfl⟩
   have HG14 := Aside0.mk (show w14.heap[W.heap.size + 1]? = some (.cells #[.slice A12 (L ++ [r]).length c12, .int .i64 (s : Int), .bool false, .int .i64 0] 64 (0, 0)) by rw [e14]; exact blk_put HG13.out 0 _ rfl)
   have HZ14 := Aside0.mk (show w14.heap[W.heap.size]? = some (.cells #[.slice none 0 0, .int .i64 0, .bool false, .int .i64 0] 64 (0, 0)) by rw [e14]; exact (Below.heap_setCell w13 _ _ _ (by show W.heap.size ≠ W.heap.size + 1; exact Nat.ne_of_lt (Nat.lt_succ_self _))).trans HZ13.out)
   have HB14 := Aside0.mk (show Below W.heap.size W w14 by rw [e14]; exact (Keeps.set (S := fun _ => False) (Keeps.of_below HB13.out _) (p := ⟨W.heap.size + 1, 0, none⟩) (.inr (Nat.le_succ _)) _).belowF)
   have HR14 := Aside0.mk (show (Kd.slice 5 (Kd.int .u8)).R 30 w14 0 (fun k => W.heap.size + 2 ≤ k) (.slice A12 (L ++ [r]).length c12) (L ++ [r]) by rw [e14]; exact Kd.R_far HR13.out (p := ⟨W.heap.size + 1, 0, none⟩) (fun k hk he => Nat.not_succ_le_self _ (he ▸ hk)) _)
   rw [show L.length + 1 = (L ++ [r]).length by simp, ← e14]
   obtain ⟨L2, eL2⟩ : ∃ L2, L ++ [r] = L2 := ⟨_, rfl⟩
   have HL2 := Aside0.mk eL2
   rw [eL2] at HG14 HR14 ⊢
   clear e14 HG13 HZ13 HB13 HR13 HB HZ HG HRW hHeld eL2
   obtain ⟨x0, x1, x2, x3, f0, f1, f2, f3⟩ := blk_all4 HG14.out
   have wsn := w64s s n HLE.out.1 hl
   go_wp2_with fail
   have HG15 := Aside0.mk (show (w14.setCell ⟨W.heap.size + 1, 1, none⟩ (.int .i64 ((s : Int) + ((n : Int) + 4)))).heap[W.heap.size + 1]? = some (.cells #[.slice A12 L2.length c12, .int .i64 ((s : Int) + ((n : Int) + 4)), .bool false, .int .i64 0] 64 (0, 0)) from blk_put HG14.out 1 _ rfl)
   have hy1 : (w14.setCell ⟨W.heap.size + 1, 1, none⟩ (.int .i64 ((s : Int) + ((n : Int) + 4)))).cell? ⟨W.heap.size + 1, 1, none⟩ = some (.int .i64 ((s : Int) + ((n : Int) + 4))) := by rw [blk_cell HG15.out]; rfl
   have hyr := HX1.out
   go_roundw
   case rel =>
    refine ⟨A12, c12, L2, s + (n + 4), ⟨⟨?_, ?_, ?_, ?_, HLE.out.1, ?_, ?_, ?_⟩⟩⟩
    ·exact (Keeps.set (S := fun _ => False) (Keeps.of_below HB14.out _) (p := ⟨W.heap.size + 1, 1, none⟩) (.inr (Nat.le_succ _)) _).belowF
    ·exact (Below.heap_setCell w14 _ _ _ (by show W.heap.size ≠ W.heap.size + 1; exact Nat.ne_of_lt (Nat.lt_succ_self _))).trans HZ14.out
    ·exact HG15.out
    ·exact Kd.R_far HR14.out (p := ⟨W.heap.size + 1, 1, none⟩) (fun k hk he => Nat.not_succ_le_self _ (he ▸ hk)) _
    ·rw [← HL2.out, List.length_append]; exact HLE.out.2
    ·intro q hq
     rw [← HL2.out] at hq
     rcases List.mem_append.1 hq with h | h
     ·exact HLK.out q h
     ·obtain rfl := List.mem_singleton.1 h
      rw [← HRR.out]
      exact ⟨HRO.out.1, by rw [HRO.out.2]; exact HN.out.1⟩
    ·rw [← HL2.out, ← HRR.out]; exact HALL2.out
   case measure =>
    rw [hy1, hyr]
    have := HLE.out.1
    clear wsn hy1 hyr wn4 wn2 wa wb wc hor hor2
    simp [intOf]
    omega
end Go.Proofs.Ytmfmoddaejoekaa.P
