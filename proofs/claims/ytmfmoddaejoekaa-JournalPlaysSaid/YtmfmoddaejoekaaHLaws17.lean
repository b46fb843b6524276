/- Texts of this claim, laid into one. -/
import Derived.Test.YtmfmoddaejoekaaHLaw17
import Derived.Test.YtmfmoddaejoekaaHLive17
import Derived.Test.YtmfmoddaejoekaaP15
import Derived.Test.YtmfmoddaejoekaaP6
import Derived.Lib.SlBytesConst
section
/- The plain model of layer 17: many calls that go through. -/
set_option linter.unusedVariables false
set_option linter.unusedSimpArgs false
namespace Go.Proofs.Ytmfmoddaejoekaa.P
open Go.RowKit Go.Proofs.YtmfmoddaejoekaaW.PrintWords Go.Proofs.YtmfmoddaejoekaaW.PrintLast Go.Proofs.YtmfmoddaejoekaaW.PrintMore
/-- A tape and its journal behind so many calls, none of which failed. -/
structure Calm (i : Nat) (T : TM) (J : JM) : Prop where
 good : Good T J
 burns : T.burns = false
 len : ∀ q, q = 0 ∨ q = 1 → (T.safe q).length ≤ 100 + 400 * i
 g : J.g ≤ 1 + i
 L : J.L.length ≤ 5 + i
 rcs : ∀ r ∈ J.L, 1 ≤ r.length ∧ r.length ≤ 70
 ok : T.Ok (20 + 70000 * i)
 by_ : T.By
theorem TM.trim_same {T : TM} {p n : Int} (hw : T.trimE p n = 0) (hn : 0 ≤ n) : (T.trim p n).now p = (T.now p).take n.toNat := by
 rw [TM.trim_yes hw, TM.does_now]
 show unit1 (T.now p) p ⟨p, n, 0⟩ = _
 unfold unit1
 rw [if_pos rfl, if_pos hn]
theorem framesM_len_le : ∀ (l : List (List Int)) (m : Nat), (∀ r ∈ l, r.length ≤ m) → (framesM l).length ≤ l.length * (m + 4)
 | [], m, _ => by simp [framesM]
 | r :: l, m, h => by
  have h1 := framesM_len_le l m (fun x hx => h x (by simp [hx]))
  have h2 := h r (by simp)
  have e : framesM (r :: l) = frameM r ++ framesM l := rfl
  have e2 : (l.length + 1) * (m + 4) = l.length * (m + 4) + (m + 4) := Nat.succ_mul _ _
  rw [e, List.length_append, frameM_len, List.length_cons, e2]
  omega
theorem calm_new : ∃ T J, openM TM.new = (0, T, some J) ∧ Calm 0 T J ∧ J.L = [] ∧ J.size = 7 := by
 obtain ⟨T1, J1, ho1, hG1, hb1, hs1, hg1, hL1, hz1, hs11, hs10⟩ := open_new (T := TM.new) rfl rfl rfl rfl
 have hok := Ok_open TM.new_ok
 have hby := By_open TM.By.new
 rw [ho1] at hok hby
 refine ⟨T1, J1, ho1, ⟨hG1, hb1, fun q hq => ?_, by rw [hg1]; decide, by rw [hL1]; decide, by rw [hL1]; simp, hok.mono (by decide), hby⟩, hL1, hz1⟩
 rcases hq with rfl | rfl
 ·show T1.s0.length ≤ _
  rw [hs10, frameM_len]
  decide
 ·show T1.s1.length ≤ _
  rw [hs11]
  decide
theorem Calm.size {i : Nat} {T : TM} {J : JM} (h : Calm i T J) (hi : i ≤ 40) : 0 ≤ J.size ∧ J.size ≤ 100000 := by
 have h1 := h.good.size
 have h2 := h.len J.side h.good.sd
 omega
theorem Calm.open_ {i : Nat} {T : TM} {J : JM} (h : Calm i T J) : openM T = (0, T, some J) := h.good.open_ (TM.calm_ready h.burns (.inl rfl))
end Go.Proofs.Ytmfmoddaejoekaa.P
end
section
/- The plain model of layer 17: calls that fail, and what every loss of power leaves. -/
set_option linter.unusedVariables false
set_option linter.unusedSimpArgs false
namespace Go.Proofs.Ytmfmoddaejoekaa.P
open Go.RowKit Go.Proofs.YtmfmoddaejoekaaW.PrintWords Go.Proofs.YtmfmoddaejoekaaW.PrintLast Go.Proofs.YtmfmoddaejoekaaW.PrintMore
/-- Two sides hold records of which X speaks. -/
def Hold (i : Nat) (a b : List Int) (X : List (List Int) → Prop) : Prop :=
 ∃ p g L, Keep a b p g L ∧ X L ∧ g ≤ 1 + (i : Int) ∧ L.length ≤ 5 + i ∧ (∀ r ∈ L, 1 ≤ r.length ∧ r.length ≤ 70) ∧ ∀ q, q = 0 ∨ q = 1 → (sideOf q a b).length ≤ 100 + 400 * i
theorem Hold.mono {i : Nat} {a b : List Int} {X Y : List (List Int) → Prop} (h : Hold i a b X) (hX : ∀ L, X L → Y L) : Hold (i + 1) a b Y := by
 obtain ⟨p, g, L, h1, h2, h3, h4, h5, h6⟩ := h
 exact ⟨p, g, L, h1, hX L h2, by omega, by omega, h5, fun q hq => by have := h6 q hq; omega⟩
/-- .. whatever of the units stays. -/
def Pend (T : TM) (P : List Int → List Int → Prop) : Prop := ∀ k, P (afterU T.s0 0 (T.us.take k)) (afterU T.s1 1 (T.us.take k))
theorem Pend.crash {T : TM} {P : List Int → List Int → Prop} (h : Pend T P) (n : Int) : P (T.crash n).s0 (T.crash n).s1 := h (T.stays n)
theorem Pend.none {T : TM} {P : List Int → List Int → Prop} (hu : T.us = []) (h : P T.s0 T.s1) : Pend T P := fun k => by rw [hu, List.take_nil]; exact h
/-- A tape and its journal, a fuse perhaps. -/
structure KeptS (i : Nat) (T : TM) (J : JM) : Prop where
 good : Good T J
 len : ∀ q, q = 0 ∨ q = 1 → (T.safe q).length ≤ 100 + 400 * i
 g : J.g ≤ 1 + i
 L : J.L.length ≤ 5 + i
 rcs : ∀ r ∈ J.L, 1 ≤ r.length ∧ r.length ≤ 70
 ok : T.Ok (20 + 70000 * i)
 by_ : T.By
theorem kept_new : ∃ T J, openM TM.new = (0, T, some J) ∧ KeptS 0 T J := by
 obtain ⟨T, J, h1, h2, _, _⟩ := calm_new
 exact ⟨T, J, h1, h2.good, h2.len, h2.g, h2.L, h2.rcs, h2.ok, h2.by_⟩
theorem KeptS.fuse {i : Nat} {T : TM} {J : JM} (h : KeptS i T J) (n : Int) : KeptS i (T.fuse n) J := by
 have hg : Good (T.fuse n) J := by
  unfold TM.fuse
  split
  ·exact ⟨h.good.us, h.good.br, h.good.sd, h.good.gen, h.good.head, h.good.size, h.good.low⟩
  ·exact h.good
 have hs : ∀ q, (T.fuse n).safe q = T.safe q := by
  intro q
  unfold TM.fuse
  split
  ·rfl
  ·rfl
 exact ⟨hg, fun q hq => by rw [hs]; exact h.len q hq, h.g, h.L, h.rcs, TM.fuse_ok h.ok n, h.by_.fuse n⟩
theorem KeptS.size {i : Nat} {T : TM} {J : JM} (h : KeptS i T J) (hi : i ≤ 40) : 0 ≤ J.size ∧ J.size ≤ 100000 := by
 have h1 := h.good.size
 have h2 := h.len J.side h.good.sd
 omega
theorem not0_40 {T : TM} {i : Int} (hi : i = 0 ∨ i = 1) (h : T.ready i ≠ 0) : T.ready i = 40 := (TM.ready_val T hi).resolve_left h
theorem brk40 : brk 40 = true := by decide
theorem append_broken {T : TM} {J : JM} (h : J.broken = true) (r : List Int) : appendM T J r = (40, T, J) := by unfold appendM; rw [if_pos h]
end Go.Proofs.Ytmfmoddaejoekaa.P
end
section
/- What the laws of the journal share: the deeds that came in, rows that are written over, calls on a state. -/
set_option linter.unusedVariables false
set_option linter.unusedSimpArgs false
namespace Go.Proofs.YtmfmoddaejoekaaW.PrintWords
open Go.RowKit
section
variable {P : Program} {ops : Array Oper} {rest : List Oper} {o : Oper} {a : Act} {Q : Exit → Act → World → Prop}
end
end Go.Proofs.YtmfmoddaejoekaaW.PrintWords
namespace Go.Proofs.Ytmfmoddaejoekaa.P
open Go.RowKit Go.Proofs.YtmfmoddaejoekaaW.PrintWords Go.Proofs.YtmfmoddaejoekaaW.PrintLast Go.Proofs.YtmfmoddaejoekaaW.PrintMore
abbrev F33 (W : World) (Fo : Nat → Prop) (A : Option Addr) (xs : List S33) : Prop := Kd.F k33 W Fo A xs.length xs
theorem deed_at {W : World} {Fo : Nat → Prop} {A : Option Addr} {xs : List S33} (h : F33 W Fo A xs) (i : Nat) (hi : i < xs.length) : ∃ ad A2 c2 A3 c3, ∃ x : S33, A = some ad ∧ x = xs.getD i z33 ∧ W.cell? (ad.add (i * 4)) = some (.int .i64 x.f0) ∧ W.cell? ⟨(ad.add (i * 4)).block, (ad.add (i * 4)).off + 1, none⟩ = some (.int .i64 x.f1) ∧ W.cell? ⟨(ad.add (i * 4)).block, (ad.add (i * 4)).off + 2, none⟩ = some (.slice A2 x.f2.length c2) ∧ W.cell? ⟨(ad.add (i * 4)).block, (ad.add (i * 4)).off + 3, none⟩ = some (.slice A3 x.f3.length c3) ∧ x.f2.length ≤ c2 ∧ x.f3.length ≤ c3 ∧ Kd.F (Kd.int .u8) W Fo A2 x.f2.length x.f2 ∧ Kd.F (Kd.slice 5 (Kd.int .u8)) W Fo A3 x.f3.length x.f3 := by
 obtain ⟨ad, c, e, _, hK, hc0, _⟩ := Kd.F_get h z33 (i : Int) (by omega) (by omega)
 rw [Int.toNat_natCast] at hK hc0
 have hc : ∀ j u, c[j]? = some u → W.cell? (ad.add (i * 4 + j)) = some u := hc0
 obtain ⟨A3, c3, A4, c4, rfl, l3, g3, l4, g4⟩ := k33_openF hK
 exact ⟨ad, A3, c3, A4, c4, _, e, rfl, hc 0 _ rfl, by rw [← add_field _ _ 1 (by omega)]; exact hc 1 _ rfl, by rw [← add_field _ _ 2 (by omega)]; exact hc 2 _ rfl, by rw [← add_field _ _ 3 (by omega)]; exact hc 3 _ rfl, l3, l4, g3, g4⟩
theorem agree_of {w W w0 : World} {S Fo : Nat → Prop} {Rs : List Res} (h : St w0 S W (Res.agree w Fo :: Rs)) : Agree w Fo W := (h.get 0 rfl).elim fun ok hp => hp.2
theorem law_stQ {w : World} {Q : World → Prop} (h : Foot Q w (fun k => k < w.heap.size)) : ∃ Fo, Foot Q w Fo ∧ St w (fun _ => False) w [Res.agree w Fo] := by
 obtain ⟨Fo, _, hF, hst⟩ := St.freeze (St.mk0 w (fun _ => False) (Q := Q) (Foot.mono h (fun k _ hf => hf)))
 exact ⟨Fo, hF, hst⟩
theorem law_st {w : World} {A0 : Option Addr} {l0 : List S33} (h : Kd.C k33 w A0 l0.length l0) : ∃ Fo, F33 w Fo A0 l0 ∧ St w (fun _ => False) w [Res.agree w Fo] := law_stQ (Q := fun W => Kd.C k33 W A0 l0.length l0) (Kd.C_F k33_heap h)
theorem F_take {W : World} {Fo : Nat → Prop} {A : Option Addr} {l : List Int} (h : Kd.F (Kd.int .u8) W Fo A l.length l) (n : Nat) : Kd.F (Kd.int .u8) W Fo A (l.take n).length (l.take n) := by
 by_cases h20 : n ≤ l.length
 ·exact Kd.F_take h h20
 ·rw [List.take_of_length_le (by omega)]; exact h
theorem C_take {W : World} {A : Option Addr} {l : List Int} (h : Kd.C (Kd.int .u8) W A l.length l) (n : Nat) : Kd.C (Kd.int .u8) W A (l.take n).length (l.take n) := by
 by_cases h20 : n ≤ l.length
 ·exact Kd.C_take h h20
 ·rw [List.take_of_length_le (by omega)]; exact h
set_option maxHeartbeats 4000000 in
theorem few17.calls (A : Option Addr) (c : Nat) (l : List Int) (n : Nat) (w : World) (hc : l.length ≤ c) (hn : n ≤ 100000) :
  Calls Try.prog 10 #[.slice A l.length c, .int .i64 (n : Int)] w fun e W' => e = .returned (.slice A (l.take n).length c) ∧ W' = w := by
 go_enter Try.func10, Try.ntmps10
 by_cases h : n < l.length
 ·have h1 : (n : Int) < (l.length : Int) := by omega
  have h2 : decide ((l.length : Int) > (n : Int)) = true := decide_eq_true h1
  have h3 : decide ((n : Int) < (l.length : Int)) = true := decide_eq_true h1
  go_wp2_with fail
  go_ret
  refine ⟨?_, rfl⟩
  rw [List.length_take, Nat.min_eq_left (by omega)]
  try rfl
  try simp
 ·have h2 : decide ((l.length : Int) > (n : Int)) = false := decide_eq_false (by omega)
  have h3 : decide ((n : Int) < (l.length : Int)) = false := decide_eq_false (by omega)
  go_wp2_with fail
  go_ret
  refine ⟨?_, rfl⟩
  rw [List.take_of_length_le (by omega)]
  rfl
def pk (a n : Int) : Int := if a < 0 then Int.tmod (wrap64 (-(wrap64 (a + 1)))) n else Int.tmod a n
theorem pk_range (a n : Int) (ha : -9223372036854775808 ≤ a ∧ a ≤ 9223372036854775807) (hn : 0 < n) : 0 ≤ pk a n ∧ pk a n < n := by
 unfold pk
 split
 ·have e : wrap64 (-(wrap64 (a + 1))) = -(a + 1) := by unfold wrap64; omega
  rw [e, Int.tmod_eq_emod_of_nonneg (by omega)]
  exact ⟨Int.emod_nonneg _ (by omega), Int.emod_lt_of_pos _ hn⟩
 ·rw [Int.tmod_eq_emod_of_nonneg (by omega)]
  exact ⟨Int.emod_nonneg _ (by omega), Int.emod_lt_of_pos _ hn⟩
theorem pick_at {w0 W : World} {S : Nat → Prop} {Rs : List Res} (h : St w0 S W Rs) (a n : Int) (hn : n ≠ 0) : Calls Try.prog 11 #[.int .i64 a, .int .i64 n] W fun e W' => e = .returned (.int .i64 (pk a n)) ∧ St w0 S W' Rs :=
 (liverylaw17_pick.calls a n (pk a n) W (by unfold liverylaw17_pick.f pk; rw [if_neg hn, if_neg hn]; split <;> rfl)).mono fun e W' hh => ⟨hh.1, h.on hh.2.below⟩
theorem lives_at {w0 W : World} {S : Nat → Prop} {Rs : List Res} (h : St w0 S W Rs) : Calls Try.prog 16 #[] W fun e W' => e = .returned (.bool true) ∧ St w0 S W' Rs := (liverylaw17_lives.calls W).mono fun e W' hh => ⟨hh.1, h.on hh.2⟩
theorem row_slice {α : Type} {d : Kd α} {e : TypeId} {w0 W : World} {S : Nat → Prop} {Rs : List Res} {v : Value} {L : List α} (h : St w0 S W Rs) (i : Nat) (hi : Rs[i]? = some (Res.row d e v L)) : ∃ A c, v = .slice A L.length c ∧ L.length ≤ c ∧ d.C W A L.length L := by
 obtain ⟨ok, hR⟩ := h.get i hi
 obtain ⟨A, c, rfl⟩ := Kd.R_slice (show d.R e W 0 ok v L from hR)
 have h4 := Kd.R_reads' (show d.R e W 0 ok (.slice A L.length c) L from hR)
 exact ⟨A, c, rfl, h4.2⟩
theorem St.app_told {P : Program} {ops : Array Oper} {rest : List Oper} {o : Oper} {a : Act} {Q : Exit → Act → World → Prop} {w0 W W0 : World} {Fo : Nat → Prop} {S : Nat → Prop} {Rs : List Res} (hgd : o.guard = none) (s x : Operand) (t e : TypeId)
  (ho : o.op = .call { callee := .builtin .append, args := #[s, x], argTypes := #[t, t] })
  (ht : P.underlying t = some (.slice e)) (hinfo : (P.info? e).map (fun i => (i.zero, i.size, i.bytes)) = some (some (.slice none 0 0), 1, 24))
  (HS : St w0 S W Rs) (j : Nat) (v : Value) (xs ys : List (List Int)) (A : Option Addr) (m c : Nat) (hs : a.eval s = v) (hx : a.eval x = .slice A m c)
  (hj : Rs[j]? = some (Res.row (told (Kd.int .u8) 5 W0 Fo) e v xs)) (hj0 : j ≠ 0) (HR : (told (Kd.int .u8) 5 W0 Fo).C W A m ys) (hl : (xs.length + m) * 24 ≤ 140737488355328)
  (h : ∀ v1 w1, St w0 S w1 (Rs.set j (Res.row (told (Kd.int .u8) 5 W0 Fo) e v1 (xs ++ ys))) → wpList P ops Q rest (a.put o.dst v1) w1) :
  wpList P ops Q (o :: rest) a W := by
 obtain ⟨ok, hR, hback⟩ := HS.write j hj hj0
 have hR' : (told (Kd.int .u8) 5 W0 Fo).R e W 0 ok v xs := hR
 exact Kd.R_append_rows (told (Kd.int .u8) 5 W0 Fo) (Rr := (told (Kd.int .u8) 5 W0 Fo).K W) (w0 := W) 0 hgd s x t e (.slice none 0 0) 24 ho ht hinfo rfl Nat.one_pos (by decide) v xs ys A m c (fun k => ok k ∨ W.heap.size ≤ k) (fun _ => False) hs hx
  (Kd.R_mono hR' (fun _ hk => .inl hk)) HR (fun _ _ h => h) (fun _ h => h.elim) (fun _ hk => .inr hk) (Below.refl _ _) (Nat.zero_le _) hl (fun v1 w1 h1 _ h3 _ =>
   h v1 w1 (hback ((Keeps.of_grown h3).mono (fun k _ hk => hR'.1 k hk.symm)) h1))
theorem cell_lt {W : World} {p : Addr} {u : Value} (h : W.cell? p = some u) : p.block < W.heap.size := by
 by_cases hl : p.block < W.heap.size
 ·exact hl
 ·unfold World.cell? at h
  rw [Array.getElem?_eq_none (by omega)] at h
  simp at h
theorem told_of {W0 W : World} {Fo : Nat → Prop} {A : Option Addr} {L : List (List Int)} (h : Kd.F (Kd.slice 5 (Kd.int .u8)) W0 Fo A L.length L) (hW : Agree W0 Fo W) : (told (Kd.int .u8) 5 W0 Fo).C W A L.length L := by
 refine ⟨rfl, (Kd.F_now h).2.1, fun hn => ?_⟩
 obtain ⟨ad, e1, _⟩ := (Kd.F_now h).2.2 hn
 subst e1
 refine ⟨ad, rfl, fun j p hj => ?_⟩
 have hjl := (List.getElem?_eq_some_iff.1 hj).1
 obtain ⟨ad', c, e2, hcl, hK, hc, hok⟩ := Kd.F_get h [] (j : Int) (by omega) (by omega)
 cases e2
 rw [Int.toNat_natCast] at hK hc
 have ep : L.getD j [] = p := by rw [List.getD_eq_getElem?_getD, hj]; rfl
 rw [ep] at hK
 refine ⟨c, hcl, hK, fun i x hx => ?_⟩
 have h1 : W0.cell? (ad.add (j * 1 + i)) = some x := hc i x hx
 have eb : (ad.add (j * 1 + i)).block = ad.block := by
  unfold Addr.add
  split <;> rfl
 have h2 := hW ad.block (hok (by decide)) (by rw [← eb]; exact cell_lt h1)
 show W.cell? (ad.add (j * 1 + i)) = some x
 rw [← h1]
 unfold World.cell?
 rw [eb, h2]
theorem told_M {W0 W : World} {Fo ok : Nat → Prop} {A : Option Addr} {c : Nat} {l : List Int} (hc : l.length ≤ c) (h : Kd.F (Kd.int .u8) W0 Fo A l.length l) : (told (Kd.int .u8) 5 W0 Fo).M W 0 ok l [.slice A l.length c] := Kd.FK_slice_mk hc h
theorem St.app_told1 {P : Program} {ops : Array Oper} {rest : List Oper} {o : Oper} {a : Act} {Q : Exit → Act → World → Prop} {w0 W W0 : World} {Fo : Nat → Prop} {S : Nat → Prop} {Rs : List Res} (hgd : o.guard = none) (s x : Operand) (t e : TypeId)
  (ho : o.op = .call { callee := .builtin .append, args := #[s, x], argTypes := #[t, t] })
  (ht : P.underlying t = some (.slice e)) (hinfo : (P.info? e).map (fun i => (i.zero, i.size, i.bytes)) = some (some (.slice none 0 0), 1, 24))
  (HS : St w0 S W Rs) (i : Nat) (v : Value) (A : Option Addr) (c : Nat) (xs : List (List Int)) (y : List Int) (hs : a.eval s = v) (hx : a.eval x = .slice (some ⟨W.heap.size, 0, none⟩) 1 1)
  (hi : Rs[i]? = some (Res.row (told (Kd.int .u8) 5 W0 Fo) e v xs)) (h0 : i ≠ 0) (hc : y.length ≤ c) (hF : Kd.F (Kd.int .u8) W0 Fo A y.length y) (hl : (xs.length + 1) * 24 ≤ 140737488355328)
  (h : ∀ v1 w1, St w0 S w1 (Rs.set i (Res.row (told (Kd.int .u8) 5 W0 Fo) e v1 (xs ++ [y]))) → wpList P ops Q rest (a.put o.dst v1) w1) :
  wpList P ops Q (o :: rest) a (W.alloc (.cells #[.slice A y.length c] e)) := by
 obtain ⟨ok, hR, hback⟩ := HS.write i hi h0
 have hR' : (told (Kd.int .u8) 5 W0 Fo).R e W 0 ok v xs := hR
 refine Kd.R_append (told (Kd.int .u8) 5 W0 Fo) (w0 := W) 0 hgd s x t e (.slice none 0 0) 24 ho ht hinfo rfl Nat.one_pos (by decide) v xs y [.slice A y.length c] (fun k => ok k ∨ W.heap.size ≤ k) (fun _ => False) hs hx (told_M hc hF)
  (fun k hk => hk.elim) (fun k hk => .inr hk) (Kd.R_mono hR' (fun k hk => .inl hk)) (Below.refl _ _) (Nat.zero_le _) hl ?_
 intro v1 w1 h1 _ h3 _
 exact h v1 w1 (hback ((Keeps.of_grown h3).mono (fun k _ hk => hR'.1 k hk.symm)) h1)
section
variable {P : Program} {ops : Array Oper} {o : Oper} {a : Act} {Kc : Act → World → Prop} {Q : Exit → Act → World → Prop}
end
theorem hinfoB : (Try.prog.info? 5).map (fun i => (i.zero, i.size, i.bytes)) = some (some (.int .u8 0), 1, 1) := by kernel_rfl
theorem hinfoR : (Try.prog.info? 30).map (fun i => (i.zero, i.size, i.bytes)) = some (some (.slice none 0 0), 1, 24) := by kernel_rfl
theorem wf64 {x : Int} (h : (Lit.int .i64 x).wf = true) : -9223372036854775808 ≤ x ∧ x ≤ 9223372036854775807 := by
 simp only [Lit.wf, Bool.and_eq_true, decide_eq_true_eq] at h
 exact h
theorem wf8 {x : Int} (h : (Lit.int .u8 x).wf = true) : 0 ≤ x ∧ x ≤ 255 := by
 simp only [Lit.wf, Bool.and_eq_true, decide_eq_true_eq] at h
 exact h
theorem wfB {l : List Int} (h : ∀ x ∈ l, (Lit.int .u8 x).wf = true) : okB l = true := okB_of fun x hx => wf8 (h x hx)
/-! Rows whose numbers are written over: their shape alone is told. -/
section
variable {w0 W : World} {S : Nat → Prop} {Rs : List Res} {A : Option Addr} {n : Nat} {lens : Nat → Nat}
end
end Go.Proofs.Ytmfmoddaejoekaa.P
end
