/- Texts of this claim, laid into one. -/
import Derived.Test.YtmfmoddaejoekaaROpn
import Derived.Test.YtmfmoddaejoekaaHLaw17
import Derived.Test.YtmfmoddaejoekaaHROpn
import Derived.Test.YtmfmoddaejoekaaHRRenew
import Derived.Test.YtmfmoddaejoekaaHLaws17
import Derived.Test.YtmfmoddaejoekaaP21
section
/- What a journal may be, in plain Lean: small enough for its calls. -/
set_option linter.unusedVariables false
set_option linter.unusedSimpArgs false
namespace Go.Proofs.Ytmfmoddaejoekaa.P
open Go.RowKit Go.Proofs.YtmfmoddaejoekaaW.PrintWords Go.Proofs.YtmfmoddaejoekaaW.PrintLast Go.Proofs.YtmfmoddaejoekaaW.PrintMore
/-- Behind i calls. -/
structure JOk (i : Nat) (J : JM) : Prop where
 sd : J.side = 0 ∨ J.side = 1
 g : 0 ≤ J.g ∧ J.g ≤ 1099511627776
 L : J.L.length ≤ 65536 + i
 rcs : ∀ r ∈ J.L, r.length ≤ 8192
 size : 0 ≤ J.size ∧ J.size ≤ 65536 + 8200 * (i : Int)
theorem JOk.more {i j : Nat} {J : JM} (h : JOk i J) (hi : i ≤ j) : JOk j J := ⟨h.sd, h.g, by have := h.L; omega, h.rcs, by have := h.size; omega⟩
theorem JOk.broken {i : Nat} {J : JM} (h : JOk i J) (b : Bool) : JOk i { J with broken := b } := ⟨h.sd, h.g, h.L, h.rcs, h.size⟩
theorem head_most (r : List Int) : (headM r).1 ≤ 1099511627776 := by
 unfold headM numAt
 simp only
 split
 ·split
  ·split
   ·exact (show (0 : Int) ≤ 1099511627776 by decide)
   ·split
    ·exact (show (0 : Int) ≤ 1099511627776 by decide)
    ·simp only
     omega
  ·exact (show (0 : Int) ≤ 1099511627776 by decide)
 ·exact (show (0 : Int) ≤ 1099511627776 by decide)
theorem countM_most (L : List (List Int)) : (countM L).2 ≤ 1099511627776 := by
 cases L with
 | nil => exact (show (0 : Int) ≤ 1099511627776 by decide)
 | cons r L' =>
  simp only [countM]
  split
  ·exact (show (0 : Int) ≤ 1099511627776 by decide)
  ·split
   ·exact head_most r
   ·exact (show (0 : Int) ≤ 1099511627776 by decide)
theorem readJ_size : ∀ (k : Nat) (b : List Int), (readJ k b).2.1 ≤ b.length
 | 0, b => Nat.zero_le _
 | k + 1, b => by
  simp only [readJ]
  split
  ·rename_i h
   have h3 := next3 h
   have := readJ_size k (b.drop (nJ b + 4))
   rw [List.length_drop] at this
   simp only
   omega
  ·exact Nat.zero_le _
/-- A side that was read. -/
theorem side_fine {b : List Int} (hb : okB b = true) (hl : b.length ≤ 65536) : (sideM b).1.length ≤ 65536 ∧ (∀ r ∈ (sideM b).1, r.length ≤ 8192) ∧ (0 ≤ (sideM b).2.1 ∧ (sideM b).2.1 ≤ 65536) ∧ (0 ≤ (sideM b).2.2.2.1 ∧ (sideM b).2.2.2.1 ≤ 1099511627776) := by
 refine ⟨Nat.le_trans (sideM_len b) hl, ?_, ?_, (sideM_low b).1, ?_⟩
 ·unfold sideM
  split
  ·exact fun r hr => by simp at hr
  ·exact fun r hr => (readA_recs b hb r hr).2
 ·unfold sideM
  split
  ·exact (show (0 : Int) ≤ 0 ∧ (0 : Int) ≤ 65536 by decide)
  ·have : (readA b).2.1 ≤ b.length := readJ_size _ _
   simp only
   omega
 ·unfold sideM
  split
  ·exact (show (0 : Int) ≤ 1099511627776 by decide)
  ·exact countM_most _
theorem open_jok {T : TM} {N : Nat} (hb : T.By) (hT : T.Ok N) {J : JM} (ho : (openM T).2.2 = some J) : JOk 0 J := by
 have f0 := side_fine (hb.now (.inl rfl)) (hT.now_len 0 (.inl rfl))
 have f1 := side_fine (hb.now (.inr rfl)) (hT.now_len 1 (.inr rfl))
 have hp : ∀ a : List (List Int) × Int × Bool × Int × Bool, ∀ b : List (List Int) × Int × Bool × Int × Bool,
   (a.1.length ≤ 65536 ∧ (∀ r ∈ a.1, r.length ≤ 8192) ∧ (0 ≤ a.2.1 ∧ a.2.1 ≤ 65536) ∧ (0 ≤ a.2.2.2.1 ∧ a.2.2.2.1 ≤ 1099511627776)) →
   (b.1.length ≤ 65536 ∧ (∀ r ∈ b.1, r.length ≤ 8192) ∧ (0 ≤ b.2.1 ∧ b.2.1 ≤ 65536) ∧ (0 ≤ b.2.2.2.1 ∧ b.2.2.2.1 ≤ 1099511627776)) →
   JOk 0 ⟨(pickM a b).1, (pickM a b).2.2.2.2.1, (pickM a b).2.1.drop 1, (pickM a b).2.2.1, false⟩ := by
  intro a b ha hb'
  have key : ∀ (sd : Int) (c : List (List Int) × Int × Bool × Int × Bool), (sd = 0 ∨ sd = 1) → (c.1.length ≤ 65536 ∧ (∀ r ∈ c.1, r.length ≤ 8192) ∧ (0 ≤ c.2.1 ∧ c.2.1 ≤ 65536) ∧ (0 ≤ c.2.2.2.1 ∧ c.2.2.2.1 ≤ 1099511627776)) → JOk 0 ⟨sd, c.2.2.2.1, c.1.drop 1, c.2.1, false⟩ :=
   fun sd c h1 h2 => ⟨h1, h2.2.2.2, by have := h2.1; simp only [List.length_drop]; omega, fun r hr => h2.2.1 r (List.mem_of_mem_drop hr), by have := h2.2.2.1; simp only; omega⟩
  unfold pickM
  split
  ·exact key 1 b (.inr rfl) hb'
  ·exact key 0 a (.inl rfl) ha
 have hpk := hp _ _ f0 f1
 unfold openM at ho
 split at ho
 ·cases ho
 ·split at ho
  ·cases ho
  ·split at ho
   ·unfold madeM at ho
    split at ho
    ·cases ho
    ·split at ho
     ·cases ho
     ·split at ho
      ·cases ho
      ·split at ho
       ·cases ho
       ·cases ho
        exact ⟨.inl rfl, by decide, Nat.zero_le _, fun r hr => by simp at hr, by decide +kernel⟩
   ·split at ho
    ·cases ho
    ·split at ho
     ·split at ho
      ·cases ho
      ·split at ho
       ·cases ho
       ·cases ho
        exact hpk
     ·cases ho
      exact hpk
/-- An opening tells OK just where there is a journal. -/
theorem open_err (T : TM) : ((openM T).2.2 = none → (openM T).1 ≠ 0) ∧ (∀ J, (openM T).2.2 = some J → (openM T).1 = 0) := by
 unfold openM
 split
 ·exact ⟨fun _ => by assumption, fun J h => by cases h⟩
 ·split
  ·exact ⟨fun _ => (show (41 : Int) ≠ 0 by decide), fun J h => by cases h⟩
  ·split
   ·unfold madeM
    split
    ·exact ⟨fun _ => by assumption, fun J h => by cases h⟩
    ·split
     ·exact ⟨fun _ => by assumption, fun J h => by cases h⟩
     ·split
      ·exact ⟨fun _ => by assumption, fun J h => by cases h⟩
      ·split
       ·exact ⟨fun _ => by assumption, fun J h => by cases h⟩
       ·exact ⟨fun h => (by cases h), fun _ _ => rfl⟩
   ·split
    ·exact ⟨fun _ => (show (41 : Int) ≠ 0 by decide), fun J h => by cases h⟩
    ·split
     ·split
      ·exact ⟨fun _ => by assumption, fun J h => by cases h⟩
      ·split
       ·exact ⟨fun _ => by assumption, fun J h => by cases h⟩
       ·exact ⟨fun h => (by cases h), fun _ _ => rfl⟩
     ·exact ⟨fun h => (by cases h), fun _ _ => rfl⟩
theorem append_jok {i : Nat} {T : TM} {J : JM} {r : List Int} (h : JOk i J) (hr : r.length ≤ 100) : JOk (i + 1) (appendM T J r).2.2 := by
 have hm := h.more (Nat.le_succ i)
 unfold appendM
 split
 ·exact hm
 ·split
  ·exact hm
  ·split
   ·exact hm.broken _
   ·split
    ·exact hm.broken _
    ·refine ⟨h.sd, h.g, ?_, ?_, ?_⟩
     ·have := h.L
      simp only [List.length_append, List.length_singleton]
      omega
     ·intro x hx
      rcases List.mem_append.1 hx with hx | hx
      ·exact h.rcs x hx
      ·rw [List.mem_singleton.1 hx]; omega
     ·have := h.size
      have hf : (frameM r).length = r.length + 4 := frameM_len r
      simp only
      rw [hf]
      omega
theorem renew_jok {i : Nat} {T : TM} {J : JM} {l : List (List Int)} (h : JOk i J) (hl : l.length ≤ 1000) (hr : ∀ r ∈ l, r.length ≤ 100) : JOk (i + 1) (renewM T J l).2.2 := by
 have hm := h.more (Nat.le_succ i)
 unfold renewM
 split
 ·exact hm
 ·split
  ·exact hm
  ·rename_i hc
   split
   ·exact hm
   ·rename_i hz
    split
    ·exact hm.broken _
    ·split
     ·exact hm.broken _
     ·split
      ·exact hm.broken _
      ·have hg := h.g
       have hs := h.sd
       refine ⟨?_, ?_, ?_, fun r hh => by have := hr r hh; omega, ?_⟩
       ·show 1 - J.side = 0 ∨ 1 - J.side = 1
        omega
       ·show 0 ≤ J.g + 1 ∧ J.g + 1 ≤ 1099511627776
        have : ¬ 1099511627776 ≤ J.g := fun h => hc (.inr (.inl h))
        omega
       ·show l.length ≤ _
        omega
       ·show (0 : Int) ≤ ((bodyM (J.g + 1) l).length : Int) ∧ ((bodyM (J.g + 1) l).length : Int) ≤ _
        omega
/-- The first six, of at most 60 bytes. -/
def cutM (l : List (List Int)) : List (List Int) := (l.take 6).map (List.take 60)
theorem cutM_small (l : List (List Int)) : (cutM l).length ≤ 6 ∧ ∀ r ∈ cutM l, r.length ≤ 60 := by
 refine ⟨by simp [cutM]; omega, fun r hr => ?_⟩
 obtain ⟨x, _, rfl⟩ := List.mem_map.1 hr
 rw [List.length_take]
 omega
theorem cutM_okB {l : List (List Int)} (h : ∀ r ∈ l, okB r = true) : ∀ r ∈ cutM l, okB r = true := fun r hr => by
 obtain ⟨x, hx, rfl⟩ := List.mem_map.1 hr
 exact okB_take (h x (List.mem_of_mem_take hx)) 60
end Go.Proofs.Ytmfmoddaejoekaa.P
end
section
/- What the laws of the journal share: the document's calls on a state. -/
set_option linter.unusedVariables false
set_option linter.unusedSimpArgs false
namespace Go.Proofs.Ytmfmoddaejoekaa.P
open Go.RowKit Go.Proofs.YtmfmoddaejoekaaW.PrintWords Go.Proofs.YtmfmoddaejoekaaW.PrintLast Go.Proofs.YtmfmoddaejoekaaW.PrintMore
abbrev RTJ (w : World) (Fo : Nat → Prop) (g gx : Nat) (T : TM) (J : JM) : Res := Res.sep (RTape g T) (RJour w Fo gx g J)
section
variable {w0 W w : World} {S Fo : Nat → Prop} {Rs : List Res} {g gr gj gx : Nat} {T : TM} {J : JM} {N : Nat}
theorem rnewT_at (h : St w0 S W Rs) : Calls Try.prog 18 #[] W fun e W' => ∃ g, e = .returned (.pointer (some ⟨g, 0, none⟩)) ∧ St w0 S W' (Rs ++ [RTape g TM.new]) :=
 (rtape_New.calls W).mono fun e W' ⟨g, h1, h2, h3⟩ => ⟨g, h1, h.add h3 h2⟩
def ROpenSt (w : World) (Fo : Nat → Prop) (w0 : World) (S : Nat → Prop) (Rs : List Res) (i g : Nat) (M : Int × TM × Option JM) (e : Ending) (W' : World) : Prop :=
 match M.2.2 with
 | none => e = .returned (.tuple #[.pointer none, .int .i64 M.1]) ∧ St w0 S W' (Rs.set i (RTape g M.2.1))
 | some J => ∃ gj, e = .returned (.tuple #[.pointer (some ⟨gj, 0, none⟩), .int .i64 M.1]) ∧ St w0 S W' (Rs.set i (RTJ w Fo g gj M.2.1 J))
theorem ropen_at (w : World) (Fo : Nat → Prop) (h : St w0 S W Rs) (i : Nat) (hi : Rs[i]? = some (RTape g T)) (h0 : i ≠ 0) (hT : T.Ok N) (hN : N + 9000 ≤ 1000000000) (hB : T.By) :
  Calls Try.prog 23 #[.pointer (some ⟨g, 0, none⟩)] W (ROpenSt w Fo w0 S Rs i g (openM T)) := by
 obtain ⟨ok, hP, _, hback⟩ := h.lend i hi h0 (fun _ => True) (fun _ _ => trivial)
 refine (rjournal_Open.calls w Fo g T N hT hN W ok hP hB).mono fun e W' hh => ?_
 unfold ROpenSt
 unfold ROpenPost at hh
 split
 ·rename_i hm
  rw [hm] at hh
  exact ⟨hh.1, hback hh.2⟩
 ·rename_i J hm
  rw [hm] at hh
  obtain ⟨gj, h1, h2⟩ := hh
  exact ⟨gj, h1, hback h2⟩
theorem tapes_at (h : St w0 S W Rs) (hA : ∃ ok, (PTape g T).P ok W) (hR : ∃ ok, (RTape gr T).P ok W) (hT : T.Ok N) (hN : N ≤ 1000000000) :
  Calls Try.prog 24 #[.pointer (some ⟨g, 0, none⟩), .pointer (some ⟨gr, 0, none⟩)] W fun e W' => e = .returned (.bool true) ∧ St w0 S W' Rs := by
 obtain ⟨ok, hA⟩ := hA
 obtain ⟨okr, hR⟩ := hR
 exact (tapes.calls g gr T N hT hN W ok okr hA hR).mono fun e W' hh => ⟨hh.1, h.on hh.2⟩
theorem like_at (h : St w0 S W Rs) (hAg : Agree w Fo W) (hA : ∃ ok, (PTJ g gj T J).P ok W) (hR : ∃ ok, (RTJ w Fo gr gx T J).P ok W) (hl : J.L.length ≤ 1000000) (hr : ∀ r ∈ J.L, r.length ≤ 100000) :
  Calls Try.prog 25 #[.pointer (some ⟨gj, 0, none⟩), .pointer (some ⟨gx, 0, none⟩)] W fun e W' => e = .returned (.bool true) ∧ St w0 S W' Rs := by
 obtain ⟨ok, hA⟩ := hA
 obtain ⟨okr, hR⟩ := hR
 obtain ⟨ok1, hA1, _⟩ := sep_snd hA
 obtain ⟨ok2, hR2, _⟩ := sep_snd hR
 exact (like.calls w Fo gj g gx gr J W ok1 ok2 hAg hA1 hR2 hl hr).mono fun e W' hh => ⟨hh.1, h.on hh.2⟩
theorem rforget_at (h : St w0 S W Rs) (i : Nat) (hi : Rs[i]? = some (RTJ w Fo gr gx T J)) : St w0 S W (Rs.set i (RTape gr T)) := h.turn i hi (fun ok hp => sep_drop hp)
theorem rcrash_at (h : St w0 S W Rs) (i : Nat) (hi : Rs[i]? = some (RTape g T)) (h0 : i ≠ 0) (hT : T.Ok N) (hN : N ≤ 1000000000) (n : Int) (hn1 : -9223372036854775808 ≤ n) (hn2 : n ≤ 9223372036854775807) :
  Calls Try.prog 32 #[.pointer (some ⟨g, 0, none⟩), .int .i64 n] W fun e W' => e = .returned (.tuple #[]) ∧ St w0 S W' (Rs.set i (RTape g (T.crash n))) := by
 obtain ⟨ok, hP, _, hback⟩ := h.lend i hi h0 (fun _ => True) (fun _ _ => trivial)
 exact (rtape_Crash.calls g T N hT hN n hn1 hn2 W ok hP).mono fun e W' hh => ⟨hh.1, hback hh.2⟩
theorem rfuseJ_at (h : St w0 S W Rs) (i : Nat) (hi : Rs[i]? = some (RTJ w Fo gr gx T J)) (h0 : i ≠ 0) (n : Int) :
  Calls Try.prog 31 #[.pointer (some ⟨gr, 0, none⟩), .int .i64 n] W fun e W' => e = .returned (.int .i64 (TM.fuseE n)) ∧ St w0 S W' (Rs.set i (RTJ w Fo gr gx (T.fuse n) J)) := by
 obtain ⟨ok, hP, _, hback⟩ := h.lend i hi h0 (fun _ => True) (fun _ _ => trivial)
 obtain ⟨oka, hA, _, hb⟩ := sep_left hP
 exact (rtape_Fuse.calls gr T n W oka hA).mono fun e W' hh => ⟨hh.1, hback (hb hh.2)⟩
theorem rappend_at (h : St w0 S W Rs) (i : Nat) (hi : Rs[i]? = some (RTJ w Fo gr gx T J)) (h0 : i ≠ 0) (hag : Rs[0]? = some (Res.agree w Fo)) (hT : T.Ok N) (hN : N + 9000 ≤ 1000000000) (hsd : J.side = 0 ∨ J.side = 1) {A : Option Addr} {c : Nat} {r : List Int} (hF : Kd.F (Kd.int .u8) w Fo A r.length r) (hc : r.length ≤ c) (hb : okB r = true) (hrl : r.length ≤ 140737488351232) (hL : J.L.length ≤ 100000) (hS : 0 ≤ J.size ∧ J.size ≤ 1000000000) :
  Calls Try.prog 29 #[.pointer (some ⟨gx, 0, none⟩), .slice A r.length c] W fun e W' => e = .returned (.int .i64 (appendM T J r).1) ∧ St w0 S W' (Rs.set i (RTJ w Fo gr gx (appendM T J r).2.1 (appendM T J r).2.2)) := by
 obtain ⟨ok, hP, hq, hback⟩ := h.lend i hi h0 (fun W' => Agree w Fo W') (fun W' hW => (hW 0 _ (Ne.symm h0) hag).elim fun ok hp => hp.2)
 exact (rjour_Append.calls w Fo gx gr T N hT hN J hsd A c r W ok hP hF hq hc hb hrl hL hS).mono fun e W' hh => ⟨hh.1, hback hh.2⟩
theorem join_at {A B : Res} (h : St w0 S W Rs) (i j : Nat) (hi : Rs[i]? = some A) (hj : Rs[j]? = some B) (h0 : i ≠ 0) (h0' : j ≠ 0) (hij : i ≠ j) : St w0 S W ((Rs.set i (Res.sep A B)).set j Res.any) := by
 obtain ⟨ok1, ok2, h1, h2, hd, hback⟩ := h.write2 i j hi hj h0 h0' hij
 exact hback (Keeps.refl _ _) (Res.mono _ (fun k hk => hk.elim .inl (fun h => .inr (.inl h))) (sep_mk h1 h2 hd))
theorem rrenew_at (h : St w0 S W Rs) (i j : Nat) {A : Option Addr} {c : Nat} {l : List (List Int)} (hi : Rs[i]? = some (RTJ w Fo gr gx T J)) (hj : Rs[j]? = some (Res.seen w Fo (RowsQ A l))) (h0 : i ≠ 0) (h0' : j ≠ 0) (hij : i ≠ j) (hag : Rs[0]? = some (Res.agree w Fo)) (hT : T.Ok N) (hN : N + 70000 ≤ 1000000000) (hsd : J.side = 0 ∨ J.side = 1) (hg : 0 ≤ J.g ∧ J.g ≤ 1099511627776) (hc : l.length ≤ c) (hb : ∀ r ∈ l, okB r = true ∧ r.length ≤ 100000) (hl : l.length ≤ 1000) :
  Calls Try.prog 30 #[.pointer (some ⟨gx, 0, none⟩), .slice A l.length c] W fun e W' => e = .returned (.int .i64 (renewM T J l).1) ∧ St w0 S W' (((Rs.set i (Res.sep (RTJ w Fo gr gx T J) (Res.seen w Fo (RowsQ A l)))).set j Res.any).set i (RTJ w Fo gr gx (renewM T J l).2.1 (renewM T J l).2.2)) := by
 have hil := (List.getElem?_eq_some_iff.1 hi).1
 obtain ⟨ok, hP, hq, hback⟩ := (join_at h i j hi hj h0 h0' hij).lend i (R := Res.sep (RTJ w Fo gr gx T J) (Res.seen w Fo (RowsQ A l))) (by rw [List.getElem?_set_ne (Ne.symm hij), List.getElem?_set_self hil]) h0 (fun W' => Agree w Fo W') (fun W' hW => (hW 0 (Res.agree w Fo) (Ne.symm h0) (by rw [List.getElem?_set_ne h0', List.getElem?_set_ne h0]; exact hag)).elim fun ok hp => hp.2)
 exact (rjour_Renew.calls w Fo gx gr T N hT hN J hsd hg A c l W ok hP hq hc hb hl).mono fun e W' hh => ⟨hh.1, hback hh.2⟩
end
end Go.Proofs.Ytmfmoddaejoekaa.P
end
section
/- The law's cut, in plain Lean, and on a state. -/
set_option linter.unusedVariables false
set_option linter.unusedSimpArgs false
namespace Go.Proofs.Ytmfmoddaejoekaa.P
open Go.RowKit Go.Proofs.YtmfmoddaejoekaaW.PrintWords Go.Proofs.YtmfmoddaejoekaaW.PrintLast Go.Proofs.YtmfmoddaejoekaaW.PrintMore
theorem few60 (x : List Int) : liverylaw17_few.f x 60 = some (x.take 60) := by
 unfold liverylaw17_few.f
 by_cases h : (x.length : Int) > 60
 ·rw [if_pos h, if_pos (by omega), if_pos (by omega)]
  rfl
 ·rw [if_neg h, List.take_of_length_le (by omega)]
theorem cut_loop (l : List (List Int)) : ∀ (d i k : Nat), i + d = 6 → d + 1 < k → liverylaw17_cut.l0 k l ((l.take i).map (List.take 60)) (i : Int) = some (cutM l) := by
 intro d
 induction d with
 | zero =>
  intro i k hi hk
  obtain ⟨k, rfl⟩ : ∃ m, k = m + 1 := ⟨k - 1, by omega⟩
  have : i = 6 := by omega
  subst this
  rw [liverylaw17_cut.l0]
  split
  ·rw [if_neg (by omega)]; rfl
  ·rfl
 | succ d ih =>
  intro i k hi hk
  obtain ⟨k, rfl⟩ : ∃ m, k = m + 1 := ⟨k - 1, by omega⟩
  rw [liverylaw17_cut.l0]
  by_cases h : (i : Int) < (l.length : Int)
  ·have hlt : i < l.length := by omega
   rw [if_pos h, if_pos (by omega), if_pos (by omega), few60, Option.bind_some, if_pos (by rw [List.length_map, List.length_take]; omega)]
   have e1 : (l.take i).map (List.take 60) ++ [(rd_L2 l (i : Int)).take 60] = (l.take (i + 1)).map (List.take 60) := by
    have e0 : l.take (i + 1) = l.take i ++ [rd_L2 l (i : Int)] := by
     rw [List.take_add_one (l := l) (i := i), List.getElem?_eq_getElem hlt, Option.toList_some]
     simp [rd_L2, hlt]
    rw [e0, List.map_append]
    rfl
   have e2 : wrap64 ((i : Int) + 1) = ((i + 1 : Nat) : Int) := by rw [w64' (by omega) (by omega)]; omega
   rw [e1, e2]
   exact ih (i + 1) k (by omega) (by omega)
  ·rw [if_neg h]
   have e : l.take i = l.take 6 := by rw [List.take_of_length_le (by omega), List.take_of_length_le (by omega)]
   unfold cutM
   rw [e]
theorem cut_f (l : List (List Int)) : ∃ k, liverylaw17_cut.f k l = some (cutM l) := ⟨100, by
 have := cut_loop l 6 0 100 rfl (by decide)
 simpa [liverylaw17_cut.f] using this⟩
theorem frozen_any {α : Type} {d : Kd α} {w W : World} {Fo : Nat → Prop} {A : Option Addr} {xs : List α} (hag : Agree w Fo W) (h : Kd.F d w Fo A xs.length xs) : Kd.F d W (fun k => Fo k ∧ k < w.heap.size) A xs.length xs :=
 fun W' hW => h W' (fun k hf hlt => (hW k ⟨hf, hlt⟩ (heap_lt (hag k hf hlt) hlt)).trans (hag k hf hlt))
theorem cut_at {w w0 W : World} {S Fo : Nat → Prop} {Rs : List Res} (h : St w0 S W Rs) (hag : Agree w Fo W) {A : Option Addr} {c : Nat} {l : List (List Int)} (hc : l.length ≤ c) (hF : Kd.F (Kd.slice 5 (Kd.int .u8)) w Fo A l.length l) :
  Calls Try.prog 28 #[.slice A l.length c] W fun e W' => ∃ A' c', e = .returned (.slice A' (cutM l).length c') ∧ (cutM l).length ≤ c' ∧ Below W.heap.size W W' ∧ St w0 S W' (Rs ++ [Res.seen w Fo (RowsQ A' (cutM l))]) := by
 obtain ⟨k, hk⟩ := cut_f l
 refine (liverylaw17_cut.calls k (fun k => Fo k ∧ k < w.heap.size) A c l (cutM l) W (Kd.V_mk hc (frozen_any hag hF)) hk).mono ?_
 rintro e W' ⟨v, rfl, hN, hB⟩
 have hV := Kd.N_V (base' := 0) hN
 obtain ⟨A', c', rfl⟩ := Kd.V_slice hV
 refine ⟨A', c', rfl, (Kd.V_at hV).2.1, hB, h.add hB (fun W2 ha hk2 => ?_)⟩
 refine Kd.F_bound (Kd.V_at hV).2.2 W2 (fun k hk3 hlt => ?_)
 rcases hk3.1 with hf | hf
 ·exact (ha k hf.1 hf.2).trans ((hB.block k (heap_lt (hag k hf.1 hf.2) hf.2)).trans (hag k hf.1 hf.2)).symm
 ·exact hk2 k hf hlt
end Go.Proofs.Ytmfmoddaejoekaa.P
end
