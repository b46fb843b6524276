/- What the laws of the journal share: the calls on a state. -/
import Derived.Test.YtmfmoddaejoekaaHOpn
import Derived.Test.YtmfmoddaejoekaaR15
set_option linter.unusedVariables false
set_option linter.unusedSimpArgs false
namespace Go.Proofs.Ytmfmoddaejoekaa.P
open Go.RowKit Go.Proofs.YtmfmoddaejoekaaW.PrintWords Go.Proofs.YtmfmoddaejoekaaW.PrintLast Go.Proofs.YtmfmoddaejoekaaW.PrintMore
structure TM.By (T : TM) : Prop where
 b0 : okB T.s0 = true
 b1 : okB T.s1 = true
 bu : ∀ u ∈ T.us, 0 ≤ u.f2 ∧ u.f2 ≤ 255
theorem okB_unit {l : List Int} {u : Un} (i : Int) (h : okB l = true) (hu : 0 ≤ u.f2 ∧ u.f2 ≤ 255) : okB (unit1 l i u) = true := by
 unfold unit1
 split
 ·split
  ·exact okB_take h _
  ·exact okB_append h (okB_of fun x hx => by rw [List.mem_singleton.1 hx]; exact hu)
 ·exact h
theorem okB_after : ∀ (us : List Un) (l : List Int) (i : Int), okB l = true → (∀ u ∈ us, 0 ≤ u.f2 ∧ u.f2 ≤ 255) → okB (afterU l i us) = true
 | [], l, i, h, _ => h
 | u :: us, l, i, h, hu => okB_after us (unit1 l i u) i (okB_unit i h (hu u (by simp))) (fun x hx => hu x (by simp [hx]))
namespace TM.By
variable {T : TM}
theorem now (h : T.By) {i : Int} (hi : i = 0 ∨ i = 1) : okB (T.now i) = true := by
 rcases hi with rfl | rfl
 ·exact okB_after _ _ _ h.b0 h.bu
 ·exact okB_after _ _ _ h.b1 h.bu
theorem new : TM.new.By := ⟨rfl, rfl, by simp [TM.new]⟩
theorem does (h : T.By) {l : List Un} (hl : ∀ u ∈ l, 0 ≤ u.f2 ∧ u.f2 ≤ 255) : (T.does l).By := ⟨h.b0, h.b1, fun u hu => (List.mem_append.1 hu).elim (h.bu u) (hl u)⟩
theorem write (h : T.By) (i : Int) {data : List Int} (hd : okB data = true) : (T.write i data).By := by
 unfold TM.write
 split
 ·refine h.does fun u hu => ?_
  obtain ⟨x, hx, rfl⟩ := List.mem_map.1 hu
  exact okB_mem hd x hx
 ·exact h
theorem trim (h : T.By) (i n : Int) : (T.trim i n).By := by
 unfold TM.trim
 split
 ·exact h.does fun u hu => by rw [List.mem_singleton.1 hu]; exact (show (0 : Int) ≤ 0 ∧ (0 : Int) ≤ 255 by decide)
 ·exact h
theorem sync (h : T.By) : T.sync.By := by
 unfold TM.sync
 split
 ·exact ⟨h.now (.inl rfl), h.now (.inr rfl), by simp⟩
 ·exact h
theorem fuse (h : T.By) (n : Int) : (T.fuse n).By := by
 unfold TM.fuse
 split
 ·exact ⟨h.b0, h.b1, h.bu⟩
 ·exact h
theorem crash (h : T.By) (n : Int) : (T.crash n).By := ⟨okB_after _ _ _ h.b0 (fun u hu => h.bu u (List.mem_of_mem_take hu)), okB_after _ _ _ h.b1 (fun u hu => h.bu u (List.mem_of_mem_take hu)), by simp [TM.crash]⟩
end TM.By
theorem okB_lenB (n : Nat) : okB (lenB n) = true := okB_of fun x hx => by
 simp [lenB] at hx
 omega
theorem okB_putM (s : Int) : okB (putM s) = true := okB_of fun x hx => by
 simp [putM] at hx
 omega
theorem okB_frame {r : List Int} (h : okB r = true) : okB (frameM r) = true := okB_append (okB_append (okB_lenB _) h) (okB_putM _)
theorem okB_frames : ∀ {l : List (List Int)}, (∀ r ∈ l, okB r = true) → okB (framesM l) = true
 | [], _ => rfl
 | r :: l, h => okB_append (okB_frame (h r (by simp))) (okB_frames (fun x hx => h x (by simp [hx])))
theorem okB_head (g n : Int) (hg : g ≤ 9223372036854775807) (hn : n ≤ 9223372036854775807) : okB (headR g n) = true := okB_append (okB_numB _ hg) (okB_numB _ hn)
theorem By_append {T : TM} (h : T.By) (J : JM) {r : List Int} (hr : okB r = true) : (appendM T J r).2.1.By := by
 unfold appendM
 split
 ·exact h
 ·split
  ·exact h
  ·split
   ·exact h.write _ (okB_frame hr)
   ·split
    ·exact (h.write _ (okB_frame hr)).sync
    ·exact (h.write _ (okB_frame hr)).sync
theorem By_renew {T : TM} (h : T.By) (J : JM) {l : List (List Int)} (hr : ∀ r ∈ l, okB r = true) (hg : J.g ≤ 9223372036854775806) (hl : l.length ≤ 9223372036854775807) : (renewM T J l).2.1.By := by
 have hb : okB (bodyM (J.g + 1) l) = true := okB_append (okB_frame (okB_head _ _ (by omega) (by omega))) (okB_frames hr)
 unfold renewM
 split
 ·exact h
 ·split
  ·exact h
  ·split
   ·exact h
   ·split
    ·exact h.trim _ _
    ·split
     ·exact (h.trim _ _).write _ hb
     ·split
      ·exact ((h.trim _ _).write _ hb).sync
      ·exact ((h.trim _ _).write _ hb).sync
theorem By_made {T : TM} (h : T.By) : (madeM T).2.1.By := by
 have hb : okB (frameM (headR 1 0)) = true := okB_frame (okB_head 1 0 (by decide) (by decide))
 unfold madeM
 split
 ·exact h.trim _ _
 ·split
  ·exact (h.trim _ _).trim _ _
  ·split
   ·exact ((h.trim _ _).trim _ _).write _ hb
   ·split
    ·exact (((h.trim _ _).trim _ _).write _ hb).sync
    ·exact (((h.trim _ _).trim _ _).write _ hb).sync
theorem By_open {T : TM} (h : T.By) : (openM T).2.1.By := by
 unfold openM
 split
 ·exact h
 ·split
  ·exact h
  ·split
   ·exact By_made h
   ·split
    ·exact h
    ·split
     ·split
      ·exact h.trim _ _
      ·split
       ·exact (h.trim _ _).sync
       ·exact (h.trim _ _).sync
     ·exact h
theorem Ok_append {T : TM} {N : Nat} (h : T.Ok N) (J : JM) {r : List Int} (hr : r.length ≤ 8196) : (appendM T J r).2.1.Ok (N + 8200) := by
 have h1 : (T.write J.side (frameM r)).Ok (N + 8200) := (TM.write_ok h J.side (frameM r)).mono (by rw [frameM_len]; omega)
 unfold appendM
 split
 ·exact h.mono (by omega)
 ·split
  ·exact h.mono (by omega)
  ·split
   ·exact h1
   ·split
    ·exact TM.sync_ok h1
    ·exact TM.sync_ok h1
theorem Ok_renew {T : TM} {N : Nat} (h : T.Ok N) (J : JM) (l : List (List Int)) : (renewM T J l).2.1.Ok (N + 65540) := by
 unfold renewM
 split
 ·exact h.mono (by omega)
 ·split
  ·exact h.mono (by omega)
  ·split
   ·exact h.mono (by omega)
   ·rename_i hb
    have h1 := TM.trim_ok h (1 - J.side) 0
    have h2 : ((T.trim (1 - J.side) 0).write (1 - J.side) (bodyM (J.g + 1) l)).Ok (N + 65540) := (TM.write_ok h1 (1 - J.side) (bodyM (J.g + 1) l)).mono (by omega)
    split
    ·exact h1.mono (by omega)
    ·split
     ·exact h2
     ·split
      ·exact TM.sync_ok h2
      ·exact TM.sync_ok h2
theorem Ok_made {T : TM} {N : Nat} (h : T.Ok N) : (madeM T).2.1.Ok (N + 20) := by
 have h1 := TM.trim_ok h 0 0
 have h2 := TM.trim_ok h1 1 0
 have h3 : (((T.trim 0 0).trim 1 0).write 0 (frameM (headR 1 0))).Ok (N + 20) := (TM.write_ok h2 0 (frameM (headR 1 0))).mono (by rw [frameM_len, head10]; simp)
 unfold madeM
 split
 ·exact h1.mono (by omega)
 ·split
  ·exact h2.mono (by omega)
  ·split
   ·exact h3
   ·split
    ·exact TM.sync_ok h3
    ·exact TM.sync_ok h3
theorem Ok_open {T : TM} {N : Nat} (h : T.Ok N) : (openM T).2.1.Ok (N + 20) := by
 have h0 : T.Ok (N + 20) := h.mono (by omega)
 have h1 : ∀ i n, (T.trim i n).Ok (N + 20) := fun i n => (TM.trim_ok h i n).mono (by omega)
 unfold openM
 split
 ·exact h0
 ·split
  ·exact h0
  ·split
   ·exact Ok_made h
   ·split
    ·exact h0
    ·split
     ·split
      ·exact h1 _ _
      ·split
       ·exact TM.sync_ok (h1 _ _)
       ·exact TM.sync_ok (h1 _ _)
     ·exact h0
theorem journal_Open.calls (g : Nat) (T : TM) (N : Nat) (hT : T.Ok N) (hN : N + 9000 ≤ 1000000000) (hB : T.By) (W : World) (ok : Nat → Prop) (hP : (PTape g T).P ok W) :
  Calls Try.prog 9 #[.pointer (some ⟨g, 0, none⟩)] W (OpenPost g ok W (openM T)) := by
 by_cases hr : T.ready 0 = 0
 ·exact journal_Open.yes g T N hT hN W ok hP hr (hB.now (.inl rfl)) (hB.now (.inr rfl))
 ·have e : openM T = (T.ready 0, T, none) := by unfold openM; rw [if_pos hr]
  rw [e]
  exact (journal_Open.no g T W ok hP hr).mono fun e W' hh => ⟨hh.1, (Turned.refl hP).on hh.2⟩
abbrev PTJ (g gj : Nat) (T : TM) (J : JM) : Res := Res.sep (PTape g T) (PJour gj g J)
section
variable {w0 W : World} {S : Nat → Prop} {Rs : List Res} {g gj : Nat} {T : TM} {J : JM} {N : Nat}
theorem newT_at (h : St w0 S W Rs) : Calls Try.prog 8 #[] W fun e W' => ∃ g, e = .returned (.pointer (some ⟨g, 0, none⟩)) ∧ St w0 S W' (Rs ++ [PTape g TM.new]) :=
 (tape_New.calls W).mono fun e W' ⟨g, h1, h2, h3⟩ => ⟨g, h1, h.add h3 h2⟩
def OpenSt (w0 : World) (S : Nat → Prop) (Rs : List Res) (i g : Nat) (M : Int × TM × Option JM) (e : Ending) (W' : World) : Prop :=
 match M.2.2 with
 | none => e = .returned (.tuple #[.pointer none, .int .i64 M.1]) ∧ St w0 S W' (Rs.set i (PTape g M.2.1))
 | some J => ∃ gj, e = .returned (.tuple #[.pointer (some ⟨gj, 0, none⟩), .int .i64 M.1]) ∧ St w0 S W' (Rs.set i (PTJ g gj M.2.1 J))
theorem open_at (h : St w0 S W Rs) (i : Nat) (hi : Rs[i]? = some (PTape g T)) (h0 : i ≠ 0) (hT : T.Ok N) (hN : N + 9000 ≤ 1000000000) (hB : T.By) :
  Calls Try.prog 9 #[.pointer (some ⟨g, 0, none⟩)] W (OpenSt w0 S Rs i g (openM T)) := by
 obtain ⟨ok, hP, _, hback⟩ := h.lend i hi h0 (fun _ => True) (fun _ _ => trivial)
 refine (journal_Open.calls g T N hT hN hB W ok hP).mono fun e W' hh => ?_
 unfold OpenSt
 unfold OpenPost at hh
 split
 ·rename_i hm
  rw [hm] at hh
  exact ⟨hh.1, hback hh.2⟩
 ·rename_i J hm
  rw [hm] at hh
  obtain ⟨gj, h1, h2⟩ := hh
  exact ⟨gj, h1, hback h2⟩
theorem openN_at (h : St w0 S W Rs) : Calls Try.prog 9 #[.pointer none] W fun e W' => e = .returned (.tuple #[.pointer none, .int .i64 1]) ∧ St w0 S W' Rs :=
 (journal_Open.nil W).mono fun e W' hh => ⟨hh.1, hh.2 ▸ h⟩
theorem append_at (h : St w0 S W Rs) (i : Nat) (hi : Rs[i]? = some (PTJ g gj T J)) (h0 : i ≠ 0) (hT : T.Ok N) (hN : N + 9000 ≤ 1000000000) {A : Option Addr} {c : Nat} {r : List Int} (hc : r.length ≤ c) (hL : J.L.length ≤ 100000) (hS : 0 ≤ J.size ∧ J.size ≤ 1000000000)
  (hQ : ∀ W', (∀ (m : Nat) (Rm : Res), m ≠ i → Rs[m]? = some Rm → ∃ ok, Rm.P ok W') → Kd.C (Kd.int .u8) W' A r.length r) :
  Calls Try.prog 13 #[.pointer (some ⟨gj, 0, none⟩), .slice A r.length c] W fun e W' => e = .returned (.int .i64 (appendM T J r).1) ∧ St w0 S W' (Rs.set i (PTJ g gj (appendM T J r).2.1 (appendM T J r).2.2)) := by
 obtain ⟨ok, hP, hq, hback⟩ := h.lend i hi h0 (fun W' => Kd.C (Kd.int .u8) W' A r.length r) hQ
 exact (jour_Append.calls gj g T N hT hN J A c r W ok hP hq hc hL hS).mono fun e W' hh => ⟨hh.1, hback hh.2⟩
theorem renew_at (h : St w0 S W Rs) (i : Nat) (hi : Rs[i]? = some (PTJ g gj T J)) (h0 : i ≠ 0) (hT : T.Ok N) (hN : N + 70000 ≤ 1000000000) (hsd : J.side = 0 ∨ J.side = 1) (hg : 0 ≤ J.g) {A : Option Addr} {c : Nat} {l : List (List Int)} (hl : l.length ≤ 1000000)
  (hQ : ∀ W', (∀ (m : Nat) (Rm : Res), m ≠ i → Rs[m]? = some Rm → ∃ ok, Rm.P ok W') → Kd.C (Kd.slice 5 (Kd.int .u8)) W' A l.length l) :
  Calls Try.prog 12 #[.pointer (some ⟨gj, 0, none⟩), .slice A l.length c] W fun e W' => e = .returned (.int .i64 (renewM T J l).1) ∧ St w0 S W' (Rs.set i (PTJ g gj (renewM T J l).2.1 (renewM T J l).2.2)) := by
 obtain ⟨ok, hP, hq, hback⟩ := h.lend i hi h0 (fun W' => Kd.C (Kd.slice 5 (Kd.int .u8)) W' A l.length l) hQ
 exact (jour_Renew.calls gj g T N hT hN J hsd A c l W ok hP hq hl hg).mono fun e W' hh => ⟨hh.1, hback hh.2⟩
theorem records_at (h : St w0 S W Rs) (i : Nat) (hi : Rs[i]? = some (PTJ g gj T J)) (hl : J.L.length ≤ 1000000) (hr : ∀ r ∈ J.L, r.length ≤ 100000) :
  Calls Try.prog 14 #[.pointer (some ⟨gj, 0, none⟩)] W fun e W' => ∃ A c, e = .returned (.slice A J.L.length c) ∧ J.L.length ≤ c ∧ Kd.C (Kd.slice 5 (Kd.int .u8)) W' A J.L.length J.L ∧ Below W.heap.size W W' ∧ St w0 S W' (Rs ++ [Res.row (Kd.slice 5 (Kd.int .u8)) 30 (.slice A J.L.length c) J.L]) := by
 obtain ⟨ok, hP⟩ := h.get i hi
 obtain ⟨okj, hJ, _⟩ := sep_snd hP
 refine (jour_Records.calls gj g J W okj hJ hl hr).mono fun e W' ⟨v, h1, h2, h3⟩ => ?_
 obtain ⟨A, c, ev⟩ := Kd.R_slice h2
 subst ev
 have h4 := Kd.R_reads' h2
 exact ⟨A, c, h1, h4.2.1, h4.2.2, h3, h.add h3 h2⟩
theorem genP_at (h : St w0 S W Rs) (i : Nat) (hi : Rs[i]? = some (PJour gj g J)) : Calls Try.prog 46 #[.pointer (some ⟨gj, 0, none⟩)] W fun e W' => e = .returned (.int .i64 J.g) ∧ St w0 S W' Rs := by
 obtain ⟨ok, hP⟩ := h.get i hi
 exact (jour_Generation.calls gj g J W ok hP).mono fun e W' hh => ⟨hh.1, hh.2 ▸ h⟩
theorem fuseJ_at (h : St w0 S W Rs) (i : Nat) (hi : Rs[i]? = some (PTJ g gj T J)) (h0 : i ≠ 0) (n : Int) :
  Calls Try.prog 26 #[.pointer (some ⟨g, 0, none⟩), .int .i64 n] W fun e W' => e = .returned (.int .i64 (TM.fuseE n)) ∧ St w0 S W' (Rs.set i (PTJ g gj (T.fuse n) J)) := by
 obtain ⟨ok, hP, _, hback⟩ := h.lend i hi h0 (fun _ => True) (fun _ _ => trivial)
 obtain ⟨oka, hA, _, hb⟩ := sep_left hP
 exact (tape_Fuse.calls g T n W oka hA).mono fun e W' hh => ⟨hh.1, hback (hb hh.2)⟩
theorem crash_at (h : St w0 S W Rs) (i : Nat) (hi : Rs[i]? = some (PTape g T)) (h0 : i ≠ 0) (hT : T.Ok N) (hN : N ≤ 1000000000) (n : Int) (hn1 : -9223372036854775808 ≤ n) (hn2 : n ≤ 9223372036854775807) :
  Calls Try.prog 27 #[.pointer (some ⟨g, 0, none⟩), .int .i64 n] W fun e W' => e = .returned (.tuple #[]) ∧ St w0 S W' (Rs.set i (PTape g (T.crash n))) := by
 obtain ⟨ok, hP, _, hback⟩ := h.lend i hi h0 (fun _ => True) (fun _ _ => trivial)
 exact (tape_Crash.calls g T N hT hN n hn1 hn2 W ok hP).mono fun e W' hh => ⟨hh.1, hback hh.2⟩
theorem readJ_at (h : St w0 S W Rs) (i : Nat) (hi : Rs[i]? = some (PTJ g gj T J)) (hT : T.Ok N) (p : Int) (hr : T.ready p = 0) (hp : p = 0 ∨ p = 1) :
  Calls Try.prog 33 #[.pointer (some ⟨g, 0, none⟩), .int .i64 p] W fun e W' => ∃ A c, e = .returned (.tuple #[.slice A (T.now p).length c, .int .i64 0]) ∧ (T.now p).length ≤ c ∧ Kd.C (Kd.int .u8) W' A (T.now p).length (T.now p) ∧ Below W.heap.size W W' ∧ St w0 S W' (Rs ++ [Res.row (Kd.int .u8) 5 (.slice A (T.now p).length c) (T.now p)]) := by
 obtain ⟨ok, hP⟩ := h.get i hi
 obtain ⟨oka, hA, _⟩ := sep_fst hP
 refine (tape_Read.yes g T p W oka hA hr hp (hT.now_len p hp)).mono fun e W' ⟨v, h1, h2, h3⟩ => ?_
 obtain ⟨A, c, ev⟩ := Kd.R_slice h2
 subst ev
 have h4 := Kd.R_reads' h2
 exact ⟨A, c, h1, h4.2.1, h4.2.2, h3, h.add h3 h2⟩
theorem drops_at {Xs : List Res} (h : St w0 S W (Rs ++ Xs)) : St w0 S W Rs := h.less fun i R' hi => ⟨R', by
 rw [List.getElem?_append_left (List.getElem?_eq_some_iff.1 hi).1]; exact hi, fun _ hp => hp⟩
theorem forget_at (h : St w0 S W Rs) (i : Nat) (hi : Rs[i]? = some (PTJ g gj T J)) : St w0 S W (Rs.set i (PTape g T)) := h.turn i hi (fun ok hp => sep_drop hp)
end
end Go.Proofs.Ytmfmoddaejoekaa.P
