/- States: what is known of the memory, parted by owners: each part lies in blocks of its own. Plain words, for whatever program. -/
import Derived.Test.YtpdcmdofojckdaaDoorWMore
set_option linter.unusedVariables false
set_option linter.unusedSimpArgs false
namespace Go.Proofs.YtpdcmdofojckdaaDoorW.PrintWords
open Go.RowKit
structure Keeps (w W : World) (S : Nat → Prop) : Prop where
  os : W.os = w.os
  tape : W.tape = w.tape
  output : W.output = w.output
  size : w.heap.size ≤ W.heap.size
  block : ∀ k, k < w.heap.size → ¬ S k → W.heap[k]? = w.heap[k]?
namespace Keeps
variable {w W W2 : World} {S S2 S' : Nat → Prop}
theorem refl (w : World) (S : Nat → Prop) : Keeps w w S := ⟨rfl, rfl, rfl, Nat.le_refl _, fun _ _ _ => rfl⟩
theorem of_below (h : Below w.heap.size w W) (S : Nat → Prop) : Keeps w W S := ⟨h.os, h.tape, h.output, h.size, fun k hk _ => h.block k hk⟩
theorem below (h : Keeps w W S) (hS : ∀ k, k < w.heap.size → ¬ S k) : Below w.heap.size w W := ⟨h.os, h.tape, h.output, h.size, fun k hk => h.block k hk (hS k hk)⟩
theorem belowF (h : Keeps w W (fun _ => False)) : Below w.heap.size w W := h.below (fun _ _ hk => hk)
theorem mono (h : Keeps w W S) (hs : ∀ k, k < w.heap.size → S k → S' k) : Keeps w W S' := ⟨h.os, h.tape, h.output, h.size, fun k hk hn => h.block k hk (fun h2 => hn (hs k hk h2))⟩
theorem then_ (h : Keeps w W S) (k : Keeps W W2 S2) (hs : ∀ k, S2 k → S k ∨ w.heap.size ≤ k) : Keeps w W2 S :=
  ⟨k.os.trans h.os, k.tape.trans h.tape, k.output.trans h.output, Nat.le_trans h.size k.size, fun i hi hn => (k.block i (Nat.lt_of_lt_of_le hi h.size) (fun h2 => (hs i h2).elim hn (fun h3 => by omega))).trans (h.block i hi hn)⟩
theorem of_grown {row : Option Nat} (h : W.grownBy W2 row) : Keeps W W2 (fun k => some k = row) := ⟨h.os, h.tape, h.output, h.size, fun k hk hn => h.block k hk hn⟩
theorem of_set (W : World) (p : Addr) (u : Value) : Keeps W (W.setCell p u) (fun k => k = p.block) := ⟨rfl, rfl, rfl, by simp [World.setCell], fun k _ hn => Below.heap_setCell W p u k hn⟩
theorem step (h : Keeps w W S) (hb : Below W.heap.size W W2) : Keeps w W2 S := h.then_ (of_below hb (fun _ => False)) (fun _ hk => hk.elim)
theorem alloc (h : Keeps w W S) (o : Obj) : Keeps w (W.alloc o) S := h.step (below_alloc (Below.refl _ _) o)
theorem drew (h : Keeps w W S) : Keeps w W.drew S := ⟨h.os, h.tape, h.output, h.size, h.block⟩
theorem drewN (h : Keeps w W S) (m : Nat) : Keeps w (W.drewN m) S := ⟨h.os, h.tape, h.output, h.size, h.block⟩
theorem set (h : Keeps w W S) {p : Addr} (hp : S p.block ∨ w.heap.size ≤ p.block) (u : Value) : Keeps w (W.setCell p u) S := h.then_ (of_set W p u) (fun k hk => by rw [hk]; exact hp)
theorem grown (h : Keeps w W S) {row : Option Nat} (hg : W.grownBy W2 row) (hr : ∀ k, row = some k → S k ∨ w.heap.size ≤ k) : Keeps w W2 S := h.then_ (of_grown hg) (fun k hk => hr k hk.symm)
theorem kept (h : Keeps w W S) : Kept w W S := ⟨h.size, h.block⟩
end Keeps
structure Res where
  P : (Nat → Prop) → World → Prop
  mono : ∀ {ok ok' : Nat → Prop} {W : World}, (∀ k, ok k → ok' k) → P ok W → P ok' W
  step : ∀ {ok : Nat → Prop} {W W' : World}, P ok W → (∀ k, ok k → k < W.heap.size → W'.heap[k]? = W.heap[k]?) → P ok W'
  bound : ∀ {ok : Nat → Prop} {W : World}, P ok W → P (fun k => ok k ∧ k < W.heap.size) W
namespace Res
def view (Q : World → Prop) : Res := ⟨fun ok W => Foot Q W ok, fun hok h => Foot.mono h hok, fun h hm => Foot.step h hm, fun h => Foot.bound h⟩
def row {α : Type} (d : Kd α) (e : TypeId) (v : Value) (xs : List α) : Res := ⟨fun ok W => d.R e W 0 ok v xs, fun hok h => Kd.R_mono h hok, fun h hm => Kd.R_step h hm, fun h => Kd.R_mono (Kd.R_bound h) (fun _ hk => ⟨hk.1, hk.2.2.1⟩)⟩
def blk (g : Nat) (o : Obj) : Res := ⟨fun ok W => ok g ∧ W.heap[g]? = some o, fun hok h => ⟨hok _ h.1, h.2⟩, fun h hm => ⟨h.1, (hm _ h.1 (blk_lt h.2)).trans h.2⟩, fun h => ⟨⟨h.1, blk_lt h.2⟩, h.2⟩⟩
def any : Res := ⟨fun _ _ => True, fun _ h => h, fun h _ => h, fun h => h⟩
def ex {α : Type} (A : α → Res) : Res := ⟨fun ok W => ∃ a, (A a).P ok W, fun hok h => h.imp fun a ha => (A a).mono hok ha, fun h hm => h.imp fun a ha => (A a).step ha hm, fun h => h.imp fun a ha => (A a).bound ha⟩
theorem on (R : Res) {ok : Nat → Prop} {W W' : World} (h : R.P ok W) (hb : Below W.heap.size W W') : R.P ok W' := R.step h (fun k _ hk => hb.block k hk)
end Res
def St (w0 : World) (S : Nat → Prop) (W : World) (Rs : List Res) : Prop :=
  Keeps w0 W S ∧ ∃ own : Nat → Nat, (∀ k, k < w0.heap.size → ¬ S k → own k = 0) ∧ ∀ (i : Nat) (R : Res), Rs[i]? = some R → R.P (fun k => own k = i) W
section
variable {w0 W W' : World} {S : Nat → Prop} {Rs : List Res} {i j : Nat} {R R' R1 R2 R1' R2' : Res}
theorem St.below {w : World} (h : St w (fun _ => False) W Rs) : Below w.heap.size w W := h.1.belowF
theorem St.size (h : St w0 S W Rs) : w0.heap.size ≤ W.heap.size := h.1.size
theorem St.get (h : St w0 S W Rs) (i : Nat) {R : Res} (hi : Rs[i]? = some R) : ∃ ok, R.P ok W := h.2.elim fun own ho => ⟨_, ho.2 i R hi⟩
theorem St.read (h : St w0 S W Rs) (i : Nat) {Q : World → Prop} (hi : Rs[i]? = some (Res.view Q)) : Q W := (h.get i hi).elim fun ok hp => Foot.now (show Foot Q W ok from hp)
theorem St.on (h : St w0 S W Rs) (hb : Below W.heap.size W W') : St w0 S W' Rs := by
  obtain ⟨hk, own, h0, hr⟩ := h
  exact ⟨hk.step hb, own, h0, fun i R hi => R.on (hr i R hi) hb⟩
theorem St.alloc (h : St w0 S W Rs) (o : Obj) : St w0 S (W.alloc o) Rs := h.on (below_alloc (Below.refl _ _) o)
theorem St.drew (h : St w0 S W Rs) : St w0 S W.drew Rs := h.on (below_drew (Below.refl _ _))
theorem St.drewN (h : St w0 S W Rs) (m : Nat) : St w0 S (W.drewN m) Rs := h.on (pw_below_drewN (Below.refl _ _) m)
theorem St.less (h : St w0 S W Rs) {Rs' : List Res} (hl : ∀ (i : Nat) (R' : Res), Rs'[i]? = some R' → ∃ R : Res, Rs[i]? = some R ∧ ∀ ok, R.P ok W → R'.P ok W) : St w0 S W Rs' := by
  obtain ⟨hk, own, h0, hr⟩ := h
  exact ⟨hk, own, h0, fun i R' hi => (hl i R' hi).elim fun R hR => hR.2 _ (hr i R hR.1)⟩
theorem St.drop (h : St w0 S W (Rs ++ [R])) : St w0 S W Rs := h.less fun i R' hi => ⟨R', by
  rw [List.getElem?_append_left (List.getElem?_eq_some_iff.1 hi).1]; exact hi, fun _ hp => hp⟩
theorem St.mk0 (w : World) (S : Nat → Prop) {Q : World → Prop} (hQ : Foot Q w (fun k => ¬ S k)) : St w S w [Res.view Q] := by
  refine ⟨Keeps.refl _ _, fun k => if @decide (S k) (Classical.propDecidable _) then 1 else 0, fun k _ hn => by simp [hn], fun i R hi => ?_⟩
  match i, hi with
  | 0, hi =>
    cases hi
    exact Foot.mono hQ (fun k hk => by simp [hk])
theorem St.mk1 {W W' : World} {S : Nat → Prop} (hk : Keeps W W' S) (hR : R.P (fun k => S k ∨ W.heap.size ≤ k) W') : St W S W' [Res.any, R] := by
  refine ⟨hk, fun k => if @decide (S k ∨ W.heap.size ≤ k) (Classical.propDecidable _) then 1 else 0, fun k h1 h2 => ?_, fun i R' hi => ?_⟩
  · show (if @decide (S k ∨ W.heap.size ≤ k) (Classical.propDecidable _) then 1 else 0) = 0
    rw [if_neg]
    simp only [decide_eq_true_eq]
    exact fun hh => hh.elim h2 (fun h3 => by omega)
  · match i, hi with
    | 0, hi => cases hi; trivial
    | 1, hi =>
      cases hi
      exact R.mono (fun k hk => by simp [hk]) hR
theorem St.call_ (h : St w0 S W Rs) (I : List Nat) (Os : List Res) (hn : I.Nodup) (h0 : 0 ∉ I) (hO : ∀ (m : Nat) (R : Res), Os[m]? = some R → ∃ i : Nat, I[m]? = some i ∧ Rs[i]? = some R) (Q : World → Prop)
    (hQ : ∀ W', (∀ (j : Nat) (Rj : Res), j ∉ I → Rs[j]? = some Rj → ∃ ok, Rj.P ok W') → Q W') :
    ∃ S1 : Nat → Prop, St W S1 W (Res.view Q :: Os) ∧ ∀ (W' : World) (Q' : Res) (Os' news Rs' : List Res), Os'.length = I.length → St W S1 W' (Q' :: (Os' ++ news)) →
      (∀ (i : Nat) (R : Res), Rs'[i]? = some R → (i ∉ I ∧ Rs[i]? = some R) ∨ (∃ m : Nat, I[m]? = some i ∧ Os'[m]? = some R) ∨ (∃ m : Nat, i = Rs.length + m ∧ news[m]? = some R)) → St w0 S W' Rs' := by
  obtain ⟨hk, own, ho0, hr⟩ := h
  refine ⟨fun k => own k ∈ I, ⟨Keeps.refl _ _, fun k => if own k ∈ I then I.idxOf (own k) + 1 else 0, fun k _ hk => if_neg hk, fun i R hi => ?_⟩, ?_⟩
  · match i, hi with
    | 0, hi =>
      cases hi
      show Foot Q W _
      intro W' hW
      refine hQ W' fun j Rj hj hRj => ⟨_, Rj.step (hr j Rj hRj) fun k hk hlt => hW k ?_ hlt⟩
      show (if own k ∈ I then I.idxOf (own k) + 1 else 0) = 0
      rw [if_neg]
      rw [hk]
      exact hj
    | m + 1, hi =>
      have hi' : Os[m]? = some R := by simpa using hi
      obtain ⟨i, him, hRi⟩ := hO m R hi'
      refine R.mono (fun k hk => ?_) (hr i R hRi)
      have hmem : i ∈ I := List.mem_of_getElem? him
      have hlt : m < I.length := (List.getElem?_eq_some_iff.1 him).1
      have he : I[m] = i := (List.getElem?_eq_some_iff.1 him).2
      have hk' : own k = i := hk
      show (if own k ∈ I then I.idxOf (own k) + 1 else 0) = m + 1
      rw [if_pos (by rw [hk']; exact hmem), hk', ← he, hn.idxOf_getElem m hlt]
  · intro W' Q' Os' news Rs' hlen hst hRs'
    obtain ⟨hk1, oc, hoc, hrc⟩ := hst
    have hin : ∀ k, own k ∈ I → S k ∨ w0.heap.size ≤ k := fun k hk => by
      by_cases hs : S k
      · exact .inl hs
      · refine .inr (Nat.le_of_not_lt fun hlt => ?_)
        rw [ho0 k hlt hs] at hk
        exact h0 hk
    refine ⟨hk.then_ hk1 hin, fun k => if k < W.heap.size ∧ own k ∉ I then own k else match oc k with | 0 => Rs.length + news.length + I.foldr (· + ·) 0 + 1 | c + 1 => if hc : c < I.length then I[c] else Rs.length + (c - I.length), fun k hlt hs => ?_, fun i R hi => ?_⟩
    · have h1 := ho0 k hlt hs
      have h2 : k < W.heap.size ∧ own k ∉ I := ⟨Nat.lt_of_lt_of_le hlt hk.size, by rw [h1]; exact h0⟩
      show (if k < W.heap.size ∧ own k ∉ I then own k else _) = 0
      rw [if_pos h2, h1]
    · rcases hRs' i R hi with ⟨h1, h2⟩ | ⟨m, h1, h2⟩ | ⟨m, h1, h2⟩
      · refine R.mono (fun k hk => ?_) (R.step (R.bound (hr i R h2)) fun k hk hlt => hk1.block k hlt (by rw [hk.1]; exact h1))
        have h3 : k < W.heap.size ∧ own k ∉ I := ⟨hk.2, by rw [hk.1]; exact h1⟩
        show (if k < W.heap.size ∧ own k ∉ I then own k else _) = i
        rw [if_pos h3, hk.1]
      · have hlt : m < I.length := (List.getElem?_eq_some_iff.1 h1).1
        have he : I[m] = i := (List.getElem?_eq_some_iff.1 h1).2
        have h3 := hrc (m + 1) R (by rw [List.getElem?_cons_succ, List.getElem?_append_left (by omega)]; exact h2)
        refine R.mono (fun k hk => ?_) h3
        have hk' : oc k = m + 1 := hk
        have h4 : ¬ (k < W.heap.size ∧ own k ∉ I) := fun hh => by
          have := hoc k hh.1 hh.2
          omega
        show (if k < W.heap.size ∧ own k ∉ I then own k else _) = i
        rw [if_neg h4, hk']
        simp only [hlt, dite_true, he]
      · have h3 := hrc (I.length + m + 1) R (by rw [List.getElem?_cons_succ, List.getElem?_append_right (by omega), hlen, Nat.add_sub_cancel_left]; exact h2)
        refine R.mono (fun k hk => ?_) h3
        have hk' : oc k = I.length + m + 1 := hk
        have h4 : ¬ (k < W.heap.size ∧ own k ∉ I) := fun hh => by
          have := hoc k hh.1 hh.2
          omega
        show (if k < W.heap.size ∧ own k ∉ I then own k else _) = i
        rw [if_neg h4, hk', h1]
        simp only [show ¬ I.length + m < I.length by omega, dite_false, Nat.add_sub_cancel_left]
theorem St.call0 (h : St w0 S W Rs) {W' : World} {Q' : Res} {news : List Res} (hst : St W (fun _ => False) W' (Q' :: news)) : St w0 S W' (Rs ++ news) := by
  obtain ⟨S1, h1, h2⟩ := St.call_ h [] [] List.nodup_nil (by simp) (by simp) (fun _ => True) (fun _ _ => trivial)
  have hS : St W S1 W' (Q' :: ([] ++ news)) := by
    obtain ⟨hk, own, ho, hr⟩ := hst
    exact ⟨hk.mono (fun _ _ hf => hf.elim), own, fun k hlt _ => ho k hlt (fun hf => hf), hr⟩
  refine h2 W' Q' [] news (Rs ++ news) rfl hS fun i R hi => ?_
  rcases Nat.lt_or_ge i Rs.length with hlt | hge
  · rw [List.getElem?_append_left hlt] at hi
    exact .inl ⟨by simp, hi⟩
  · rw [List.getElem?_append_right hge] at hi
    exact .inr (.inr ⟨i - Rs.length, by omega, hi⟩)
theorem St.call1 (h : St w0 S W Rs) (i : Nat) (hi : Rs[i]? = some R) (h0 : i ≠ 0) (Q : World → Prop) (hQ : ∀ W', (∀ (j : Nat) (Rj : Res), j ≠ i → Rs[j]? = some Rj → ∃ ok, Rj.P ok W') → Q W') :
    ∃ S1 : Nat → Prop, St W S1 W [Res.view Q, R] ∧ ∀ {W' : World} {Q' R' : Res} {news : List Res}, St W S1 W' (Q' :: R' :: news) → St w0 S W' (Rs.set i R' ++ news) := by
  obtain ⟨S1, h1, h2⟩ := St.call_ h [i] [R] (by simp) (by simpa using Ne.symm h0) (fun m R2 hm => by
    match m, hm with
    | 0, hm => cases hm; exact ⟨i, rfl, hi⟩) Q (fun W' hW => hQ W' fun j Rj hj hR => hW j Rj (by simpa using hj) hR)
  refine ⟨S1, h1, fun {W' Q' R' news} hst => h2 W' Q' [R'] news _ rfl hst fun j R2 hj => ?_⟩
  have hlt : i < Rs.length := (List.getElem?_eq_some_iff.1 hi).1
  rcases Nat.lt_or_ge j Rs.length with hjl | hge
  · rw [List.getElem?_append_left (by simpa using hjl)] at hj
    by_cases e : i = j
    · subst e
      rw [List.getElem?_set_self hlt] at hj
      cases hj
      exact .inr (.inl ⟨0, rfl, rfl⟩)
    · rw [List.getElem?_set_ne e] at hj
      exact .inl ⟨by simpa using Ne.symm e, hj⟩
  · rw [List.getElem?_append_right (by simpa using hge), List.length_set] at hj
    exact .inr (.inr ⟨j - Rs.length, by omega, hj⟩)
theorem St.add (h : St w0 S W Rs) (hb : Below W.heap.size W W') (hR : R.P (fun k => W.heap.size ≤ k) W') : St w0 S W' (Rs ++ [R]) :=
  h.call0 (Q' := Res.any) (St.mk1 (Keeps.of_below hb _) (R.mono (fun _ hk => .inr hk) hR))
theorem St.write (h : St w0 S W Rs) (i : Nat) (hi : Rs[i]? = some R) (h0 : i ≠ 0) :
    ∃ ok, R.P ok W ∧ ∀ {W' : World} {R' : Res}, Keeps W W' ok → R'.P (fun k => ok k ∨ W.heap.size ≤ k) W' → St w0 S W' (Rs.set i R') := by
  obtain ⟨S1, ⟨_, own, ho, hr⟩, h2⟩ := h.call1 i hi h0 (fun _ => True) (fun _ _ => trivial)
  have hp := hr 1 R rfl
  refine ⟨S1, R.mono (fun k hk => hk.2) (R.mono (ok' := fun k => k < W.heap.size ∧ S1 k) (fun k hk => ⟨hk.2, Classical.byContradiction fun hn => by
    have h3 := ho k hk.2 hn
    have h4 : own k = 1 := hk.1
    omega⟩) (R.bound hp)), fun {W' R'} hk hR => ?_⟩
  have := h2 (news := []) (St.mk1 hk hR)
  rwa [List.append_nil] at this
end
end Go.Proofs.YtpdcmdofojckdaaDoorW.PrintWords
