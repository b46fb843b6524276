/- Rows that lie in one block, each row in a block of its own: an array of slices; what is read, what is put. -/
import Derived.Test.YtpdcmdofojckdaaDoorHSt
import Derived.Deep.QuietTactic
import Derived.BigQuiet
set_option linter.unusedVariables false
set_option linter.unusedSimpArgs false
namespace Go.Proofs.YtpdcmdofojckdaaDoorW.PrintWords
open Go.RowKit
def Res.rows {α : Type} (d : Kd α) (T e : TypeId) (g : Nat) (L : List (List α)) : Res where
  P := fun ok W => ∃ (vs : List Value) (F : Nat → Nat), ok g ∧ W.heap[g]? = some (.cells vs.toArray T (0, 0)) ∧ vs.length = L.length ∧
    ∀ (i : Nat) (v : Value) (l : List α), vs[i]? = some v → L[i]? = some l → d.R e W 0 (fun k => ok k ∧ k ≠ g ∧ F k = i) v l
  mono := fun hok ⟨vs, F, h1, h2, h3, h4⟩ => ⟨vs, F, hok _ h1, h2, h3, fun i v l hv hl => Kd.R_mono (h4 i v l hv hl) (fun k hk => ⟨hok k hk.1, hk.2⟩)⟩
  step := fun ⟨vs, F, h1, h2, h3, h4⟩ hm => ⟨vs, F, h1, (hm _ h1 (blk_lt h2)).trans h2, h3, fun i v l hv hl => Kd.R_step (h4 i v l hv hl) (fun k hk => hm k hk.1)⟩
  bound := fun ⟨vs, F, h1, h2, h3, h4⟩ => ⟨vs, F, ⟨h1, blk_lt h2⟩, h2, h3, fun i v l hv hl => Kd.R_mono (Kd.R_bound (h4 i v l hv hl)) (fun k hk => ⟨⟨hk.1.1, hk.2.2.1⟩, hk.1.2⟩)⟩
section
variable {α : Type} {d : Kd α} {T e : TypeId} {g : Nat} {L : List (List α)} {ok : Nat → Prop} {W W1 : World} {i : Nat} {l l1 : List α}
end
end Go.Proofs.YtpdcmdofojckdaaDoorW.PrintWords
namespace Go.Proofs.YtpdcmdofojckdaaDoorW.PrintWords
open Go.RowKit
section
variable {P : Program} {ops : Array Oper} {rest : List Oper} {o : Oper} {a : Act} {Q : Exit → Act → World → Prop}
end
theorem St.nil {w0 W : World} {S : Nat → Prop} {Rs : List Res} (h : St w0 S W Rs) {α : Type} (d : Kd α) (e : TypeId) : St w0 S W (Rs ++ [Res.row d e (.slice none 0 0) []]) :=
  h.add (Below.refl _ _) (Kd.R_nil _ _ _ _ _)
end Go.Proofs.YtpdcmdofojckdaaDoorW.PrintWords
namespace Go.Proofs.YtpdcmdofojckdaaDoorW.PrintWords
open Go.RowKit
end Go.Proofs.YtpdcmdofojckdaaDoorW.PrintWords
namespace Go.Proofs.YtpdcmdofojckdaaDoorW.PrintWords
open Go.RowKit
end Go.Proofs.YtpdcmdofojckdaaDoorW.PrintWords
namespace Go.Proofs.YtpdcmdofojckdaaDoorW.PrintWords
open Go.RowKit
end Go.Proofs.YtpdcmdofojckdaaDoorW.PrintWords
namespace Go.Proofs.YtpdcmdofojckdaaDoorW.PrintWords
open Go.RowKit
def Agree (W0 : World) (Fo : Nat → Prop) (w : World) : Prop := ∀ k, Fo k → k < W0.heap.size → w.heap[k]? = W0.heap[k]?
theorem Agree.refl (W0 : World) (Fo : Nat → Prop) : Agree W0 Fo W0 := fun _ _ _ => rfl
theorem Agree.below {W0 w : World} {Fo : Nat → Prop} (h : Below W0.heap.size W0 w) : Agree W0 Fo w := fun k _ hk => h.block k hk
theorem Agree.on {W0 w w' : World} {Fo : Nat → Prop} (h : Agree W0 Fo w) (hk : Keeps w w' (fun k => ¬ Fo k)) : Agree W0 Fo w' := fun k hf hlt => (hk.block k (heap_lt (h k hf hlt) hlt) (fun hn => hn hf)).trans (h k hf hlt)
def Res.agree (W0 : World) (Fo : Nat → Prop) : Res where
  P := fun ok w => (∀ k, Fo k → k < W0.heap.size → ok k) ∧ Agree W0 Fo w
  mono := fun hok h => ⟨fun k hk hlt => hok k (h.1 k hk hlt), h.2⟩
  step := fun h hm => ⟨h.1, fun k hk hlt => (hm k (h.1 k hk hlt) (heap_lt (h.2 k hk hlt) hlt)).trans (h.2 k hk hlt)⟩
  bound := fun h => ⟨fun k hk hlt => ⟨h.1 k hk hlt, heap_lt (h.2 k hk hlt) hlt⟩, h.2⟩
theorem St.freeze {w0 W : World} {S : Nat → Prop} {Q : World → Prop} {Rs : List Res} (h : St w0 S W (Res.view Q :: Rs)) : ∃ Fo : Nat → Prop, (∀ k, Fo k → k < W.heap.size) ∧ Foot Q W Fo ∧ St w0 S W (Res.agree W Fo :: Rs) := by
  obtain ⟨hk, own, ho, hr⟩ := h
  refine ⟨fun k => own k = 0 ∧ k < W.heap.size, fun k hk => hk.2, Foot.bound (hr 0 _ rfl), hk, own, ho, fun i R hi => ?_⟩
  match i, hi with
  | 0, hi => cases hi; exact ⟨fun k hk _ => hk.1, Agree.refl _ _⟩
  | i + 1, hi => exact hr (i + 1) R hi
def Turned (ok : Nat → Prop) (W W' : World) (R : Res) : Prop := Keeps W W' ok ∧ R.P (fun k => ok k ∨ W.heap.size ≤ k) W'
theorem Turned.refl {ok : Nat → Prop} {W : World} {R : Res} (h : R.P ok W) : Turned ok W W R := ⟨Keeps.refl _ _, R.mono (fun _ hk => .inl hk) h⟩
theorem Turned.on {ok : Nat → Prop} {W W1 W2 : World} {R : Res} (h : Turned ok W W1 R) (hb : Below W1.heap.size W1 W2) : Turned ok W W2 R := ⟨h.1.step hb, R.on h.2 hb⟩
theorem Turned.then_ {ok : Nat → Prop} {W W1 W2 : World} {R R2 : Res} (h : Turned ok W W1 R) (hk : Keeps W1 W2 (fun k => ok k ∨ W.heap.size ≤ k)) (hR : R2.P (fun k => (ok k ∨ W.heap.size ≤ k) ∨ W1.heap.size ≤ k) W2) : Turned ok W W2 R2 :=
  ⟨h.1.then_ hk (fun _ hk => hk), R2.mono (fun k hk => hk.elim id (fun h2 => .inr (Nat.le_trans h.1.size h2))) hR⟩
theorem St.lend {w0 W : World} {S : Nat → Prop} {Rs : List Res} {R : Res} (h : St w0 S W Rs) (i : Nat) (hi : Rs[i]? = some R) (h0 : i ≠ 0) (Q : World → Prop) (hQ : ∀ W', (∀ (j : Nat) (Rj : Res), j ≠ i → Rs[j]? = some Rj → ∃ ok, Rj.P ok W') → Q W') :
    ∃ ok : Nat → Prop, R.P ok W ∧ (∀ W', Keeps W W' ok → Q W') ∧ ∀ {W' : World} {R' : Res}, Turned ok W W' R' → St w0 S W' (Rs.set i R') := by
  obtain ⟨S1, ⟨_, own, ho, hr⟩, h2⟩ := h.call1 i hi h0 Q hQ
  have hp := hr 1 R rfl
  have hq : Foot Q W (fun k => own k = 0) := hr 0 _ rfl
  refine ⟨fun k => own k = 1 ∧ k < W.heap.size, R.bound hp, fun W' hk => hq W' (fun k hk0 hlt => hk.block k hlt (fun hh => by have := hh.1; omega)), fun {W' R'} ht => ?_⟩
  have hS : ∀ k, (own k = 1 ∧ k < W.heap.size) → S1 k := fun k hk => Classical.byContradiction fun hn => by
    have := ho k hk.2 hn
    omega
  have := h2 (news := []) (St.mk1 (ht.1.mono fun k _ => hS k) (R'.mono (fun k hk => hk.elim (fun h3 => .inl (hS k h3)) .inr) ht.2))
  rwa [List.append_nil] at this
end Go.Proofs.YtpdcmdofojckdaaDoorW.PrintWords
namespace Go.Proofs.YtpdcmdofojckdaaDoorW.PrintWords
open Go.RowKit
end Go.Proofs.YtpdcmdofojckdaaDoorW.PrintWords
