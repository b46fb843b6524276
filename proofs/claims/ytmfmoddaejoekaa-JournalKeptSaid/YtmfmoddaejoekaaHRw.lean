/- Rows that lie in one block, each row in a block of its own: an array of slices; what is read, what is put. -/
import Derived.Test.YtmfmoddaejoekaaHSt
import Derived.Deep.QuietTactic
import Derived.BigQuiet
set_option linter.unusedVariables false
set_option linter.unusedSimpArgs false
namespace Go.Proofs.YtmfmoddaejoekaaW.PrintWords
open Go.RowKit
def Res.rows {α : Type} (d : Kd α) (T e : TypeId) (g : Nat) (L : List (List α)) : Res where
  P := fun ok W => ∃ (vs : List Value) (F : Nat → Nat), ok g ∧ W.heap[g]? = some (.cells vs.toArray T (0, 0)) ∧ vs.length = L.length ∧
    ∀ (i : Nat) (v : Value) (l : List α), vs[i]? = some v → L[i]? = some l → d.R e W 0 (fun k => ok k ∧ k ≠ g ∧ F k = i) v l
  mono := fun hok ⟨vs, F, h1, h2, h3, h4⟩ => ⟨vs, F, hok _ h1, h2, h3, fun i v l hv hl => Kd.R_mono (h4 i v l hv hl) (fun k hk => ⟨hok k hk.1, hk.2⟩)⟩
  step := fun ⟨vs, F, h1, h2, h3, h4⟩ hm => ⟨vs, F, h1, (hm _ h1 (blk_lt h2)).trans h2, h3, fun i v l hv hl => Kd.R_step (h4 i v l hv hl) (fun k hk => hm k hk.1)⟩
  bound := fun ⟨vs, F, h1, h2, h3, h4⟩ => ⟨vs, F, ⟨h1, blk_lt h2⟩, h2, h3, fun i v l hv hl => Kd.R_mono (Kd.R_bound (h4 i v l hv hl)) (fun k hk => ⟨⟨hk.1.1, hk.2.2.1⟩, hk.1.2⟩)⟩
section
variable {α : Type} {d : Kd α} {T e : TypeId} {g : Nat} {L : List (List α)} {ok : Nat → Prop} {W W1 : World} {i : Nat} {l l1 : List α}
end
end Go.Proofs.YtmfmoddaejoekaaW.PrintWords
namespace Go.Proofs.YtmfmoddaejoekaaW.PrintWords
open Go.RowKit
section
variable {P : Program} {ops : Array Oper} {rest : List Oper} {o : Oper} {a : Act} {Q : Exit → Act → World → Prop}
theorem app_int {k : IntKind} {W : World} (hgd : o.guard = none) (s x : Operand) (t e : TypeId) (bytes : Nat)
    (ho : o.op = .call { callee := .builtin .append, args := #[s, x], argTypes := #[t, t] })
    (ht : P.underlying t = some (.slice e)) (hinfo : (P.info? e).map (fun i => (i.zero, i.size, i.bytes)) = some (some (.int k 0), 1, bytes)) (hb0 : 0 < bytes)
    (v : Value) (xs ys : List Int) (A : Option Addr) (m c : Nat) (ok : Nat → Prop) (hs : a.eval s = v) (hx : a.eval x = .slice A m c)
    (HO : (Kd.int k).R e W 0 ok v xs) (HR : (Kd.int k).C W A m ys) (hl : (xs.length + m) * bytes ≤ 140737488355328)
    (h : ∀ v1 w1, (Kd.int k).R e w1 0 (fun k => ok k ∨ W.heap.size ≤ k) v1 (xs ++ ys) → W.grownBy w1 v.ownBlock → wpList P ops Q rest (a.put o.dst v1) w1) :
    wpList P ops Q (o :: rest) a W :=
  Kd.R_append_rows (Kd.int k) (Rr := (Kd.int k).K W) (w0 := W) 0 hgd s x t e (.int k 0) bytes ho ht hinfo rfl Nat.one_pos hb0 v xs ys A m c (fun k => ok k ∨ W.heap.size ≤ k) (fun _ => False) hs hx
    (Kd.R_mono HO (fun _ hk => .inl hk)) HR (fun _ _ h => h) (fun _ h => h.elim) (fun _ hk => .inr hk) (Below.refl _ _) (Nat.zero_le _) hl (fun v1 w1 h1 _ h3 _ => h v1 w1 h1 h3)
theorem St.app_int {k : IntKind} {w0 W : World} {S : Nat → Prop} {Rs : List Res} (hgd : o.guard = none) (s x : Operand) (t e : TypeId) (bytes : Nat)
    (ho : o.op = .call { callee := .builtin .append, args := #[s, x], argTypes := #[t, t] })
    (ht : P.underlying t = some (.slice e)) (hinfo : (P.info? e).map (fun i => (i.zero, i.size, i.bytes)) = some (some (.int k 0), 1, bytes)) (hb0 : 0 < bytes)
    (HS : St w0 S W Rs) (j : Nat) (v : Value) (xs ys : List Int) (A : Option Addr) (m c : Nat) (hs : a.eval s = v) (hx : a.eval x = .slice A m c)
    (hj : Rs[j]? = some (Res.row (Kd.int k) e v xs)) (hj0 : j ≠ 0) (HR : (Kd.int k).C W A m ys) (hl : (xs.length + m) * bytes ≤ 140737488355328)
    (h : ∀ v1 w1, St w0 S w1 (Rs.set j (Res.row (Kd.int k) e v1 (xs ++ ys))) → wpList P ops Q rest (a.put o.dst v1) w1) :
    wpList P ops Q (o :: rest) a W := by
  obtain ⟨ok, hR, hback⟩ := HS.write j hj hj0
  have hR' : (Kd.int k).R e W 0 ok v xs := hR
  exact PrintWords.app_int hgd s x t e bytes ho ht hinfo hb0 v xs ys A m c ok hs hx hR' HR hl (fun v1 w1 h1 h2 =>
    h v1 w1 (hback ((Keeps.of_grown h2).mono (fun k _ hk => hR'.1 k hk.symm)) h1))
end
theorem St.nil {w0 W : World} {S : Nat → Prop} {Rs : List Res} (h : St w0 S W Rs) {α : Type} (d : Kd α) (e : TypeId) : St w0 S W (Rs ++ [Res.row d e (.slice none 0 0) []]) :=
  h.add (Below.refl _ _) (Kd.R_nil _ _ _ _ _)
end Go.Proofs.YtmfmoddaejoekaaW.PrintWords
namespace Go.Proofs.YtmfmoddaejoekaaW.PrintWords
open Go.RowKit
theorem at_slice {α : Type} {d : Kd α} {e : Nat} {w : World} {A : Option Addr} {n : Nat} {xss : List (List α)} (h : (Kd.slice e d).C w A n xss) (i : Nat) (hi : i < n) :
    ∃ ad B c, A = some ad ∧ w.cell? (ad.add i) = some (.slice B (xss.getD i []).length c) ∧ (xss.getD i []).length ≤ c ∧ d.C w B (xss.getD i []).length (xss.getD i []) := by
  obtain ⟨ad, c, e1, _, hK, hcell⟩ := ReadsRow.get_ h [] (i : Int) (by omega) (by omega)
  rw [Int.toNat_natCast] at hK hcell
  obtain ⟨B, c2, hc, hl, hC⟩ := hK
  refine ⟨ad, B, c2, e1, ?_, hl, hC⟩
  have := hcell 0 (.slice B (xss.getD i []).length c2) (by rw [hc]; rfl)
  have e2 : i * (Kd.slice e d).sz + 0 = i := Nat.mul_one i
  rwa [e2] at this
end Go.Proofs.YtmfmoddaejoekaaW.PrintWords
namespace Go.Proofs.YtmfmoddaejoekaaW.PrintWords
open Go.RowKit
theorem rows2_C {α : Type} {d : Kd α} {e : Nat} (W : World) (T : TypeId) {A B : Option Addr} {c c' : Nat} {a b : List α} (ha : d.C W A a.length a) (hc : a.length ≤ c) (hb : d.C W B b.length b) (hc' : b.length ≤ c') :
    (Kd.slice e d).C (W.alloc (.cells #[.slice A a.length c, .slice B b.length c'] T)) (some ⟨W.heap.size, 0, none⟩) ([a, b] : List (List α)).length [a, b] := by
  have hh := heap_alloc_new W (.cells #[.slice A a.length c, .slice B b.length c'] T)
  refine ⟨rfl, by simp, fun _ => ⟨_, rfl, fun j p hj => ?_⟩⟩
  match j, hj with
  | 0, hj =>
    cases hj
    refine ⟨[.slice A a.length c], rfl, ⟨A, c, rfl, hc, Kd.C_alloc ha _⟩, fun i u hu => ?_⟩
    match i, hu with
    | 0, hu =>
      cases hu
      rw [add_plain, blk_cell hh]
      rfl
  | 1, hj =>
    cases hj
    refine ⟨[.slice B b.length c'], rfl, ⟨B, c', rfl, hc', Kd.C_alloc hb _⟩, fun i u hu => ?_⟩
    match i, hu with
    | 0, hu =>
      cases hu
      rw [add_plain, blk_cell hh]
      rfl
end Go.Proofs.YtmfmoddaejoekaaW.PrintWords
namespace Go.Proofs.YtmfmoddaejoekaaW.PrintWords
open Go.RowKit
end Go.Proofs.YtmfmoddaejoekaaW.PrintWords
namespace Go.Proofs.YtmfmoddaejoekaaW.PrintWords
open Go.RowKit
def Agree (W0 : World) (Fo : Nat → Prop) (w : World) : Prop := ∀ k, Fo k → k < W0.heap.size → w.heap[k]? = W0.heap[k]?
theorem Agree.refl (W0 : World) (Fo : Nat → Prop) : Agree W0 Fo W0 := fun _ _ _ => rfl
theorem Agree.below {W0 w : World} {Fo : Nat → Prop} (h : Below W0.heap.size W0 w) : Agree W0 Fo w := fun k _ hk => h.block k hk
theorem Agree.on {W0 w w' : World} {Fo : Nat → Prop} (h : Agree W0 Fo w) (hk : Keeps w w' (fun k => ¬ Fo k)) : Agree W0 Fo w' := fun k hf hlt => (hk.block k (heap_lt (h k hf hlt) hlt) (fun hn => hn hf)).trans (h k hf hlt)
def Res.agree (W0 : World) (Fo : Nat → Prop) : Res where
  P := fun ok w => (∀ k, Fo k → k < W0.heap.size → ok k) ∧ Agree W0 Fo w
  mono := fun hok h => ⟨fun k hk hlt => hok k (h.1 k hk hlt), h.2⟩
  step := fun h hm => ⟨h.1, fun k hk hlt => (hm k (h.1 k hk hlt) (heap_lt (h.2 k hk hlt) hlt)).trans (h.2 k hk hlt)⟩
  bound := fun h => ⟨fun k hk hlt => ⟨h.1 k hk hlt, heap_lt (h.2 k hk hlt) hlt⟩, h.2⟩
theorem St.freeze {w0 W : World} {S : Nat → Prop} {Q : World → Prop} {Rs : List Res} (h : St w0 S W (Res.view Q :: Rs)) : ∃ Fo : Nat → Prop, (∀ k, Fo k → k < W.heap.size) ∧ Foot Q W Fo ∧ St w0 S W (Res.agree W Fo :: Rs) := by
  obtain ⟨hk, own, ho, hr⟩ := h
  refine ⟨fun k => own k = 0 ∧ k < W.heap.size, fun k hk => hk.2, Foot.bound (hr 0 _ rfl), hk, own, ho, fun i R hi => ?_⟩
  match i, hi with
  | 0, hi => cases hi; exact ⟨fun k hk _ => hk.1, Agree.refl _ _⟩
  | i + 1, hi => exact hr (i + 1) R hi
def Turned (ok : Nat → Prop) (W W' : World) (R : Res) : Prop := Keeps W W' ok ∧ R.P (fun k => ok k ∨ W.heap.size ≤ k) W'
theorem Turned.refl {ok : Nat → Prop} {W : World} {R : Res} (h : R.P ok W) : Turned ok W W R := ⟨Keeps.refl _ _, R.mono (fun _ hk => .inl hk) h⟩
theorem Turned.on {ok : Nat → Prop} {W W1 W2 : World} {R : Res} (h : Turned ok W W1 R) (hb : Below W1.heap.size W1 W2) : Turned ok W W2 R := ⟨h.1.step hb, R.on h.2 hb⟩
theorem Turned.then_ {ok : Nat → Prop} {W W1 W2 : World} {R R2 : Res} (h : Turned ok W W1 R) (hk : Keeps W1 W2 (fun k => ok k ∨ W.heap.size ≤ k)) (hR : R2.P (fun k => (ok k ∨ W.heap.size ≤ k) ∨ W1.heap.size ≤ k) W2) : Turned ok W W2 R2 :=
  ⟨h.1.then_ hk (fun _ hk => hk), R2.mono (fun k hk => hk.elim id (fun h2 => .inr (Nat.le_trans h.1.size h2))) hR⟩
theorem St.lend {w0 W : World} {S : Nat → Prop} {Rs : List Res} {R : Res} (h : St w0 S W Rs) (i : Nat) (hi : Rs[i]? = some R) (h0 : i ≠ 0) (Q : World → Prop) (hQ : ∀ W', (∀ (j : Nat) (Rj : Res), j ≠ i → Rs[j]? = some Rj → ∃ ok, Rj.P ok W') → Q W') :
    ∃ ok : Nat → Prop, R.P ok W ∧ (∀ W', Keeps W W' ok → Q W') ∧ ∀ {W' : World} {R' : Res}, Turned ok W W' R' → St w0 S W' (Rs.set i R') := by
  obtain ⟨S1, ⟨_, own, ho, hr⟩, h2⟩ := h.call1 i hi h0 Q hQ
  have hp := hr 1 R rfl
  have hq : Foot Q W (fun k => own k = 0) := hr 0 _ rfl
  refine ⟨fun k => own k = 1 ∧ k < W.heap.size, R.bound hp, fun W' hk => hq W' (fun k hk0 hlt => hk.block k hlt (fun hh => by have := hh.1; omega)), fun {W' R'} ht => ?_⟩
  have hS : ∀ k, (own k = 1 ∧ k < W.heap.size) → S1 k := fun k hk => Classical.byContradiction fun hn => by
    have := ho k hk.2 hn
    omega
  have := h2 (news := []) (St.mk1 (ht.1.mono fun k _ => hS k) (R'.mono (fun k hk => hk.elim (fun h3 => .inl (hS k h3)) .inr) ht.2))
  rwa [List.append_nil] at this
def told {α : Type} (d : Kd α) (e : Nat) (W0 : World) (Fo : Nat → Prop) : Kd (List α) where
  sz := 1
  E := []
  K := fun _ x cs => Kd.FK (Kd.slice e d) W0 Fo x cs
  M := fun _ _ _ x cs => Kd.FK (Kd.slice e d) W0 Fo x cs
  K_len := fun h => (Kd.slice e d).K_len (Kd.FK_now h)
  K_one := fun h => (Kd.slice e d).K_one (Kd.FK_now h)
  K_below := fun _ h => h
  K_of_M := fun h => h
  M_mono := fun _ h => h
  M_bound := fun h => h
  M_move := fun _ h => h
  M_lower := fun _ h => h
theorem told_C {α : Type} {d : Kd α} {e : Nat} {W0 w : World} {Fo : Nat → Prop} {A : Option Addr} {n : Nat} {xs : List (List α)} (h : (told d e W0 Fo).C w A n xs) (hq : Agree W0 Fo w) : (Kd.slice e d).C w A n xs :=
  ⟨h.1, h.2.1, fun hn => by
    obtain ⟨ad, e1, hc⟩ := h.2.2 hn
    refine ⟨ad, e1, fun j p hj => ?_⟩
    obtain ⟨c, hs, hr, hcell⟩ := hc j p hj
    exact ⟨c, hs, hr w hq, hcell⟩⟩
end Go.Proofs.YtmfmoddaejoekaaW.PrintWords
namespace Go.Proofs.YtmfmoddaejoekaaW.PrintWords
open Go.RowKit
end Go.Proofs.YtmfmoddaejoekaaW.PrintWords
