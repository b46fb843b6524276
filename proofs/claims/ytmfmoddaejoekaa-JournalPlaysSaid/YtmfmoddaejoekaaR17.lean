/- Texts of this claim, laid into one. -/
import Derived.Test.YtmfmoddaejoekaaHSt
import Derived.Deep.QuietTactic
import Derived.BigQuiet
import Derived.Test.YtmfmoddaejoekaaP15
section
/- Rows that lie in one block, each row in a block of its own: an array of slices; what is read, what is put. -/
set_option linter.unusedVariables false
set_option linter.unusedSimpArgs false
namespace Go.Proofs.YtmfmoddaejoekaaW.PrintWords
open Go.RowKit
def Res.rows {α : Type} (d : Kd α) (T e : TypeId) (g : Nat) (L : List (List α)) : Res where
 P := fun ok W => ∃ (vs : List Value) (F : Nat → Nat), ok g ∧ W.heap[g]? = some (.cells vs.toArray T (0, 0)) ∧ vs.length = L.length ∧
  ∀ (i : Nat) (v : Value) (l : List α), vs[i]? = some v → L[i]? = some l → d.R e W 0 (fun k => ok k ∧ k ≠ g ∧ F k = i) v l
 mono := fun hok ⟨vs, F, h1, h2, h3, h4⟩ => ⟨vs, F, hok _ h1, h2, h3, fun i v l hv hl => Kd.R_mono (h4 i v l hv hl) (fun k hk => ⟨hok k hk.1, hk.2⟩)⟩
 step := fun ⟨vs, F, h1, h2, h3, h4⟩ hm => ⟨vs, F, h1, (hm _ h1 (blk_lt h2)).trans h2, h3, fun i v l hv hl => Kd.R_step (h4 i v l hv hl) (fun k hk => hm k hk.1)⟩
 bound := fun ⟨vs, F, h1, h2, h3, h4⟩ => ⟨vs, F, ⟨h1, blk_lt h2⟩, h2, h3, fun i v l hv hl => Kd.R_mono (Kd.R_bound (h4 i v l hv hl)) (fun k hk => ⟨⟨hk.1.1, hk.2.2.1⟩, hk.1.2⟩)⟩
section
variable {α : Type} {d : Kd α} {T e : TypeId} {g : Nat} {L : List (List α)} {ok : Nat → Prop} {W W1 : World} {i : Nat} {l l1 : List α}
end
end Go.Proofs.YtmfmoddaejoekaaW.PrintWords
namespace Go.Proofs.YtmfmoddaejoekaaW.PrintWords
open Go.RowKit
section
variable {P : Program} {ops : Array Oper} {rest : List Oper} {o : Oper} {a : Act} {Q : Exit → Act → World → Prop}
theorem app_int {k : IntKind} {W : World} (hgd : o.guard = none) (s x : Operand) (t e : TypeId) (bytes : Nat)
  (ho : o.op = .call { callee := .builtin .append, args := #[s, x], argTypes := #[t, t] })
  (ht : P.underlying t = some (.slice e)) (hinfo : (P.info? e).map (fun i => (i.zero, i.size, i.bytes)) = some (some (.int k 0), 1, bytes)) (hb0 : 0 < bytes)
  (v : Value) (xs ys : List Int) (A : Option Addr) (m c : Nat) (ok : Nat → Prop) (hs : a.eval s = v) (hx : a.eval x = .slice A m c)
  (HO : (Kd.int k).R e W 0 ok v xs) (HR : (Kd.int k).C W A m ys) (hl : (xs.length + m) * bytes ≤ 140737488355328)
  (h : ∀ v1 w1, (Kd.int k).R e w1 0 (fun k => ok k ∨ W.heap.size ≤ k) v1 (xs ++ ys) → W.grownBy w1 v.ownBlock → wpList P ops Q rest (a.put o.dst v1) w1) :
  wpList P ops Q (o :: rest) a W :=
 Kd.R_append_rows (Kd.int k) (Rr := (Kd.int k).K W) (w0 := W) 0 hgd s x t e (.int k 0) bytes ho ht hinfo rfl Nat.one_pos hb0 v xs ys A m c (fun k => ok k ∨ W.heap.size ≤ k) (fun _ => False) hs hx
  (Kd.R_mono HO (fun _ hk => .inl hk)) HR (fun _ _ h => h) (fun _ h => h.elim) (fun _ hk => .inr hk) (Below.refl _ _) (Nat.zero_le _) hl (fun v1 w1 h1 _ h3 _ => h v1 w1 h1 h3)
theorem St.app_int {k : IntKind} {w0 W : World} {S : Nat → Prop} {Rs : List Res} (hgd : o.guard = none) (s x : Operand) (t e : TypeId) (bytes : Nat)
  (ho : o.op = .call { callee := .builtin .append, args := #[s, x], argTypes := #[t, t] })
  (ht : P.underlying t = some (.slice e)) (hinfo : (P.info? e).map (fun i => (i.zero, i.size, i.bytes)) = some (some (.int k 0), 1, bytes)) (hb0 : 0 < bytes)
  (HS : St w0 S W Rs) (j : Nat) (v : Value) (xs ys : List Int) (A : Option Addr) (m c : Nat) (hs : a.eval s = v) (hx : a.eval x = .slice A m c)
  (hj : Rs[j]? = some (Res.row (Kd.int k) e v xs)) (hj0 : j ≠ 0) (HR : (Kd.int k).C W A m ys) (hl : (xs.length + m) * bytes ≤ 140737488355328)
  (h : ∀ v1 w1, St w0 S w1 (Rs.set j (Res.row (Kd.int k) e v1 (xs ++ ys))) → wpList P ops Q rest (a.put o.dst v1) w1) :
  wpList P ops Q (o :: rest) a W := by
 obtain ⟨ok, hR, hback⟩ := HS.write j hj hj0
 have hR' : (Kd.int k).R e W 0 ok v xs := hR
 exact PrintWords.app_int hgd s x t e bytes ho ht hinfo hb0 v xs ys A m c ok hs hx hR' HR hl (fun v1 w1 h1 h2 =>
  h v1 w1 (hback ((Keeps.of_grown h2).mono (fun k _ hk => hR'.1 k hk.symm)) h1))
end
theorem St.nil {w0 W : World} {S : Nat → Prop} {Rs : List Res} (h : St w0 S W Rs) {α : Type} (d : Kd α) (e : TypeId) : St w0 S W (Rs ++ [Res.row d e (.slice none 0 0) []]) :=
 h.add (Below.refl _ _) (Kd.R_nil _ _ _ _ _)
end Go.Proofs.YtmfmoddaejoekaaW.PrintWords
namespace Go.Proofs.YtmfmoddaejoekaaW.PrintWords
open Go.RowKit
theorem at_slice {α : Type} {d : Kd α} {e : Nat} {w : World} {A : Option Addr} {n : Nat} {xss : List (List α)} (h : (Kd.slice e d).C w A n xss) (i : Nat) (hi : i < n) :
  ∃ ad B c, A = some ad ∧ w.cell? (ad.add i) = some (.slice B (xss.getD i []).length c) ∧ (xss.getD i []).length ≤ c ∧ d.C w B (xss.getD i []).length (xss.getD i []) := by
 obtain ⟨ad, c, e1, _, hK, hcell⟩ := ReadsRow.get_ h [] (i : Int) (by omega) (by omega)
 rw [Int.toNat_natCast] at hK hcell
 obtain ⟨B, c2, hc, hl, hC⟩ := hK
 refine ⟨ad, B, c2, e1, ?_, hl, hC⟩
 have := hcell 0 (.slice B (xss.getD i []).length c2) (by rw [hc]; rfl)
 have e2 : i * (Kd.slice e d).sz + 0 = i := Nat.mul_one i
 rwa [e2] at this
end Go.Proofs.YtmfmoddaejoekaaW.PrintWords
namespace Go.Proofs.YtmfmoddaejoekaaW.PrintWords
open Go.RowKit
theorem rows2_C {α : Type} {d : Kd α} {e : Nat} (W : World) (T : TypeId) {A B : Option Addr} {c c' : Nat} {a b : List α} (ha : d.C W A a.length a) (hc : a.length ≤ c) (hb : d.C W B b.length b) (hc' : b.length ≤ c') :
  (Kd.slice e d).C (W.alloc (.cells #[.slice A a.length c, .slice B b.length c'] T)) (some ⟨W.heap.size, 0, none⟩) ([a, b] : List (List α)).length [a, b] := by
 have hh := heap_alloc_new W (.cells #[.slice A a.length c, .slice B b.length c'] T)
 refine ⟨rfl, by simp, fun _ => ⟨_, rfl, fun j p hj => ?_⟩⟩
 match j, hj with
 | 0, hj =>
  cases hj
  refine ⟨[.slice A a.length c], rfl, ⟨A, c, rfl, hc, Kd.C_alloc ha _⟩, fun i u hu => ?_⟩
  match i, hu with
  | 0, hu =>
   cases hu
   rw [add_plain, blk_cell hh]
   rfl
 | 1, hj =>
  cases hj
  refine ⟨[.slice B b.length c'], rfl, ⟨B, c', rfl, hc', Kd.C_alloc hb _⟩, fun i u hu => ?_⟩
  match i, hu with
  | 0, hu =>
   cases hu
   rw [add_plain, blk_cell hh]
   rfl
end Go.Proofs.YtmfmoddaejoekaaW.PrintWords
namespace Go.Proofs.YtmfmoddaejoekaaW.PrintWords
open Go.RowKit
end Go.Proofs.YtmfmoddaejoekaaW.PrintWords
namespace Go.Proofs.YtmfmoddaejoekaaW.PrintWords
open Go.RowKit
def Agree (W0 : World) (Fo : Nat → Prop) (w : World) : Prop := ∀ k, Fo k → k < W0.heap.size → w.heap[k]? = W0.heap[k]?
theorem Agree.refl (W0 : World) (Fo : Nat → Prop) : Agree W0 Fo W0 := fun _ _ _ => rfl
theorem Agree.below {W0 w : World} {Fo : Nat → Prop} (h : Below W0.heap.size W0 w) : Agree W0 Fo w := fun k _ hk => h.block k hk
theorem Agree.on {W0 w w' : World} {Fo : Nat → Prop} (h : Agree W0 Fo w) (hk : Keeps w w' (fun k => ¬ Fo k)) : Agree W0 Fo w' := fun k hf hlt => (hk.block k (heap_lt (h k hf hlt) hlt) (fun hn => hn hf)).trans (h k hf hlt)
def Res.agree (W0 : World) (Fo : Nat → Prop) : Res where
 P := fun ok w => (∀ k, Fo k → k < W0.heap.size → ok k) ∧ Agree W0 Fo w
 mono := fun hok h => ⟨fun k hk hlt => hok k (h.1 k hk hlt), h.2⟩
 step := fun h hm => ⟨h.1, fun k hk hlt => (hm k (h.1 k hk hlt) (heap_lt (h.2 k hk hlt) hlt)).trans (h.2 k hk hlt)⟩
 bound := fun h => ⟨fun k hk hlt => ⟨h.1 k hk hlt, heap_lt (h.2 k hk hlt) hlt⟩, h.2⟩
theorem St.freeze {w0 W : World} {S : Nat → Prop} {Q : World → Prop} {Rs : List Res} (h : St w0 S W (Res.view Q :: Rs)) : ∃ Fo : Nat → Prop, (∀ k, Fo k → k < W.heap.size) ∧ Foot Q W Fo ∧ St w0 S W (Res.agree W Fo :: Rs) := by
 obtain ⟨hk, own, ho, hr⟩ := h
 refine ⟨fun k => own k = 0 ∧ k < W.heap.size, fun k hk => hk.2, Foot.bound (hr 0 _ rfl), hk, own, ho, fun i R hi => ?_⟩
 match i, hi with
 | 0, hi => cases hi; exact ⟨fun k hk _ => hk.1, Agree.refl _ _⟩
 | i + 1, hi => exact hr (i + 1) R hi
def Turned (ok : Nat → Prop) (W W' : World) (R : Res) : Prop := Keeps W W' ok ∧ R.P (fun k => ok k ∨ W.heap.size ≤ k) W'
theorem Turned.refl {ok : Nat → Prop} {W : World} {R : Res} (h : R.P ok W) : Turned ok W W R := ⟨Keeps.refl _ _, R.mono (fun _ hk => .inl hk) h⟩
theorem Turned.on {ok : Nat → Prop} {W W1 W2 : World} {R : Res} (h : Turned ok W W1 R) (hb : Below W1.heap.size W1 W2) : Turned ok W W2 R := ⟨h.1.step hb, R.on h.2 hb⟩
theorem Turned.then_ {ok : Nat → Prop} {W W1 W2 : World} {R R2 : Res} (h : Turned ok W W1 R) (hk : Keeps W1 W2 (fun k => ok k ∨ W.heap.size ≤ k)) (hR : R2.P (fun k => (ok k ∨ W.heap.size ≤ k) ∨ W1.heap.size ≤ k) W2) : Turned ok W W2 R2 :=
 ⟨h.1.then_ hk (fun _ hk => hk), R2.mono (fun k hk => hk.elim id (fun h2 => .inr (Nat.le_trans h.1.size h2))) hR⟩
theorem St.lend {w0 W : World} {S : Nat → Prop} {Rs : List Res} {R : Res} (h : St w0 S W Rs) (i : Nat) (hi : Rs[i]? = some R) (h0 : i ≠ 0) (Q : World → Prop) (hQ : ∀ W', (∀ (j : Nat) (Rj : Res), j ≠ i → Rs[j]? = some Rj → ∃ ok, Rj.P ok W') → Q W') :
  ∃ ok : Nat → Prop, R.P ok W ∧ (∀ W', Keeps W W' ok → Q W') ∧ ∀ {W' : World} {R' : Res}, Turned ok W W' R' → St w0 S W' (Rs.set i R') := by
 obtain ⟨S1, ⟨_, own, ho, hr⟩, h2⟩ := h.call1 i hi h0 Q hQ
 have hp := hr 1 R rfl
 have hq : Foot Q W (fun k => own k = 0) := hr 0 _ rfl
 refine ⟨fun k => own k = 1 ∧ k < W.heap.size, R.bound hp, fun W' hk => hq W' (fun k hk0 hlt => hk.block k hlt (fun hh => by have := hh.1; omega)), fun {W' R'} ht => ?_⟩
 have hS : ∀ k, (own k = 1 ∧ k < W.heap.size) → S1 k := fun k hk => Classical.byContradiction fun hn => by
  have := ho k hk.2 hn
  omega
 have := h2 (news := []) (St.mk1 (ht.1.mono fun k _ => hS k) (R'.mono (fun k hk => hk.elim (fun h3 => .inl (hS k h3)) .inr) ht.2))
 rwa [List.append_nil] at this
theorem St.see {w0 W : World} {S : Nat → Prop} {Rs : List Res} (h : St w0 S W Rs) (i : Nat) (hi0 : i ≠ 0) {R : Res} (hi : Rs[i]? = some R) : ∃ ok : Nat → Prop, R.P ok W ∧ (∀ k, ok k → S k ∨ w0.heap.size ≤ k) := by
 obtain ⟨hk, own, ho, hr⟩ := h
 refine ⟨_, hr i R hi, fun k hki => ?_⟩
 by_cases hs : S k
 ·exact .inl hs
 ·refine .inr (Nat.le_of_not_lt fun hlt => hi0 ?_)
  have h1 := ho k hlt hs
  have h2 : own k = i := hki
  omega
def told {α : Type} (d : Kd α) (e : Nat) (W0 : World) (Fo : Nat → Prop) : Kd (List α) where
 sz := 1
 E := []
 K := fun _ x cs => Kd.FK (Kd.slice e d) W0 Fo x cs
 M := fun _ _ _ x cs => Kd.FK (Kd.slice e d) W0 Fo x cs
 K_len := fun h => (Kd.slice e d).K_len (Kd.FK_now h)
 K_one := fun h => (Kd.slice e d).K_one (Kd.FK_now h)
 K_below := fun _ h => h
 K_of_M := fun h => h
 M_mono := fun _ h => h
 M_bound := fun h => h
 M_move := fun _ h => h
 M_lower := fun _ h => h
theorem told_C {α : Type} {d : Kd α} {e : Nat} {W0 w : World} {Fo : Nat → Prop} {A : Option Addr} {n : Nat} {xs : List (List α)} (h : (told d e W0 Fo).C w A n xs) (hq : Agree W0 Fo w) : (Kd.slice e d).C w A n xs :=
 ⟨h.1, h.2.1, fun hn => by
  obtain ⟨ad, e1, hc⟩ := h.2.2 hn
  refine ⟨ad, e1, fun j p hj => ?_⟩
  obtain ⟨c, hs, hr, hcell⟩ := hc j p hj
  exact ⟨c, hs, hr w hq, hcell⟩⟩
end Go.Proofs.YtmfmoddaejoekaaW.PrintWords
namespace Go.Proofs.YtmfmoddaejoekaaW.PrintWords
open Go.RowKit
end Go.Proofs.YtmfmoddaejoekaaW.PrintWords
end
section
/- The plain model of layers 16 and 17: a tape's units, a journal; no program in sight. -/
set_option linter.unusedVariables false
set_option linter.unusedSimpArgs false
namespace Go.Proofs.Ytmfmoddaejoekaa.P
open Go.RowKit Go.Proofs.YtmfmoddaejoekaaW.PrintWords Go.Proofs.YtmfmoddaejoekaaW.PrintLast Go.Proofs.YtmfmoddaejoekaaW.PrintMore
/-- A unit: its side, where it cuts (below 0: not), its byte. -/
abbrev Un := S89
/-- A side's bytes behind a unit. -/
def unit1 (l : List Int) (i : Int) (u : Un) : List Int := if u.f0 = i then (if 0 ≤ u.f1 then l.take u.f1.toNat else l ++ [u.f2]) else l
def afterU (l : List Int) (i : Int) (us : List Un) : List Int := us.foldl (fun l u => unit1 l i u) l
theorem afterU_append (l : List Int) (i : Int) (us vs : List Un) : afterU l i (us ++ vs) = afterU (afterU l i us) i vs := by simp [afterU]
theorem afterU_snoc (l : List Int) (i : Int) (us : List Un) (u : Un) : afterU l i (us ++ [u]) = unit1 (afterU l i us) i u := by simp [afterU]
/-- What units may be behind two sides. -/
def legal : List Int → List Int → List Un → Prop
 | a, b, [] => a.length ≤ 65536 ∧ b.length ≤ 65536
 | a, b, u :: us => a.length ≤ 65536 ∧ b.length ≤ 65536 ∧ (u.f0 = 0 ∨ u.f0 = 1) ∧ (0 ≤ u.f1 → u.f1 ≤ ((if u.f0 = 0 then a else b).length : Int)) ∧ legal (unit1 a 0 u) (unit1 b 1 u) us
theorem legal_len {a b : List Int} {us : List Un} (h : legal a b us) : a.length ≤ 65536 ∧ b.length ≤ 65536 := by
 cases us with
 | nil => exact h
 | cons u us => exact ⟨h.1, h.2.1⟩
theorem legal_append {us vs : List Un} : ∀ {a b : List Int}, legal a b (us ++ vs) ↔ legal a b us ∧ legal (afterU a 0 us) (afterU b 1 us) vs := by
 induction us with
 | nil =>
  intro a b
  refine ⟨fun h => ⟨legal_len h, h⟩, fun h => h.2⟩
 | cons u us ih =>
  intro a b
  show (_ ∧ _ ∧ _ ∧ _ ∧ legal _ _ (us ++ vs)) ↔ (_ ∧ _ ∧ _ ∧ _ ∧ legal _ _ us) ∧ legal (afterU (unit1 a 0 u) 0 us) (afterU (unit1 b 1 u) 1 us) vs
  rw [ih]
  exact ⟨fun ⟨h1, h2, h3, h4, h5, h6⟩ => ⟨⟨h1, h2, h3, h4, h5⟩, h6⟩, fun ⟨⟨h1, h2, h3, h4, h5⟩, h6⟩ => ⟨h1, h2, h3, h4, h5, h6⟩⟩
/-- A tape: what lasts, the units since, its fuse. -/
structure TM where
 s0 : List Int
 s1 : List Int
 us : List Un
 burns : Bool
 left : Int
namespace TM
def safe (T : TM) (i : Int) : List Int := if i = 0 then T.s0 else T.s1
def now (T : TM) (i : Int) : List Int := afterU (T.safe i) i T.us
/-- The error ahead of all others. -/
def ready (T : TM) (i : Int) : Int := if i < 0 ∨ 2 ≤ i then 1 else if T.burns = true ∧ T.left = 0 then 40 else 0
/-- One operation more was done. -/
def burn (T : TM) : TM := { T with left := if T.burns = true then T.left - 1 else T.left }
def does (T : TM) (l : List Un) : TM := { T.burn with us := T.us ++ l }
def units (i : Int) (data : List Int) : List Un := data.map fun b => ⟨i, -1, b⟩
def writeE (T : TM) (i : Int) (data : List Int) : Int := if T.ready i ≠ 0 then T.ready i else if 65536 < (T.now i).length + data.length then 42 else 0
def write (T : TM) (i : Int) (data : List Int) : TM := if T.writeE i data = 0 then T.does (units i data) else T
def trimE (T : TM) (i n : Int) : Int := if T.ready i ≠ 0 then T.ready i else if n < 0 ∨ ((T.now i).length : Int) < n then 1 else 0
def trim (T : TM) (i n : Int) : TM := if T.trimE i n = 0 then T.does [⟨i, n, 0⟩] else T
def sync (T : TM) : TM := if T.ready 0 = 0 then { T.burn with s0 := T.now 0, s1 := T.now 1, us := [] } else T
def fuseE (n : Int) : Int := if n < 0 ∨ 1099511627776 < n then 1 else 0
def fuse (T : TM) (n : Int) : TM := if fuseE n = 0 then { T with burns := true, left := if T.burns = true ∧ T.left < n then T.left else n } else T
/-- How many units stay. -/
def stays (T : TM) (n : Int) : Nat := ((if n < 0 then -(n + 1) else n).toNat) % (T.us.length + 1)
def crash (T : TM) (n : Int) : TM := ⟨afterU T.s0 0 (T.us.take (T.stays n)), afterU T.s1 1 (T.us.take (T.stays n)), [], false, 0⟩
def new : TM := ⟨[], [], [], false, 0⟩
/-- What a tape may be; at most N units. -/
def Ok (T : TM) (N : Nat) : Prop := (T.burns = true → 0 ≤ T.left ∧ T.left ≤ 1099511627776) ∧ T.us.length ≤ N ∧ legal T.s0 T.s1 T.us
theorem new_ok : new.Ok 0 := ⟨by simp [new], Nat.le_refl _, by simp [new, legal]⟩
theorem Ok.mono {T : TM} {N M : Nat} (h : T.Ok N) (hm : N ≤ M) : T.Ok M := ⟨h.1, Nat.le_trans h.2.1 hm, h.2.2⟩
theorem Ok.now_len {T : TM} {N : Nat} (h : T.Ok N) (i : Int) (hi : i = 0 ∨ i = 1) : (T.now i).length ≤ 65536 := by
 have h1 : legal T.s0 T.s1 (T.us ++ []) := by rw [List.append_nil]; exact h.2.2
 have h2 := legal_len (legal_append.1 h1).2
 rcases hi with rfl | rfl
 ·exact h2.1
 ·exact h2.2
theorem ready_pos {T : TM} {N : Nat} {i : Int} (h : T.Ok N) (hr : T.ready i = 0) : (i = 0 ∨ i = 1) ∧ (T.burns = true → 1 ≤ T.left) := by
 unfold ready at hr
 by_cases c : i < 0 ∨ 2 ≤ i
 ·rw [if_pos c] at hr; omega
 ·rw [if_neg c] at hr
  by_cases c2 : T.burns = true ∧ T.left = 0
  ·rw [if_pos c2] at hr; omega
  ·refine ⟨by omega, fun hb => ?_⟩
   have := h.1 hb
   have h3 : T.left ≠ 0 := fun e => c2 ⟨hb, e⟩
   omega
theorem burn_ok {T : TM} (h : T.burns = true → 0 ≤ T.left ∧ T.left ≤ 1099511627776) (h1 : T.burns = true → 1 ≤ T.left) : T.burn.burns = true → 0 ≤ T.burn.left ∧ T.burn.left ≤ 1099511627776 := fun hb => by
 have hb' : T.burns = true := hb
 have := h hb'
 have := h1 hb'
 show 0 ≤ (if T.burns = true then T.left - 1 else T.left) ∧ (if T.burns = true then T.left - 1 else T.left) ≤ 1099511627776
 rw [if_pos hb']
 omega
theorem legal_units (i : Int) (hi : i = 0 ∨ i = 1) (data : List Int) : ∀ (a b : List Int), a.length + (if i = 0 then data.length else 0) ≤ 65536 → b.length + (if i = 0 then 0 else data.length) ≤ 65536 → legal a b (units i data) := by
 induction data with
 | nil => intro a b ha hb; split at ha <;> split at hb <;> exact ⟨by simpa using ha, by simpa using hb⟩
 | cons x xs ih =>
  intro a b ha hb
  refine ⟨by omega, by omega, hi, fun h => by simp at h, ?_⟩
  have := ih
  refine ih _ _ ?_ ?_
  ·unfold unit1
   rcases hi with rfl | rfl
   ·simp at ha ⊢; omega
   ·simpa using ha
  ·unfold unit1
   rcases hi with rfl | rfl
   ·simpa using hb
   ·simp at hb ⊢; omega
theorem write_ok {T : TM} {N : Nat} (h : T.Ok N) (i : Int) (data : List Int) : (T.write i data).Ok (N + data.length) := by
 unfold write
 by_cases c : T.writeE i data = 0
 ·rw [if_pos c]
  unfold writeE at c
  by_cases c1 : T.ready i ≠ 0
  ·rw [if_pos c1] at c; exact absurd c c1
  ·rw [if_neg c1] at c
   have c1' : T.ready i = 0 := by omega
   have hp := ready_pos h c1'
   by_cases c2 : 65536 < (T.now i).length + data.length
   ·rw [if_pos c2] at c; omega
   ·refine ⟨burn_ok h.1 hp.2, ?_, ?_⟩
    ·show (T.us ++ units i data).length ≤ _
     rw [List.length_append]
     have := h.2.1
     simp [units]
     omega
    ·show legal T.s0 T.s1 (T.us ++ units i data)
     refine legal_append.2 ⟨h.2.2, ?_⟩
     have l0 := h.now_len 0 (.inl rfl)
     have l1 := h.now_len 1 (.inr rfl)
     have e0 : T.now 0 = afterU T.s0 0 T.us := rfl
     have e1 : T.now 1 = afterU T.s1 1 T.us := rfl
     rw [← e0, ← e1]
     refine legal_units i hp.1 data _ _ ?_ ?_
     ·rcases hp.1 with e | e <;> subst e
      ·simp; omega
      ·simp; omega
     ·rcases hp.1 with e | e <;> subst e
      ·simp; omega
      ·simp; omega
 ·rw [if_neg c]
  exact h.mono (by omega)
theorem trim_ok {T : TM} {N : Nat} (h : T.Ok N) (i n : Int) : (T.trim i n).Ok (N + 1) := by
 unfold trim
 by_cases c : T.trimE i n = 0
 ·rw [if_pos c]
  unfold trimE at c
  by_cases c1 : T.ready i ≠ 0
  ·rw [if_pos c1] at c; exact absurd c c1
  ·rw [if_neg c1] at c
   have hp := ready_pos h (i := i) (by omega)
   by_cases c2 : n < 0 ∨ ((T.now i).length : Int) < n
   ·rw [if_pos c2] at c; omega
   ·refine ⟨burn_ok h.1 hp.2, ?_, ?_⟩
    ·show (T.us ++ [_]).length ≤ _
     rw [List.length_append]
     have := h.2.1
     simp
     omega
    ·show legal T.s0 T.s1 (T.us ++ [_])
     refine legal_append.2 ⟨h.2.2, ?_⟩
     have l0 := h.now_len 0 (.inl rfl)
     have l1 := h.now_len 1 (.inr rfl)
     have e0 : T.now 0 = afterU T.s0 0 T.us := rfl
     have e1 : T.now 1 = afterU T.s1 1 T.us := rfl
     rw [← e0, ← e1]
     refine ⟨l0, l1, hp.1, fun _ => ?_, ?_, ?_⟩
     ·rcases hp.1 with e | e <;> subst e
      ·simp at c2 ⊢; omega
      ·simp at c2 ⊢; omega
     ·simp only [unit1]
      split
      ·split
       ·rw [List.length_take]; omega
       ·omega
      ·exact l0
     ·simp only [unit1]
      split
      ·split
       ·rw [List.length_take]; omega
       ·omega
      ·exact l1
 ·rw [if_neg c]
  exact h.mono (by omega)
theorem sync_ok {T : TM} {N : Nat} (h : T.Ok N) : T.sync.Ok N := by
 unfold sync
 by_cases c : T.ready 0 = 0
 ·rw [if_pos c]
  exact ⟨burn_ok h.1 (ready_pos h c).2, Nat.zero_le _, h.now_len 0 (.inl rfl), h.now_len 1 (.inr rfl)⟩
 ·rw [if_neg c]; exact h
theorem fuse_ok {T : TM} {N : Nat} (h : T.Ok N) (n : Int) : (T.fuse n).Ok N := by
 unfold fuse
 by_cases c : fuseE n = 0
 ·rw [if_pos c]
  unfold fuseE at c
  by_cases c2 : n < 0 ∨ 1099511627776 < n
  ·rw [if_pos c2] at c; omega
  ·refine ⟨fun _ => ?_, h.2.1, h.2.2⟩
   show 0 ≤ (if T.burns = true ∧ T.left < n then T.left else n) ∧ (if T.burns = true ∧ T.left < n then T.left else n) ≤ _
   split
   ·rename_i c3
    have := h.1 c3.1
    omega
   ·omega
 ·rw [if_neg c]; exact h
theorem crash_ok {T : TM} {N : Nat} (h : T.Ok N) (n : Int) : (T.crash n).Ok 0 := by
 have h1 : legal T.s0 T.s1 (T.us.take (T.stays n) ++ T.us.drop (T.stays n)) := by rw [List.take_append_drop]; exact h.2.2
 exact ⟨fun hb => by simp [crash] at hb, Nat.le_refl _, legal_len (legal_append.1 h1).2⟩
end TM
end Go.Proofs.Ytmfmoddaejoekaa.P
end
