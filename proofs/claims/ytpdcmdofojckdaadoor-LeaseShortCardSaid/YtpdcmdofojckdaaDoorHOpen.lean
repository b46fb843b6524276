/- Laws of arguments, typed by hand: whatever came in, of whatever nested type, reads as a value of its kind. -/
import Derived.Test.YtpdcmdofojckdaaDoorWWords
import Derived.Deep.Slices
import Derived.ChangeArms
import Derived.SizedLaws
set_option linter.unusedVariables false
set_option linter.unusedSimpArgs false
namespace Go.Proofs.YtpdcmdofojckdaaDoor.P
open Go.ChangeShapes Go.WideShapes Go.Deep Go.Proofs.YtpdcmdofojckdaaDoorW.PrintWords
structure Opens (P : Program) (t : TypeId) {α : Type} (d : Kd α) (Q : α → Prop) : Prop where
  out : ∀ {H : Type} (enc : TypeId × Value → H) (w : World) (base : Nat) (sp : Nat → Bool) (held : Bool) (fuel : Nat) (cs : List Value) (x : DataW H × List MemPlace),
    DataW.trod enc P w base sp held fuel t cs = some x → (∀ n ∈ x.1.weights P t, n ≤ 140737488351232) → ∃ v : α, d.K w v cs ∧ Q v
structure OpensF (P : Program) (fs : List Field) (off : Nat) {α : Type} (d : Kd α) (Q : α → Prop) : Prop where
  out : ∀ {H : Type} (enc : TypeId × Value → H) (w : World) (base : Nat) (sp : Nat → Bool) (held : Bool) (n : Nat) (cs : List Value) (ys : List (DataW H × List MemPlace)),
    cs.length = off + d.sz → ys.length = fs.length → (∀ (i : Nat) (f : Field), fs[i]? = some f → DataW.trod enc P w base sp held n f.type ((cs.drop f.offset).take (P.cellsOf f.type)) = ys[i]?) →
    (∀ m ∈ DataW.weightsEach P (fs.map (·.type)) (ys.map (·.1)), m ≤ 140737488351232) → ∃ v : α, d.K w v (cs.drop off) ∧ Q v
section
variable {P : Program} {t e : TypeId} {α β : Type} {d : Kd α} {d' : Kd β} {Q : α → Prop} {Q' : β → Prop}
theorem opens_int {k : IntKind} (ht : P.underlying t = some (.int k)) : Opens P t (Kd.int k) (fun n => (Lit.int k n).wf = true) := by
  constructor
  intro H enc w base sp held fuel cs x h hz
  obtain ⟨n, rfl, _, hw⟩ := DataW.trod_int ht h
  exact ⟨n, rfl, hw⟩
theorem opens_string (ht : P.underlying t = some .string) : Opens P t Kd.string (fun s => s.size ≤ 140737488351232) := by
  constructor
  intro H enc w base sp held fuel cs x h hz
  obtain ⟨s, rfl, rfl, _⟩ := DataW.trod_string ht h
  refine ⟨s, rfl, ?_⟩
  have := hz s.data.toList.length (by simp [DataW.weights])
  simpa using this
theorem mem_weightsAll {H : Type} {n : Nat} {y : DataW H} : ∀ {l : List (DataW H)}, y ∈ l → n ∈ y.weights P e → n ∈ DataW.weightsAll P e l
  | z :: l, hy, hn => by
    simp only [DataW.weightsAll, List.mem_append]
    rcases List.mem_cons.1 hy with rfl | hy
    · exact .inl hn
    · exact .inr (mem_weightsAll hy hn)
theorem list_of {p : Nat → α → Prop} : ∀ n : Nat, (∀ i, i < n → ∃ v, p i v) → ∃ l : List α, l.length = n ∧ ∀ i v, l[i]? = some v → p i v
  | 0, _ => ⟨[], rfl, by simp⟩
  | n + 1, h => by
    obtain ⟨l, hl, hp⟩ := list_of n (fun i hi => h i (by omega))
    obtain ⟨v, hv⟩ := h n (by omega)
    refine ⟨l ++ [v], by simp [hl], fun i u hu => ?_⟩
    by_cases hi : i < n
    · exact hp i u (by rwa [List.getElem?_append_left (by omega)] at hu)
    · rw [List.getElem?_append_right (by omega)] at hu
      have h1 : i - l.length < 1 := by
        have := (List.getElem?_eq_some_iff.1 hu).1
        simpa using this
      have h2 : i = n := by omega
      subst h2
      rw [hl, Nat.sub_self] at hu
      simp at hu
      subst hu
      exact hv
theorem opens_slice {B : Nat} (ht : P.underlying t = some (.slice e)) (hc : P.cellsOf e = d.sz) (hB : P.bytesOf e = B) (he : Opens P e d Q) :
    Opens P t (Kd.slice e d) (fun l => l.length ≤ maxLen ∧ l.length * B ≤ 140737488351232 ∧ ∀ x ∈ l, Q x) := by
  constructor
  intro H enc w base sp held fuel cs x h hz
  rcases open_slice ht h with ⟨rfl, _⟩ | ⟨a, len, cap, m, n, D, Pl, rfl, _, hl, hm, hmm, rfl, hi⟩
  · exact ⟨[], ⟨none, 0, rfl, Nat.le_refl _, rfl, by simp, fun h => absurd h (Nat.lt_irrefl 0)⟩, by simp, by simp, by simp⟩
  · have hlm : len ≤ m := by
      rw [hmm]
      split
      · exact hl
      · exact Nat.le_refl _
    have hel : ∀ i, i < len → ∃ v, ∃ cs', w.cells? base (a.add (i * P.cellsOf e)) (P.cellsOf e) = some cs' ∧ d.K w v cs' ∧ Q v := by
      intro i hil
      obtain ⟨cs', h1, h2⟩ := hi i (by omega)
      obtain ⟨v, hk, hq⟩ := he.out enc w base sp held n cs' _ h2 (fun n hn => hz n (by
        simp only [DataW.weights, ht, List.mem_cons, List.mem_append]
        exact .inr (.inl (mem_weightsAll (List.mem_map.2 ⟨i, List.mem_range.2 hil, rfl⟩) hn))))
      exact ⟨v, cs', h1, hk, hq⟩
    obtain ⟨l, hlen, hp⟩ := list_of len hel
    have hB' : (len + (m - len)) * B ≤ 140737488351232 := by
      have := hz ((len + (m - len)) * P.bytesOf e) (by simp [DataW.weights, ht])
      rwa [hB] at this
    refine ⟨l, ⟨some a, cap, by rw [hlen], by omega, rfl, ?_, fun _ => ⟨a, rfl, fun j p hj => ?_⟩⟩, ?_, ?_, fun x hx => ?_⟩
    · have : cap ≤ 9223372036854775807 := hm
      omega
    · obtain ⟨cs', h1, hk, _⟩ := hp j p hj
      obtain ⟨_, hcl, hat⟩ := World.cells?_some h1
      refine ⟨cs', hcl.trans hc, hk, fun i u hu => ?_⟩
      have hil : i < P.cellsOf e := by
        rw [← hcl]
        exact (List.getElem?_eq_some_iff.1 hu).1
      have h2 := hat i hil
      rw [Go.Deep.add_add, hc, hu] at h2
      exact h2
    · rw [hlen]
      exact Nat.le_trans hl hm
    · rw [hlen]
      exact Nat.le_trans (Nat.mul_le_mul_right _ (by omega)) hB'
    · obtain ⟨j, hj⟩ := List.mem_iff_getElem?.1 hx
      obtain ⟨_, _, _, hq⟩ := hp j x hj
      exact hq
theorem opensF_one {f : Field} {off : Nat} (ho : f.offset = off) (hc : P.cellsOf f.type = d.sz) (h : Opens P f.type d Q) : OpensF P [f] off d Q := by
  constructor
  intro H enc w base sp held n cs ys hcs hys hf hz
  match ys, hys with
  | [y], _ =>
    have h0 := hf 0 f rfl
    rw [ho, hc, List.take_of_length_le (by simp; omega)] at h0
    exact h.out enc w base sp held n _ y h0 (fun m hm => hz m (by simp [DataW.weightsEach]; exact hm))
theorem opensF_cons {f : Field} {fs : List Field} {off : Nat} (ho : f.offset = off) (hc : P.cellsOf f.type = d.sz) (h : Opens P f.type d Q) (hs : OpensF P fs (off + d.sz) d' Q') :
    OpensF P (f :: fs) off (Kd.pair d d') (fun v => Q v.1 ∧ Q' v.2) := by
  constructor
  intro H enc w base sp held n cs ys hcs hys hf hz
  match ys, hys with
  | y :: ys, hys =>
    have hcs' : cs.length = off + (d.sz + d'.sz) := hcs
    have h0 := hf 0 f rfl
    rw [ho, hc] at h0
    obtain ⟨v0, k0, q0⟩ := h.out enc w base sp held n _ y h0 (fun m hm => hz m (by simp [DataW.weightsEach]; exact .inl hm))
    obtain ⟨v1, k1, q1⟩ := hs.out enc w base sp held n cs ys (by omega) (by simpa using hys) (fun i g hg => hf (i + 1) g hg) (fun m hm => hz m (by simp only [List.map_cons, DataW.weightsEach, List.mem_append]; exact .inr hm))
    refine ⟨(v0, v1), ⟨(cs.drop off).take d.sz, cs.drop (off + d.sz), ?_, k0, k1⟩, q0, q1⟩
    rw [← List.drop_drop, List.take_append_drop]
theorem opens_struct {fs : Array Field} (ht : P.underlying t = some (.struct fs)) (hc : P.cellsOf t = d.sz) (h : OpensF P fs.toList 0 d Q) : Opens P t d Q := by
  constructor
  intro H enc w base sp held fuel cs x hx hz
  obtain ⟨xs, n, _, rfl, hl, hlen, hf⟩ := DataW.trod_struct ht hx
  have := h.out enc w base sp held n cs xs (by omega) (by simpa using hlen) (fun i f hi => hf i f (by simpa using hi)) (fun m hm => hz m (by simp only [DataW.weights, ht]; exact hm))
  simpa using this
theorem opens_iso (f : β → α) (g : α → β) (hfg : ∀ a, f (g a) = a) (h : Opens P t d Q) : Opens P t (Kd.iso d f) (fun b => Q (f b)) := by
  constructor
  intro H enc w base sp held fuel cs x hx hz
  obtain ⟨v, hk, hq⟩ := h.out enc w base sp held fuel cs x hx hz
  refine ⟨g v, ?_, ?_⟩
  · show d.K w (f (g v)) cs
    rw [hfg]
    exact hk
  · show Q (f (g v))
    rw [hfg]
    exact hq
theorem open_arg {H : Type} {enc : TypeId × Value → H} {w : World} {base : Nat} {sp : Nat → Bool} {held : Bool} {v : Value} {D : DataW H} {ps : List MemPlace} {ts : List TypeId} {ds : List (DataW H)} {j : Nat}
    (ho : Opens P t d Q) (h : DataW.Trod enc P w base sp held t v D ps) (hsz : (DataW.weightsEach P ts ds).all (· ≤ reachBytes) = true) (ht : ts[j]? = some t) (hd : ds[j]? = some D) :
    ∃ x : α, d.K w x v.cells.toList ∧ Q x := by
  obtain ⟨fuel, hf⟩ := h
  exact ho.out enc w base sp held fuel _ _ hf (fun n hn => by
    have := List.all_eq_true.1 hsz _ (DataW.weights_mem_each ht hd n hn)
    have h2 : n ≤ reachBytes := of_decide_eq_true this
    exact h2)
end
end Go.Proofs.YtpdcmdofojckdaaDoor.P
