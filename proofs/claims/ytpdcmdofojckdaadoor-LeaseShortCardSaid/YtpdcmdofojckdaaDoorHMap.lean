/- Maps with whole numbers as keys, whatever their elements: what is read, what is put. Plain words, for whatever program. -/
import Derived.Test.YtpdcmdofojckdaaDoorHSt
import Derived.Maps.Keyed
import Derived.Maps.Own
set_option linter.unusedVariables false
set_option linter.unusedSimpArgs false
namespace Go.Proofs.YtpdcmdofojckdaaDoorW.PrintWords
open Go.RowKit Go.ChangeMaps
def getM {α : Type} (m : List (Int × α)) (a : Int) : Option α := (m.find? fun p => p.1 == a).map (·.2)
def putM {α : Type} : List (Int × α) → Int → α → List (Int × α)
  | [], a, v => [(a, v)]
  | p :: m, a, v => if p.1 = a then (a, v) :: m else p :: putM m a v
theorem getM_nil {α : Type} (a : Int) : getM ([] : List (Int × α)) a = none := rfl
theorem getM_cons {α : Type} (p : Int × α) (m : List (Int × α)) (a : Int) : getM (p :: m) a = if p.1 = a then some p.2 else getM m a := by
  unfold getM
  rw [List.find?_cons]
  by_cases h : p.1 = a
  · simp [h]
  · have h1 : (p.1 == a) = false := by simpa using h
    rw [h1, if_neg h]
theorem getM_put {α : Type} (m : List (Int × α)) (a b : Int) (v : α) : getM (putM m a v) b = if b = a then some v else getM m b := by
  induction m with
  | nil =>
    rw [putM, getM_cons, getM_nil]
    by_cases h : b = a
    · rw [if_pos h, if_pos h.symm]
    · rw [if_neg h, if_neg (fun e => h e.symm)]
  | cons p m ih =>
    rw [putM]
    by_cases hp : p.1 = a
    · rw [if_pos hp, getM_cons, getM_cons]
      by_cases h : b = a
      · rw [if_pos h, if_pos h.symm]
      · rw [if_neg h, if_neg (fun e => h e.symm), if_neg (fun e => h (e.symm.trans hp))]
    · rw [if_neg hp, getM_cons, getM_cons, ih]
      by_cases h : b = a
      · rw [if_pos h, if_neg (fun e => hp (e.trans h)), if_pos h]
      · rw [if_neg h, if_neg h]
def MapI (q : IntKind) (W : World) (b : Nat) (m : List (Int × Value)) : Prop := ∃ es clock, W.heap[b]? = some (.map es clock) ∧ es.toList.map (fun e => (e.key, e.val)) = m.map fun p => (Value.int q p.1, p.2)
theorem MapI.lt {q : IntKind} {W : World} {b : Nat} {m : List (Int × Value)} (h : MapI q W b m) : b < W.heap.size := by
  obtain ⟨es, clock, hb, _⟩ := h
  exact (Array.getElem?_eq_some_iff.1 hb).1
theorem MapI.move {q : IntKind} {W W' : World} {b : Nat} {m : List (Int × Value)} (h : MapI q W b m) (hm : W'.heap[b]? = W.heap[b]?) : MapI q W' b m := by
  obtain ⟨es, clock, hb, he⟩ := h
  exact ⟨es, clock, hm.trans hb, he⟩
theorem MapI.made (q : IntKind) (W : World) : MapI q (W.alloc (.map #[] 0)) W.heap.size [] := ⟨#[], 0, (MapKept.heap_alloc W _).1, rfl⟩
theorem findNow_int (q : IntKind) (a : Int) : ∀ (es : List MapEntry) (m : List (Int × Value)) (i : Nat), es.map (fun e => (e.key, e.val)) = m.map (fun p => (Value.int q p.1, p.2)) →
    (getM m a = none ∧ Instr.findNow (.int q) (.int q a) es i = some none ∧ ∀ v, putM m a v = m ++ [(a, v)]) ∨ (∃ j e0, getM m a = some e0.val ∧ Instr.findNow (.int q) (.int q a) es i = some (some (i + j, e0.val)) ∧ es[j]? = some e0 ∧ e0.key = .int q a ∧ ∀ v, putM m a v = m.set j (a, v))
  | [], m, i, h => by
    have hm : m = [] := by simpa using h.symm
    subst hm
    exact .inl ⟨rfl, rfl, fun _ => rfl⟩
  | e :: es, m, i, h => by
    match m, h with
    | p :: m, h =>
      simp only [List.map_cons, List.cons.injEq, Prod.mk.injEq] at h
      obtain ⟨⟨hk, hv⟩, hr⟩ := h
      by_cases hpa : p.1 = a
      · refine .inr ⟨0, e, ?_, ?_, rfl, by rw [hk, hpa], fun v => by rw [putM, if_pos hpa]; rfl⟩
        · rw [getM_cons, if_pos hpa, hv]
        · simp [Instr.findNow, hk, Instr.sameNow, hpa]
      · have hg : getM (p :: m) a = getM m a := by rw [getM_cons, if_neg hpa]
        have hf : Instr.findNow (.int q) (.int q a) (e :: es) i = Instr.findNow (.int q) (.int q a) es (i + 1) := by
          have h2 : (a == p.1) = false := by simp; omega
          simp [Instr.findNow, hk, Instr.sameNow, h2]
        rcases findNow_int q a es m (i + 1) hr with ⟨h1, h2, h3⟩ | ⟨j, e0, h1, h2, h3, h4⟩
        · exact .inl ⟨by rw [hg, h1], by rw [hf, h2], fun v => by rw [putM, if_neg hpa, h3]; rfl⟩
        · exact .inr ⟨j + 1, e0, by rw [hg, h1], by rw [hf, h2]; congr 3; omega, by simpa using h3, h4.1, fun v => by rw [putM, if_neg hpa, h4.2]; rfl⟩
section
variable {P : Program} {W : World} {b : Nat} {q : IntKind} {m : List (Int × Value)} {t k e : TypeId}
theorem run_findKey_int (hk : P.underlying k = some (.int q)) (a : Int) (es : Array MapEntry) (hes : es.toList.map (fun e => (e.key, e.val)) = m.map fun p => (Value.int q p.1, p.2)) :
    (getM m a = none ∧ (Instr.findKey k (.int q a) es.toList).run P W = .ok none W ∧ ∀ v, putM m a v = m ++ [(a, v)]) ∨
      (∃ j e0, getM m a = some e0.val ∧ (Instr.findKey k (.int q a) es.toList).run P W = .ok (some (j, e0.val)) W ∧ es[j]? = some e0 ∧ e0.key = .int q a ∧ ∀ v, putM m a v = m.set j (a, v)) := by
  rcases findNow_int q a es.toList m 0 hes with ⟨h1, h2, h3⟩ | ⟨j, e0, h1, h2, h3, h4⟩
  · exact .inl ⟨h1, by simp [Instr.findKey, run_underlying hk, h2, Result.andThen], h3⟩
  · exact .inr ⟨j, e0, h1, by simp [Instr.findKey, run_underlying hk, h2, Result.andThen], by simpa using h3, h4⟩
theorem run_checkKey_int (hk : P.underlying k = some (.int q)) (em : Bool) (a : Int) : (Instr.checkKey em 10000 k (.int q a)).run P W = .ok () W := by
  unfold Instr.checkKey
  simp [run_underlying hk, Result.andThen]
theorem run_lookup_int (ht : P.underlying t = some (.map k e)) (hk : P.underlying k = some (.int q)) (h : MapI q W b m) {z : Value} (hz : (zeroValue e).run P W = .ok z W) (c : Bool) (a : Int) :
    (Instr.lookup t (.map (some b)) (.int q a) c).run P W = .ok (if c then .tuple #[(getM m a).getD z, .bool (getM m a).isSome] else (getM m a).getD z) W := by
  obtain ⟨es, clock, hb, hes⟩ := h
  rcases run_findKey_int (W := W) hk a es hes with ⟨h1, h2, _⟩ | ⟨j, e0, h1, h2, h3, h4⟩
  · rw [h1]
    simp [Instr.lookup, run_underlying ht, MapKept.run_getObj_map hb, run_checkKey_int hk, h2, hz, Result.andThen]
  · rw [h1]
    simp [Instr.lookup, run_underlying ht, MapKept.run_getObj_map hb, run_checkKey_int hk, h2, Result.andThen]
theorem run_update_int (ht : P.underlying t = some (.map k e)) (hk : P.underlying k = some (.int q)) (h : MapI q W b m) (a : Int) (v : Value) :
    ∃ W', (Instr.mapUpdate t (.map (some b)) (.int q a) v).run P W = .ok () W' ∧ MapI q W' b (putM m a v) ∧ W.grownBy W' (some b) := by
  obtain ⟨es, clock, hb, hes⟩ := h
  have hg : ∀ o, W.grownBy (setBlock W b o) (some b) := fun o => ⟨rfl, rfl, rfl, by simp [setBlock], fun i _ hi => heap_setBlock_other hb _ (fun e => hi (by rw [e]))⟩
  rcases run_findKey_int (W := W) hk a es hes with ⟨h1, h2, hp⟩ | ⟨j, e0, h1, h2, h3, h4, hp⟩
  · refine ⟨setBlock W b (.map (es.push ⟨.int q a, v, clock⟩) (clock + 1)), ?_, ⟨_, _, heap_setBlock_same hb _, ?_⟩, hg _⟩
    · simp [Instr.mapUpdate, run_underlying ht, MapKept.run_getObj_map hb, run_checkKey_int hk, h2, MapKept.run_setObj_map _ hb, Result.andThen, setBlock]
    · rw [hp]
      simp [hes]
  · refine ⟨setBlock W b (.map (es.modify j fun e => { e with key := .int q a, val := v }) clock), ?_, ⟨_, _, heap_setBlock_same hb _, ?_⟩, hg _⟩
    · simp [Instr.mapUpdate, run_underlying ht, MapKept.run_getObj_map hb, run_checkKey_int hk, h2, h3, h4, Instr.keyThatStays, Instr.sameBits, MapKept.run_setObj_map _ hb, Result.andThen, setBlock]
    · rw [hp, Array.toList_modify, List.map_set]
      have hjl : j < es.toList.length := by
        have := (Array.getElem?_eq_some_iff.1 h3).1
        simpa using this
      rw [← hes]
      apply List.ext_getElem?
      intro i
      rw [List.getElem?_map, List.getElem?_modify]
      by_cases hij : j = i
      · subst hij
        rw [List.getElem?_set_self (by simpa using hjl), List.getElem?_eq_getElem hjl]
        simp
      · rw [List.getElem?_set_ne hij, List.getElem?_map]
        simp [hij]
end
end Go.Proofs.YtpdcmdofojckdaaDoorW.PrintWords
namespace Go.Proofs.YtpdcmdofojckdaaDoorW.PrintWords
open Go.RowKit Go.ChangeMaps
theorem wp_update_int {P : Program} {ops : Array Oper} {rest : List Oper} {o : Oper} {a : Act} {Q : Exit → Act → World → Prop} {W : World} {b : Nat} {q : IntKind} {m : List (Int × Value)} {k e : TypeId}
    (hg : o.guard = none) (t : TypeId) (x y z : Operand) (hop : o.op = Op.mapUpdate t x y z) (ht : P.underlying t = some (.map k e)) (hk : P.underlying k = some (.int q)) (key : Int) (v : Value)
    (hx : a.eval x = .map (some b)) (hy : a.eval y = .int q key) (hz : a.eval z = v) (h : MapI q W b m)
    (hK : ∀ w', MapI q w' b (putM m key v) → W.grownBy w' (some b) → wpList P ops Q rest (a.put o.dst undef) w') : wpList P ops Q (o :: rest) a W := by
  refine wpList_plain hg fun K' hK' => ?_
  obtain ⟨w', hrun, r1, r2⟩ := run_update_int ht hk h key v
  unfold Oper.wp
  simp [execOp, hop, hx, hy, hz, hrun, Result.andThen]
  exact hK' _ _ (hK w' r1 r2)
end Go.Proofs.YtpdcmdofojckdaaDoorW.PrintWords
