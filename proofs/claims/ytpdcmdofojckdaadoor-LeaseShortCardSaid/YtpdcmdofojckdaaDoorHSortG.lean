/- Texts of this claim, laid into one. -/
import Derived.Test.YtpdcmdofojckdaaDoorWWords
import Derived.Test.YtpdcmdofojckdaaDoorHSortF
import Derived.Test.YtpdcmdofojckdaaDoorHSt
section
/- Small words of this session's, for the printed walks: all the cells of a block at once. -/
set_option linter.unusedVariables false
set_option linter.unusedSimpArgs false
namespace Go.Proofs.YtpdcmdofojckdaaDoorW.PrintWords
open Go.RowKit
set_option linter.defProp false
theorem blk_all2 {W : World} {g_ t_ : Nat} {x0 x1 : Value} (h : W.heap[g_]? = some (.cells #[x0, x1] t_ (0, 0))) :
    W.cell? ⟨g_, 0, none⟩ = some x0 ∧ W.cell? ⟨g_, 1, none⟩ = some x1 ∧ W.frozen? ⟨g_, 0, none⟩ = false ∧ W.frozen? ⟨g_, 1, none⟩ = false :=
  ⟨(blk_cell h 0).trans rfl, (blk_cell h 1).trans rfl, blk_frozen h 0, blk_frozen h 1⟩
theorem blk_all9 {W : World} {g_ t_ : Nat} {x0 x1 x2 x3 x4 x5 x6 x7 x8 : Value} (h : W.heap[g_]? = some (.cells #[x0, x1, x2, x3, x4, x5, x6, x7, x8] t_ (0, 0))) :
    W.cell? ⟨g_, 0, none⟩ = some x0 ∧ W.cell? ⟨g_, 1, none⟩ = some x1 ∧ W.cell? ⟨g_, 2, none⟩ = some x2 ∧ W.cell? ⟨g_, 3, none⟩ = some x3 ∧ W.cell? ⟨g_, 4, none⟩ = some x4 ∧ W.cell? ⟨g_, 5, none⟩ = some x5 ∧ W.cell? ⟨g_, 6, none⟩ = some x6 ∧ W.cell? ⟨g_, 7, none⟩ = some x7 ∧ W.cell? ⟨g_, 8, none⟩ = some x8 ∧ W.frozen? ⟨g_, 0, none⟩ = false ∧ W.frozen? ⟨g_, 1, none⟩ = false ∧ W.frozen? ⟨g_, 2, none⟩ = false ∧ W.frozen? ⟨g_, 3, none⟩ = false ∧ W.frozen? ⟨g_, 4, none⟩ = false ∧ W.frozen? ⟨g_, 5, none⟩ = false ∧ W.frozen? ⟨g_, 6, none⟩ = false ∧ W.frozen? ⟨g_, 7, none⟩ = false ∧ W.frozen? ⟨g_, 8, none⟩ = false :=
  ⟨(blk_cell h 0).trans rfl, (blk_cell h 1).trans rfl, (blk_cell h 2).trans rfl, (blk_cell h 3).trans rfl, (blk_cell h 4).trans rfl, (blk_cell h 5).trans rfl, (blk_cell h 6).trans rfl, (blk_cell h 7).trans rfl, (blk_cell h 8).trans rfl, blk_frozen h 0, blk_frozen h 1, blk_frozen h 2, blk_frozen h 3, blk_frozen h 4, blk_frozen h 5, blk_frozen h 6, blk_frozen h 7, blk_frozen h 8⟩
/-! Short names of longer ones. -/
theorem aM {p : Prop} (h : p) : Aside0 p := Aside0.mk h
def bN := @blk_drewN
def bD := @blk_drew
def bA := @blk_alloc
theorem mA {α β : Type} {f : α → β} {l : List α} : l.toArray.map f = (l.map f).toArray := List.map_toArray
theorem mB {α β : Type} {f : α → β} {a : α} {l : List α} : List.map f (a :: l) = f a :: List.map f l := List.map_cons
theorem mC {α β : Type} {f : α → β} : List.map f ([] : List α) = [] := List.map_nil
end Go.Proofs.YtpdcmdofojckdaaDoorW.PrintWords
end
section
/- Between a row of the call's own (elements of k cells, no slices in them) and the sort's row: what the row's block has, and that it is a row again behind the sort. -/
set_option linter.unusedVariables false
set_option linter.unusedSimpArgs false
namespace Go.Proofs.YtpdcmdofojckdaaDoor.P
open Go.Shelf Go.RowKit Go.Lib Go.Sort
open Go.Proofs.YtpdcmdofojckdaaDoorW.PrintWords Go.Proofs.YtpdcmdofojckdaaDoorW.PrintLast Go.Proofs.YtpdcmdofojckdaaDoorW.PrintMore
/-- Flat elements: their cells are the values that enc tells. -/
structure Flat {α : Type} (d : Kd α) (enc : α → List Value) : Prop where
  len : ∀ x, (enc x).length = d.sz
  one : ∀ x, ∀ v ∈ enc x, v.oneCell' = true
  M : ∀ {w : World} {base : Nat} {ok : Nat → Prop} {x : α} {cs : List Value}, d.M w base ok x cs ↔ cs = enc x
section
variable {α : Type} {d : Kd α} {enc : α → List Value} {e base : Nat} {ok : Nat → Prop} {W W' : World} {v : Value} {xs : List α}
theorem seg_lt {j i k n : Nat} (hj : j < n) (hi : i < k) : j * k + i < n * k := by
  have := Nat.mul_le_mul_right k (show j + 1 ≤ n from hj); rw [Nat.add_mul, Nat.one_mul] at this; omega
theorem R_flat (F : Flat d enc) (h : d.R e W base ok v xs) (hne : xs ≠ []) :
    ∃ g cap cur, v = .slice (some ⟨g, 0, none⟩) xs.length cap ∧ ok g ∧ base ≤ g ∧ W.heap[g]? = some (.cells cur e (0, 0)) ∧ xs.length ≤ cap ∧ cap ≤ maxLen ∧ cur.size = cap * d.sz ∧
      ∀ j x i u, xs[j]? = some x → (enc x)[i]? = some u → cur[j * d.sz + i]? = some u := by
  obtain ⟨hok, inner, ⟨hlen, ho⟩, hr⟩ := h
  rcases ho with ⟨rfl, h0⟩ | ⟨g, cap, cur, rfl, hg, hh, hcap, hml, hsz, htk⟩
  · exact absurd (List.eq_nil_of_length_eq_zero h0) hne
  · refine ⟨g, cap, cur, rfl, hok g rfl, hg, hh, hcap, hml, hsz, fun j x i u hx hu => ?_⟩
    have h1 := F.M.1 (hr.2 j x hx)
    have hj : j < xs.length := (List.getElem?_eq_some_iff.1 hx).1
    have hi : i < d.sz := by rw [← F.len x]; exact (List.getElem?_eq_some_iff.1 hu).1
    rw [← h1, List.getElem?_take_of_lt hi, List.getElem?_drop, ← htk, List.getElem?_take_of_lt (seg_lt hj hi), Array.getElem?_toList] at hu
    exact hu
theorem flat_R (F : Flat d enc) {g cap : Nat} {cur : Array Value} (hok : ok g) (hg : base ≤ g) (hh : W.heap[g]? = some (.cells cur e (0, 0))) (hcap : xs.length ≤ cap) (hml : cap ≤ maxLen) (hsz : cur.size = cap * d.sz)
    (hc : ∀ j x i u, xs[j]? = some x → (enc x)[i]? = some u → cur[j * d.sz + i]? = some u) : d.R e W base ok (.slice (some ⟨g, 0, none⟩) xs.length cap) xs := by
  have hl : (cur.toList.take (xs.length * d.sz)).length = xs.length * d.sz := by
    rw [List.length_take, show cur.toList.length = cap * d.sz from hsz]
    exact Nat.min_eq_left (Nat.mul_le_mul_right _ hcap)
  refine ⟨fun k hk => by simp only [Value.ownBlock, Option.some.injEq] at hk; exact hk ▸ hok, cur.toList.take (xs.length * d.sz), ⟨hl, .inr ⟨g, cap, cur, rfl, hg, hh, hcap, hml, hsz, rfl⟩⟩, hl, fun j x hx => F.M.2 ?_⟩
  have hj : j < xs.length := (List.getElem?_eq_some_iff.1 hx).1
  apply List.ext_getElem?
  intro i
  by_cases hi : i < d.sz
  · rw [List.getElem?_take_of_lt hi, List.getElem?_drop, List.getElem?_take_of_lt (seg_lt hj hi), Array.getElem?_toList]
    have hu : (enc x)[i]? = some ((enc x)[i]'(by rw [F.len]; exact hi)) := List.getElem?_eq_getElem _
    rw [hu]
    exact hc j x i _ hx hu
  · rw [List.getElem?_eq_none (by rw [List.length_take]; omega), List.getElem?_eq_none (by rw [F.len]; omega)]
end
section
variable {α : Type} [Inhabited α] {enc : α → List Value} {k g e : Nat} {cur : Array Value} {w0 : World} {dk : Array α}
theorem sortK_heap (hb : w0.heap[g]? = some (.cells cur e (0, 0))) (m : Nat) (os : Array Obj) : (sortWorldK enc k w0 g 0 m dk os).heap[g]? = some (.cells (putCells id 0 (flatK enc k dk) cur) e (0, 0)) := by
  have hg : g < w0.heap.size := blk_lt hb
  unfold sortWorldK putRowK putRow mapBlock grow
  show (Array.modify w0.heap g _ ++ os)[g]? = _
  rw [Array.getElem?_append_left (by simpa using hg), Array.getElem?_modify, if_pos rfl, hb]
  rfl
theorem sortK_keeps (m : Nat) (os : Array Obj) : Keeps w0 (sortWorldK enc k w0 g 0 m dk os) (fun i => i = g) := by
  refine ⟨rfl, rfl, rfl, size_sortWorldK_c enc k w0 g 0 m dk os, fun i hi hn => ?_⟩
  unfold sortWorldK putRowK putRow mapBlock grow
  show (Array.modify w0.heap g _ ++ os)[i]? = _
  rw [Array.getElem?_append_left (by simpa using hi), Array.getElem?_modify, if_neg (fun h => hn h.symm)]
theorem putK_get {cap : Nat} (hk : ∀ x, (enc x).length = k) (hd : dk.size ≤ cap) (hsz : cur.size = cap * k) {j i : Nat} {x : α} {u : Value} (hx : dk[j]? = some x) (hu : (enc x)[i]? = some u) : (putCells id 0 (flatK enc k dk) cur)[j * k + i]? = some u := by
  have hj : j < dk.size := (Array.getElem?_eq_some_iff.1 hx).1
  have hi : i < k := by rw [← hk x]; exact (List.getElem?_eq_some_iff.1 hu).1
  have h1 := seg_lt hj hi
  have h2 : j * k + i < cur.size := by rw [hsz]; exact Nat.lt_of_lt_of_le h1 (Nat.mul_le_mul_right _ hd)
  unfold putCells
  rw [Array.getElem?_mapIdx, Array.getElem?_eq_getElem h2, Option.map_some, if_pos ⟨Nat.zero_le _, by rw [size_flatK]; omega⟩, Nat.sub_zero, get_flatK _ _ _ _ h1]
  have e1 : (j * k + i) / k = j := by rw [Nat.add_comm, Nat.add_mul_div_right _ _ (by omega), Nat.div_eq_of_lt hi, Nat.zero_add]
  have e2 : (j * k + i) % k = i := by rw [Nat.add_comm, Nat.add_mul_mod_self_right, Nat.mod_eq_of_lt hi]
  rw [e1, e2]
  have e3 : dk[j]! = x := by rw [getElem!_pos dk j hj]; exact (Array.getElem?_eq_some_iff.1 hx).2
  rw [e3]
  have e4 : (enc x)[i]! = u := by rw [List.getElem!_eq_getElem?_getD, hu]; rfl
  rw [e4]; rfl
theorem holdsK_of (hk : ∀ x, (enc x).length = k) (hb : w0.heap[g]? = some (.cells cur e (0, 0))) (hc : ∀ j x i u, dk[j]? = some x → (enc x)[i]? = some u → cur[j * k + i]? = some u) : HoldsK enc k w0 g 0 dk := by
  intro t ht
  rw [size_flatK] at ht
  rw [get_flatK _ _ _ _ ht, Nat.zero_add]
  have k0 : 0 < k := by rcases Nat.eq_zero_or_pos k with h | h; · subst h; simp at ht
                        · exact h
  have h1 : t / k < dk.size := Nat.div_lt_of_lt_mul (by rw [Nat.mul_comm]; exact ht)
  have h2 : t % k < (enc dk[t / k]!).length := by rw [hk]; exact Nat.mod_lt _ k0
  have h3 := hc (t / k) dk[t / k]! (t % k) _ (by rw [getElem!_pos dk _ h1]; exact Array.getElem?_eq_getElem h1) (List.getElem?_eq_getElem h2)
  rw [show t / k * k + t % k = t by rw [Nat.mul_comm]; exact Nat.div_add_mod t k] at h3
  refine ⟨?_, by simp [World.frozen?, hb]⟩
  rw [blk_cell hb t]
  simpa [List.getElem!_eq_getElem?_getD, List.getElem?_eq_getElem h2] using h3
end
end Go.Proofs.YtpdcmdofojckdaaDoor.P
end
