/- Texts of this claim, laid into one. -/
import Derived.Test.YtmfmoddaejoekaaHCursorR
section
/- Cursors, several at once: what is told of each. -/
namespace Go.Proofs.Ytmfmoddaejoekaa.P
open Go.RowKit Go.Proofs.YtmfmoddaejoekaaW.PrintWords Go.Proofs.YtmfmoddaejoekaaW.PrintLast Go.Proofs.YtmfmoddaejoekaaW.PrintMore
set_option linter.unusedVariables false
set_option linter.unusedSimpArgs false
/-- A row's cells lie in one block: where that is as it was, so is what is read. -/
theorem C_blocks {k : IntKind} {w w1 : World} {A : Option Addr} {n : Nat} {l : List Int} (h : (Kd.int k).C w A n l) (hb : ∀ ad, A = some ad → 0 < l.length → w1.heap[ad.block]? = w.heap[ad.block]?) : (Kd.int k).C w1 A n l := by
 refine ⟨h.1, h.2.1, fun hn => ?_⟩
 obtain ⟨ad, e, hc⟩ := h.2.2 hn
 refine ⟨ad, e, fun j p hj => ?_⟩
 obtain ⟨c, h1, h2, h3⟩ := hc j p hj
 have hl := h.1
 refine ⟨c, h1, h2, fun i u hu => ?_⟩
 have e2 : w1.cell? (ad.add (j * (Kd.int k).sz + i)) = w.cell? (ad.add (j * (Kd.int k).sz + i)) := by
  have hbl : (ad.add (j * (Kd.int k).sz + i)).block = ad.block := by unfold Addr.add; split <;> rfl
  exact World.cell?_of_block (by rw [hbl]; exact hb ad e (by omega))
 rw [e2]; exact h3 i u hu
theorem C_first {k : IntKind} {w : World} {ad : Addr} {n : Nat} {l : List Int} (h : (Kd.int k).C w (some ad) n l) (h1 : 0 < l.length) : w.cell? ad = some (.int k (rd l 0)) := by
 obtain ⟨ad2, e, hc⟩ := Kd.at_int h 0 (by omega) (by have := h.1; omega)
 cases e
 simpa [Addr.add] using hc
theorem C_lt {k : IntKind} {w : World} {A : Option Addr} {n : Nat} {l : List Int} (h : (Kd.int k).C w A n l) {ad : Addr} (h0 : A = some ad) (h1 : 0 < l.length) : ad.block < w.heap.size := by
 subst h0
 exact World.block_lt_of_cell? w ad (C_first h h1)
/-- A block that holds a cursor. -/
def StateBlk (W : World) (g : Nat) : Prop := ∃ (A : Option Addr) (n c : Nat) (p e : Int) (T : TypeId), W.heap[g]? = some (.cells #[.slice A n c, .int .i64 p, .int .i64 e] T (0, 0))
theorem C_not_state {w W : World} {A : Option Addr} {n : Nat} {l : List Int} (h : (Kd.int .u8).C w A n l) {g : Nat} (hs : StateBlk W g) {ad : Addr} (h0 : A = some ad) (h1 : 0 < l.length) (hg : ad.block = g) (hw : w.heap[g]? = W.heap[g]?) : False := by
 subst h0
 have hc := C_first h h1
 obtain ⟨A2, n2, c2, p, e, T, hb⟩ := hs
 rw [← hw, ← hg] at hb
 obtain ⟨bl, off, spot⟩ := ad
 have hsp := World.cell?_spot hc
 simp only at hsp
 subst hsp
 have := blk_cell hb off
 rw [hc] at this
 match off, this with
 | 0, t => cases t
 | 1, t => cases t
 | 2, t => cases t
 | n + 3, t => simp at t
/-- The world up to a block. -/
def upTo (W : World) (g : Nat) : World := { W with heap := W.heap.extract 0 g }
theorem upTo_size (W : World) (g : Nat) (h : g ≤ W.heap.size) : (upTo W g).heap.size = g := by simp [upTo]; omega
theorem upTo_block (W : World) (g k : Nat) (h : k < g) : (upTo W g).heap[k]? = W.heap[k]? := by
 simp only [upTo, Array.getElem?_extract]
 split
 ·simp
 ·rename_i hn
  rw [Array.getElem?_eq_none (by omega)]
theorem upTo_below (W : World) (g : Nat) (h : g ≤ W.heap.size) : Below (upTo W g).heap.size (upTo W g) W :=
 ⟨rfl, rfl, rfl, by rw [upTo_size W g h]; exact h, fun k hk => (upTo_block W g k (by rw [upTo_size W g h] at hk; exact hk)).symm⟩

/-- A cursor at block g: its bytes lie below g. -/
def CurP (W : World) (g : Nat) (b : List Int) (p e : Int) : Prop := ∃ A c, W.heap[g]? = some (.cells #[.slice A b.length c, .int .i64 p, .int .i64 e] 115 (0, 0)) ∧ b.length ≤ c ∧ Kd.C (Kd.int .u8) (upTo W g) A b.length b
theorem CurP.lt {W : World} {g : Nat} {b : List Int} {p e : Int} (h : CurP W g b p e) : g < W.heap.size := by
 obtain ⟨A, c, hb, _⟩ := h
 exact blk_lt hb
theorem CurP.blk {W : World} {g : Nat} {b : List Int} {p e : Int} (h : CurP W g b p e) : StateBlk W g := by
 obtain ⟨A, c, hb, _⟩ := h
 exact ⟨_, _, _, _, _, _, hb⟩
theorem CurP.new (W : World) (A : Option Addr) (c : Nat) (b : List Int) (p e : Int) (hr : Kd.C (Kd.int .u8) W A b.length b) (hc : b.length ≤ c) : CurP (W.alloc (.cells #[.slice A b.length c, .int .i64 p, .int .i64 e] 115)) W.heap.size b p e :=
 ⟨A, c, by simpa using heap_alloc_new W _, hc, C_blocks hr (fun ad h0 h1 => by
  have := C_lt hr h0 h1
  rw [upTo_block _ _ _ this]
  exact Below.heap_alloc _ _ _ this)⟩
theorem CurP.below {W W' : World} {g : Nat} {b : List Int} {p e : Int} (h : CurP W g b p e) (hb : Below W.heap.size W W') : CurP W' g b p e := by
 have hg := h.lt
 obtain ⟨A, c, hb2, hc, hr⟩ := h
 refine ⟨A, c, (hb.block g hg).trans hb2, hc, C_blocks hr (fun ad h0 h1 => ?_)⟩
 have := C_lt hr h0 h1
 rw [upTo_size W g (Nat.le_of_lt hg)] at this
 rw [upTo_block _ _ _ this, upTo_block _ _ _ this]
 exact hb.block _ (by omega)
theorem CurP.keep {W W' : World} {g g' : Nat} {b : List Int} {p e : Int} (h : CurP W g b p e) (hs : StateBlk W g') (hk : KeepBut W W' g' none) (hne : g ≠ g') : CurP W' g b p e := by
 have hg := h.lt
 obtain ⟨A, c, hb2, hc, hr⟩ := h
 refine ⟨A, c, (hk.2 g hg hne (by simp)).trans hb2, hc, C_blocks hr (fun ad h0 h1 => ?_)⟩
 have hl := C_lt hr h0 h1
 rw [upTo_size W g (Nat.le_of_lt hg)] at hl
 rw [upTo_block _ _ _ hl, upTo_block _ _ _ hl]
 refine hk.2 _ (by omega) (fun e2 => ?_) (by simp)
 exact C_not_state hr hs h0 h1 e2 (by rw [e2] at hl; exact upTo_block W g g' hl)
/-- What a method's contract wants: the world up to the cursor's block. -/
theorem CurP.isS {W : World} {g : Nat} {b : List Int} {p e : Int} (h : CurP W g b p e) : IsS115 (upTo W g) W g b p e := by
 have hg := h.lt
 obtain ⟨A, c, hb, hc, hr⟩ := h
 exact ⟨A, c, hb, ⟨by rw [upTo_size W g (Nat.le_of_lt hg)]; exact Nat.le_refl _, hc⟩, hr⟩
theorem CurP.isB {W : World} {g : Nat} {b : List Int} {p e : Int} (h : CurP W g b p e) : Below (upTo W g).heap.size (upTo W g) W := upTo_below W g (Nat.le_of_lt h.lt)
theorem CurP.ofS {W W' : World} {g : Nat} {b : List Int} {p e p' e' : Int} (h : CurP W g b p e) (hI : IsS115 (upTo W g) W' g b p' e') (hB : Below (upTo W g).heap.size (upTo W g) W') (hK : KeepBut W W' g none) : CurP W' g b p' e' ∧ Below g W W' := by
 have hg := h.lt
 rw [upTo_size W g (Nat.le_of_lt hg)] at hB
 have hbe : Below g W W' := ⟨hB.os, hB.tape, hB.output, hK.1, fun k hk => (hB.block k hk).trans (upTo_block W g k hk)⟩
 obtain ⟨A2, c2, hb2, hc2, hr2⟩ := hI
 refine ⟨⟨A2, c2, hb2, hc2.2, C_blocks hr2 (fun ad h0 h1 => ?_)⟩, hbe⟩
 have hl := C_lt hr2 h0 h1
 rw [upTo_size W g (Nat.le_of_lt hg)] at hl
 rw [upTo_block _ _ _ hl, upTo_block _ _ _ hl]
 exact hbe.block _ hl

/-- A cursor at block g: its bytes lie below g. -/
def CurR (W : World) (g : Nat) (b : List Int) (p e : Int) : Prop := ∃ A c, W.heap[g]? = some (.cells #[.slice A b.length c, .int .i64 p, .int .i64 e] 104 (0, 0)) ∧ b.length ≤ c ∧ Kd.C (Kd.int .u8) (upTo W g) A b.length b
theorem CurR.lt {W : World} {g : Nat} {b : List Int} {p e : Int} (h : CurR W g b p e) : g < W.heap.size := by
 obtain ⟨A, c, hb, _⟩ := h
 exact blk_lt hb
theorem CurR.blk {W : World} {g : Nat} {b : List Int} {p e : Int} (h : CurR W g b p e) : StateBlk W g := by
 obtain ⟨A, c, hb, _⟩ := h
 exact ⟨_, _, _, _, _, _, hb⟩
theorem CurR.new (W : World) (A : Option Addr) (c : Nat) (b : List Int) (p e : Int) (hr : Kd.C (Kd.int .u8) W A b.length b) (hc : b.length ≤ c) : CurR (W.alloc (.cells #[.slice A b.length c, .int .i64 p, .int .i64 e] 104)) W.heap.size b p e :=
 ⟨A, c, by simpa using heap_alloc_new W _, hc, C_blocks hr (fun ad h0 h1 => by
  have := C_lt hr h0 h1
  rw [upTo_block _ _ _ this]
  exact Below.heap_alloc _ _ _ this)⟩
theorem CurR.below {W W' : World} {g : Nat} {b : List Int} {p e : Int} (h : CurR W g b p e) (hb : Below W.heap.size W W') : CurR W' g b p e := by
 have hg := h.lt
 obtain ⟨A, c, hb2, hc, hr⟩ := h
 refine ⟨A, c, (hb.block g hg).trans hb2, hc, C_blocks hr (fun ad h0 h1 => ?_)⟩
 have := C_lt hr h0 h1
 rw [upTo_size W g (Nat.le_of_lt hg)] at this
 rw [upTo_block _ _ _ this, upTo_block _ _ _ this]
 exact hb.block _ (by omega)
theorem CurR.keep {W W' : World} {g g' : Nat} {b : List Int} {p e : Int} (h : CurR W g b p e) (hs : StateBlk W g') (hk : KeepBut W W' g' none) (hne : g ≠ g') : CurR W' g b p e := by
 have hg := h.lt
 obtain ⟨A, c, hb2, hc, hr⟩ := h
 refine ⟨A, c, (hk.2 g hg hne (by simp)).trans hb2, hc, C_blocks hr (fun ad h0 h1 => ?_)⟩
 have hl := C_lt hr h0 h1
 rw [upTo_size W g (Nat.le_of_lt hg)] at hl
 rw [upTo_block _ _ _ hl, upTo_block _ _ _ hl]
 refine hk.2 _ (by omega) (fun e2 => ?_) (by simp)
 exact C_not_state hr hs h0 h1 e2 (by rw [e2] at hl; exact upTo_block W g g' hl)
/-- What a method's contract wants: the world up to the cursor's block. -/
theorem CurR.isS {W : World} {g : Nat} {b : List Int} {p e : Int} (h : CurR W g b p e) : IsS104 (upTo W g) W g b p e := by
 have hg := h.lt
 obtain ⟨A, c, hb, hc, hr⟩ := h
 exact ⟨A, c, hb, ⟨by rw [upTo_size W g (Nat.le_of_lt hg)]; exact Nat.le_refl _, hc⟩, hr⟩
theorem CurR.isB {W : World} {g : Nat} {b : List Int} {p e : Int} (h : CurR W g b p e) : Below (upTo W g).heap.size (upTo W g) W := upTo_below W g (Nat.le_of_lt h.lt)
theorem CurR.ofS {W W' : World} {g : Nat} {b : List Int} {p e p' e' : Int} (h : CurR W g b p e) (hI : IsS104 (upTo W g) W' g b p' e') (hB : Below (upTo W g).heap.size (upTo W g) W') (hK : KeepBut W W' g none) : CurR W' g b p' e' ∧ Below g W W' := by
 have hg := h.lt
 rw [upTo_size W g (Nat.le_of_lt hg)] at hB
 have hbe : Below g W W' := ⟨hB.os, hB.tape, hB.output, hK.1, fun k hk => (hB.block k hk).trans (upTo_block W g k hk)⟩
 obtain ⟨A2, c2, hb2, hc2, hr2⟩ := hI
 refine ⟨⟨A2, c2, hb2, hc2.2, C_blocks hr2 (fun ad h0 h1 => ?_)⟩, hbe⟩
 have hl := C_lt hr2 h0 h1
 rw [upTo_size W g (Nat.le_of_lt hg)] at hl
 rw [upTo_block _ _ _ hl, upTo_block _ _ _ hl]
 exact hbe.block _ hl

end Go.Proofs.Ytmfmoddaejoekaa.P
end
section
/- The laws' cuts: of a row that may be read. -/
namespace Go.Proofs.Ytmfmoddaejoekaa.P
open Go.RowKit Go.Proofs.YtmfmoddaejoekaaW.PrintWords Go.Proofs.YtmfmoddaejoekaaW.PrintLast Go.Proofs.YtmfmoddaejoekaaW.PrintMore
set_option linter.unusedVariables false
set_option linter.unusedSimpArgs false
theorem hcut_to (q : Nat) (A : Option Addr) (n c : Nat) (h : q ≤ n) (hc : n ≤ c) : ∀ W : World, (Instr.slice 30 (.slice A n c) none (some (.int .i64 (q : Int))) none).run Try.prog W = .ok (.slice A q c) W := by
 obtain ⟨i06, hi06, _, _, _⟩ := info_parts info5
 have := cut_to (P := Try.prog) 30 5 .i64 Try.underlying30 hi06 A n c (q : Int) (by omega) (by omega) hc
 rwa [Int.toNat_natCast] at this
end Go.Proofs.Ytmfmoddaejoekaa.P
end
