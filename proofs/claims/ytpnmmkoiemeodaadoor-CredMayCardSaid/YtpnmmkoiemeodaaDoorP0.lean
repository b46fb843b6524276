/- Written by a program of this session's, for this claim: the functions that the law reaches, their contracts, the law's row. Not trusted: it is checked as any text. -/
import Derived.Test.YtpnmmkoiemeodaaDoorProg
import Derived.Below
import Derived.Deep.Draws
import Derived.Deep.AppendLies
import Derived.Maps.AppendAt
import Derived.OwnWalk
import Derived.Laws.BytesArg
import Derived.Laws.MakeOwn
import Derived.Laws.OwnMore
import Derived.Deep.OwnRows
import Derived.Tactics
import Derived.Lib.ConvBytes
import Derived.Laws.Slices
import Derived.WalkKit
import Derived.KernelRfl
import Derived.RowKit3
import Derived.Deep.LoopGhost
import Derived.Deep.QuietTactic
import Derived.BigQuiet
import Derived.WideLaws
import Derived.Deep.DeepCutAuto
import Derived.Deep.CutBlock
import Derived.Deep.RegionHeld3
import Derived.Laws.Rows
import Derived.Lib.AppendStr
import Derived.ArgAppend
import Derived.Laws.IdiomCopy
import Derived.OrdersHeld
import Derived.Laws.BitsLemmas
import Derived.RowKit
import Derived.Test.YtpnmmkoiemeodaaDoorWWords
import Derived.Test.YtpnmmkoiemeodaaDoorWLast
import Derived.Test.YtpnmmkoiemeodaaDoorWTab
import Derived.Test.YtpnmmkoiemeodaaDoorWQPut
import Derived.Test.YtpnmmkoiemeodaaDoorWApart
import Derived.Test.YtpnmmkoiemeodaaDoorWArr
import Derived.Test.YtpnmmkoiemeodaaDoorWZeros
import Derived.Test.YtpnmmkoiemeodaaDoorWFoot
import Derived.Test.YtpnmmkoiemeodaaDoorWKept
import Derived.Test.YtpnmmkoiemeodaaDoorWShare
import Derived.Test.YtpnmmkoiemeodaaDoorWN
import Derived.Test.YtpnmmkoiemeodaaDoorWEqStruct
import Derived.Test.YtpnmmkoiemeodaaDoorWRepsOne
import Derived.Test.YtpnmmkoiemeodaaDoorWNEv
import Derived.Test.YtpnmmkoiemeodaaDoorWMore
import Derived.Test.YtpnmmkoiemeodaaDoorHWord
namespace Go.Proofs.YtpnmmkoiemeodaaDoor.P
open Go.RowKit Go.Proofs.YtpnmmkoiemeodaaDoorW.PrintWords Go.Proofs.YtpnmmkoiemeodaaDoorW.PrintLast Go.Proofs.YtpnmmkoiemeodaaDoorW.PrintMore
attribute [local go_sem] max2_int min2_int max_two min_two max_three min_three max_four min_four   -- for this text's walks alone
set_option linter.unusedVariables false
set_option linter.unusedSimpArgs false



def errW : Option Int → Value
  | none => .nilIface
  | some c => .iface 0 (.int .i64 c)
theorem errW_none : errW none = .nilIface := rfl
theorem errW_some (c : Int) : errW (some c) = .iface 0 (.int .i64 c) := rfl

theorem info5 : (Tryd.prog.info? 5).map (fun i => (i.zero, i.size, i.bytes)) = some (some (.int .u8 0), 1, 1) := by kernel_rfl
-- the values' own types
def rd_L4 (xs : List (List Int)) (i : Int) : (List Int) := xs.getD i.toNat ([] : List Int)
theorem at_L4 {w : World} {A : Option Addr} {n : Nat} {xs : List (List Int)} (h : Kd.C (Kd.slice 5 (Kd.int .u8)) w A n xs) (i : Int) (h0 : 0 ≤ i) (h1 : i < n) : ∃ ad A0 c0, A = some ad ∧ w.cell? (ad.add i.toNat) = some (.slice A0 (rd_L4 xs i).length c0) ∧ (rd_L4 xs i).length ≤ c0 ∧ (Kd.int .u8).C w A0 (rd_L4 xs i).length (rd_L4 xs i) := by
  obtain ⟨ad, c, e, _, hK, hc0⟩ := Kd.C_get h ([] : List Int) i h0 h1
  have hc : ∀ j u, c[j]? = some u → w.cell? (ad.add (i.toNat * 1 + j)) = some u := hc0
  obtain ⟨A0, c0, rfl, l0, g0⟩ := hK
  exact ⟨ad, A0, c0, e, by have hq := hc 0 _ rfl; rwa [Nat.mul_one, Nat.add_zero] at hq, l0, g0⟩

/-! #### struct type 23 -/
structure S23 where
  f0 : Int
  f1 : Int
def z23 : S23 := ⟨(0 : Int), (0 : Int)⟩
def k23 : Kd S23 := Kd.iso (Kd.pair (Kd.int .i64) (Kd.int .i64)) (fun x : S23 => (x.f0, x.f1))
theorem k23_heap : Kd.Heap k23 := Kd.heap_iso _ (Kd.heap_pair (Kd.heap_int .i64) (Kd.heap_int .i64))
theorem k23_open {w : World} {x : S23} {cs : List Value} (h : k23.K w x cs) : cs = [.int .i64 x.f0, .int .i64 x.f1] := by
  obtain ⟨_, _, rfl, rfl, rfl⟩ := h
  exact rfl
theorem k23_openM {w : World} {base : Nat} {ok : Nat → Prop} {x : S23} {cs : List Value} (h : k23.M w base ok x cs) : cs = [.int .i64 x.f0, .int .i64 x.f1] := by
  obtain ⟨_, _, rfl, rfl, rfl⟩ := h
  exact rfl
theorem k23_mk (w : World) (x : S23)  : k23.K w x [.int .i64 x.f0, .int .i64 x.f1] := ⟨[.int .i64 x.f0], [.int .i64 x.f1], rfl, rfl, rfl⟩
theorem k23_mkM (w : World) (base : Nat) (ok : Nat → Prop) (x : S23)  : k23.M w base ok x [.int .i64 x.f0, .int .i64 x.f1] := ⟨[.int .i64 x.f0], [.int .i64 x.f1], rfl, rfl, rfl⟩
theorem k23_mkF (W : World) (ok : Nat → Prop) (x : S23) : Kd.FK k23 W ok x [.int .i64 x.f0, .int .i64 x.f1] := fun W2 _ => k23_mk W2 x
def rd_T23 (xs : List S23) (i : Int) : S23 := xs.getD i.toNat z23
theorem at_T23 {w : World} {A : Option Addr} {n : Nat} {xs : List S23} (h : Kd.C k23 w A n xs) (i : Int) (h0 : 0 ≤ i) (h1 : i < n) : ∃ ad , A = some ad ∧ w.cell? (ad.add (i.toNat * 2)) = some (.int .i64 (rd_T23 xs i).f0) ∧ w.cell? ⟨(ad.add (i.toNat * 2)).block, (ad.add (i.toNat * 2)).off + 1, none⟩ = some (.int .i64 (rd_T23 xs i).f1) := by
  obtain ⟨ad, c, e, _, hK, hc0⟩ := Kd.C_get h z23 i h0 h1
  have hc : ∀ j u, c[j]? = some u → w.cell? (ad.add (i.toNat * 2 + j)) = some u := hc0
  obtain rfl := k23_open hK
  exact ⟨ad, e, hc 0 _ rfl, by rw [← add_field _ _ 1 (by omega)]; exact hc 1 _ rfl⟩

/-! #### struct type 25 -/
structure S25 where
  f0 : ByteArray
  f1 : ByteArray
def z25 : S25 := ⟨(⟨#[]⟩ : ByteArray), (⟨#[]⟩ : ByteArray)⟩
def k25 : Kd S25 := Kd.iso (Kd.pair Kd.string Kd.string) (fun x : S25 => (x.f0, x.f1))
theorem k25_heap : Kd.Heap k25 := Kd.heap_iso _ (Kd.heap_pair Kd.heap_string Kd.heap_string)
theorem k25_open {w : World} {x : S25} {cs : List Value} (h : k25.K w x cs) : cs = [.string x.f0, .string x.f1] := by
  obtain ⟨_, _, rfl, rfl, rfl⟩ := h
  exact rfl
theorem k25_openM {w : World} {base : Nat} {ok : Nat → Prop} {x : S25} {cs : List Value} (h : k25.M w base ok x cs) : cs = [.string x.f0, .string x.f1] := by
  obtain ⟨_, _, rfl, rfl, rfl⟩ := h
  exact rfl
theorem k25_mk (w : World) (x : S25)  : k25.K w x [.string x.f0, .string x.f1] := ⟨[.string x.f0], [.string x.f1], rfl, rfl, rfl⟩
theorem k25_mkM (w : World) (base : Nat) (ok : Nat → Prop) (x : S25)  : k25.M w base ok x [.string x.f0, .string x.f1] := ⟨[.string x.f0], [.string x.f1], rfl, rfl, rfl⟩
theorem k25_mkF (W : World) (ok : Nat → Prop) (x : S25) : Kd.FK k25 W ok x [.string x.f0, .string x.f1] := fun W2 _ => k25_mk W2 x
def rd_T25 (xs : List S25) (i : Int) : S25 := xs.getD i.toNat z25
theorem at_T25 {w : World} {A : Option Addr} {n : Nat} {xs : List S25} (h : Kd.C k25 w A n xs) (i : Int) (h0 : 0 ≤ i) (h1 : i < n) : ∃ ad , A = some ad ∧ w.cell? (ad.add (i.toNat * 2)) = some (.string (rd_T25 xs i).f0) ∧ w.cell? ⟨(ad.add (i.toNat * 2)).block, (ad.add (i.toNat * 2)).off + 1, none⟩ = some (.string (rd_T25 xs i).f1) := by
  obtain ⟨ad, c, e, _, hK, hc0⟩ := Kd.C_get h z25 i h0 h1
  have hc : ∀ j u, c[j]? = some u → w.cell? (ad.add (i.toNat * 2 + j)) = some u := hc0
  obtain rfl := k25_open hK
  exact ⟨ad, e, hc 0 _ rfl, by rw [← add_field _ _ 1 (by omega)]; exact hc 1 _ rfl⟩

/-! #### struct type 27 -/
structure S27 where
  f0 : S23
  f1 : ByteArray
  f2 : Int
  f3 : ByteArray
  f4 : S25
  f5 : S25
def z27 : S27 := ⟨z23, (⟨#[]⟩ : ByteArray), (0 : Int), (⟨#[]⟩ : ByteArray), z25, z25⟩
def k27 : Kd S27 := Kd.iso (Kd.pair k23 (Kd.pair Kd.string (Kd.pair (Kd.int .i64) (Kd.pair Kd.string (Kd.pair k25 k25))))) (fun x : S27 => (x.f0, x.f1, x.f2, x.f3, x.f4, x.f5))
theorem k27_heap : Kd.Heap k27 := Kd.heap_iso _ (Kd.heap_pair k23_heap (Kd.heap_pair Kd.heap_string (Kd.heap_pair (Kd.heap_int .i64) (Kd.heap_pair Kd.heap_string (Kd.heap_pair k25_heap k25_heap)))))
theorem k27_open {w : World} {x : S27} {cs : List Value} (h : k27.K w x cs) : cs = [.int .i64 x.f0.f0, .int .i64 x.f0.f1, .string x.f1, .int .i64 x.f2, .string x.f3, .string x.f4.f0, .string x.f4.f1, .string x.f5.f0, .string x.f5.f1] := by
  obtain ⟨_, _, rfl, s0, ⟨_, _, rfl, rfl, ⟨_, _, rfl, rfl, ⟨_, _, rfl, rfl, ⟨_, _, rfl, s5, s7⟩⟩⟩⟩⟩ := h
  obtain rfl := k23_open s0
  obtain rfl := k25_open s5
  obtain rfl := k25_open s7
  exact rfl
theorem k27_openM {w : World} {base : Nat} {ok : Nat → Prop} {x : S27} {cs : List Value} (h : k27.M w base ok x cs) : cs = [.int .i64 x.f0.f0, .int .i64 x.f0.f1, .string x.f1, .int .i64 x.f2, .string x.f3, .string x.f4.f0, .string x.f4.f1, .string x.f5.f0, .string x.f5.f1] := by
  obtain ⟨_, _, rfl, s0, ⟨_, _, rfl, rfl, ⟨_, _, rfl, rfl, ⟨_, _, rfl, rfl, ⟨_, _, rfl, s5, s7⟩⟩⟩⟩⟩ := h
  obtain rfl := k23_openM s0
  obtain rfl := k25_openM s5
  obtain rfl := k25_openM s7
  exact rfl
theorem k27_mk (w : World) (x : S27)  : k27.K w x [.int .i64 x.f0.f0, .int .i64 x.f0.f1, .string x.f1, .int .i64 x.f2, .string x.f3, .string x.f4.f0, .string x.f4.f1, .string x.f5.f0, .string x.f5.f1] := ⟨[.int .i64 x.f0.f0, .int .i64 x.f0.f1], [.string x.f1, .int .i64 x.f2, .string x.f3, .string x.f4.f0, .string x.f4.f1, .string x.f5.f0, .string x.f5.f1], rfl, (k23_mk w x.f0 ), ⟨[.string x.f1], [.int .i64 x.f2, .string x.f3, .string x.f4.f0, .string x.f4.f1, .string x.f5.f0, .string x.f5.f1], rfl, rfl, ⟨[.int .i64 x.f2], [.string x.f3, .string x.f4.f0, .string x.f4.f1, .string x.f5.f0, .string x.f5.f1], rfl, rfl, ⟨[.string x.f3], [.string x.f4.f0, .string x.f4.f1, .string x.f5.f0, .string x.f5.f1], rfl, rfl, ⟨[.string x.f4.f0, .string x.f4.f1], [.string x.f5.f0, .string x.f5.f1], rfl, (k25_mk w x.f4 ), (k25_mk w x.f5 )⟩⟩⟩⟩⟩
theorem k27_mkM (w : World) (base : Nat) (ok : Nat → Prop) (x : S27)  : k27.M w base ok x [.int .i64 x.f0.f0, .int .i64 x.f0.f1, .string x.f1, .int .i64 x.f2, .string x.f3, .string x.f4.f0, .string x.f4.f1, .string x.f5.f0, .string x.f5.f1] := ⟨[.int .i64 x.f0.f0, .int .i64 x.f0.f1], [.string x.f1, .int .i64 x.f2, .string x.f3, .string x.f4.f0, .string x.f4.f1, .string x.f5.f0, .string x.f5.f1], rfl, (k23_mkM w base ok x.f0 ), ⟨[.string x.f1], [.int .i64 x.f2, .string x.f3, .string x.f4.f0, .string x.f4.f1, .string x.f5.f0, .string x.f5.f1], rfl, rfl, ⟨[.int .i64 x.f2], [.string x.f3, .string x.f4.f0, .string x.f4.f1, .string x.f5.f0, .string x.f5.f1], rfl, rfl, ⟨[.string x.f3], [.string x.f4.f0, .string x.f4.f1, .string x.f5.f0, .string x.f5.f1], rfl, rfl, ⟨[.string x.f4.f0, .string x.f4.f1], [.string x.f5.f0, .string x.f5.f1], rfl, (k25_mkM w base ok x.f4 ), (k25_mkM w base ok x.f5 )⟩⟩⟩⟩⟩
theorem k27_mkF (W : World) (ok : Nat → Prop) (x : S27) : Kd.FK k27 W ok x [.int .i64 x.f0.f0, .int .i64 x.f0.f1, .string x.f1, .int .i64 x.f2, .string x.f3, .string x.f4.f0, .string x.f4.f1, .string x.f5.f0, .string x.f5.f1] := fun W2 _ => k27_mk W2 x
def rd_T27 (xs : List S27) (i : Int) : S27 := xs.getD i.toNat z27
theorem at_T27 {w : World} {A : Option Addr} {n : Nat} {xs : List S27} (h : Kd.C k27 w A n xs) (i : Int) (h0 : 0 ≤ i) (h1 : i < n) : ∃ ad , A = some ad ∧ w.cell? (ad.add (i.toNat * 9)) = some (.int .i64 (rd_T27 xs i).f0.f0) ∧ w.cell? ⟨(ad.add (i.toNat * 9)).block, (ad.add (i.toNat * 9)).off + 1, none⟩ = some (.int .i64 (rd_T27 xs i).f0.f1) ∧ w.cell? ⟨(ad.add (i.toNat * 9)).block, (ad.add (i.toNat * 9)).off + 2, none⟩ = some (.string (rd_T27 xs i).f1) ∧ w.cell? ⟨(ad.add (i.toNat * 9)).block, (ad.add (i.toNat * 9)).off + 3, none⟩ = some (.int .i64 (rd_T27 xs i).f2) ∧ w.cell? ⟨(ad.add (i.toNat * 9)).block, (ad.add (i.toNat * 9)).off + 4, none⟩ = some (.string (rd_T27 xs i).f3) ∧ w.cell? ⟨(ad.add (i.toNat * 9)).block, (ad.add (i.toNat * 9)).off + 5, none⟩ = some (.string (rd_T27 xs i).f4.f0) ∧ w.cell? ⟨(ad.add (i.toNat * 9)).block, (ad.add (i.toNat * 9)).off + 6, none⟩ = some (.string (rd_T27 xs i).f4.f1) ∧ w.cell? ⟨(ad.add (i.toNat * 9)).block, (ad.add (i.toNat * 9)).off + 7, none⟩ = some (.string (rd_T27 xs i).f5.f0) ∧ w.cell? ⟨(ad.add (i.toNat * 9)).block, (ad.add (i.toNat * 9)).off + 8, none⟩ = some (.string (rd_T27 xs i).f5.f1) := by
  obtain ⟨ad, c, e, _, hK, hc0⟩ := Kd.C_get h z27 i h0 h1
  have hc : ∀ j u, c[j]? = some u → w.cell? (ad.add (i.toNat * 9 + j)) = some u := hc0
  obtain rfl := k27_open hK
  exact ⟨ad, e, hc 0 _ rfl, by rw [← add_field _ _ 1 (by omega)]; exact hc 1 _ rfl, by rw [← add_field _ _ 2 (by omega)]; exact hc 2 _ rfl, by rw [← add_field _ _ 3 (by omega)]; exact hc 3 _ rfl, by rw [← add_field _ _ 4 (by omega)]; exact hc 4 _ rfl, by rw [← add_field _ _ 5 (by omega)]; exact hc 5 _ rfl, by rw [← add_field _ _ 6 (by omega)]; exact hc 6 _ rfl, by rw [← add_field _ _ 7 (by omega)]; exact hc 7 _ rfl, by rw [← add_field _ _ 8 (by omega)]; exact hc 8 _ rfl⟩

end Go.Proofs.YtpnmmkoiemeodaaDoor.P
