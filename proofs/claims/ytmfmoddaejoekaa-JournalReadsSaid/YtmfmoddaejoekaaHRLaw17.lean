/- What the laws of the journal share: the document's calls on a state. -/
import Derived.Test.YtmfmoddaejoekaaHROpn
import Derived.Test.YtmfmoddaejoekaaHRHead
import Derived.Test.YtmfmoddaejoekaaHRTapeA
set_option linter.unusedVariables false
set_option linter.unusedSimpArgs false
namespace Go.Proofs.Ytmfmoddaejoekaa.P
open Go.RowKit Go.Proofs.YtmfmoddaejoekaaW.PrintWords Go.Proofs.YtmfmoddaejoekaaW.PrintLast Go.Proofs.YtmfmoddaejoekaaW.PrintMore
abbrev RTJ (w : World) (Fo : Nat → Prop) (g gx : Nat) (T : TM) (J : JM) : Res := Res.sep (RTape g T) (RJour w Fo gx g J)
section
variable {w0 W w : World} {S Fo : Nat → Prop} {Rs : List Res} {g gr gj gx : Nat} {T : TM} {J : JM} {N : Nat}
theorem rnewT_at (h : St w0 S W Rs) : Calls Try.prog 18 #[] W fun e W' => ∃ g, e = .returned (.pointer (some ⟨g, 0, none⟩)) ∧ St w0 S W' (Rs ++ [RTape g TM.new]) :=
  (rtape_New.calls W).mono fun e W' ⟨g, h1, h2, h3⟩ => ⟨g, h1, h.add h3 h2⟩
theorem write_at (h : St w0 S W Rs) (i : Nat) (hi : Rs[i]? = some (PTape g T)) (h0 : i ≠ 0) (hT : T.Ok N) (hN : N ≤ 1000000000) (p : Int) {A : Option Addr} {c : Nat} {r : List Int} (hl : r.length ≤ 1000000)
    (hQ : ∀ W', (∀ (m : Nat) (Rm : Res), m ≠ i → Rs[m]? = some Rm → ∃ ok, Rm.P ok W') → Kd.C (Kd.int .u8) W' A r.length r) :
    Calls Try.prog 19 #[.pointer (some ⟨g, 0, none⟩), .int .i64 p, .slice A r.length c] W fun e W' => e = .returned (.int .i64 (T.writeE p r)) ∧ St w0 S W' (Rs.set i (PTape g (T.write p r))) := by
  obtain ⟨ok, hP, hq, hback⟩ := h.lend i hi h0 (fun W' => Kd.C (Kd.int .u8) W' A r.length r) hQ
  exact (tape_Write.calls g T N hT hN p A c r W ok hP hq hl).mono fun e W' hh => ⟨hh.1, hback hh.2⟩
theorem rwrite_at (h : St w0 S W Rs) (i : Nat) (hi : Rs[i]? = some (RTape g T)) (h0 : i ≠ 0) (hT : T.Ok N) (hN : N ≤ 1000000000) (p : Int) {A : Option Addr} {c : Nat} {r : List Int} (hl : r.length ≤ 1000000)
    (hQ : ∀ W', (∀ (m : Nat) (Rm : Res), m ≠ i → Rs[m]? = some Rm → ∃ ok, Rm.P ok W') → Kd.C (Kd.int .u8) W' A r.length r) :
    Calls Try.prog 21 #[.pointer (some ⟨g, 0, none⟩), .int .i64 p, .slice A r.length c] W fun e W' => e = .returned (.int .i64 (T.writeE p r)) ∧ St w0 S W' (Rs.set i (RTape g (T.write p r))) := by
  obtain ⟨ok, hP, hq, hback⟩ := h.lend i hi h0 (fun W' => Kd.C (Kd.int .u8) W' A r.length r) hQ
  exact (rtape_Write.calls g T N hT hN p A c r W ok hP hq hl).mono fun e W' hh => ⟨hh.1, hback hh.2⟩
theorem sync_at (h : St w0 S W Rs) (i : Nat) (hi : Rs[i]? = some (PTape g T)) (h0 : i ≠ 0) (hT : T.Ok N) :
    Calls Try.prog 20 #[.pointer (some ⟨g, 0, none⟩)] W fun e W' => e = .returned (.int .i64 (T.ready 0)) ∧ St w0 S W' (Rs.set i (PTape g T.sync)) := by
  obtain ⟨ok, hP, _, hback⟩ := h.lend i hi h0 (fun _ => True) (fun _ _ => trivial)
  exact (tape_Sync.calls g T N hT W ok hP).mono fun e W' hh => ⟨hh.1, hback hh.2⟩
theorem rsync_at (h : St w0 S W Rs) (i : Nat) (hi : Rs[i]? = some (RTape g T)) (h0 : i ≠ 0) (hT : T.Ok N) (hN : N ≤ 1000000000) :
    Calls Try.prog 22 #[.pointer (some ⟨g, 0, none⟩)] W fun e W' => e = .returned (.int .i64 (T.ready 0)) ∧ St w0 S W' (Rs.set i (RTape g T.sync)) := by
  obtain ⟨ok, hP, _, hback⟩ := h.lend i hi h0 (fun _ => True) (fun _ _ => trivial)
  exact (rtape_Sync.calls g T N hT hN W ok hP).mono fun e W' hh => ⟨hh.1, hback hh.2⟩
/-- The post of the document's opening. -/
def ROpenSt (w : World) (Fo : Nat → Prop) (w0 : World) (S : Nat → Prop) (Rs : List Res) (i g : Nat) (M : Int × TM × Option JM) (e : Ending) (W' : World) : Prop :=
  match M.2.2 with
  | none => e = .returned (.tuple #[.pointer none, .int .i64 M.1]) ∧ St w0 S W' (Rs.set i (RTape g M.2.1))
  | some J => ∃ gj, e = .returned (.tuple #[.pointer (some ⟨gj, 0, none⟩), .int .i64 M.1]) ∧ St w0 S W' (Rs.set i (RTJ w Fo g gj M.2.1 J))
theorem ropen_at (w : World) (Fo : Nat → Prop) (h : St w0 S W Rs) (i : Nat) (hi : Rs[i]? = some (RTape g T)) (h0 : i ≠ 0) (hT : T.Ok N) (hN : N + 9000 ≤ 1000000000) (hB : T.By) :
    Calls Try.prog 23 #[.pointer (some ⟨g, 0, none⟩)] W (ROpenSt w Fo w0 S Rs i g (openM T)) := by
  obtain ⟨ok, hP, _, hback⟩ := h.lend i hi h0 (fun _ => True) (fun _ _ => trivial)
  refine (rjournal_Open.calls w Fo g T N hT hN W ok hP hB).mono fun e W' hh => ?_
  unfold ROpenSt
  unfold ROpenPost at hh
  split
  · rename_i hm
    rw [hm] at hh
    exact ⟨hh.1, hback hh.2⟩
  · rename_i J hm
    rw [hm] at hh
    obtain ⟨gj, h1, h2⟩ := hh
    exact ⟨gj, h1, hback h2⟩
theorem tapes_at (h : St w0 S W Rs) (hA : ∃ ok, (PTape g T).P ok W) (hR : ∃ ok, (RTape gr T).P ok W) (hT : T.Ok N) (hN : N ≤ 1000000000) :
    Calls Try.prog 24 #[.pointer (some ⟨g, 0, none⟩), .pointer (some ⟨gr, 0, none⟩)] W fun e W' => e = .returned (.bool true) ∧ St w0 S W' Rs := by
  obtain ⟨ok, hA⟩ := hA
  obtain ⟨okr, hR⟩ := hR
  exact (tapes.calls g gr T N hT hN W ok okr hA hR).mono fun e W' hh => ⟨hh.1, h.on hh.2⟩
theorem like_at (h : St w0 S W Rs) (hAg : Agree w Fo W) (hA : ∃ ok, (PTJ g gj T J).P ok W) (hR : ∃ ok, (RTJ w Fo gr gx T J).P ok W) (hl : J.L.length ≤ 1000000) (hr : ∀ r ∈ J.L, r.length ≤ 100000) :
    Calls Try.prog 25 #[.pointer (some ⟨gj, 0, none⟩), .pointer (some ⟨gx, 0, none⟩)] W fun e W' => e = .returned (.bool true) ∧ St w0 S W' Rs := by
  obtain ⟨ok, hA⟩ := hA
  obtain ⟨okr, hR⟩ := hR
  obtain ⟨ok1, hA1, _⟩ := sep_snd hA
  obtain ⟨ok2, hR2, _⟩ := sep_snd hR
  exact (like.calls w Fo gj g gx gr J W ok1 ok2 hAg hA1 hR2 hl hr).mono fun e W' hh => ⟨hh.1, h.on hh.2⟩
end
end Go.Proofs.Ytmfmoddaejoekaa.P
