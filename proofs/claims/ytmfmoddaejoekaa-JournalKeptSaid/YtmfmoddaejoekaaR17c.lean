/- The plain model of layer 17: a journal on a tape. -/
import Derived.Test.YtmfmoddaejoekaaHParse
set_option linter.unusedVariables false
set_option linter.unusedSimpArgs false
namespace Go.Proofs.Ytmfmoddaejoekaa.P
open Go.RowKit Go.Proofs.YtmfmoddaejoekaaW.PrintWords Go.Proofs.YtmfmoddaejoekaaW.PrintLast Go.Proofs.YtmfmoddaejoekaaW.PrintMore
structure JM where
  side : Int
  g : Int
  L : List (List Int)
  size : Int
  broken : Bool
/-- Does an error break a journal? -/
def brk (e : Int) : Bool := decide (e ≠ 0 ∧ e ≠ 42 ∧ e ≠ 1)
def isRec (r : List Int) : Bool := decide (1 ≤ r.length ∧ r.length ≤ 8192)
/-- A head's record. -/
def headR (g n : Int) : List Int := numB g ++ numB n
def appendM (T : TM) (J : JM) (r : List Int) : Int × TM × JM :=
  if J.broken = true then (40, T, J) else if isRec r = false then (1, T, J) else
  if T.writeE J.side (frameM r) ≠ 0 then (T.writeE J.side (frameM r), T.write J.side (frameM r), { J with broken := brk (T.writeE J.side (frameM r)) }) else
  if (T.write J.side (frameM r)).ready 0 ≠ 0 then ((T.write J.side (frameM r)).ready 0, (T.write J.side (frameM r)).sync, { J with broken := brk ((T.write J.side (frameM r)).ready 0) }) else
  (0, (T.write J.side (frameM r)).sync, { J with L := J.L ++ [r], size := J.size + ((frameM r).length : Int) })
def framesM (l : List (List Int)) : List Int := (l.map frameM).flatten
/-- What a side is to be written with. -/
def bodyM (g : Int) (l : List (List Int)) : List Int := frameM (headR g (l.length : Int)) ++ framesM l
def renewM (T : TM) (J : JM) (l : List (List Int)) : Int × TM × JM :=
  if J.broken = true then (40, T, J) else if 4000 < l.length ∨ 1099511627776 ≤ J.g ∨ ¬ (∀ r ∈ l, isRec r = true) then (1, T, J) else
  if 65536 < (bodyM (J.g + 1) l).length then (42, T, J) else
  if T.trimE (1 - J.side) 0 ≠ 0 then (T.trimE (1 - J.side) 0, T.trim (1 - J.side) 0, { J with broken := brk (T.trimE (1 - J.side) 0) }) else
  if (T.trim (1 - J.side) 0).writeE (1 - J.side) (bodyM (J.g + 1) l) ≠ 0 then ((T.trim (1 - J.side) 0).writeE (1 - J.side) (bodyM (J.g + 1) l), (T.trim (1 - J.side) 0).write (1 - J.side) (bodyM (J.g + 1) l), { J with broken := brk ((T.trim (1 - J.side) 0).writeE (1 - J.side) (bodyM (J.g + 1) l)) }) else
  if ((T.trim (1 - J.side) 0).write (1 - J.side) (bodyM (J.g + 1) l)).ready 0 ≠ 0 then (((T.trim (1 - J.side) 0).write (1 - J.side) (bodyM (J.g + 1) l)).ready 0, ((T.trim (1 - J.side) 0).write (1 - J.side) (bodyM (J.g + 1) l)).sync, { J with broken := brk (((T.trim (1 - J.side) 0).write (1 - J.side) (bodyM (J.g + 1) l)).ready 0) }) else
  (0, ((T.trim (1 - J.side) 0).write (1 - J.side) (bodyM (J.g + 1) l)).sync, ⟨1 - J.side, J.g + 1, l, ((bodyM (J.g + 1) l).length : Int), false⟩)
/-- A journal on an empty tape. -/
def madeM (T : TM) : Int × TM × Option JM :=
  if T.trimE 0 0 ≠ 0 then (T.trimE 0 0, T.trim 0 0, none) else
  if (T.trim 0 0).trimE 1 0 ≠ 0 then ((T.trim 0 0).trimE 1 0, (T.trim 0 0).trim 1 0, none) else
  if ((T.trim 0 0).trim 1 0).writeE 0 (frameM (headR 1 0)) ≠ 0 then (((T.trim 0 0).trim 1 0).writeE 0 (frameM (headR 1 0)), ((T.trim 0 0).trim 1 0).write 0 (frameM (headR 1 0)), none) else
  if (((T.trim 0 0).trim 1 0).write 0 (frameM (headR 1 0))).ready 0 ≠ 0 then ((((T.trim 0 0).trim 1 0).write 0 (frameM (headR 1 0))).ready 0, (((T.trim 0 0).trim 1 0).write 0 (frameM (headR 1 0))).sync, none) else
  (0, (((T.trim 0 0).trim 1 0).write 0 (frameM (headR 1 0))).sync, some ⟨0, 1, [], ((frameM (headR 1 0)).length : Int), false⟩)
/-- The side that counts: its number, its generation, its records behind the head, its bytes, is it torn? -/
def pickM (a b : List (List Int) × Int × Bool × Int × Bool) : Int × (List (List Int) × Int × Bool × Int × Bool) := if a.2.2.2.1 < b.2.2.2.1 then (1, b) else (0, a)
def openM (T : TM) : Int × TM × Option JM :=
  if T.ready 0 ≠ 0 then (T.ready 0, T, none) else
  if (sideM (T.now 0)).2.2.2.2 = false ∨ (sideM (T.now 1)).2.2.2.2 = false then (41, T, none) else
  if (sideM (T.now 0)).2.2.2.1 = 0 ∧ (sideM (T.now 1)).2.2.2.1 = 0 ∧ (sideM (T.now 0)).1.length + (sideM (T.now 1)).1.length = 0 then madeM T else
  if (sideM (T.now 0)).2.2.2.1 = (sideM (T.now 1)).2.2.2.1 then (41, T, none) else
  if (pickM (sideM (T.now 0)) (sideM (T.now 1))).2.2.2.1 = true then
    (if T.trimE (pickM (sideM (T.now 0)) (sideM (T.now 1))).1 (pickM (sideM (T.now 0)) (sideM (T.now 1))).2.2.1 ≠ 0 then (T.trimE (pickM (sideM (T.now 0)) (sideM (T.now 1))).1 (pickM (sideM (T.now 0)) (sideM (T.now 1))).2.2.1, T.trim (pickM (sideM (T.now 0)) (sideM (T.now 1))).1 (pickM (sideM (T.now 0)) (sideM (T.now 1))).2.2.1, none) else
     if (T.trim (pickM (sideM (T.now 0)) (sideM (T.now 1))).1 (pickM (sideM (T.now 0)) (sideM (T.now 1))).2.2.1).ready 0 ≠ 0 then ((T.trim (pickM (sideM (T.now 0)) (sideM (T.now 1))).1 (pickM (sideM (T.now 0)) (sideM (T.now 1))).2.2.1).ready 0, (T.trim (pickM (sideM (T.now 0)) (sideM (T.now 1))).1 (pickM (sideM (T.now 0)) (sideM (T.now 1))).2.2.1).sync, none) else
     (0, (T.trim (pickM (sideM (T.now 0)) (sideM (T.now 1))).1 (pickM (sideM (T.now 0)) (sideM (T.now 1))).2.2.1).sync, some ⟨(pickM (sideM (T.now 0)) (sideM (T.now 1))).1, (pickM (sideM (T.now 0)) (sideM (T.now 1))).2.2.2.2.1, (pickM (sideM (T.now 0)) (sideM (T.now 1))).2.1.drop 1, (pickM (sideM (T.now 0)) (sideM (T.now 1))).2.2.1, false⟩))
  else (0, T, some ⟨(pickM (sideM (T.now 0)) (sideM (T.now 1))).1, (pickM (sideM (T.now 0)) (sideM (T.now 1))).2.2.2.2.1, (pickM (sideM (T.now 0)) (sideM (T.now 1))).2.1.drop 1, (pickM (sideM (T.now 0)) (sideM (T.now 1))).2.2.1, false⟩)
end Go.Proofs.Ytmfmoddaejoekaa.P
