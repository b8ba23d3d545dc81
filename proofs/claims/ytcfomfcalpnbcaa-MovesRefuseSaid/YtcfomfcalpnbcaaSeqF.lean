/- moves.Sequence: what it comes to, as a function. -/
import Derived.Test.YtcfomfcalpnbcaaPGx1
import Derived.Test.YtcfomfcalpnbcaaCont
import Derived.Test.YtcfomfcalpnbcaaDo1
import Derived.Test.YtcfomfcalpnbcaaClip
namespace Go.Proofs.Ytcfomfcalpnbcaa.PG
open Go.RowKit Go.Proofs.YtcfomfcalpnbcaaW.PrintWords Go.Proofs.YtcfomfcalpnbcaaW.PrintLast Go.Proofs.YtcfomfcalpnbcaaW.PrintMore
set_option linter.unusedVariables false
abbrev Mp := List (Int × Option Int)
def wf64 (x : Int) : Bool := (Lit.int .i64 x).wf
mutual
/-- Both maps. -/
def seq0 : Nat → List S34 → Int → Mp → Mp → Int → Option (List S34)
  | 0, _, _, _, _, _ => none
  | k + 1, l, sc, mF, mN, i => if i < (l.length : Int) then (if 0 ≤ i then (if wf64 (rd_T34 l i).f0 = true then (if wf64 (rd_T34 l i).f1 = true then (if mF.length < 1000000 then (if mN.length < 1000000 then (if (rd_T34 l i).f0 = (rd_T34 l i).f1 then seq0 k l sc mF mN (wrap64 (i + 1)) else seq0 k l sc (((rd_T34 l i).f0, some (rd_T34 l i).f1) :: mF) (((rd_T34 l i).f1, some (wrap64 ((mval mN (rd_T34 l i).f1).getD 0 + 1))) :: mN) (wrap64 (i + 1))) else none) else none) else none) else none) else none) else seq1 k l sc mF mN [] 0
/-- What is ready. -/
def seq1 : Nat → List S34 → Int → Mp → Mp → List Int → Int → Option (List S34)
  | 0, _, _, _, _, _, _ => none
  | k + 1, l, sc, mF, mN, ready, i => if i < (l.length : Int) then (if 0 ≤ i then (if wf64 (rd_T34 l i).f0 = true then (if ready.length < 1000000 then (if (mval mF (rd_T34 l i).f0).isSome = true then (if (mval mN (rd_T34 l i).f0).getD 0 = 0 then seq1 k l sc mF mN (ready ++ [(rd_T34 l i).f0]) (wrap64 (i + 1)) else seq1 k l sc mF mN ready (wrap64 (i + 1))) else seq1 k l sc mF mN ready (wrap64 (i + 1))) else none) else none) else none) else seq2 k l sc mF mN ready []
/-- Moves that nothing waits for. -/
def seq2 : Nat → List S34 → Int → Mp → Mp → List Int → List S34 → Option (List S34)
  | 0, _, _, _, _, _, _ => none
  | k + 1, l, sc, mF, mN, ready, out => if (ready.length : Int) > 0 then (if wf64 (rd ready 0) = true then (if out.length < 1000000 then (if mF.length < 1000000 then (if mN.length < 1000000 then (if ready.length < 1000000 then (if (mval ((rd ready 0, none) :: mF) ((mval mF (rd ready 0)).getD 0)).isSome = true ∧ wrap64 ((mval mN ((mval mF (rd ready 0)).getD 0)).getD 0 - 1) = 0 then seq2 k l sc ((rd ready 0, none) :: mF) (((mval mF (rd ready 0)).getD 0, some (wrap64 ((mval mN ((mval mF (rd ready 0)).getD 0)).getD 0 - 1))) :: mN) (ready.drop 1 ++ [(mval mF (rd ready 0)).getD 0]) (out ++ [⟨rd ready 0, (mval mF (rd ready 0)).getD 0⟩]) else seq2 k l sc ((rd ready 0, none) :: mF) (((mval mF (rd ready 0)).getD 0, some (wrap64 ((mval mN ((mval mF (rd ready 0)).getD 0)).getD 0 - 1))) :: mN) (ready.drop 1) (out ++ [⟨rd ready 0, (mval mF (rd ready 0)).getD 0⟩])) else none) else none) else none) else none) else none) else seq3 k l sc mF mN out 0
/-- The circles. -/
def seq3 : Nat → List S34 → Int → Mp → Mp → List S34 → Int → Option (List S34)
  | 0, _, _, _, _, _, _ => none
  | k + 1, l, sc, mF, mN, out, i => if i < (l.length : Int) then (if 0 ≤ i then (if wf64 (rd_T34 l i).f0 = true then (if out.length < 1000000 then (if (mval mF (rd_T34 l i).f0).isSome = true then seq4 k l sc mF mN (out ++ [⟨sc, (rd_T34 l i).f0⟩]) (rd_T34 l i).f0 (rd_T34 l i).f0 ((mval mF (rd_T34 l i).f0).getD 0) else seq3 k l sc mF mN out (wrap64 (i + 1))) else none) else none) else none) else some out
/-- One circle: its first place, the place to be written, where from. -/
def seq4 : Nat → List S34 → Int → Mp → Mp → List S34 → Int → Int → Int → Option (List S34)
  | 0, _, _, _, _, _, _, _, _ => none
  | k + 1, l, sc, mF, mN, out, tgt, tt, fr => if wf64 tt = true then (if wf64 fr = true then (if mF.length < 1000000 then (if out.length < 1000000 then (if fr = tgt then seq2 k l sc ((tt, none) :: mF) mN [] (out ++ [⟨tt, sc⟩]) else seq4 k l sc ((tt, none) :: mF) mN (out ++ [⟨tt, fr⟩]) tgt fr ((mval ((tt, none) :: mF) fr).getD 0)) else none) else none) else none) else none
end
def moves_Sequence.f (k : Nat) (l : List S34) (sc : Int) : Option (List S34) := (moves_May.f k l).bind fun may => if may = true then ((ix_l0 k l sc 0).bind fun ix => if ix ≥ 0 then some [] else seq0 k l sc [] [] 0) else some []
theorem seq_mono : ∀ k, (∀ y0 y1 y2 y3 y4, LeO (seq0 k y0 y1 y2 y3 y4) (seq0 (k + 1) y0 y1 y2 y3 y4)) ∧ (∀ y0 y1 y2 y3 y4 y5, LeO (seq1 k y0 y1 y2 y3 y4 y5) (seq1 (k + 1) y0 y1 y2 y3 y4 y5)) ∧ (∀ y0 y1 y2 y3 y4 y5, LeO (seq2 k y0 y1 y2 y3 y4 y5) (seq2 (k + 1) y0 y1 y2 y3 y4 y5)) ∧ (∀ y0 y1 y2 y3 y4 y5, LeO (seq3 k y0 y1 y2 y3 y4 y5) (seq3 (k + 1) y0 y1 y2 y3 y4 y5)) ∧ (∀ y0 y1 y2 y3 y4 y5 y6 y7, LeO (seq4 k y0 y1 y2 y3 y4 y5 y6 y7) (seq4 (k + 1) y0 y1 y2 y3 y4 y5 y6 y7))
  | 0 => ⟨fun _ _ _ _ _ r h => by simp [seq0] at h, fun _ _ _ _ _ _ r h => by simp [seq1] at h, fun _ _ _ _ _ _ r h => by simp [seq2] at h, fun _ _ _ _ _ _ r h => by simp [seq3] at h, fun _ _ _ _ _ _ _ _ r h => by simp [seq4] at h⟩
  | k + 1 => by
    obtain ⟨ih0, ih1, ih2, ih3, ih4⟩ := seq_mono k
    refine ⟨?_, ?_, ?_, ?_, ?_⟩
    · intro y0 y1 y2 y3 y4
      unfold seq0
      repeat' first
      | (with_reducible exact ih0 _ _ _ _ _)
      | (with_reducible exact ih1 _ _ _ _ _ _)
      | (with_reducible exact ih2 _ _ _ _ _ _)
      | (with_reducible exact ih3 _ _ _ _ _ _)
      | (with_reducible exact ih4 _ _ _ _ _ _ _ _)
      | (with_reducible exact LeO.refl _)
      | (with_reducible exact LeO.none _)
      | (with_reducible refine LeO.ite ?_ ?_)
      | exact LeO.refl _
      | exact LeO.none _
      | refine LeO.ite ?_ ?_
    · intro y0 y1 y2 y3 y4 y5
      unfold seq1
      repeat' first
      | (with_reducible exact ih0 _ _ _ _ _)
      | (with_reducible exact ih1 _ _ _ _ _ _)
      | (with_reducible exact ih2 _ _ _ _ _ _)
      | (with_reducible exact ih3 _ _ _ _ _ _)
      | (with_reducible exact ih4 _ _ _ _ _ _ _ _)
      | (with_reducible exact LeO.refl _)
      | (with_reducible exact LeO.none _)
      | (with_reducible refine LeO.ite ?_ ?_)
      | exact LeO.refl _
      | exact LeO.none _
      | refine LeO.ite ?_ ?_
    · intro y0 y1 y2 y3 y4 y5
      unfold seq2
      repeat' first
      | (with_reducible exact ih0 _ _ _ _ _)
      | (with_reducible exact ih1 _ _ _ _ _ _)
      | (with_reducible exact ih2 _ _ _ _ _ _)
      | (with_reducible exact ih3 _ _ _ _ _ _)
      | (with_reducible exact ih4 _ _ _ _ _ _ _ _)
      | (with_reducible exact LeO.refl _)
      | (with_reducible exact LeO.none _)
      | (with_reducible refine LeO.ite ?_ ?_)
      | exact LeO.refl _
      | exact LeO.none _
      | refine LeO.ite ?_ ?_
    · intro y0 y1 y2 y3 y4 y5
      unfold seq3
      repeat' first
      | (with_reducible exact ih0 _ _ _ _ _)
      | (with_reducible exact ih1 _ _ _ _ _ _)
      | (with_reducible exact ih2 _ _ _ _ _ _)
      | (with_reducible exact ih3 _ _ _ _ _ _)
      | (with_reducible exact ih4 _ _ _ _ _ _ _ _)
      | (with_reducible exact LeO.refl _)
      | (with_reducible exact LeO.none _)
      | (with_reducible refine LeO.ite ?_ ?_)
      | exact LeO.refl _
      | exact LeO.none _
      | refine LeO.ite ?_ ?_
    · intro y0 y1 y2 y3 y4 y5 y6 y7
      unfold seq4
      repeat' first
      | (with_reducible exact ih0 _ _ _ _ _)
      | (with_reducible exact ih1 _ _ _ _ _ _)
      | (with_reducible exact ih2 _ _ _ _ _ _)
      | (with_reducible exact ih3 _ _ _ _ _ _)
      | (with_reducible exact ih4 _ _ _ _ _ _ _ _)
      | (with_reducible exact LeO.refl _)
      | (with_reducible exact LeO.none _)
      | (with_reducible refine LeO.ite ?_ ?_)
      | exact LeO.refl _
      | exact LeO.none _
      | refine LeO.ite ?_ ?_
theorem ix_mono : ∀ k y0 y1 y2, LeO (ix_l0 k y0 y1 y2) (ix_l0 (k + 1) y0 y1 y2)
  | 0 => fun _ _ _ r h => by simp [ix_l0] at h
  | k + 1 => by
      have ih := ix_mono k
      intro y0 y1 y2
      unfold ix_l0
      repeat' first
      | (with_reducible exact ih _ _ _)
      | (with_reducible exact LeO.refl _)
      | (with_reducible exact LeO.none _)
      | (with_reducible refine LeO.ite ?_ ?_)
      | (with_reducible refine LeO.bind ?_ (fun _ => ?_))
      | exact LeO.refl _
      | exact LeO.none _
      | refine LeO.ite ?_ ?_
theorem moves_Sequence.mono : ∀ a0 a1 k, LeO (moves_Sequence.f k a0 a1) (moves_Sequence.f (k + 1) a0 a1) := by
  intro a0 a1 k
  unfold moves_Sequence.f
  refine LeO.bind (moves_May.mono _ _) (fun _ => LeO.ite (LeO.bind (ix_mono _ _ _ _) (fun _ => LeO.ite (LeO.refl _) ((seq_mono k).1 _ _ _ _ _))) (LeO.refl _))
end Go.Proofs.Ytcfomfcalpnbcaa.PG
