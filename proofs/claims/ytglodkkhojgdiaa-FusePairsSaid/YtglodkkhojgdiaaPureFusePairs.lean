/- Plain law: which two make one, and which one, is what the document says, of any two instructions; an instruction that comes in as an argument reads as five numbers. -/
import Derived.Test.YtglodkkhojgdiaaFP
namespace Go.Proofs.Ytglodkkhojgdiaa.Pure
open Go.RowKit Go.Proofs.Ytglodkkhojgdiaa.PG Go.Proofs.YtglodkkhojgdiaaW.PrintWords Go.Proofs.YtglodkkhojgdiaaW.PrintLast Go.ChangeShapes Go.WideShapes
set_option linter.unusedVariables false
set_option linter.unusedSimpArgs false

theorem awakeIs : Ev (fun k => ratlinelaw21_awake.f k) true :=
  Ev.of (g := fun k => ratlinelaw21_awake.f k) (fun k => ratlinelaw21_awake.mono k) (k := 100) (by decide +kernel)
theorem someIf {α : Type} {c : Prop} [Decidable c] {x y : Option α} (hx : x.isSome = true) (hy : y.isSome = true) : (if c then x else y).isSome = true := by
  split
  · exact hx
  · exact hy
theorem ifF {α : Type} (F : Bool → α) (p q : Prop) [Decidable p] [Decidable q] : (if p then F (decide q) else F false) = F (decide (p ∧ q)) := by
  by_cases hp : p
  · rw [if_pos hp]
    exact congrArg F (decide_eq_decide.mpr ⟨fun h => ⟨hp, h⟩, fun h => h.2⟩)
  · rw [if_neg hp]
    exact congrArg F (decide_eq_false (fun h => hp h.1)).symm
theorem plainIs (a b c d e : Int) : ∃ t, Ev (fun k => ratlinelaw21_plain.f k a b c d e) t := by
  have h : (ratlinelaw21_plain.f 5 a b c d e).isSome = true := by
    simp only [ratlinelaw21_plain.f, ratlinelaw21_plain.j0, ratlinelaw21_plain.j1]
    repeat' first
      | rfl
      | apply someIf
  obtain ⟨t, ht⟩ := Option.isSome_iff_exists.mp h
  exact ⟨t, Ev.of (g := fun k => ratlinelaw21_plain.f k a b c d e) (fun k => ratlinelaw21_plain.mono a b c d e k) ht⟩
/-- What two make, in plain words. -/
def two (a0 a1 a2 b0 b1 b2 : Int) : Int × Int × Int × Int × Int × Bool :=
  if a0 = 2 ∧ b0 = 2 ∧ a1 ≥ 0 ∧ a2 ≥ 0 ∧ b1 ≥ 0 ∧ b2 ≥ 0 ∧ a1 < 64 ∧ a2 < 64 ∧ b1 < 64 ∧ b2 < 64 then (15, a1, a2, b1, b2, true)
  else if a0 = 1 ∧ b0 = 7 ∧ a1 = b1 ∧ a2 ≥ 0 ∧ a2 ≤ 60000 then (16, a2, 0, 0, 0, true)
  else if a0 = 9 ∧ b0 = 4 ∧ a1 ≥ 0 ∧ a1 ≤ 4095 ∧ b1 ≥ 0 ∧ b1 ≤ 4095 then (17, a1, b1, 0, 0, true)
  else (0, 0, 0, 0, 0, false)
theorem ifand {α : Type} {p q : Prop} [Decidable p] [Decidable q] (x y : α) : (if p then (if q then x else y) else y) = if p ∧ q then x else y := by
  by_cases hp : p <;> by_cases hq : q <;> simp [hp, hq]
theorem refIs (a0 a1 a2 a3 a4 b0 b1 b2 b3 b4 : Int) : ratlineref21_Pair.f 4 a0 a1 a2 a3 a4 b0 b1 b2 b3 b4 = some (two a0 a1 a2 b0 b1 b2) := by
  have j1 : ∀ x, ratlineref21_Pair.j1 3 x a0 a1 a2 a3 a4 b0 b1 b2 b3 b4 = some (if x = true then (16, a2, 0, 0, 0, true) else if a0 = 9 ∧ b0 = 4 ∧ a1 ≥ 0 ∧ a1 ≤ 4095 ∧ b1 ≥ 0 ∧ b1 ≤ 4095 then (17, a1, b1, 0, 0, true) else (0, 0, 0, 0, 0, false)) := by
    intro x
    rw [ratlineref21_Pair.j1, ifand, ifand, ifand, ifand, ifand]
    split
    · rfl
    · split
      · rw [if_pos (by omega)]
      · rw [if_neg (by omega)]
  have j0 : ∀ x, ratlineref21_Pair.j0 4 x a0 a1 a2 a3 a4 b0 b1 b2 b3 b4 = some (if x = true then (15, a1, a2, b1, b2, true) else if a0 = 1 ∧ b0 = 7 ∧ a1 = b1 ∧ a2 ≥ 0 ∧ a2 ≤ 60000 then (16, a2, 0, 0, 0, true) else if a0 = 9 ∧ b0 = 4 ∧ a1 ≥ 0 ∧ a1 ≤ 4095 ∧ b1 ≥ 0 ∧ b1 ≤ 4095 then (17, a1, b1, 0, 0, true) else (0, 0, 0, 0, 0, false)) := by
    intro x
    rw [ratlineref21_Pair.j0]
    by_cases hx : x = true
    · rw [if_pos hx, if_pos hx]
    rw [if_neg hx, if_neg hx]
    obtain ⟨J, hJ⟩ : ∃ J : Bool → Option (Int × Int × Int × Int × Int × Bool), ∀ y, ratlineref21_Pair.j1 3 y a0 a1 a2 a3 a4 b0 b1 b2 b3 b4 = J y := ⟨_, fun _ => rfl⟩
    simp only [hJ, ge_iff_le]
    rw [ifF J, ifF J, ifF J, ifF J, ← hJ]
    rw [j1]
    simp only [decide_eq_true_eq, ge_iff_le]
  obtain ⟨J, hJ⟩ : ∃ J : Bool → Option (Int × Int × Int × Int × Int × Bool), ∀ y, ratlineref21_Pair.j0 4 y a0 a1 a2 a3 a4 b0 b1 b2 b3 b4 = J y := ⟨_, fun _ => rfl⟩
  unfold ratlineref21_Pair.f
  simp only [hJ, ge_iff_le]
  rw [ifF J, ifF J, ifF J, ifF J, ifF J, ifF J, ifF J, ifF J, ifF J, ← hJ, j0, two]
  simp only [decide_eq_true_eq, ge_iff_le]
theorem outB_iff (m n : Int) : outB m n = true ↔ n < 0 ∨ n > m := by
  simp only [outB, Bool.or_eq_true, decide_eq_true_eq]
theorem pairIs (a0 a1 a2 a3 a4 b0 b1 b2 b3 b4 : Int) : fuse_Pair.f 0 a0 a1 a2 a3 a4 b0 b1 b2 b3 b4 = some (two a0 a1 a2 b0 b1 b2) := by
  unfold fuse_Pair.f two
  simp only [Bool.and_eq_true, beq_iff_eq, List.any_cons, List.any_nil, Bool.or_eq_true, outB_iff, Bool.false_eq_true, or_false]
  by_cases h1 : a0 = 2 ∧ b0 = 2
  · rw [if_pos h1]
    by_cases h2 : a1 ≥ 0 ∧ a2 ≥ 0 ∧ b1 ≥ 0 ∧ b2 ≥ 0 ∧ a1 < 64 ∧ a2 < 64 ∧ b1 < 64 ∧ b2 < 64
    · rw [if_neg (by omega), if_pos ⟨h1.1, h1.2, h2⟩]
    · rw [if_pos (by omega), if_neg (fun h => h2 h.2.2), if_neg (by omega), if_neg (by omega)]
  · have n1 : ¬ (a0 = 2 ∧ b0 = 2 ∧ a1 ≥ 0 ∧ a2 ≥ 0 ∧ b1 ≥ 0 ∧ b2 ≥ 0 ∧ a1 < 64 ∧ a2 < 64 ∧ b1 < 64 ∧ b2 < 64) := fun h => h1 ⟨h.1, h.2.1⟩
    rw [if_neg h1, if_neg n1]
    by_cases h3 : a0 = 1 ∧ b0 = 7
    · rw [if_pos h3]
      by_cases h4 : a1 = b1
      · rw [if_pos h4]
        by_cases h5 : a2 ≥ 0 ∧ a2 ≤ 60000
        · have n2 : ¬ (a2 < 0 ∨ a2 > 60000) := by omega
          rw [if_neg n2, if_pos ⟨h3.1, h3.2, h4, h5⟩]
        · have n2 : a2 < 0 ∨ a2 > 60000 := by omega
          have n3 : ¬ (a0 = 1 ∧ b0 = 7 ∧ a1 = b1 ∧ a2 ≥ 0 ∧ a2 ≤ 60000) := fun h => h5 h.2.2.2
          have n4 : ¬ (a0 = 9 ∧ b0 = 4 ∧ a1 ≥ 0 ∧ a1 ≤ 4095 ∧ b1 ≥ 0 ∧ b1 ≤ 4095) := by omega
          rw [if_pos n2, if_neg n3, if_neg n4]
      · have n3 : ¬ (a0 = 1 ∧ b0 = 7 ∧ a1 = b1 ∧ a2 ≥ 0 ∧ a2 ≤ 60000) := fun h => h4 h.2.2.1
        have n4 : ¬ (a0 = 9 ∧ b0 = 4 ∧ a1 ≥ 0 ∧ a1 ≤ 4095 ∧ b1 ≥ 0 ∧ b1 ≤ 4095) := by omega
        rw [if_neg h4, if_neg n3, if_neg n4]
    · have n3 : ¬ (a0 = 1 ∧ b0 = 7 ∧ a1 = b1 ∧ a2 ≥ 0 ∧ a2 ≤ 60000) := fun h => h3 ⟨h.1, h.2.1⟩
      rw [if_neg h3, if_neg n3]
      by_cases h6 : a0 = 9 ∧ b0 = 4
      · rw [if_pos h6]
        by_cases h7 : a1 ≥ 0 ∧ a1 ≤ 4095 ∧ b1 ≥ 0 ∧ b1 ≤ 4095
        · have n4 : ¬ ((a1 < 0 ∨ a1 > 4095) ∨ (b1 < 0 ∨ b1 > 4095)) := by omega
          rw [if_neg n4, if_pos ⟨h6.1, h6.2, h7⟩]
        · have n4 : (a1 < 0 ∨ a1 > 4095) ∨ (b1 < 0 ∨ b1 > 4095) := by omega
          rw [if_pos n4, if_neg (fun h => h7 h.2.2)]
      · rw [if_neg h6, if_neg (fun h => h6 ⟨h.1, h.2.1⟩)]
theorem FusePairs (a0 a1 a2 a3 a4 b0 b1 b2 b3 b4 : Int) : ∃ k, ratlinelaw21_FusePairs.f k a0 a1 a2 a3 a4 b0 b1 b2 b3 b4 = some true := by
  refine Ev.rounds (g := fun k => ratlinelaw21_FusePairs.f k a0 a1 a2 a3 a4 b0 b1 b2 b3 b4) ?_
  have hp : Ev (fun k => fuse_Pair.f k a0 a1 a2 a3 a4 b0 b1 b2 b3 b4) (two a0 a1 a2 b0 b1 b2) := ⟨0, fun _ _ => pairIs a0 a1 a2 a3 a4 b0 b1 b2 b3 b4⟩
  have hr : Ev (fun k => ratlineref21_Pair.f k a0 a1 a2 a3 a4 b0 b1 b2 b3 b4) (two a0 a1 a2 b0 b1 b2) := Ev.of (g := fun k => ratlineref21_Pair.f k a0 a1 a2 a3 a4 b0 b1 b2 b3 b4) (fun k => ratlineref21_Pair.mono a0 a1 a2 a3 a4 b0 b1 b2 b3 b4 k) (refIs a0 a1 a2 a3 a4 b0 b1 b2 b3 b4)
  have hj : ∀ x, Ev (fun k => ratlinelaw21_FusePairs.j0 k x a0 a1 a2 a3 a4 b0 b1 b2 b3 b4) true := by
    intro x
    by_cases hx : x = true
    · exact Ev.step (fun k => by rw [ratlinelaw21_FusePairs.j0, if_pos hx]) (Ev.bind awakeIs (Ev.now _))
    · refine Ev.step (fun k => by rw [ratlinelaw21_FusePairs.j0, if_neg hx]) (Ev.bind hp (Ev.bind hr ?_))
      refine Ev.congr (fun k => by rw [if_pos (by simp), if_pos (by simp)]) (Ev.bind awakeIs (Ev.now _))
  obtain ⟨t, ht⟩ := plainIs a0 a1 a2 a3 a4
  obtain ⟨u, hu⟩ := plainIs b0 b1 b2 b3 b4
  refine Ev.bind ht ?_
  by_cases hc : t = true
  · exact Ev.congr (fun k => by rw [if_pos hc]) (Ev.bind hu (hj _))
  · exact Ev.congr (fun k => by rw [if_neg hc]) (hj true)

/-- An instruction that comes in as an argument: five numbers. -/
theorem insIn {H : Type} {enc : TypeId × Value → H} {P : Program} {w : World} {base b2 : Nat} {held : Bool} {t : TypeId} {f0 f1 f2 f3 f4 : Field} {v : Value} {d : DataW H} {p : List MemPlace}
    (ht : P.underlying t = some (.struct #[f0, f1, f2, f3, f4])) (o0 : f0.offset = 0) (o1 : f1.offset = 1) (o2 : f2.offset = 2) (o3 : f3.offset = 3) (o4 : f4.offset = 4)
    (t0 : f0.type = 3) (t1 : f1.type = 3) (t2 : f2.type = 3) (t3 : f3.type = 3) (t4 : f4.type = 3) (c3 : P.cellsOf 3 = 1) (ct : P.cellsOf t = 5) (i3 : P.underlying 3 = some (.int .i64))
    (hv : Value.okWide P w .any b2 t v) (h : DataW.Trod enc P w base (fun _ => true) held t v d p) :
    ∃ a b c e f : Int, v = .agg #[.int .i64 a, .int .i64 b, .int .i64 c, .int .i64 e, .int .i64 f] := by
  obtain ⟨cs, rfl, hsz⟩ := okWide_struct ht hv
  obtain ⟨fuel, hf⟩ := h
  obtain ⟨xs, n, _, _, hl, hlen, hfs⟩ := DataW.trod_struct ht hf
  rw [ct] at hsz hl
  have hcs : (Value.agg cs).cells.toList = cs.toList := rfl
  rw [hcs] at hfs hl
  match hc : cs.toList, hl with
  | [v0, v1, v2, v3, v4], _ =>
    rw [hc] at hfs
    have one : ∀ (i : Nat) (f : Field) (u : Value), #[f0, f1, f2, f3, f4][i]? = some f → f.type = 3 → ([v0, v1, v2, v3, v4].drop f.offset).take 1 = [u] → ∃ m : Int, u = .int .i64 m := by
      intro i f u hi h3 hu
      have := hfs i f hi
      rw [h3, c3, hu] at this
      have hx : xs[i]? ≠ none := by
        intro hn
        rw [List.getElem?_eq_none_iff, hlen] at hn
        have := Array.getElem?_eq_some_iff.mp hi
        obtain ⟨h1, _⟩ := this
        omega
      cases hxi : xs[i]? with
      | none => exact absurd hxi hx
      | some y =>
        rw [hxi] at this
        obtain ⟨m, hm, _, _⟩ := DataW.trod_int i3 this
        exact ⟨m, by simpa using hm⟩
    obtain ⟨m0, rfl⟩ := one 0 f0 v0 rfl t0 (by rw [o0]; rfl)
    obtain ⟨m1, rfl⟩ := one 1 f1 v1 rfl t1 (by rw [o1]; rfl)
    obtain ⟨m2, rfl⟩ := one 2 f2 v2 rfl t2 (by rw [o2]; rfl)
    obtain ⟨m3, rfl⟩ := one 3 f3 v3 rfl t3 (by rw [o3]; rfl)
    obtain ⟨m4, rfl⟩ := one 4 f4 v4 rfl t4 (by rw [o4]; rfl)
    exact ⟨m0, m1, m2, m3, m4, congrArg Value.agg (Array.toList_inj.mp hc)⟩
end Go.Proofs.Ytglodkkhojgdiaa.Pure
