/- moves.May: what it comes to, walked by hand. -/
import Derived.Test.YtcfomfcalpnbcaaMapi
namespace Go.Proofs.Ytcfomfcalpnbcaa.PG
open Go.RowKit Go.Proofs.YtcfomfcalpnbcaaW.PrintWords Go.Proofs.YtcfomfcalpnbcaaW.PrintLast Go.Proofs.YtcfomfcalpnbcaaW.PrintMore
open Go.Maps (Keyed int_keyed keyOf_int_mk IsMap isMap_empty)
set_option linter.unusedVariables false
set_option linter.unusedSimpArgs false
theorem law3 : Keyed Try.prog 3 := int_keyed Try.underlying3
/-- A set of whole numbers that the call has made: block b reads as the list S. -/
def SetI (w : World) (b : Nat) (S : List Int) : Prop := ∃ n, ∃ D : DataW Unit, n ≤ S.length ∧ w.ownsMap Try.prog 3 (plainElem Try.prog 4) b n D ∧ IsMap D ∧ ∀ k : Int, D.atKey (.int .i64 k) (.lit (.bool false)) = .lit (.bool (decide (k ∈ S)))
theorem SetI.made (w : World) : SetI (w.alloc (.map #[] 0)) w.heap.size [] :=
  ⟨0, .map [], Nat.le_refl _, World.ownsMap_made _ _ _ _, isMap_empty, fun k => by simp [DataW.atKey]⟩
theorem SetI.kept {w w' : World} {b : Nat} {S : List Int} {row : Option Nat} (h : SetI w b S) (hg : w.grownBy w' row) (hne : some b ≠ row) : SetI w' b S := by
  obtain ⟨n, D, h1, h2, h3⟩ := h
  exact ⟨n, D, h1, h2.kept hg hne, h3⟩
theorem zero4 (w : World) : (zeroValue 4).run Try.prog w = .ok (.bool false) w := by
  first | rfl | (simp [zeroValue]; done) | (unfold zeroValue; simp; done)
theorem SetI.look {w : World} {b : Nat} {S : List Int} (h : SetI w b S) (x : Int) (hx : (Lit.int .i64 x).wf = true) : (Instr.lookup 54 (.map (some b)) (.int .i64 x) false).run Try.prog w = .ok (.bool (decide (x ∈ S))) w := by
  obtain ⟨n, D, h1, h2, h3, h4⟩ := h
  obtain ⟨v, ps, hrun, hv⟩ := h2.lookup law3 Try.underlying54 (zero4 w) (plainElem_bool Try.underlying4 false) (keyOf_int_mk Try.underlying3 hx)
  rw [h4 x] at hv
  rw [hrun]
  have : v = .bool (decide (x ∈ S)) := by
    unfold plainElem at hv
    rw [Try.underlying4] at hv
    cases v <;> simp at hv
    rename_i y
    rw [hv.1]
  rw [this]
theorem SetI.store {w : World} {b : Nat} {S : List Int} (h : SetI w b S) (x : Int) (hx : (Lit.int .i64 x).wf = true) (hl : S.length < 1000000) : ∃ w', (Instr.mapUpdate 54 (.map (some b)) (.int .i64 x) (.bool true)).run Try.prog w = .ok () w' ∧ SetI w' b (x :: S) ∧ w.grownBy w' (some b) := by
  obtain ⟨n, D, h1, h2, h3, h4⟩ := h
  obtain ⟨w', r1, r2, r3⟩ := h2.update law3 Try.underlying54 (by unfold maxLen; omega) (keyOf_int_mk Try.underlying3 hx) (plainElem_bool Try.underlying4 true)
  refine ⟨w', r1, ⟨n + 1, _, by simp; omega, r2, h3.put _ _, fun k => ?_⟩, r3⟩
  by_cases e : k = x
  · subst e
    rw [Maps.atKey_put_same h3 (law3.key (keyOf_int_mk Try.underlying3 hx))]
    simp
  · rw [Maps.atKey_put_other (by simpa using e), h4]
    simp [e]

/-! ### moves_May: function 13 -/
def moves_May.l0 : Nat → List S34 → List Int → Int → Option Bool
  | 0, _, _, _ => none
  | k + 1, l, S, i => if i < (l.length : Int) then (if 0 ≤ i then (if (Lit.int .i64 (rd_T34 l i).f0).wf = true then (if S.length < 1000000 then (if (rd_T34 l i).f0 ∈ S then some false else moves_May.l0 k l ((rd_T34 l i).f0 :: S) (wrap64 (i + 1))) else none) else none) else none) else some true
def moves_May.f (k : Nat) (l : List S34) : Option Bool := moves_May.l0 k l [] 0
theorem moves_May.mono_l : ∀ k y0 y1 y2, LeO (moves_May.l0 k y0 y1 y2) (moves_May.l0 (k + 1) y0 y1 y2)
  | 0 => fun _ _ _ r h => by simp [moves_May.l0] at h
  | k + 1 => by
      have ih := moves_May.mono_l k
      intro y0 y1 y2
      unfold moves_May.l0
      repeat' first
      | (with_reducible exact ih _ _ _)
      | (with_reducible exact LeO.refl _)
      | (with_reducible exact LeO.none _)
      | (with_reducible refine LeO.ite ?_ ?_)
      | (with_reducible refine LeO.bind ?_ (fun _ => ?_))
      | exact LeO.refl _
      | exact LeO.none _
      | refine LeO.ite ?_ ?_
theorem moves_May.mono : ∀ a0 k, LeO (moves_May.f k a0) (moves_May.f (k + 1) a0) := fun a0 k => moves_May.mono_l k _ _ _
set_option maxHeartbeats 8000000 in
set_option maxRecDepth 100000 in
theorem moves_May.calls (k : Nat) (A0 : Option Addr) (c0 : Nat) (l0 : List S34) (r : Bool) (w : World) (hr0 : Kd.C k34 w A0 l0.length l0) (hc0 : l0.length ≤ c0) (h : moves_May.f k l0 = some r) :
    Calls Try.prog 13 #[.slice A0 l0.length c0] w fun e w' => e = .returned (.bool r) ∧ Below w.heap.size w w' := by
  have hmm := @run_makeMap Try.prog
  have hu34 := Try.underlying34
  have HR0 := Aside0.mk hr0
  have HC0 := Aside0.mk hc0
  clear hr0 hc0
  have H' : Aside0 (moves_May.l0 k l0 [] 0 = some r) := ⟨h⟩
  clear h
  go_enter Try.func13, Try.ntmps13
  go_wp2
  go_loopg [9] k (fun kq v9 w' => ∃ (S : List Int) (i : Int), v9 = .int .i64 i ∧ Aside0 (moves_May.l0 kq l0 S i = some r) ∧ Aside0 (kq ≤ k) ∧ Aside0 (SetI w' w.heap.size S) ∧ Aside0 (Below w.heap.size w w'))
  case atStart => exact ⟨[], 0, rfl, H', ⟨Nat.le_refl _⟩, ⟨SetI.made w⟩, ⟨below_alloc (Below.refl _ _) _⟩⟩
  case round =>
    clear H'
    obtain ⟨S, i, rfl, HA, HK1, HS, HB⟩ := hrel
    cases gk with
    | zero => exact absurd HA.out (by simp [moves_May.l0])
    | succ k1 =>
      have H := HA.out
      clear HA
      simp only [moves_May.l0] at H
      by_cases c1 : i < (l0.length : Int)
      · rw [if_pos c1] at H
        have c1b : decide (i < (l0.length : Int)) = true := decide_eq_true c1
        by_cases c2 : 0 ≤ i
        · rw [if_pos c2] at H
          have c2b : decide (0 ≤ i) = true := decide_eq_true c2
          by_cases c3 : (Lit.int .i64 (rd_T34 l0 i).f0).wf = true
          · rw [if_pos c3] at H
            by_cases c4 : S.length < 1000000
            · rw [if_pos c4] at H
              obtain ⟨ad, e0, hx0, hx1⟩ := at_T34 HR0.out i c2 c1
              cases e0
              replace hx0 := (HB.out.cell (World.block_lt_of_cell? w _ hx0)).trans hx0
              replace hx1 := (HB.out.cell (World.block_lt_of_cell? w _ hx1)).trans hx1
              replace c1 := eq_true c1
              replace c2 := eq_true c2
              go_upto_region 5 with (fail)
              have hSb : w.heap.size < wr.heap.size := by obtain ⟨_, _, _, h2_, _⟩ := HS.out; exact h2_.lt
              refine rebase (P := fun W_ => Code.wp _ _ _ _ W_) (fun W_ => W_.cell? ⟨wr.heap.size, 0, none⟩ = some (.int .i64 (rd_T34 l0 i).f0) ∧ SetI W_ w.heap.size S ∧ Below w.heap.size w W_) ⟨(blk_cell (blk_new wr _) 0).trans rfl, HS.out.kept (World.grownBy_alloc wr _ none) (by simp), below_alloc HB.out _⟩ ?_
              rintro W ⟨hc0, hS0, hB0⟩
              have hlk := hS0.look (rd_T34 l0 i).f0 c3
              obtain ⟨W2, hst, hS2, hg2⟩ := hS0.store (rd_T34 l0 i).f0 c3 c4
              by_cases c5 : (rd_T34 l0 i).f0 ∈ S
              · rw [if_pos c5] at H
                obtain rfl := Option.some.inj H
                have c5b : decide ((rd_T34 l0 i).f0 ∈ S) = true := decide_eq_true c5
                rw [c5b] at hlk
                go_wp2
                go_ret
                exact ⟨rfl, hB0⟩
              · rw [if_neg c5] at H
                have c5b : decide ((rd_T34 l0 i).f0 ∈ S) = false := decide_eq_false c5
                rw [c5b] at hlk
                go_wp2
                go_roundg k1
                case measure => have := HK1.out; omega
                case rel => exact ⟨_, _, rfl, ⟨H⟩, ⟨by have := HK1.out; omega⟩, ⟨hS2⟩, ⟨hB0.grown hg2 hB0.size (fun j hj => by cases hj; exact Nat.le_refl _)⟩⟩
            · rw [if_neg c4] at H
              exact absurd H (by simp)
          · rw [if_neg c3] at H
            exact absurd H (by simp)
        · rw [if_neg c2] at H
          exact absurd H (by simp)
      · rw [if_neg c1] at H
        have c1b : decide (i < (l0.length : Int)) = false := decide_eq_false c1
        obtain rfl := Option.some.inj H
        go_wp2
        go_ret
        exact ⟨rfl, HB.out⟩
end Go.Proofs.Ytcfomfcalpnbcaa.PG
