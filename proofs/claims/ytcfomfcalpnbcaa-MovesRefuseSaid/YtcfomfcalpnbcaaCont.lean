/- slices.ContainsFunc over moves with Sequence's own test (a place of the move is the scratch place), walked by hand. -/
import Derived.Test.YtcfomfcalpnbcaaMapi
namespace Go.Proofs.Ytcfomfcalpnbcaa.PG
open Go.RowKit Go.Proofs.YtcfomfcalpnbcaaW.PrintWords Go.Proofs.YtcfomfcalpnbcaaW.PrintLast Go.Proofs.YtcfomfcalpnbcaaW.PrintMore
set_option linter.unusedVariables false
set_option linter.unusedSimpArgs false
def hitM (x : S34) (sc : Int) : Bool := decide (x.f0 = sc) || decide (x.f1 = sc)
set_option maxHeartbeats 8000000 in
set_option maxRecDepth 100000 in
theorem pred_calls (x : S34) (sc : Int) (P0 : Addr) (w : World) (hp : w.cell? P0 = some (.int .i64 sc)) :
    Calls Try.prog 17 #[.agg #[.int .i64 x.f0, .int .i64 x.f1], .pointer (some P0)] w fun e w' => e = .returned (.bool (hitM x sc)) ∧ Below w.heap.size w w' := by
  have hu34 := Try.underlying34
  go_enter Try.func17, Try.ntmps17
  go_upto_region 1 with (fail)
  have hlt := World.block_lt_of_cell? w _ hp
  refine rebase (P := fun W_ => Code.wp _ _ _ _ W_) (fun W_ => W_.cell? ⟨w.heap.size, 0, none⟩ = some (.int .i64 x.f0) ∧ W_.cell? ⟨w.heap.size, 1, none⟩ = some (.int .i64 x.f1) ∧ W_.cell? P0 = some (.int .i64 sc) ∧ Below w.heap.size w W_) ⟨(blk_cell (blk_new w _) 0).trans rfl, (blk_cell (blk_new w _) 1).trans rfl, ((below_alloc (Below.refl w.heap.size w) _).cell hlt).trans hp, below_alloc (Below.refl _ _) _⟩ ?_
  rintro W ⟨h0, h1, h2, hB⟩
  by_cases c1 : x.f0 = sc
  · have c1b : (x.f0 == sc) = true := beq_iff_eq.mpr c1
    go_wp2
    go_ret
    exact ⟨by simp [hitM, c1], hB⟩
  · have c1b : (x.f0 == sc) = false := beq_eq_false_iff_ne.mpr c1
    by_cases c2 : x.f1 = sc
    · have c2b : (x.f1 == sc) = true := beq_iff_eq.mpr c2
      go_wp2
      go_ret
      exact ⟨by simp [hitM, c1, c2], hB⟩
    · have c2b : (x.f1 == sc) = false := beq_eq_false_iff_ne.mpr c2
      go_wp2
      go_ret
      exact ⟨by simp [hitM, c1, c2], hB⟩
def ix_l0 : Nat → List S34 → Int → Int → Option Int
  | 0, _, _, _ => none
  | k + 1, l, sc, i => if i < (l.length : Int) then (if 0 ≤ i then (if hitM (rd_T34 l i) sc = true then some i else ix_l0 k l sc (wrap64 (i + 1))) else none) else some (-1)
set_option maxHeartbeats 8000000 in
set_option maxRecDepth 100000 in
theorem ix_calls (k : Nat) (A0 : Option Addr) (c0 : Nat) (l0 : List S34) (sc : Int) (P0 : Addr) (r : Int) (w : World) (hr0 : Kd.C k34 w A0 l0.length l0) (hc0 : l0.length ≤ c0) (hp : w.cell? P0 = some (.int .i64 sc)) (h : ix_l0 k l0 sc 0 = some r) :
    Calls Try.prog 24 #[.slice A0 l0.length c0, .func (.func 17) #[] #[.pointer (some P0)]] w fun e w' => e = .returned (.int .i64 r) ∧ Below w.heap.size w w' := by
  have hu34 := Try.underlying34
  have HR0 := Aside0.mk hr0
  have HC0 := Aside0.mk hc0
  have HP := Aside0.mk hp
  clear hr0 hc0 hp
  have H' := Aside0.mk h
  clear h
  go_enter Try.func24, Try.ntmps24
  go_wp2
  go_loopg [8] k (fun kq v8 w' => ∃ (i : Int), v8 = .int .i64 i ∧ Aside0 (ix_l0 kq l0 sc i = some r) ∧ Aside0 (kq ≤ k) ∧ Aside0 (Below w.heap.size w w'))
  case atStart => exact ⟨0, rfl, H', ⟨Nat.le_refl _⟩, ⟨Below.refl _ _⟩⟩
  case round =>
    clear H'
    obtain ⟨i, rfl, HA, HK1, HB⟩ := hrel
    cases gk with
    | zero => exact absurd HA.out (by simp [ix_l0])
    | succ k1 =>
      have H := HA.out
      clear HA
      simp only [ix_l0] at H
      by_cases c1 : i < (l0.length : Int)
      · rw [if_pos c1] at H
        have c1b : decide (i < (l0.length : Int)) = true := decide_eq_true c1
        by_cases c2 : 0 ≤ i
        · rw [if_pos c2] at H
          have c2b : decide (0 ≤ i) = true := decide_eq_true c2
          obtain ⟨ad, e0, hx0, hx1⟩ := at_T34 HR0.out i c2 c1
          cases e0
          replace hx0 := (HB.out.cell (World.block_lt_of_cell? w _ hx0)).trans hx0
          replace hx1 := (HB.out.cell (World.block_lt_of_cell? w _ hx1)).trans hx1
          replace c1 := eq_true c1
          replace c2 := eq_true c2
          have hpp := (HB.out.cell (World.block_lt_of_cell? w _ HP.out)).trans HP.out
          by_cases c3 : hitM (rd_T34 l0 i) sc = true
          · rw [if_pos c3] at H
            obtain rfl := Option.some.inj H
            go_wp2_with (go_at_call 17; refine (pred_calls (rd_T34 l0 i) sc P0 _ hpp).mono ?_; rw [c3]; rintro e w' ⟨rfl, hb⟩)
            go_ret
            exact ⟨rfl, below_step HB.out hb⟩
          · rw [if_neg c3] at H
            have c3b : hitM (rd_T34 l0 i) sc = false := by simpa using c3
            go_wp2_with (go_at_call 17; refine (pred_calls (rd_T34 l0 i) sc P0 _ hpp).mono ?_; rw [c3b]; rintro e w' ⟨rfl, hb⟩)
            go_roundg k1
            case measure => have := HK1.out; omega
            case rel => exact ⟨_, rfl, ⟨H⟩, ⟨by have := HK1.out; omega⟩, ⟨below_step HB.out hb⟩⟩
        · rw [if_neg c2] at H
          exact absurd H (by simp)
      · rw [if_neg c1] at H
        have c1b : decide (i < (l0.length : Int)) = false := decide_eq_false c1
        obtain rfl := Option.some.inj H
        go_wp2
        go_ret
        exact ⟨rfl, HB.out⟩
set_option maxHeartbeats 8000000 in
set_option maxRecDepth 100000 in
theorem cont_calls (k : Nat) (A0 : Option Addr) (c0 : Nat) (l0 : List S34) (sc : Int) (P0 : Addr) (r : Int) (w : World) (hr0 : Kd.C k34 w A0 l0.length l0) (hc0 : l0.length ≤ c0) (hp : w.cell? P0 = some (.int .i64 sc)) (h : ix_l0 k l0 sc 0 = some r) :
    Calls Try.prog 16 #[.slice A0 l0.length c0, .func (.func 17) #[] #[.pointer (some P0)]] w fun e w' => e = .returned (.bool (decide (r ≥ 0))) ∧ Below w.heap.size w w' := by
  go_enter Try.func16, Try.ntmps16
  go_wp2_with (go_at_call 24; refine (ix_calls k _ _ l0 sc P0 r _ hr0 hc0 hp h).mono ?_; rintro e w' ⟨rfl, hb⟩)
  go_ret
  exact ⟨by first | rfl | simp, hb⟩
end Go.Proofs.Ytcfomfcalpnbcaa.PG
