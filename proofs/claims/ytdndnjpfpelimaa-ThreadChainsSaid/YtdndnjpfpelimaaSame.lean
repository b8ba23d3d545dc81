/- Functions 9, 15 and 16 tell whether two rows of blocks jump alike. -/
import Derived.Test.YtdndnjpfpelimaaPGx1
import Derived.Test.YtdndnjpfpelimaaCopy
import Derived.Test.YtdndnjpfpelimaaPGx0
import Derived.Test.YtdndnjpfpelimaaU
namespace Go.Proofs.Ytdndnjpfpelimaa.PG
open Go.RowKit Go.Proofs.YtdndnjpfpelimaaW.PrintWords Go.Proofs.YtdndnjpfpelimaaW.PrintLast Go.Proofs.YtdndnjpfpelimaaW.PrintMore
attribute [local go_sem] max2_int min2_int max_two min_two max_three min_three max_four min_four   -- for this text's walks alone
set_option linter.unusedVariables false
set_option linter.unusedSimpArgs false
attribute [local go_sem] run_store_complex
attribute [local go_sem high] eqA35
def termEq (s t : S35) : Bool := s.f0 == t.f0 && (s.f1 == t.f1 && (s.f2 == t.f2 && (s.f3 == t.f3)))
theorem termEq_iff (s t : S35) : termEq s t = true ↔ s = t := by
  obtain ⟨a, b, c, d⟩ := s
  obtain ⟨a', b', c', d'⟩ := t
  simp [termEq]
set_option maxHeartbeats 4000000 in
set_option maxRecDepth 100000 in
theorem same1_calls (A : Option Addr) (n c : Nat) (a0 a1 a2 a3 : Int) (A' : Option Addr) (n' c' : Nat) (b0 b1 b2 b3 : Int) (w : World) :
    Calls Try.prog 16 #[.agg #[.slice A n c, .int .i64 a0, .int .i64 a1, .int .i64 a2, .int .i64 a3], .agg #[.slice A' n' c', .int .i64 b0, .int .i64 b1, .int .i64 b2, .int .i64 b3]] w fun e w' => e = .returned (.bool (termEq ⟨a0, a1, a2, a3⟩ ⟨b0, b1, b2, b3⟩)) ∧ Below w.heap.size w w' := by
  have hu37 := Try.underlying37
  have hu35 := Try.underlying35
  go_enter Try.func16, Try.ntmps16
  go_wp2
  go_ret
  exact ⟨rfl, below_alloc (below_alloc (Below.refl _ _) _) _⟩
set_option maxHeartbeats 4000000 in
set_option maxRecDepth 100000 in
theorem EqualFunc_calls (A : Option Addr) (c : Nat) (xs : List S37) (B : Option Addr) (d : Nat) (ys : List S37) (r : Bool) (w : World) (hr : Kd.C k37 w A xs.length xs) (hr2 : Kd.C k37 w B ys.length ys) (hk : xs.length < 1000) (hl : xs.length = ys.length)
    (h : (r = true ∧ ∀ i : Int, 0 ≤ i → i < xs.length → (rd_T37 xs i).f1 = (rd_T37 ys i).f1) ∨ (r = false ∧ 0 < xs.length ∧ (rd_T37 xs 0).f1 ≠ (rd_T37 ys 0).f1)) :
    Calls Try.prog 15 #[.slice A xs.length c, .slice B ys.length d, .func (.func 16) #[] #[]] w fun e w' => e = .returned (.bool r) ∧ Below w.heap.size w w' := by
  have HR := Aside0.mk hr
  have HR2 := Aside0.mk hr2
  have HK := Aside0.mk hk
  have HH := Aside0.mk h
  have HL := Aside0.mk hl
  have hu37 := Try.underlying37
  have hne : ((xs.length : Int) != (ys.length : Int)) = false := by rw [hl]; simp
  clear hr hr2 hk h hl
  go_enter Try.func15, Try.ntmps15
  go_wp2
  go_loopg [17] xs.length (fun kq v17 w' => ∃ i : Int, v17 = .int .i64 i ∧ Aside0 (0 ≤ i ∧ i + kq = xs.length) ∧ Aside0 (r = false → i = 0) ∧ Aside0 (Below w.heap.size w w'))
  case atStart => exact ⟨0, rfl, ⟨by omega, by simp⟩, ⟨fun _ => rfl⟩, ⟨Below.refl _ _⟩⟩
  case round =>
    obtain ⟨i, rfl, HI, HF, HB⟩ := hrel
    by_cases hi : i < (xs.length : Int)
    · have hib : decide (i < (xs.length : Int)) = true := decide_eq_true hi
      have hi0 := HI.out.1
      have hi2 : i < (ys.length : Int) := by have h1 := HL.out; omega
      obtain ⟨ad, A0, c0, rfl, hx0, hx1, hx2, hx3, hx4, _, _⟩ := at_T37 HR.out i hi0 hi
      obtain ⟨ad2, B0, d0, rfl, hy0, hy1, hy2, hy3, hy4, _, _⟩ := at_T37 HR2.out i hi0 hi2
      have hq : (r = true ∧ termEq (rd_T37 xs i).f1 (rd_T37 ys i).f1 = true) ∨ (r = false ∧ termEq (rd_T37 xs i).f1 (rd_T37 ys i).f1 = false) := by
        rcases HH.out with ⟨h1, h2⟩ | ⟨h1, h2, h3⟩
        · exact Or.inl ⟨h1, (termEq_iff _ _).2 (h2 i hi0 hi)⟩
        · have hz := HF.out h1
          subst hz
          exact Or.inr ⟨h1, by rw [← Bool.not_eq_true, termEq_iff]; exact h3⟩
      replace hx0 := (HB.out.cell (World.block_lt_of_cell? w _ hx0)).trans hx0
      replace hx1 := (HB.out.cell (World.block_lt_of_cell? w _ hx1)).trans hx1
      replace hx2 := (HB.out.cell (World.block_lt_of_cell? w _ hx2)).trans hx2
      replace hx3 := (HB.out.cell (World.block_lt_of_cell? w _ hx3)).trans hx3
      replace hx4 := (HB.out.cell (World.block_lt_of_cell? w _ hx4)).trans hx4
      replace hy0 := (HB.out.cell (World.block_lt_of_cell? w _ hy0)).trans hy0
      replace hy1 := (HB.out.cell (World.block_lt_of_cell? w _ hy1)).trans hy1
      replace hy2 := (HB.out.cell (World.block_lt_of_cell? w _ hy2)).trans hy2
      replace hy3 := (HB.out.cell (World.block_lt_of_cell? w _ hy3)).trans hy3
      replace hy4 := (HB.out.cell (World.block_lt_of_cell? w _ hy4)).trans hy4
      have HW := Aside0.mk (wrapS hi0 hi (by have h1 := HK.out; omega))
      have HII := Aside0.mk hi
      have hi0t := eq_true hi0
      have hi1t := eq_true hi
      have hi2t := eq_true hi2
      clear hi hi0 hi2
      go_upto_region 6 with (fail)
      refine rebase (P := fun W_ => Code.wp _ _ _ _ W_) (fun W_ => W_.heap[wr.heap.size]? = some (.cells #[.slice A0 (rd_T37 xs i).f0.length c0, .int .i64 (rd_T37 xs i).f1.f0, .int .i64 (rd_T37 xs i).f1.f1, .int .i64 (rd_T37 xs i).f1.f2, .int .i64 (rd_T37 xs i).f1.f3] 37 (0, 0)) ∧ Below wr.heap.size wr W_ ∧ wr.heap.size < W_.heap.size) ⟨new1 _ _, below_alloc (Below.refl _ _) _, by rw [World.size_alloc]; exact Nat.lt_succ_self _⟩ ?_
      rintro W6 ⟨hbx, hb6, hsz⟩
      have HBX := Aside0.mk hbx
      have HB6 := Aside0.mk (below_step HB.out hb6)
      have HSZ := Aside0.mk hsz
      replace hy0 := (hb6.cell (World.block_lt_of_cell? wr _ hy0)).trans hy0
      replace hy1 := (hb6.cell (World.block_lt_of_cell? wr _ hy1)).trans hy1
      replace hy2 := (hb6.cell (World.block_lt_of_cell? wr _ hy2)).trans hy2
      replace hy3 := (hb6.cell (World.block_lt_of_cell? wr _ hy3)).trans hy3
      replace hy4 := (hb6.cell (World.block_lt_of_cell? wr _ hy4)).trans hy4
      clear hbx hb6 hsz hx0 hx1 hx2 hx3 hx4
      go_upto_region 7 with (fail)
      refine rebase (P := fun W_ => Code.wp _ _ _ _ W_) (fun W_ => W_.heap[wr.heap.size]? = some (.cells #[.slice A0 (rd_T37 xs i).f0.length c0, .int .i64 (rd_T37 xs i).f1.f0, .int .i64 (rd_T37 xs i).f1.f1, .int .i64 (rd_T37 xs i).f1.f2, .int .i64 (rd_T37 xs i).f1.f3] 37 (0, 0)) ∧ W_.heap[W6.heap.size]? = some (.cells #[.slice B0 (rd_T37 ys i).f0.length d0, .int .i64 (rd_T37 ys i).f1.f0, .int .i64 (rd_T37 ys i).f1.f1, .int .i64 (rd_T37 ys i).f1.f2, .int .i64 (rd_T37 ys i).f1.f3] 37 (0, 0)) ∧ Below w.heap.size w W_) ⟨blk_alloc HBX.out _, new1 _ _, below_alloc HB6.out _⟩ ?_
      rintro W7 ⟨hbx, hby, hb7⟩
      have HB7 := Aside0.mk hb7
      obtain ⟨x0, x1, x2, x3, x4⟩ := box5 hbx
      obtain ⟨z0, z1, z2, z3, z4⟩ := box5 hby
      clear hbx hby hb7 hy0 hy1 hy2 hy3 hy4
      rcases hq with ⟨hq, hq2⟩ | ⟨hq, hq2⟩
      · subst hq
        go_wp2_with ((go_at_call 16; refine (same1_calls A0 _ c0 _ _ _ _ B0 _ d0 _ _ _ _ _).mono ?_; rintro e w5 ⟨rfl, hb⟩; have HB5 := Aside0.mk (below_step HB7.out hb); clear hb; rw [hq2]))
        go_roundg (gk - 1)
        case measure => have h1 := HI.out; have h2 := HII.out; omega
        case rel =>
          have h2 := HI.out
          have h3 := HII.out
          exact ⟨wrap64 (i + 1), rfl, ⟨by rw [HW.out]; omega, by rw [HW.out]; omega⟩, ⟨by simp⟩, HB5⟩
      · subst hq
        go_wp2_with ((go_at_call 16; refine (same1_calls A0 _ c0 _ _ _ _ B0 _ d0 _ _ _ _ _).mono ?_; rintro e w5 ⟨rfl, hb⟩; have HB5 := Aside0.mk (below_step HB7.out hb); clear hb; rw [hq2]))
        go_ret
        exact ⟨rfl, HB5.out⟩
    · have hib : decide (i < (xs.length : Int)) = false := decide_eq_false hi
      have hrt : r = true := by
        rcases HH.out with ⟨h1, _⟩ | ⟨h1, h2, _⟩
        · exact h1
        · have := HF.out h1; omega
      subst hrt
      go_wp2
      go_ret
      exact ⟨rfl, HB.out⟩
set_option maxHeartbeats 4000000 in
set_option maxRecDepth 100000 in
theorem same_calls (nm nm2 : ByteArray) (p q p2 q2 : Int) (A : Option Addr) (c : Nat) (xs : List S37) (B : Option Addr) (d : Nat) (ys : List S37) (r : Bool) (w : World) (hr : Kd.C k37 w A xs.length xs) (hr2 : Kd.C k37 w B ys.length ys) (hk : xs.length < 1000) (hl : xs.length = ys.length)
    (h : (r = true ∧ ∀ i : Int, 0 ≤ i → i < xs.length → (rd_T37 xs i).f1 = (rd_T37 ys i).f1) ∨ (r = false ∧ 0 < xs.length ∧ (rd_T37 xs 0).f1 ≠ (rd_T37 ys 0).f1)) :
    Calls Try.prog 9 #[.agg #[.string nm, .int .i64 p, .int .i64 q, .slice A xs.length c], .agg #[.string nm2, .int .i64 p2, .int .i64 q2, .slice B ys.length d]] w fun e w' => e = .returned (.bool r) ∧ Below w.heap.size w w' := by
  have HR := Aside0.mk hr
  have HR2 := Aside0.mk hr2
  have HK := Aside0.mk hk
  have HH := Aside0.mk h
  have HL := Aside0.mk hl
  clear hr hr2 hk h hl
  have hu24 := Try.underlying24
  go_enter Try.func9, Try.ntmps9
  go_wp2_with ((go_at_call 15; refine (EqualFunc_calls A c xs B d ys r _ (Kd.C_alloc (Kd.C_alloc HR.out _) _) (Kd.C_alloc (Kd.C_alloc HR2.out _) _) HK.out HL.out HH.out).mono ?_; rintro e w5 ⟨rfl, hb⟩; have HB5 := Aside0.mk (below_step (below_alloc (below_alloc (Below.refl _ _) _) _) hb); clear hb))
  go_ret
  exact ⟨rfl, HB5.out⟩
end Go.Proofs.Ytdndnjpfpelimaa.PG
