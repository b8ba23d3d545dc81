-- By the session's own program out of the kit's print, with texts of the session's own for the functions that the print does not take.
import Derived.Test.YtglodkkhojgdiaaPGx0
import Derived.Test.YtglodkkhojgdiaaFits
import Derived.Test.YtglodkkhojgdiaaPair
import Derived.Test.YtglodkkhojgdiaaPGx7
import Derived.Test.YtglodkkhojgdiaaLead
import Derived.Test.YtglodkkhojgdiaaCopied
namespace Go.Proofs.Ytglodkkhojgdiaa.PG
open Go.RowKit Go.Proofs.YtglodkkhojgdiaaW.PrintWords Go.Proofs.YtglodkkhojgdiaaW.PrintLast Go.Proofs.YtglodkkhojgdiaaW.PrintMore
attribute [local go_sem] max2_int min2_int max_two min_two max_three min_three max_four min_four   -- for this text's walks alone
set_option linter.unusedVariables false
set_option linter.unusedSimpArgs false

/-! ### fuse_Run: function 8 -/
mutual
def fuse_Run.l0 : Nat → List Bool → List Int → List (S23) → Int → ByteArray → Int → Int → List Int → List (S23) → Option (ByteArray × Int × Int × List Int × (List (S23)))
  | 0, _, _, _, _, _, _, _, _, _ => none
  | k + 1, x3, x4, x5, x6, x169000, x169001, x169002, x169003, x169004 => if x6 < (x169004.length : Int) then (if 0 ≤ x6 then (if x6 < (x4.length : Int) then ((some (x4.set (x6 : Int).toNat (x5.length : Int) : List Int)).bind fun y176 => (if (wrap64 (x6 + 1)) < (x169004.length : Int) then (if 0 ≤ (wrap64 (x6 + 1)) then (if (wrap64 (x6 + 1)) < (x3.length : Int) then (fuse_Run.j1 k x3 y176 x5 x6 (!(rdOf false x3 (wrap64 (x6 + 1)))) x169000 x169001 x169002 x169003 x169004 ((rd_T23 x169004 x6).f0) ((rd_T23 x169004 x6).f1) ((rd_T23 x169004 x6).f2) ((rd_T23 x169004 x6).f3) ((rd_T23 x169004 x6).f4)) else (none)) else (none)) else (none))) else (none)) else (none)) else (fuse_Run.l1 k x4 x5 (x5.length : Int) 0 x169000 x169001 x169002 x169003 x169004)
def fuse_Run.j1 : Nat → List Bool → List Int → List (S23) → Int → Bool → ByteArray → Int → Int → List Int → List (S23) → Int → Int → Int → Int → Int → Option (ByteArray × Int × Int × List Int × (List (S23)))
  | 0, _, _, _, _, _, _, _, _, _, _, _, _, _, _, _ => none
  | k + 1, x3, x4, x5, x6, x51, x169000, x169001, x169002, x169003, x169004, x179000, x179001, x179002, x179003, x179004 => if x51 = true then (if 0 ≤ (wrap64 (x6 + 1)) then (if (wrap64 (x6 + 1)) < (x169004.length : Int) then ((fuse_Pair.f k x179000 x179001 x179002 x179003 x179004 ((rd_T23 x169004 (wrap64 (x6 + 1))).f0) ((rd_T23 x169004 (wrap64 (x6 + 1))).f1) ((rd_T23 x169004 (wrap64 (x6 + 1))).f2) ((rd_T23 x169004 (wrap64 (x6 + 1))).f3) ((rd_T23 x169004 (wrap64 (x6 + 1))).f4)).bind fun bt181 => (if bt181.2.2.2.2.2 = true then (if (wrap64 (x6 + 1)) < (x4.length : Int) then (if x5.length < 3518437208883 then (fuse_Run.l0 k x3 (x4.set ((wrap64 (x6 + 1)) : Int).toNat (x5.length : Int)) (x5 ++ [(⟨bt181.1, bt181.2.1, bt181.2.2.1, bt181.2.2.2.1, bt181.2.2.2.2.1⟩ : S23)]) (wrap64 ((wrap64 (x6 + 1)) + 1)) x169000 x169001 x169002 x169003 x169004) else (none)) else (none)) else (none))) else (none)) else (none)) else (none)
def fuse_Run.l1 : Nat → List Int → List (S23) → Int → Int → ByteArray → Int → Int → List Int → List (S23) → Option (ByteArray × Int × Int × List Int × (List (S23)))
  | 0, _, _, _, _, _, _, _, _, _ => none
  | k + 1, x4, x5, x77, x78, x169000, x169001, x169002, x169003, x169004 => if x78 < x77 then (if 0 ≤ x78 then (if x78 < (x5.length : Int) then ((mach_Jump.f ((rd_T23 x5 x78).f0) ((rd_T23 x5 x78).f1) ((rd_T23 x5 x78).f2) ((rd_T23 x5 x78).f3) ((rd_T23 x5 x78).f4)).bind fun bt209 => (if bt209.2 = true then (none) else (fuse_Run.j3 k x4 x5 x78 bt209.1 x77 x78 true x169000 x169001 x169002 x169003 x169004 ((rd_T23 x5 x78).f0) ((rd_T23 x5 x78).f1) ((rd_T23 x5 x78).f2) ((rd_T23 x5 x78).f3) ((rd_T23 x5 x78).f4)))) else (none)) else (none)) else ((fuse_copied.f k x169000 x169001 x169002 x169003 x5).bind fun bt198 => (some (bt198.1, bt198.2.1, bt198.2.2.1, bt198.2.2.2.1, bt198.2.2.2.2)))
def fuse_Run.j3 : Nat → List Int → List (S23) → Int → Int → Int → Int → Bool → ByteArray → Int → Int → List Int → List (S23) → Int → Int → Int → Int → Int → Option (ByteArray × Int × Int × List Int × (List (S23)))
  | 0, _, _, _, _, _, _, _, _, _, _, _, _, _, _, _, _, _ => none
  | k + 1, x4, x5, x10, x12, x77, x78, x98, x169000, x169001, x169002, x169003, x169004, x209000, x209001, x209002, x209003, x209004 => if x98 = true then (fuse_Run.l1 k x4 x5 x77 (wrap64 (x78 + 1)) x169000 x169001 x169002 x169003 x169004) else (none)
end
def fuse_Run.f (k : Nat) (a0_0 : ByteArray) (a0_1 : Int) (a0_2 : Int) (l0_3 : List Int) (l0_4 : List (S23)) : Option (ByteArray × Int × Int × List Int × (List (S23))) := (mach_Leaders.f k l0_4).bind fun t170 => (if 0 ≤ (l0_4.length : Int) then (if ((l0_4.length : Int) : Int).toNat ≤ 35184372088832 then (fuse_Run.l0 k t170 (List.replicate ((l0_4.length : Int) : Int).toNat 0) ([] : List (S23)) 0 a0_0 a0_1 a0_2 l0_3 l0_4) else (none)) else (none))
theorem fuse_Run.mono_l : ∀ k, (∀ y0 y1 y2 y3 y4 y5 y6 y7 y8, LeO (fuse_Run.l0 k y0 y1 y2 y3 y4 y5 y6 y7 y8) (fuse_Run.l0 (k + 1) y0 y1 y2 y3 y4 y5 y6 y7 y8)) ∧ (∀ y0 y1 y2 y3 y4 y5 y6 y7 y8 y9 y10 y11 y12 y13 y14, LeO (fuse_Run.j1 k y0 y1 y2 y3 y4 y5 y6 y7 y8 y9 y10 y11 y12 y13 y14) (fuse_Run.j1 (k + 1) y0 y1 y2 y3 y4 y5 y6 y7 y8 y9 y10 y11 y12 y13 y14)) ∧ (∀ y0 y1 y2 y3 y4 y5 y6 y7 y8, LeO (fuse_Run.l1 k y0 y1 y2 y3 y4 y5 y6 y7 y8) (fuse_Run.l1 (k + 1) y0 y1 y2 y3 y4 y5 y6 y7 y8)) ∧ (∀ y0 y1 y2 y3 y4 y5 y6 y7 y8 y9 y10 y11 y12 y13 y14 y15 y16, LeO (fuse_Run.j3 k y0 y1 y2 y3 y4 y5 y6 y7 y8 y9 y10 y11 y12 y13 y14 y15 y16) (fuse_Run.j3 (k + 1) y0 y1 y2 y3 y4 y5 y6 y7 y8 y9 y10 y11 y12 y13 y14 y15 y16))
  | 0 => ⟨fun _ _ _ _ _ _ _ _ _ r h => by simp [fuse_Run.l0] at h, fun _ _ _ _ _ _ _ _ _ _ _ _ _ _ _ r h => by simp [fuse_Run.j1] at h, fun _ _ _ _ _ _ _ _ _ r h => by simp [fuse_Run.l1] at h, fun _ _ _ _ _ _ _ _ _ _ _ _ _ _ _ _ _ r h => by simp [fuse_Run.j3] at h⟩
  | k + 1 => by
    obtain ⟨ih0, ih1, ih2, ih3⟩ := fuse_Run.mono_l k
    refine ⟨?_, ?_, ?_, ?_⟩
    · intro y0 y1 y2 y3 y4 y5 y6 y7 y8
      unfold fuse_Run.l0
      repeat' first
      | (with_reducible exact ih0 _ _ _ _ _ _ _ _ _)
      | (with_reducible exact ih1 _ _ _ _ _ _ _ _ _ _ _ _ _ _ _)
      | (with_reducible exact ih2 _ _ _ _ _ _ _ _ _)
      | (with_reducible exact ih3 _ _ _ _ _ _ _ _ _ _ _ _ _ _ _ _ _)
      | (with_reducible exact fuse_Pair.mono _ _ _ _ _ _ _ _ _ _ _)
      | (with_reducible exact fuse_copied.mono _ _ _ _ _ _)
      | (with_reducible exact fuse_fits.mono _ _ _)
      | (with_reducible exact mach_Leaders.mono _ _)
      | (with_reducible exact LeO.refl _)
      | (with_reducible exact LeO.none _)
      | (with_reducible refine LeO.ite ?_ ?_)
      | (with_reducible refine LeO.bind ?_ (fun _ => ?_))
      | exact ih0 _ _ _ _ _ _ _ _ _
      | exact ih1 _ _ _ _ _ _ _ _ _ _ _ _ _ _ _
      | exact ih2 _ _ _ _ _ _ _ _ _
      | exact ih3 _ _ _ _ _ _ _ _ _ _ _ _ _ _ _ _ _
      | exact fuse_Pair.mono _ _ _ _ _ _ _ _ _ _ _
      | exact fuse_copied.mono _ _ _ _ _ _
      | exact fuse_fits.mono _ _ _
      | exact mach_Leaders.mono _ _
      | exact LeO.none _
      | refine LeO.ite ?_ ?_
      | refine LeO.bind ?_ (fun _ => ?_)
    · intro y0 y1 y2 y3 y4 y5 y6 y7 y8 y9 y10 y11 y12 y13 y14
      unfold fuse_Run.j1
      repeat' first
      | (with_reducible exact ih0 _ _ _ _ _ _ _ _ _)
      | (with_reducible exact ih1 _ _ _ _ _ _ _ _ _ _ _ _ _ _ _)
      | (with_reducible exact ih2 _ _ _ _ _ _ _ _ _)
      | (with_reducible exact ih3 _ _ _ _ _ _ _ _ _ _ _ _ _ _ _ _ _)
      | (with_reducible exact fuse_Pair.mono _ _ _ _ _ _ _ _ _ _ _)
      | (with_reducible exact fuse_copied.mono _ _ _ _ _ _)
      | (with_reducible exact fuse_fits.mono _ _ _)
      | (with_reducible exact mach_Leaders.mono _ _)
      | (with_reducible exact LeO.refl _)
      | (with_reducible exact LeO.none _)
      | (with_reducible refine LeO.ite ?_ ?_)
      | (with_reducible refine LeO.bind ?_ (fun _ => ?_))
      | exact ih0 _ _ _ _ _ _ _ _ _
      | exact ih1 _ _ _ _ _ _ _ _ _ _ _ _ _ _ _
      | exact ih2 _ _ _ _ _ _ _ _ _
      | exact ih3 _ _ _ _ _ _ _ _ _ _ _ _ _ _ _ _ _
      | exact fuse_Pair.mono _ _ _ _ _ _ _ _ _ _ _
      | exact fuse_copied.mono _ _ _ _ _ _
      | exact fuse_fits.mono _ _ _
      | exact mach_Leaders.mono _ _
      | exact LeO.none _
      | refine LeO.ite ?_ ?_
      | refine LeO.bind ?_ (fun _ => ?_)
    · intro y0 y1 y2 y3 y4 y5 y6 y7 y8
      unfold fuse_Run.l1
      repeat' first
      | (with_reducible exact ih0 _ _ _ _ _ _ _ _ _)
      | (with_reducible exact ih1 _ _ _ _ _ _ _ _ _ _ _ _ _ _ _)
      | (with_reducible exact ih2 _ _ _ _ _ _ _ _ _)
      | (with_reducible exact ih3 _ _ _ _ _ _ _ _ _ _ _ _ _ _ _ _ _)
      | (with_reducible exact fuse_Pair.mono _ _ _ _ _ _ _ _ _ _ _)
      | (with_reducible exact fuse_copied.mono _ _ _ _ _ _)
      | (with_reducible exact fuse_fits.mono _ _ _)
      | (with_reducible exact mach_Leaders.mono _ _)
      | (with_reducible exact LeO.refl _)
      | (with_reducible exact LeO.none _)
      | (with_reducible refine LeO.ite ?_ ?_)
      | (with_reducible refine LeO.bind ?_ (fun _ => ?_))
      | exact ih0 _ _ _ _ _ _ _ _ _
      | exact ih1 _ _ _ _ _ _ _ _ _ _ _ _ _ _ _
      | exact ih2 _ _ _ _ _ _ _ _ _
      | exact ih3 _ _ _ _ _ _ _ _ _ _ _ _ _ _ _ _ _
      | exact fuse_Pair.mono _ _ _ _ _ _ _ _ _ _ _
      | exact fuse_copied.mono _ _ _ _ _ _
      | exact fuse_fits.mono _ _ _
      | exact mach_Leaders.mono _ _
      | exact LeO.none _
      | refine LeO.ite ?_ ?_
      | refine LeO.bind ?_ (fun _ => ?_)
    · intro y0 y1 y2 y3 y4 y5 y6 y7 y8 y9 y10 y11 y12 y13 y14 y15 y16
      unfold fuse_Run.j3
      repeat' first
      | (with_reducible exact ih0 _ _ _ _ _ _ _ _ _)
      | (with_reducible exact ih1 _ _ _ _ _ _ _ _ _ _ _ _ _ _ _)
      | (with_reducible exact ih2 _ _ _ _ _ _ _ _ _)
      | (with_reducible exact ih3 _ _ _ _ _ _ _ _ _ _ _ _ _ _ _ _ _)
      | (with_reducible exact fuse_Pair.mono _ _ _ _ _ _ _ _ _ _ _)
      | (with_reducible exact fuse_copied.mono _ _ _ _ _ _)
      | (with_reducible exact fuse_fits.mono _ _ _)
      | (with_reducible exact mach_Leaders.mono _ _)
      | (with_reducible exact LeO.refl _)
      | (with_reducible exact LeO.none _)
      | (with_reducible refine LeO.ite ?_ ?_)
      | (with_reducible refine LeO.bind ?_ (fun _ => ?_))
      | exact ih0 _ _ _ _ _ _ _ _ _
      | exact ih1 _ _ _ _ _ _ _ _ _ _ _ _ _ _ _
      | exact ih2 _ _ _ _ _ _ _ _ _
      | exact ih3 _ _ _ _ _ _ _ _ _ _ _ _ _ _ _ _ _
      | exact fuse_Pair.mono _ _ _ _ _ _ _ _ _ _ _
      | exact fuse_copied.mono _ _ _ _ _ _
      | exact fuse_fits.mono _ _ _
      | exact mach_Leaders.mono _ _
      | exact LeO.none _
      | refine LeO.ite ?_ ?_
      | refine LeO.bind ?_ (fun _ => ?_)
theorem fuse_Run.mono : ∀ a0 a1 a2 a3 a4 k, LeO (fuse_Run.f k a0 a1 a2 a3 a4) (fuse_Run.f (k + 1) a0 a1 a2 a3 a4) := by
  intro a0 a1 a2 a3 a4 k
  obtain ⟨ih0, ih1, ih2, ih3⟩ := fuse_Run.mono_l k
  unfold fuse_Run.f
  repeat' first
      | (with_reducible exact ih0 _ _ _ _ _ _ _ _ _)
      | (with_reducible exact ih1 _ _ _ _ _ _ _ _ _ _ _ _ _ _ _)
      | (with_reducible exact ih2 _ _ _ _ _ _ _ _ _)
      | (with_reducible exact ih3 _ _ _ _ _ _ _ _ _ _ _ _ _ _ _ _ _)
      | (with_reducible exact fuse_Pair.mono _ _ _ _ _ _ _ _ _ _ _)
      | (with_reducible exact fuse_copied.mono _ _ _ _ _ _)
      | (with_reducible exact fuse_fits.mono _ _ _)
      | (with_reducible exact mach_Leaders.mono _ _)
      | (with_reducible exact LeO.refl _)
      | (with_reducible exact LeO.none _)
      | (with_reducible refine LeO.ite ?_ ?_)
      | (with_reducible refine LeO.bind ?_ (fun _ => ?_))
      | exact ih0 _ _ _ _ _ _ _ _ _
      | exact ih1 _ _ _ _ _ _ _ _ _ _ _ _ _ _ _
      | exact ih2 _ _ _ _ _ _ _ _ _
      | exact ih3 _ _ _ _ _ _ _ _ _ _ _ _ _ _ _ _ _
      | exact fuse_Pair.mono _ _ _ _ _ _ _ _ _ _ _
      | exact fuse_copied.mono _ _ _ _ _ _
      | exact fuse_fits.mono _ _ _
      | exact mach_Leaders.mono _ _
      | exact LeO.none _
      | refine LeO.ite ?_ ?_
      | refine LeO.bind ?_ (fun _ => ?_)
def fuse_Run.T10 : Bool × List (List Nat × List Nat) := (true, [([], []), ([], []), ([1], [1]), ([], []), ([3], [3]), ([2, 4], [2, 4]), ([5], [5]), ([0, 6], [0, 6]), ([7], [7]), ([8], [8]), ([8], [8]), ([], []), ([11, 9, 7, 0, 1, 2, 3, 4, 5, 6, 7, 8, 9, 11], [9, 11]), ([10, 12, 0, 1, 2, 3, 4, 5, 6, 7, 8, 9, 10, 11, 12], [10])])
def fuse_Run.B10 : List Nat := [0, 0, 2, 0, 8, 30, 62, 127, 255, 511, 511, 0, 3071, 8191]
theorem fuse_Run.tab10 : rtab .any (opsOf Try.f8 10) = fuse_Run.T10 := by kernel_rfl
theorem fuse_Run.bits10 : waitsOk fuse_Run.T10.2 fuse_Run.B10 = true := by kernel_rfl
set_option maxHeartbeats 8000000 in
set_option maxRecDepth 100000 in
theorem fuse_Run.calls (k : Nat) (a0_0 : ByteArray) (a0_1 : Int) (a0_2 : Int) (A0_3 : Option Addr) (c0_3 : Nat) (l0_3 : List Int) (A0_4 : Option Addr) (c0_4 : Nat) (l0_4 : List (S23)) (r1 : ByteArray) (r2 : Int) (r3 : Int) (r4 : List Int) (r5 : List (S23)) (w : World) (hr0_3 : Kd.C (Kd.int .i64) w A0_3 l0_3.length l0_3) (hc0_3 : l0_3.length ≤ c0_3) (hr0_4 : Kd.C k23 w A0_4 l0_4.length l0_4) (hc0_4 : l0_4.length ≤ c0_4) (h : fuse_Run.f k a0_0 a0_1 a0_2 l0_3 l0_4 = some (r1, r2, r3, r4, r5)) :
    Calls Try.prog 8 #[.agg #[.string a0_0, .int .i64 a0_1, .int .i64 a0_2, .slice A0_3 l0_3.length c0_3, .slice A0_4 l0_4.length c0_4]] w fun e w' => ∃ v3_ v4_ : Value, e = .returned (.agg #[.string r1, .int .i64 r2, .int .i64 r3, v3_, v4_]) ∧ Kd.R (Kd.int .i64) 3 w' w.heap.size (fun k_ => (w.heap.size ≤ k_)) v3_ r4 ∧ Kd.V k23 23 w' w.heap.size (fun k_ => (w.heap.size ≤ k_) ∧ some k_ ≠ (v3_ : Value).ownBlock) v4_ r5 ∧ Below w.heap.size w w' := by
  have hu32 := Try.underlying32
  have hu23 := Try.underlying23
  have HR0_3 := Aside0.mk hr0_3
  have HC0_3 := Aside0.mk hc0_3
  clear hr0_3 hc0_3
  have HR0_4 := Aside0.mk hr0_4
  have HC0_4 := Aside0.mk hc0_4
  clear hr0_4 hc0_4
  have HB := Aside0.mk (Below.refl w.heap.size w)
  have H : ((mach_Leaders.f k l0_4).bind fun t170 => (if 0 ≤ (l0_4.length : Int) then (if ((l0_4.length : Int) : Int).toNat ≤ 35184372088832 then (fuse_Run.l0 k t170 (List.replicate ((l0_4.length : Int) : Int).toNat 0) ([] : List (S23)) 0 a0_0 a0_1 a0_2 l0_3 l0_4) else (none)) else (none))) = some (r1, r2, r3, r4, r5) := h
  clear h
  replace H := Option.bind_eq_some_iff.mp H
  obtain ⟨t170, A20, H⟩ := H
  replace H : (if 0 ≤ (l0_4.length : Int) then (if ((l0_4.length : Int) : Int).toNat ≤ 35184372088832 then (fuse_Run.l0 k t170 (List.replicate ((l0_4.length : Int) : Int).toNat 0) ([] : List (S23)) 0 a0_0 a0_1 a0_2 l0_3 l0_4) else (none)) else (none)) = some (r1, r2, r3, r4, r5) := H
  have A2 := Aside0.mk A20
  clear A20
  by_cases c3 : 0 ≤ (l0_4.length : Int)
  · rw [if_pos c3] at H
    have c3b0 := eq_true c3
    have c3b1 : decide (0 ≤ (l0_4.length : Int)) = true := decide_eq_true c3
    clear c3
    by_cases c4 : ((l0_4.length : Int) : Int).toNat ≤ 35184372088832
    · rw [if_pos c4] at H
      have c4b0 := eq_true c4
      have c4b1 : decide (((l0_4.length : Int) : Int).toNat ≤ 35184372088832) = true := decide_eq_true c4
      clear c4
      obtain ⟨y173, hy173⟩ : ∃ y_ : List Int, y_ = (List.replicate ((l0_4.length : Int) : Int).toNat 0) := ⟨_, rfl⟩
      replace H : (fuse_Run.l0 k t170 y173 ([] : List (S23)) 0 a0_0 a0_1 a0_2 l0_3 l0_4) = some (r1, r2, r3, r4, r5) := by first | (rw [hy173]; with_reducible exact H) | (have H2_ := (Option.bind_some _ _).symm.trans H; rw [hy173]; with_reducible exact H2_) | (have H2_ := (Option.bind_some _ _).symm.trans H; with_reducible exact H2_) | with_reducible exact H | (rw [hy173]; exact H) | exact H
      have Ny173 := Aside0.mk hy173
      clear hy173
      have H' := Aside0.mk H
      clear H
      go_enter Try.func8, Try.ntmps8
      go_wp2_with (first | ((with_reducible refine gate_dst (N := 1) rfl ?_); (try (refine gate_guard (by rfl) ?_; dsimp only)); refine box_event ?hg (N := 1) ?hd (cs := #[.string a0_0, .int .i64 a0_1, .int .i64 a0_2, .slice A0_3 l0_3.length c0_3, .slice A0_4 l0_4.length c0_4]) (t := 32) ?hr ?_; (case hd => rfl); (case hg => rfl); (case hr => first | (go_simp; done) | (go_simp; rfl)); intro gb168 hg w5 hbox hb; have n0_ := Aside0.mk (below_step (by repeat (first | (with_reducible first | exact HB.out | apply below_alloc | apply pw_below_drewN | apply below_drew1) | exact HB.out)) hb); have n1_ := Aside0.mk (hbox); have n2_ := Aside0.mk ((by rw [hg]; exact (below_size (by repeat (first | (with_reducible first | exact HB.out | apply below_alloc | apply pw_below_drewN | apply below_drew1) | exact HB.out))) : w.heap.size ≤ gb168)); have n3_ := Aside0.mk ((by rw [hg]; exact (below_size (by repeat (first | (with_reducible first | exact HB.out | apply below_alloc | apply pw_below_drewN | apply below_drew1) | exact HB.out))) : w.heap.size ≤ gb168)); clear HB; have HB := n0_; have BK168 := n1_; have GW168 := n2_; have GE168 := n3_; clear n0_ n1_ n2_ n3_; clear hb hbox hg) | ((with_reducible refine gate_dst (N := 2) rfl ?_); (try (refine gate_guard (by rfl) ?_; dsimp only)); refine box_event ?hg (N := 2) ?hd (cs := #[.string (⟨#[]⟩ : ByteArray), .int .i64 0, .int .i64 0, .slice none 0 0, .slice none 0 0]) (t := 32) ?hr ?_; (case hd => rfl); (case hg => rfl); (case hr => first | (go_simp; done) | (go_simp; rfl)); intro gb169 hg w6 hbox hb; have n0_ := Aside0.mk (blk_below (g := gb168) (o := .cells #[.string a0_0, .int .i64 a0_1, .int .i64 a0_2, .slice A0_3 l0_3.length c0_3, .slice A0_4 l0_4.length c0_4] 32 (0, 0)) (by (with_reducible repeat (first | refine blk_drewN ?_ _ | refine blk_drew ?_ | refine blk_alloc ?_ _)); exact BK168.out) hb); have n1_ := Aside0.mk (below_step (by repeat (first | (with_reducible first | exact HB.out | apply below_alloc | apply pw_below_drewN | apply below_drew1 | refine below_set ?_ GE168.out) | exact HB.out)) hb); have n2_ := Aside0.mk (hbox); have n3_ := Aside0.mk ((by rw [hg]; exact (below_size (by repeat (first | (with_reducible first | exact HB.out | apply below_alloc | apply pw_below_drewN | apply below_drew1 | refine below_set ?_ GE168.out) | exact HB.out))) : w.heap.size ≤ gb169)); have n4_ := Aside0.mk ((by rw [hg]; exact (below_size (by repeat (first | (with_reducible first | exact HB.out | apply below_alloc | apply pw_below_drewN | apply below_drew1 | refine below_set ?_ GE168.out) | exact HB.out))) : w.heap.size ≤ gb169)); have n5_ := Aside0.mk ((by rw [hg]; exact Nat.ne_of_lt (blk_lt (g := gb168) (o := .cells #[.string a0_0, .int .i64 a0_1, .int .i64 a0_2, .slice A0_3 l0_3.length c0_3, .slice A0_4 l0_4.length c0_4] 32 (0, 0)) (by (with_reducible repeat (first | refine blk_drewN ?_ _ | refine blk_drew ?_ | refine blk_alloc ?_ _)); exact BK168.out)) : gb168 ≠ gb169)); have n6_ := Aside0.mk ((by rw [hg]; exact Nat.ne_of_gt (blk_lt (g := gb168) (o := .cells #[.string a0_0, .int .i64 a0_1, .int .i64 a0_2, .slice A0_3 l0_3.length c0_3, .slice A0_4 l0_4.length c0_4] 32 (0, 0)) (by (with_reducible repeat (first | refine blk_drewN ?_ _ | refine blk_drew ?_ | refine blk_alloc ?_ _)); exact BK168.out)) : gb169 ≠ gb168)); clear BK168; clear HB; have BK168 := n0_; have HB := n1_; have BK169 := n2_; have GW169 := n3_; have GE169 := n4_; have NB168_169 := n5_; have NB169_168 := n6_; clear n0_ n1_ n2_ n3_ n4_ n5_ n6_; clear hb hbox hg; have hnb7 := NB168_169.out; have hnc7 := NB169_168.out; have hcz8_0 : w6.cell? ⟨gb168, 0, none⟩ = some (.string a0_0) := (blk_cell BK168.out 0).trans rfl; have hcz8_1 : w6.cell? ⟨gb168, 1, none⟩ = some (.int .i64 a0_1) := (blk_cell BK168.out 1).trans rfl; have hcz8_2 : w6.cell? ⟨gb168, 2, none⟩ = some (.int .i64 a0_2) := (blk_cell BK168.out 2).trans rfl; have hcz8_3 : w6.cell? ⟨gb168, 3, none⟩ = some (.slice A0_3 l0_3.length c0_3) := (blk_cell BK168.out 3).trans rfl; have hcz8_4 : w6.cell? ⟨gb168, 4, none⟩ = some (.slice A0_4 l0_4.length c0_4) := (blk_cell BK168.out 4).trans rfl; have hfz8_0 := blk_frozen BK168.out 0; have hfz8_1 := blk_frozen BK168.out 1; have hfz8_2 := blk_frozen BK168.out 2; have hfz8_3 := blk_frozen BK168.out 3; have hfz8_4 := blk_frozen BK168.out 4) | ((with_reducible refine gate_callee (f := 10) rfl ?_); refine goesL_ (some 16) rfl rfl Try.func10 (by kernel_rfl) rfl #[.slice A0_4 l0_4.length c0_4] rfl (by (try simp only [List.map_toArray, List.map_cons, List.map_nil]); first | done | rfl | (simp only [List.length_drop, List.length_take]; rfl)) ?_; (with_reducible refine (mach_Leaders.calls k _ _ l0_4 t170 _ ?side1 ?side2 A2.out).mono ?_); (case side1 => repeat (first | exact (Kd.C_below HR0_4.out HB.out) | (with_reducible refine Kd.C_alloc ?_ _) | (with_reducible refine Kd.C_drewN ?_ _) | (with_reducible refine Kd.C_drew ?_))); (case side2 => exact HC0_4.out); rintro e w9 ⟨v171, rfl, ho0, hb⟩; refine ⟨_, rfl, ?_⟩; have n0_ := Aside0.mk (Kd.R_lower (Kd.R_newM (M := fun k_ => (w.heap.size ≤ k_)) ho0 (below_size (by repeat (first | (with_reducible first | exact HB.out | apply below_alloc | apply pw_below_drewN | apply below_drew1 | refine below_set ?_ GE168.out | refine below_set ?_ GE169.out) | exact HB.out))) (fun k_ h_ => h_)) (below_size (by repeat (first | (with_reducible first | exact HB.out | apply below_alloc | apply pw_below_drewN | apply below_drew1 | refine below_set ?_ GE168.out | refine below_set ?_ GE169.out) | exact HB.out)))); have n1_ := Aside0.mk (blk_below (g := gb168) (o := .cells #[.string a0_0, .int .i64 a0_1, .int .i64 a0_2, .slice A0_3 l0_3.length c0_3, .slice A0_4 l0_4.length c0_4] 32 (0, 0)) (by (with_reducible repeat (first | refine blk_drewN ?_ _ | refine blk_drew ?_ | refine blk_alloc ?_ _)); exact BK168.out) hb); have n2_ := Aside0.mk (blk_below (g := gb169) (o := .cells #[.string (⟨#[]⟩ : ByteArray), .int .i64 0, .int .i64 0, .slice none 0 0, .slice none 0 0] 32 (0, 0)) (by (with_reducible repeat (first | refine blk_drewN ?_ _ | refine blk_drew ?_ | refine blk_alloc ?_ _)); exact BK169.out) hb); have n3_ := Aside0.mk (below_step (by repeat (first | (with_reducible first | exact HB.out | apply below_alloc | apply pw_below_drewN | apply below_drew1 | refine below_set ?_ GE168.out | refine below_set ?_ GE169.out) | exact HB.out)) hb); clear BK168; clear BK169; clear HB; have HO172 := n0_; have BK168 := n1_; have BK169 := n2_; have HB := n3_; clear n0_ n1_ n2_ n3_; (try clear hb); (try clear hb2); (try clear hk); (try clear hi); (try clear ho0); have hcz10_0 : w9.cell? ⟨gb168, 0, none⟩ = some (.string a0_0) := (blk_cell BK168.out 0).trans rfl; have hcz10_1 : w9.cell? ⟨gb168, 1, none⟩ = some (.int .i64 a0_1) := (blk_cell BK168.out 1).trans rfl; have hcz10_2 : w9.cell? ⟨gb168, 2, none⟩ = some (.int .i64 a0_2) := (blk_cell BK168.out 2).trans rfl; have hcz10_3 : w9.cell? ⟨gb168, 3, none⟩ = some (.slice A0_3 l0_3.length c0_3) := (blk_cell BK168.out 3).trans rfl; have hcz10_4 : w9.cell? ⟨gb168, 4, none⟩ = some (.slice A0_4 l0_4.length c0_4) := (blk_cell BK168.out 4).trans rfl; have hfz10_0 := blk_frozen BK168.out 0; have hfz10_1 := blk_frozen BK168.out 1; have hfz10_2 := blk_frozen BK168.out 2; have hfz10_3 := blk_frozen BK168.out 3; have hfz10_4 := blk_frozen BK168.out 4) | ((with_reducible refine gate_dst (N := 20) rfl ?_); (try (refine gate_guard (by rfl) ?_; dsimp only)); refine Kd.R_make (Kd.int .i64) _ 3 rfl (N := 20) rfl 38 _ _ rfl (l0_4.length : Int) rfl rfl Try.underlying38 (.int .i64 0) 8 info3 rfl (by decide) (by omega) 0 (ok := fun _ => True) (okp := fun _ => True) rfl (fun _ hk => hk) trivial (of_decide_eq_true (by first | (with_reducible assumption) | assumption)) (Nat.le_trans (Nat.mul_le_mul_right _ (of_decide_eq_true (by first | (with_reducible assumption) | assumption) : (l0_4.length : Int).toNat ≤ 35184372088832)) (by omega)) (Below.refl _ _) (Nat.le_refl _) ?_; intro v174 w11 ho12 hb hg_ hnew_; clear hg_ hnew_; (first | rw [← Ny173.out] at ho12 | (simp only [Int.reduceToNat] at ho12; rw [← Ny173.out] at ho12)); have n0_ := Aside0.mk (Kd.R_below (by (with_reducible repeat (first | apply Kd.R_alloc | apply Kd.R_drewN | apply Kd.R_drew)); exact HO172.out) hb); have n1_ := Aside0.mk (Kd.R_lower (Kd.R_newM (M := fun k_ => (w.heap.size ≤ k_)) ho12 (below_size (by repeat (first | (with_reducible first | exact HB.out | apply below_alloc | apply pw_below_drewN | apply below_drew1 | refine below_set ?_ GE168.out | refine below_set ?_ GE169.out) | exact HB.out))) (fun k_ h_ => h_)) (below_size (by repeat (first | (with_reducible first | exact HB.out | apply below_alloc | apply pw_below_drewN | apply below_drew1 | refine below_set ?_ GE168.out | refine below_set ?_ GE169.out) | exact HB.out)))); have n2_ := Aside0.mk (blk_below (g := gb168) (o := .cells #[.string a0_0, .int .i64 a0_1, .int .i64 a0_2, .slice A0_3 l0_3.length c0_3, .slice A0_4 l0_4.length c0_4] 32 (0, 0)) (by (with_reducible repeat (first | refine blk_drewN ?_ _ | refine blk_drew ?_ | refine blk_alloc ?_ _)); exact BK168.out) hb); have n3_ := Aside0.mk (blk_below (g := gb169) (o := .cells #[.string (⟨#[]⟩ : ByteArray), .int .i64 0, .int .i64 0, .slice none 0 0, .slice none 0 0] 32 (0, 0)) (by (with_reducible repeat (first | refine blk_drewN ?_ _ | refine blk_drew ?_ | refine blk_alloc ?_ _)); exact BK169.out) hb); have n4_ := Aside0.mk (below_step (by repeat (first | (with_reducible first | exact HB.out | apply below_alloc | apply pw_below_drewN | apply below_drew1 | refine below_set ?_ GE168.out | refine below_set ?_ GE169.out) | exact HB.out)) hb); clear HO172; clear BK168; clear BK169; clear HB; have HO172 := n0_; have HO175 := n1_; have BK168 := n2_; have BK169 := n3_; have HB := n4_; clear n0_ n1_ n2_ n3_ n4_; clear hb ho12))
      go_loopg [5, 6] k (fun kq v5 v6 w' => ∃ (x4_1 : List Int) (x5_1 : List (S23)) (x6_1 : Int), v6 = .int .i64 x6_1 ∧ Aside0 (fuse_Run.l0 kq t170 x4_1 x5_1 x6_1 a0_0 a0_1 a0_2 l0_3 l0_4 = some (r1, r2, r3, r4, r5)) ∧ Aside0 (kq ≤ k) ∧ Aside0 (Kd.R Kd.bool 4 w' w.heap.size (fun k_ => (w.heap.size ≤ k_)) v171 t170) ∧ Aside0 (Kd.R (Kd.int .i64) 3 w' w.heap.size (fun k_ => (w.heap.size ≤ k_)) v174 x4_1) ∧ Aside0 (Kd.R k23 23 w' w.heap.size (fun k_ => (w.heap.size ≤ k_)) v5 x5_1) ∧ Aside0 (w'.heap[gb168]? = some (.cells #[.string a0_0, .int .i64 a0_1, .int .i64 a0_2, (.slice A0_3 l0_3.length c0_3), (.slice A0_4 l0_4.length c0_4)] 32 (0, 0))) ∧ Aside0 (w'.heap[gb169]? = some (.cells #[.string (⟨#[]⟩ : ByteArray), .int .i64 0, .int .i64 0, (.slice none 0 0), (.slice none 0 0)] 32 (0, 0))) ∧ Aside0 (Below w.heap.size w w'))
      case atStart => exact ⟨(y173), (([] : List (S23))), (0), (by first | rfl | (simp; done) | (simp [*]; done)), H', ⟨Nat.le_refl _⟩, ⟨by (with_reducible repeat (first | apply Kd.R_alloc | apply Kd.R_drewN | apply Kd.R_drew)); exact Kd.R_mono HO172.out (fun _ hk => hk.1)⟩, ⟨by (with_reducible repeat (first | apply Kd.R_alloc | apply Kd.R_drewN | apply Kd.R_drew)); exact Kd.R_mono HO175.out (fun _ hk => hk.1)⟩, ⟨by first | exact Kd.R_nil _ _ _ _ _ | exact Kd.N_nil _ _ _ _ _ | exact Kd.V_nil _ _ _ _ _ | exact Kd.Q_nil _ _ _ _ _ | exact Kd.S_nil _ _ _ _ _⟩, ⟨by (with_reducible repeat (first | refine blk_drewN ?_ _ | refine blk_drew ?_ | refine blk_alloc ?_ _)); exact BK168.out⟩, ⟨by (with_reducible repeat (first | refine blk_drewN ?_ _ | refine blk_drew ?_ | refine blk_alloc ?_ _)); exact BK169.out⟩, ⟨by repeat (first | (with_reducible first | exact HB.out | apply below_alloc | apply pw_below_drewN | apply below_drew1 | refine below_set ?_ GE168.out | refine below_set ?_ GE169.out) | exact HB.out)⟩⟩
      case round =>
        clear H'
        try clear c1
        try clear p2
        try clear c3
        try clear c3b0
        try clear c3b1
        try clear c4
        try clear c4b0
        try clear c4b1
        try clear c7
        try clear c8
        try clear c10
        try clear hcz10_0
        try clear hcz10_1
        try clear hcz10_2
        try clear hcz10_3
        try clear hcz10_4
        try clear hcz8_0
        try clear hcz8_1
        try clear hcz8_2
        try clear hcz8_3
        try clear hcz8_4
        try clear hfz10_0
        try clear hfz10_1
        try clear hfz10_2
        try clear hfz10_3
        try clear hfz10_4
        try clear hfz8_0
        try clear hfz8_1
        try clear hfz8_2
        try clear hfz8_3
        try clear hfz8_4
        obtain ⟨x4_1, x5_1, x6_1, rfl, HA, HK1, HO_3, HO_4, HO_5, BK168, BK169, HB⟩ := hrel
        cases gk with
        | zero => exact absurd HA.out (by simp [fuse_Run.l0])
        | succ k1 =>
          have H := HA.out
          clear HA
          simp only [fuse_Run.l0] at H
          by_cases c13 : x6_1 < (l0_4.length : Int)
          · rw [if_pos c13] at H
            have c13b0 : decide (x6_1 < (l0_4.length : Int)) = true := decide_eq_true c13
            clear c13
            by_cases c14 : 0 ≤ x6_1
            · rw [if_pos c14] at H
              have c14b0 : decide (0 ≤ x6_1) = true := decide_eq_true c14
              clear c14
              by_cases c15 : x6_1 < (x4_1.length : Int)
              · rw [if_pos c15] at H
                have c15b0 : decide (x6_1 < (x4_1.length : Int)) = true := decide_eq_true c15
                clear c15
                obtain ⟨y176, hy176⟩ : ∃ y_ : List Int, y_ = (x4_1.set (x6_1 : Int).toNat (x5_1.length : Int)) := ⟨_, rfl⟩
                replace H : (if (wrap64 (x6_1 + 1)) < (l0_4.length : Int) then (if 0 ≤ (wrap64 (x6_1 + 1)) then (if (wrap64 (x6_1 + 1)) < (t170.length : Int) then (fuse_Run.j1 k1 t170 y176 x5_1 x6_1 (!(rdOf false t170 (wrap64 (x6_1 + 1)))) a0_0 a0_1 a0_2 l0_3 l0_4 ((rd_T23 l0_4 x6_1).f0) ((rd_T23 l0_4 x6_1).f1) ((rd_T23 l0_4 x6_1).f2) ((rd_T23 l0_4 x6_1).f3) ((rd_T23 l0_4 x6_1).f4)) else (none)) else (none)) else (none)) = some (r1, r2, r3, r4, r5) := by first | (rw [hy176]; with_reducible exact H) | (have H2_ := (Option.bind_some _ _).symm.trans H; rw [hy176]; with_reducible exact H2_) | (have H2_ := (Option.bind_some _ _).symm.trans H; with_reducible exact H2_) | with_reducible exact H | (rw [hy176]; exact H) | exact H
                have Ny176 := Aside0.mk hy176
                clear hy176
                have HC17 := Aside0.mk H
                clear H
                have hnb18 := NB168_169.out
                have hnc18 := NB169_168.out
                have hcz19_0 : wr.cell? ⟨gb168, 0, none⟩ = some (.string a0_0) := (blk_cell BK168.out 0).trans rfl
                have hcz19_1 : wr.cell? ⟨gb168, 1, none⟩ = some (.int .i64 a0_1) := (blk_cell BK168.out 1).trans rfl
                have hcz19_2 : wr.cell? ⟨gb168, 2, none⟩ = some (.int .i64 a0_2) := (blk_cell BK168.out 2).trans rfl
                have hcz19_3 : wr.cell? ⟨gb168, 3, none⟩ = some (.slice A0_3 l0_3.length c0_3) := (blk_cell BK168.out 3).trans rfl
                have hcz19_4 : wr.cell? ⟨gb168, 4, none⟩ = some (.slice A0_4 l0_4.length c0_4) := (blk_cell BK168.out 4).trans rfl
                have hfz19_0 := blk_frozen BK168.out 0
                have hfz19_1 := blk_frozen BK168.out 1
                have hfz19_2 := blk_frozen BK168.out 2
                have hfz19_3 := blk_frozen BK168.out 3
                have hfz19_4 := blk_frozen BK168.out 4
                obtain ⟨Ao20, co20, eo20⟩ := Kd.R_slice HO_5.out
                subst eo20
                have p16 : 0 ≤ (x6_1 : Int) := of_decide_eq_true (by first | (with_reducible assumption) | assumption)
                have q16 : (x6_1 : Int) < ((x4_1.length : Int) : Int) := of_decide_eq_true (by first | (with_reducible assumption) | assumption)
                obtain ⟨go16, co16, eo16, gb16, gl16, cl16, HG16⟩ := Kd.R_form HO_4.out (by omega)
                (first | cases eo16 | (injection eo16 with ea_ en_ ec_; (first | subst ea_ | (injection ea_ with ea_; subst ea_)); subst ec_; clear en_))
                have GB16 := Aside0.mk gb16
                have GG16 := Aside0.mk HG16
                clear gb16 gl16 HG16
                obtain ⟨hx16_0, hf16_0⟩ := Kd.R_celln 0 HO_4.out (x6_1 : Int) p16 q16
                replace p16 := eq_true p16
                replace q16 := eq_true q16
                have HP21 := Kd.R_putg HO_4.out (x6_1 : Int) (x5_1.length : Int)
                go_upto_region 9 with (first | ((with_reducible refine gate_store (t := 3) (p := 32) rfl ?_); refine store_event (t := 3) (p := 32) (v := ?vo_w22) (w1 := (wr.setCell ⟨go16, (x6_1 : Int).toNat, none⟩ (.int .i64 (x5_1.length : Int)))) ?hg ?ho ?hn ?hr ?_; (case ho => rfl); (case hg => rfl); (case hn => rfl); (case hr => first | (go_simp; done) | (go_simp; rfl)); intro w22 hw; have hg : wr.grownBy w22 (some go16) := (by rw [hw]; exact HP21.2); have hp_ : Kd.R (Kd.int .i64) 3 w22 w.heap.size (fun k_ => (w.heap.size ≤ k_)) (.slice (some ⟨go16, 0, none⟩) x4_1.length co16) y176 := (by rw [hw, Ny176.out]; exact HP21.1); clear HP21; have n0_ := Aside0.mk (Kd.R_over' (v := (.slice (some ⟨go16, 0, none⟩) x4_1.length co16)) (by (with_reducible repeat (first | apply Kd.R_alloc | apply Kd.R_drewN | apply Kd.R_drew)); exact HO_3.out) (Kd.R_typed HO_4.out) (by decide) hg); have n1_ := Aside0.mk (hp_); have n2_ := Aside0.mk (Kd.R_over' (v := (.slice (some ⟨go16, 0, none⟩) x4_1.length co16)) (by (with_reducible repeat (first | apply Kd.R_alloc | apply Kd.R_drewN | apply Kd.R_drew)); exact HO_5.out) (Kd.R_typed HO_4.out) (by decide) hg); have n3_ := Aside0.mk (blk_grown (g := gb168) (o := .cells #[.string a0_0, .int .i64 a0_1, .int .i64 a0_2, .slice A0_3 l0_3.length c0_3, .slice A0_4 l0_4.length c0_4] 32 (0, 0)) (by (with_reducible repeat (first | refine blk_drewN ?_ _ | refine blk_drew ?_ | refine blk_alloc ?_ _)); exact BK168.out) hg (Kd.R_ne HO_4.out BK168.out (by decide))); have n4_ := Aside0.mk (blk_grown (g := gb169) (o := .cells #[.string (⟨#[]⟩ : ByteArray), .int .i64 0, .int .i64 0, .slice none 0 0, .slice none 0 0] 32 (0, 0)) (by (with_reducible repeat (first | refine blk_drewN ?_ _ | refine blk_drew ?_ | refine blk_alloc ?_ _)); exact BK169.out) hg (Kd.R_ne HO_4.out BK169.out (by decide))); have n5_ := Aside0.mk ((by rw [hw]; exact below_set (HB.out) GB16.out : Below w.heap.size w w22)); clear HO_3; clear HO_4; clear HO_5; clear BK168; clear BK169; clear HB; have HO_3 := n0_; have HO_4 := n1_; have HO_5 := n2_; have BK168 := n3_; have BK169 := n4_; have HB := n5_; clear n0_ n1_ n2_ n3_ n4_ n5_; clear hg hw hp_; have hcz23_0 : w22.cell? ⟨gb168, 0, none⟩ = some (.string a0_0) := (blk_cell BK168.out 0).trans rfl; have hcz23_1 : w22.cell? ⟨gb168, 1, none⟩ = some (.int .i64 a0_1) := (blk_cell BK168.out 1).trans rfl; have hcz23_2 : w22.cell? ⟨gb168, 2, none⟩ = some (.int .i64 a0_2) := (blk_cell BK168.out 2).trans rfl; have hcz23_3 : w22.cell? ⟨gb168, 3, none⟩ = some (.slice A0_3 l0_3.length c0_3) := (blk_cell BK168.out 3).trans rfl; have hcz23_4 : w22.cell? ⟨gb168, 4, none⟩ = some (.slice A0_4 l0_4.length c0_4) := (blk_cell BK168.out 4).trans rfl; have hfz23_0 := blk_frozen BK168.out 0; have hfz23_1 := blk_frozen BK168.out 1; have hfz23_2 := blk_frozen BK168.out 2; have hfz23_3 := blk_frozen BK168.out 3; have hfz23_4 := blk_frozen BK168.out 4; have p177 : 0 ≤ (x6_1 : Int) := of_decide_eq_true (by first | (with_reducible assumption) | assumption); have q177 : x6_1 < (l0_4.length : Int) := of_decide_eq_true (by first | (with_reducible assumption) | assumption); obtain ⟨ad177, e177, hx177_0, hx177_1, hx177_2, hx177_3, hx177_4⟩ := at_T23 HR0_4.out x6_1 p177 q177; cases e177; replace hx177_0 := (HB.out.cell (World.block_lt_of_cell? w _ hx177_0)).trans hx177_0; replace hx177_1 := (HB.out.cell (World.block_lt_of_cell? w _ hx177_1)).trans hx177_1; replace hx177_2 := (HB.out.cell (World.block_lt_of_cell? w _ hx177_2)).trans hx177_2; replace hx177_3 := (HB.out.cell (World.block_lt_of_cell? w _ hx177_3)).trans hx177_3; replace hx177_4 := (HB.out.cell (World.block_lt_of_cell? w _ hx177_4)).trans hx177_4; replace p177 := eq_true p177; replace q177 := eq_true q177) | ((with_reducible refine gate_dst (N := 7) rfl ?_); (try (refine gate_guard (by rfl) ?_; dsimp only)); refine box_event ?hg (N := 7) ?hd (cs := #[.int .i64 0, .int .i64 0, .int .i64 0, .int .i64 0, .int .i64 0]) (t := 23) ?hr ?_; (case hd => rfl); (case hg => rfl); (case hr => first | (go_simp; done) | (go_simp; rfl)); intro gb178 hg w24 hbox hb; have n0_ := Aside0.mk (Kd.R_below (by (with_reducible repeat (first | apply Kd.R_alloc | apply Kd.R_drewN | apply Kd.R_drew)); exact HO_3.out) hb); have n1_ := Aside0.mk (Kd.R_below (by (with_reducible repeat (first | apply Kd.R_alloc | apply Kd.R_drewN | apply Kd.R_drew)); exact HO_4.out) hb); have n2_ := Aside0.mk (Kd.R_below (Kd.R_elderB (by (with_reducible repeat (first | apply Kd.R_alloc | apply Kd.R_drewN | apply Kd.R_drew)); exact HO_5.out) gb178 (Nat.le_of_eq hg.symm)) hb); have n3_ := Aside0.mk (blk_below (g := gb168) (o := .cells #[.string a0_0, .int .i64 a0_1, .int .i64 a0_2, .slice A0_3 l0_3.length c0_3, .slice (some ad177) l0_4.length c0_4] 32 (0, 0)) (by (with_reducible repeat (first | refine blk_drewN ?_ _ | refine blk_drew ?_ | refine blk_alloc ?_ _)); exact BK168.out) hb); have n4_ := Aside0.mk (blk_below (g := gb169) (o := .cells #[.string (⟨#[]⟩ : ByteArray), .int .i64 0, .int .i64 0, .slice none 0 0, .slice none 0 0] 32 (0, 0)) (by (with_reducible repeat (first | refine blk_drewN ?_ _ | refine blk_drew ?_ | refine blk_alloc ?_ _)); exact BK169.out) hb); have n5_ := Aside0.mk (below_step (by repeat (first | (with_reducible first | exact HB.out | apply below_alloc | apply pw_below_drewN | apply below_drew1 | refine below_set ?_ GE168.out | refine below_set ?_ GE169.out) | exact HB.out)) hb); have n6_ := Aside0.mk (hbox); have n7_ := Aside0.mk ((by rw [hg]; exact (below_size (by repeat (first | (with_reducible first | exact HB.out | apply below_alloc | apply pw_below_drewN | apply below_drew1 | refine below_set ?_ GE168.out | refine below_set ?_ GE169.out) | exact HB.out))) : w.heap.size ≤ gb178)); have n8_ := Aside0.mk ((by rw [hg]; exact (below_size (by repeat (first | (with_reducible first | exact HB.out | apply below_alloc | apply pw_below_drewN | apply below_drew1 | refine below_set ?_ GE168.out | refine below_set ?_ GE169.out) | exact HB.out))) : w.heap.size ≤ gb178)); have n9_ := Aside0.mk ((by rw [hg]; exact Nat.ne_of_lt (blk_lt (g := gb168) (o := .cells #[.string a0_0, .int .i64 a0_1, .int .i64 a0_2, .slice A0_3 l0_3.length c0_3, .slice (some ad177) l0_4.length c0_4] 32 (0, 0)) (by (with_reducible repeat (first | refine blk_drewN ?_ _ | refine blk_drew ?_ | refine blk_alloc ?_ _)); exact BK168.out)) : gb168 ≠ gb178)); have n10_ := Aside0.mk ((by rw [hg]; exact Nat.ne_of_gt (blk_lt (g := gb168) (o := .cells #[.string a0_0, .int .i64 a0_1, .int .i64 a0_2, .slice A0_3 l0_3.length c0_3, .slice (some ad177) l0_4.length c0_4] 32 (0, 0)) (by (with_reducible repeat (first | refine blk_drewN ?_ _ | refine blk_drew ?_ | refine blk_alloc ?_ _)); exact BK168.out)) : gb178 ≠ gb168)); have n11_ := Aside0.mk ((by rw [hg]; exact Nat.ne_of_lt (blk_lt (g := gb169) (o := .cells #[.string (⟨#[]⟩ : ByteArray), .int .i64 0, .int .i64 0, .slice none 0 0, .slice none 0 0] 32 (0, 0)) (by (with_reducible repeat (first | refine blk_drewN ?_ _ | refine blk_drew ?_ | refine blk_alloc ?_ _)); exact BK169.out)) : gb169 ≠ gb178)); have n12_ := Aside0.mk ((by rw [hg]; exact Nat.ne_of_gt (blk_lt (g := gb169) (o := .cells #[.string (⟨#[]⟩ : ByteArray), .int .i64 0, .int .i64 0, .slice none 0 0, .slice none 0 0] 32 (0, 0)) (by (with_reducible repeat (first | refine blk_drewN ?_ _ | refine blk_drew ?_ | refine blk_alloc ?_ _)); exact BK169.out)) : gb178 ≠ gb169)); clear HO_3; clear HO_4; clear HO_5; clear BK168; clear BK169; clear HB; have HO_3 := n0_; have HO_4 := n1_; have HO_5 := n2_; have BK168 := n3_; have BK169 := n4_; have HB := n5_; have BK178 := n6_; have GW178 := n7_; have GE178 := n8_; have NB168_178 := n9_; have NB178_168 := n10_; have NB169_178 := n11_; have NB178_169 := n12_; clear n0_ n1_ n2_ n3_ n4_ n5_ n6_ n7_ n8_ n9_ n10_ n11_ n12_; clear hb hbox hg; have hnb25 := NB178_168.out; have hnc25 := NB168_178.out; have hnb26 := NB178_169.out; have hnc26 := NB169_178.out; have hcz27_0 : w24.cell? ⟨gb178, 0, none⟩ = some (.int .i64 0) := (blk_cell BK178.out 0).trans rfl; have hcz27_1 : w24.cell? ⟨gb178, 1, none⟩ = some (.int .i64 0) := (blk_cell BK178.out 1).trans rfl; have hcz27_2 : w24.cell? ⟨gb178, 2, none⟩ = some (.int .i64 0) := (blk_cell BK178.out 2).trans rfl; have hcz27_3 : w24.cell? ⟨gb178, 3, none⟩ = some (.int .i64 0) := (blk_cell BK178.out 3).trans rfl; have hcz27_4 : w24.cell? ⟨gb178, 4, none⟩ = some (.int .i64 0) := (blk_cell BK178.out 4).trans rfl; have hfz27_0 := blk_frozen BK178.out 0; have hfz27_1 := blk_frozen BK178.out 1; have hfz27_2 := blk_frozen BK178.out 2; have hfz27_3 := blk_frozen BK178.out 3; have hfz27_4 := blk_frozen BK178.out 4))
                (try simp only [Act.put, List.setIfInBounds_toArray, List.set_cons_zero, List.set_cons_succ])
                go_cut [51] (fun v51 wc => ∃ (kq : Nat) (x51_16 : Bool), v51 = .bool x51_16 ∧ Aside0 (fuse_Run.j1 kq t170 y176 x5_1 x6_1 x51_16 a0_0 a0_1 a0_2 l0_3 l0_4 ((rd_T23 l0_4 x6_1).f0) ((rd_T23 l0_4 x6_1).f1) ((rd_T23 l0_4 x6_1).f2) ((rd_T23 l0_4 x6_1).f3) ((rd_T23 l0_4 x6_1).f4) = some (r1, r2, r3, r4, r5)) ∧ Aside0 (kq ≤ k1) ∧ Aside0 (Kd.R Kd.bool 4 wc w.heap.size (fun k_ => (w.heap.size ≤ k_)) v171 t170) ∧ Aside0 (Kd.R (Kd.int .i64) 3 wc w.heap.size (fun k_ => (w.heap.size ≤ k_)) (.slice (some ⟨go16, 0, none⟩) x4_1.length co16) y176) ∧ Aside0 (Kd.R k23 23 wc w.heap.size (fun k_ => (w.heap.size ≤ k_) ∧ k_ ≠ gb178) (.slice Ao20 x5_1.length co20) x5_1) ∧ Aside0 (wc.heap[gb168]? = some (.cells #[.string a0_0, .int .i64 a0_1, .int .i64 a0_2, (.slice A0_3 l0_3.length c0_3), (.slice (some ad177) l0_4.length c0_4)] 32 (0, 0))) ∧ Aside0 (wc.heap[gb169]? = some (.cells #[.string (⟨#[]⟩ : ByteArray), .int .i64 0, .int .i64 0, (.slice none 0 0), (.slice none 0 0)] 32 (0, 0))) ∧ Aside0 (wc.heap[gb178]? = some (.cells #[.int .i64 ((rd_T23 l0_4 x6_1).f0), .int .i64 ((rd_T23 l0_4 x6_1).f1), .int .i64 ((rd_T23 l0_4 x6_1).f2), .int .i64 ((rd_T23 l0_4 x6_1).f3), .int .i64 ((rd_T23 l0_4 x6_1).f4)] 23 (0, 0))) ∧ Aside0 (Below w.heap.size w wc))
                case first =>
                  have H := HC17.out
                  clear HC17
                  by_cases c28 : (wrap64 (x6_1 + 1)) < (l0_4.length : Int)
                  · rw [if_pos c28] at H
                    have c28b0 : decide ((wrap64 (x6_1 + 1)) < (l0_4.length : Int)) = true := decide_eq_true c28
                    clear c28
                    (first | rw [c28b0] | (simp only [i64_w, i32_w]; rw [c28b0]) | skip)
                    obtain ⟨ji29, hji29⟩ : ∃ j_ : Int, (wrap64 (x6_1 + 1)) = j_ := ⟨_, rfl⟩
                    replace H : (if 0 ≤ (ji29) then (if (ji29) < (t170.length : Int) then (fuse_Run.j1 k1 t170 y176 x5_1 x6_1 (!(rdOf false t170 (ji29))) a0_0 a0_1 a0_2 l0_3 l0_4 ((rd_T23 l0_4 x6_1).f0) ((rd_T23 l0_4 x6_1).f1) ((rd_T23 l0_4 x6_1).f2) ((rd_T23 l0_4 x6_1).f3) ((rd_T23 l0_4 x6_1).f4)) else (none)) else (none)) = some (r1, r2, r3, r4, r5) := by first | (rw [hji29] at H; exact H) | (simp only [hji29] at H ⊢; exact H)
                    (try rw [hji29] at c28b0)
                    have hji29w : (IntKind.i64.wrap (x6_1 + 1)) = ji29 := (i64_w _).trans hji29
                    by_cases c30 : 0 ≤ (ji29)
                    · rw [if_pos c30] at H
                      have c30b0 : decide (0 ≤ (ji29)) = true := decide_eq_true c30
                      clear c30
                      by_cases c31 : (ji29) < (t170.length : Int)
                      · rw [if_pos c31] at H
                        have c31b0 : decide ((ji29) < (t170.length : Int)) = true := decide_eq_true c31
                        clear c31
                        have H' := Aside0.mk H
                        clear H
                        have hnb32 := NB168_169.out
                        have hnc32 := NB169_168.out
                        have hnb33 := NB168_178.out
                        have hnc33 := NB178_168.out
                        have hcz34_0 : w24.cell? ⟨gb168, 0, none⟩ = some (.string a0_0) := (blk_cell BK168.out 0).trans rfl
                        have hcz34_1 : w24.cell? ⟨gb168, 1, none⟩ = some (.int .i64 a0_1) := (blk_cell BK168.out 1).trans rfl
                        have hcz34_2 : w24.cell? ⟨gb168, 2, none⟩ = some (.int .i64 a0_2) := (blk_cell BK168.out 2).trans rfl
                        have hcz34_3 : w24.cell? ⟨gb168, 3, none⟩ = some (.slice A0_3 l0_3.length c0_3) := (blk_cell BK168.out 3).trans rfl
                        have hcz34_4 : w24.cell? ⟨gb168, 4, none⟩ = some (.slice (some ad177) l0_4.length c0_4) := (blk_cell BK168.out 4).trans rfl
                        have hfz34_0 := blk_frozen BK168.out 0
                        have hfz34_1 := blk_frozen BK168.out 1
                        have hfz34_2 := blk_frozen BK168.out 2
                        have hfz34_3 := blk_frozen BK168.out 3
                        have hfz34_4 := blk_frozen BK168.out 4
                        obtain ⟨Ao35, co35, eo35⟩ := Kd.R_slice HO_3.out
                        subst eo35
                        have p179 : 0 ≤ ((ji29) : Int) := of_decide_eq_true (by first | (with_reducible assumption) | assumption)
                        have q179 : (ji29) < (t170.length : Int) := of_decide_eq_true (by first | (with_reducible assumption) | assumption)
                        obtain ⟨ad179, e179, hx179_0⟩ := Kd.at_bool (Kd.R_reads' HO_3.out).2.2 (ji29) p179 q179
                        cases e179
                        have hn179_0 : ad179.block ≠ gb178 := Kd.own_blk (Kd.R_ne HO_3.out BK178.out (by decide))
                        have hn179_1 : ad179.block ≠ gb178 := Kd.own_blk (Kd.R_ne HO_3.out BK178.out (by decide))
                        have hn179_2 : ad179.block ≠ gb178 := Kd.own_blk (Kd.R_ne HO_3.out BK178.out (by decide))
                        have hn179_3 : ad179.block ≠ gb178 := Kd.own_blk (Kd.R_ne HO_3.out BK178.out (by decide))
                        have hn179_4 : ad179.block ≠ gb178 := Kd.own_blk (Kd.R_ne HO_3.out BK178.out (by decide))
                        replace hx179_0 := (cell_far (p := ⟨gb178, 0, none⟩) (by first | (rw [add_block]; exact hn179_0) | (show (Addr.add _ _).block ≠ _; rw [add_block]; exact hn179_0) | exact hn179_0) (.int .i64 ((rd_T23 l0_4 x6_1).f0))).trans hx179_0
                        replace hx179_0 := (cell_far (p := ⟨gb178, 1, none⟩) (by first | (rw [add_block]; exact hn179_1) | (show (Addr.add _ _).block ≠ _; rw [add_block]; exact hn179_1) | exact hn179_1) (.int .i64 ((rd_T23 l0_4 x6_1).f1))).trans hx179_0
                        replace hx179_0 := (cell_far (p := ⟨gb178, 2, none⟩) (by first | (rw [add_block]; exact hn179_2) | (show (Addr.add _ _).block ≠ _; rw [add_block]; exact hn179_2) | exact hn179_2) (.int .i64 ((rd_T23 l0_4 x6_1).f2))).trans hx179_0
                        replace hx179_0 := (cell_far (p := ⟨gb178, 3, none⟩) (by first | (rw [add_block]; exact hn179_3) | (show (Addr.add _ _).block ≠ _; rw [add_block]; exact hn179_3) | exact hn179_3) (.int .i64 ((rd_T23 l0_4 x6_1).f3))).trans hx179_0
                        replace hx179_0 := (cell_far (p := ⟨gb178, 4, none⟩) (by first | (rw [add_block]; exact hn179_4) | (show (Addr.add _ _).block ≠ _; rw [add_block]; exact hn179_4) | exact hn179_4) (.int .i64 ((rd_T23 l0_4 x6_1).f4))).trans hx179_0
                        clear hn179_0
                        clear hn179_1
                        clear hn179_2
                        clear hn179_3
                        clear hn179_4
                        replace p179 := eq_true p179
                        replace q179 := eq_true q179
                        go_wp2
                        go_meet
                        case rel => exact ⟨_, (!(rdOf false t170 (ji29))), (by first | rfl | (simp; done) | (simp only [← hji29] <;> (first | rfl | simp)) | (simp [*]; done)), H', ⟨by have := HK1.out; first | omega | exact Nat.le_refl _⟩, ⟨by (with_reducible repeat (first | apply Kd.R_alloc | apply Kd.R_drewN | apply Kd.R_drew)); exact Kd.R_mono (Kd.R_far (p := ⟨gb178, 4, none⟩) (Kd.R_far (p := ⟨gb178, 3, none⟩) (Kd.R_far (p := ⟨gb178, 2, none⟩) (Kd.R_far (p := ⟨gb178, 1, none⟩) (Kd.R_far (p := ⟨gb178, 0, none⟩) (Kd.R_types HO_3.out BK178.out (by decide)) (fun _ hk => hk.2) (.int .i64 ((rd_T23 l0_4 x6_1).f0))) (fun _ hk => hk.2) (.int .i64 ((rd_T23 l0_4 x6_1).f1))) (fun _ hk => hk.2) (.int .i64 ((rd_T23 l0_4 x6_1).f2))) (fun _ hk => hk.2) (.int .i64 ((rd_T23 l0_4 x6_1).f3))) (fun _ hk => hk.2) (.int .i64 ((rd_T23 l0_4 x6_1).f4))) (fun _ hk => hk.1)⟩, ⟨by (with_reducible repeat (first | apply Kd.R_alloc | apply Kd.R_drewN | apply Kd.R_drew)); exact Kd.R_mono (Kd.R_far (p := ⟨gb178, 4, none⟩) (Kd.R_far (p := ⟨gb178, 3, none⟩) (Kd.R_far (p := ⟨gb178, 2, none⟩) (Kd.R_far (p := ⟨gb178, 1, none⟩) (Kd.R_far (p := ⟨gb178, 0, none⟩) (Kd.R_types HO_4.out BK178.out (by decide)) (fun _ hk => hk.2) (.int .i64 ((rd_T23 l0_4 x6_1).f0))) (fun _ hk => hk.2) (.int .i64 ((rd_T23 l0_4 x6_1).f1))) (fun _ hk => hk.2) (.int .i64 ((rd_T23 l0_4 x6_1).f2))) (fun _ hk => hk.2) (.int .i64 ((rd_T23 l0_4 x6_1).f3))) (fun _ hk => hk.2) (.int .i64 ((rd_T23 l0_4 x6_1).f4))) (fun _ hk => hk.1)⟩, ⟨by (with_reducible repeat (first | apply Kd.R_alloc | apply Kd.R_drewN | apply Kd.R_drew)); exact Kd.R_mono (Kd.R_far (p := ⟨gb178, 4, none⟩) (Kd.R_far (p := ⟨gb178, 3, none⟩) (Kd.R_far (p := ⟨gb178, 2, none⟩) (Kd.R_far (p := ⟨gb178, 1, none⟩) (Kd.R_far (p := ⟨gb178, 0, none⟩) (Kd.R_mono HO_5.out (fun k_ hk => (⟨hk, hk.2⟩ : _ ∧ k_ ≠ gb178))) (fun _ hk => hk.2) (.int .i64 ((rd_T23 l0_4 x6_1).f0))) (fun _ hk => hk.2) (.int .i64 ((rd_T23 l0_4 x6_1).f1))) (fun _ hk => hk.2) (.int .i64 ((rd_T23 l0_4 x6_1).f2))) (fun _ hk => hk.2) (.int .i64 ((rd_T23 l0_4 x6_1).f3))) (fun _ hk => hk.2) (.int .i64 ((rd_T23 l0_4 x6_1).f4))) (fun _ hk => ⟨hk.1.1, hk.1.2⟩)⟩, ⟨by (with_reducible repeat (first | refine blk_drewN ?_ _ | refine blk_drew ?_ | refine blk_alloc ?_ _)); refine blk_far ?_ NB168_178.out _; (with_reducible repeat (first | refine blk_drewN ?_ _ | refine blk_drew ?_ | refine blk_alloc ?_ _)); refine blk_far ?_ NB168_178.out _; (with_reducible repeat (first | refine blk_drewN ?_ _ | refine blk_drew ?_ | refine blk_alloc ?_ _)); refine blk_far ?_ NB168_178.out _; (with_reducible repeat (first | refine blk_drewN ?_ _ | refine blk_drew ?_ | refine blk_alloc ?_ _)); refine blk_far ?_ NB168_178.out _; (with_reducible repeat (first | refine blk_drewN ?_ _ | refine blk_drew ?_ | refine blk_alloc ?_ _)); refine blk_far ?_ NB168_178.out _; (with_reducible repeat (first | refine blk_drewN ?_ _ | refine blk_drew ?_ | refine blk_alloc ?_ _)); exact BK168.out⟩, ⟨by (with_reducible repeat (first | refine blk_drewN ?_ _ | refine blk_drew ?_ | refine blk_alloc ?_ _)); refine blk_far ?_ NB169_178.out _; (with_reducible repeat (first | refine blk_drewN ?_ _ | refine blk_drew ?_ | refine blk_alloc ?_ _)); refine blk_far ?_ NB169_178.out _; (with_reducible repeat (first | refine blk_drewN ?_ _ | refine blk_drew ?_ | refine blk_alloc ?_ _)); refine blk_far ?_ NB169_178.out _; (with_reducible repeat (first | refine blk_drewN ?_ _ | refine blk_drew ?_ | refine blk_alloc ?_ _)); refine blk_far ?_ NB169_178.out _; (with_reducible repeat (first | refine blk_drewN ?_ _ | refine blk_drew ?_ | refine blk_alloc ?_ _)); refine blk_far ?_ NB169_178.out _; (with_reducible repeat (first | refine blk_drewN ?_ _ | refine blk_drew ?_ | refine blk_alloc ?_ _)); exact BK169.out⟩, ⟨by (with_reducible repeat (first | refine blk_drewN ?_ _ | refine blk_drew ?_ | refine blk_alloc ?_ _)); refine blk_put (cs := #[.int .i64 ((rd_T23 l0_4 x6_1).f0), .int .i64 ((rd_T23 l0_4 x6_1).f1), .int .i64 ((rd_T23 l0_4 x6_1).f2), .int .i64 ((rd_T23 l0_4 x6_1).f3), .int .i64 0]) ?_ 4 _ rfl; (with_reducible repeat (first | refine blk_drewN ?_ _ | refine blk_drew ?_ | refine blk_alloc ?_ _)); refine blk_put (cs := #[.int .i64 ((rd_T23 l0_4 x6_1).f0), .int .i64 ((rd_T23 l0_4 x6_1).f1), .int .i64 ((rd_T23 l0_4 x6_1).f2), .int .i64 0, .int .i64 0]) ?_ 3 _ rfl; (with_reducible repeat (first | refine blk_drewN ?_ _ | refine blk_drew ?_ | refine blk_alloc ?_ _)); refine blk_put (cs := #[.int .i64 ((rd_T23 l0_4 x6_1).f0), .int .i64 ((rd_T23 l0_4 x6_1).f1), .int .i64 0, .int .i64 0, .int .i64 0]) ?_ 2 _ rfl; (with_reducible repeat (first | refine blk_drewN ?_ _ | refine blk_drew ?_ | refine blk_alloc ?_ _)); refine blk_put (cs := #[.int .i64 ((rd_T23 l0_4 x6_1).f0), .int .i64 0, .int .i64 0, .int .i64 0, .int .i64 0]) ?_ 1 _ rfl; (with_reducible repeat (first | refine blk_drewN ?_ _ | refine blk_drew ?_ | refine blk_alloc ?_ _)); refine blk_put (cs := #[.int .i64 0, .int .i64 0, .int .i64 0, .int .i64 0, .int .i64 0]) ?_ 0 _ rfl; (with_reducible repeat (first | refine blk_drewN ?_ _ | refine blk_drew ?_ | refine blk_alloc ?_ _)); exact BK178.out⟩, ⟨by repeat (first | (with_reducible first | exact HB.out | apply below_alloc | apply pw_below_drewN | apply below_drew1 | refine below_set ?_ GE168.out | refine below_set ?_ GE169.out | refine below_set ?_ GE178.out) | exact HB.out)⟩⟩
                      · rw [if_neg c31] at H
                        exact absurd H (by simp)
                    · rw [if_neg c30] at H
                      exact absurd H (by simp)
                  · rw [if_neg c28] at H
                    exact absurd H (by simp)
                case rest =>
                  clear HC17
                  try clear c1
                  try clear p1
                  try clear q1
                  try clear hx1
                  try clear hf1
                  try clear c2
                  try clear p2
                  try clear c3
                  try clear c3b0
                  try clear c3b1
                  try clear c4
                  try clear c4b0
                  try clear c4b1
                  try clear p6
                  try clear c7
                  try clear c8
                  try clear c10
                  try clear c13
                  try clear c13b0
                  try clear c14
                  try clear c14b0
                  try clear c15
                  try clear c15b0
                  try clear p16
                  try clear q16
                  try clear hx16
                  try clear hf16
                  try clear p17
                  try clear q17
                  try clear hx17
                  try clear c18
                  try clear c25
                  try clear c26
                  try clear c28
                  try clear c28b0
                  try clear c30
                  try clear c30b0
                  try clear c31
                  try clear c31b0
                  try clear c32
                  try clear c33
                  try clear c36
                  try clear c37
                  try clear hcz10_0
                  try clear hcz10_1
                  try clear hcz10_2
                  try clear hcz10_3
                  try clear hcz10_4
                  try clear hcz19_0
                  try clear hcz19_1
                  try clear hcz19_2
                  try clear hcz19_3
                  try clear hcz19_4
                  try clear hcz23_0
                  try clear hcz23_1
                  try clear hcz23_2
                  try clear hcz23_3
                  try clear hcz23_4
                  try clear hcz27_0
                  try clear hcz27_1
                  try clear hcz27_2
                  try clear hcz27_3
                  try clear hcz27_4
                  try clear hcz34_0
                  try clear hcz34_1
                  try clear hcz34_2
                  try clear hcz34_3
                  try clear hcz34_4
                  try clear hcz38_0
                  try clear hcz38_1
                  try clear hcz38_2
                  try clear hcz38_3
                  try clear hcz38_4
                  try clear hcz8_0
                  try clear hcz8_1
                  try clear hcz8_2
                  try clear hcz8_3
                  try clear hcz8_4
                  try clear hfz10_0
                  try clear hfz10_1
                  try clear hfz10_2
                  try clear hfz10_3
                  try clear hfz10_4
                  try clear hfz19_0
                  try clear hfz19_1
                  try clear hfz19_2
                  try clear hfz19_3
                  try clear hfz19_4
                  try clear hfz23_0
                  try clear hfz23_1
                  try clear hfz23_2
                  try clear hfz23_3
                  try clear hfz23_4
                  try clear hfz27_0
                  try clear hfz27_1
                  try clear hfz27_2
                  try clear hfz27_3
                  try clear hfz27_4
                  try clear hfz34_0
                  try clear hfz34_1
                  try clear hfz34_2
                  try clear hfz34_3
                  try clear hfz34_4
                  try clear hfz38_0
                  try clear hfz38_1
                  try clear hfz38_2
                  try clear hfz38_3
                  try clear hfz38_4
                  try clear hfz8_0
                  try clear hfz8_1
                  try clear hfz8_2
                  try clear hfz8_3
                  try clear hfz8_4
                  try clear hx16_0
                  try clear hx177_0
                  try clear hx177_1
                  try clear hx177_2
                  try clear hx177_3
                  try clear hx177_4
                  try clear hx179_0
                  try clear p16
                  try clear p177
                  try clear p179
                  try clear p2
                  try clear q16
                  try clear q177
                  try clear q179
                  obtain ⟨kq, x51_16, rfl, HA, HJ16, HO_3, HO_4, HO_5, BK168, BK169, BK178, HB⟩ := hcut
                  have hl4_16 := (Kd.R_reads' HO_4.out).1
                  rw [hl4_16] at HO_4
                  (try simp only [hl4_16])
                  (try simp only [hl4_16] at BK168)
                  (try simp only [hl4_16] at BK169)
                  (try simp only [hl4_16] at BK178)
                  (try simp only [hl4_16] at HO_3)
                  (try simp only [hl4_16] at HO_5)
                  cases kq with
                  | zero => exact absurd HA.out (by simp [fuse_Run.j1])
                  | succ kj16 =>
                    have H := HA.out
                    clear HA
                    simp only [fuse_Run.j1] at H
                    by_cases c39 : x51_16 = true
                    · subst c39
                      have H1 : (if 0 ≤ (wrap64 (x6_1 + 1)) then (if (wrap64 (x6_1 + 1)) < (l0_4.length : Int) then ((fuse_Pair.f kj16 ((rd_T23 l0_4 x6_1).f0) ((rd_T23 l0_4 x6_1).f1) ((rd_T23 l0_4 x6_1).f2) ((rd_T23 l0_4 x6_1).f3) ((rd_T23 l0_4 x6_1).f4) ((rd_T23 l0_4 (wrap64 (x6_1 + 1))).f0) ((rd_T23 l0_4 (wrap64 (x6_1 + 1))).f1) ((rd_T23 l0_4 (wrap64 (x6_1 + 1))).f2) ((rd_T23 l0_4 (wrap64 (x6_1 + 1))).f3) ((rd_T23 l0_4 (wrap64 (x6_1 + 1))).f4)).bind fun bt181 => (if bt181.2.2.2.2.2 = true then (if (wrap64 (x6_1 + 1)) < (y176.length : Int) then (if x5_1.length < 3518437208883 then (fuse_Run.l0 kj16 t170 (y176.set ((wrap64 (x6_1 + 1)) : Int).toNat (x5_1.length : Int)) (x5_1 ++ [(⟨bt181.1, bt181.2.1, bt181.2.2.1, bt181.2.2.2.1, bt181.2.2.2.2.1⟩ : S23)]) (wrap64 ((wrap64 (x6_1 + 1)) + 1)) a0_0 a0_1 a0_2 l0_3 l0_4) else (none)) else (none)) else (none))) else (none)) else (none)) = some (r1, r2, r3, r4, r5) := by rw [if_pos rfl] at H; exact H
                      clear H
                      have H := H1
                      clear H1
                      obtain ⟨ji40, hji40⟩ : ∃ j_ : Int, (wrap64 (x6_1 + 1)) = j_ := ⟨_, rfl⟩
                      replace H : (if 0 ≤ (ji40) then (if (ji40) < (l0_4.length : Int) then ((fuse_Pair.f kj16 ((rd_T23 l0_4 x6_1).f0) ((rd_T23 l0_4 x6_1).f1) ((rd_T23 l0_4 x6_1).f2) ((rd_T23 l0_4 x6_1).f3) ((rd_T23 l0_4 x6_1).f4) ((rd_T23 l0_4 (ji40)).f0) ((rd_T23 l0_4 (ji40)).f1) ((rd_T23 l0_4 (ji40)).f2) ((rd_T23 l0_4 (ji40)).f3) ((rd_T23 l0_4 (ji40)).f4)).bind fun bt181 => (if bt181.2.2.2.2.2 = true then (if (ji40) < (y176.length : Int) then (if x5_1.length < 3518437208883 then (fuse_Run.l0 kj16 t170 (y176.set ((ji40) : Int).toNat (x5_1.length : Int)) (x5_1 ++ [(⟨bt181.1, bt181.2.1, bt181.2.2.1, bt181.2.2.2.1, bt181.2.2.2.2.1⟩ : S23)]) (wrap64 ((ji40) + 1)) a0_0 a0_1 a0_2 l0_3 l0_4) else (none)) else (none)) else (none))) else (none)) else (none)) = some (r1, r2, r3, r4, r5) := by first | (rw [hji40] at H; exact H) | (simp only [hji40] at H ⊢; exact H)
                      have hji40w : (IntKind.i64.wrap (x6_1 + 1)) = ji40 := (i64_w _).trans hji40
                      by_cases c41 : 0 ≤ (ji40)
                      · rw [if_pos c41] at H
                        have c41b0 : decide (0 ≤ (ji40)) = true := decide_eq_true c41
                        clear c41
                        by_cases c42 : (ji40) < (l0_4.length : Int)
                        · rw [if_pos c42] at H
                          have c42b0 : decide ((ji40) < (l0_4.length : Int)) = true := decide_eq_true c42
                          clear c42
                          replace H := Option.bind_eq_some_iff.mp H
                          obtain ⟨⟨t181, t182, t183, t184, t185, t186⟩, A430, H⟩ := H
                          replace H : (if t186 = true then (if (ji40) < (y176.length : Int) then (if x5_1.length < 3518437208883 then (fuse_Run.l0 kj16 t170 (y176.set ((ji40) : Int).toNat (x5_1.length : Int)) (x5_1 ++ [(⟨t181, t182, t183, t184, t185⟩ : S23)]) (wrap64 ((ji40) + 1)) a0_0 a0_1 a0_2 l0_3 l0_4) else (none)) else (none)) else (none)) = some (r1, r2, r3, r4, r5) := H
                          have A43 := Aside0.mk A430
                          clear A430
                          by_cases c44 : t186 = true
                          · subst c44
                            have H1 : (if (ji40) < (y176.length : Int) then (if x5_1.length < 3518437208883 then (fuse_Run.l0 kj16 t170 (y176.set ((ji40) : Int).toNat (x5_1.length : Int)) (x5_1 ++ [(⟨t181, t182, t183, t184, t185⟩ : S23)]) (wrap64 ((ji40) + 1)) a0_0 a0_1 a0_2 l0_3 l0_4) else (none)) else (none)) = some (r1, r2, r3, r4, r5) := by rw [if_pos rfl] at H; exact H
                            clear H
                            have H := H1
                            clear H1
                            by_cases c45 : (ji40) < (y176.length : Int)
                            · rw [if_pos c45] at H
                              have c45b0 : decide ((ji40) < (y176.length : Int)) = true := decide_eq_true c45
                              clear c45
                              obtain ⟨y188, hy188⟩ : ∃ y_ : List Int, y_ = (y176.set ((ji40) : Int).toNat (x5_1.length : Int)) := ⟨_, rfl⟩
                              replace H : (if x5_1.length < 3518437208883 then (fuse_Run.l0 kj16 t170 y188 (x5_1 ++ [(⟨t181, t182, t183, t184, t185⟩ : S23)]) (wrap64 ((ji40) + 1)) a0_0 a0_1 a0_2 l0_3 l0_4) else (none)) = some (r1, r2, r3, r4, r5) := by first | (rw [hy188]; with_reducible exact H) | (have H2_ := (Option.bind_some _ _).symm.trans H; rw [hy188]; with_reducible exact H2_) | (have H2_ := (Option.bind_some _ _).symm.trans H; with_reducible exact H2_) | with_reducible exact H | (rw [hy188]; exact H) | exact H
                              have Ny188 := Aside0.mk hy188
                              clear hy188
                              by_cases c47 : x5_1.length < 3518437208883
                              · rw [if_pos c47] at H
                                have LMc47 := Aside0.mk c47
                                clear c47
                                obtain ⟨y189, hy189⟩ : ∃ y_ : List (S23), y_ = (x5_1 ++ [(⟨t181, t182, t183, t184, t185⟩ : S23)]) := ⟨_, rfl⟩
                                replace H : (fuse_Run.l0 kj16 t170 y188 y189 (wrap64 ((ji40) + 1)) a0_0 a0_1 a0_2 l0_3 l0_4) = some (r1, r2, r3, r4, r5) := by first | (rw [hy189]; with_reducible exact H) | (have H2_ := (Option.bind_some _ _).symm.trans H; rw [hy189]; with_reducible exact H2_) | (have H2_ := (Option.bind_some _ _).symm.trans H; with_reducible exact H2_) | with_reducible exact H | (rw [hy189]; exact H) | exact H
                                have Ny189 := Aside0.mk hy189
                                clear hy189
                                have H' := Aside0.mk H
                                clear H
                                try go_wp2
                                have n0_ := Aside0.mk (Kd.R_drew HO_3.out)
                                have n1_ := Aside0.mk (Kd.R_drew HO_4.out)
                                have n2_ := Aside0.mk (Kd.R_drew HO_5.out)
                                have n3_ := Aside0.mk (blk_drew BK168.out)
                                have n4_ := Aside0.mk (blk_drew BK169.out)
                                have n5_ := Aside0.mk (blk_drew BK178.out)
                                have n6_ := Aside0.mk (below_drew1 HB.out)
                                clear HO_3
                                clear HO_4
                                clear HO_5
                                clear BK168
                                clear BK169
                                clear BK178
                                clear HB
                                have HO_3 := n0_
                                have HO_4 := n1_
                                have HO_5 := n2_
                                have BK168 := n3_
                                have BK169 := n4_
                                have BK178 := n5_
                                have HB := n6_
                                clear n0_ n1_ n2_ n3_ n4_ n5_ n6_
                                have p180 : 0 ≤ ((ji40) : Int) := of_decide_eq_true (by first | (with_reducible assumption) | assumption)
                                have q180 : (ji40) < (l0_4.length : Int) := of_decide_eq_true (by first | (with_reducible assumption) | assumption)
                                obtain ⟨ad180, e180, hx180_0, hx180_1, hx180_2, hx180_3, hx180_4⟩ := at_T23 HR0_4.out (ji40) p180 q180
                                have hw180_4 := hx180_4
                                have hw180_3 := hx180_3
                                have hw180_2 := hx180_2
                                have hw180_1 := hx180_1
                                have hw180_0 := hx180_0
                                obtain rfl : ad177 = ad180 := (by injection e180)
                                replace hx180_0 := (HB.out.cell (World.block_lt_of_cell? w _ hx180_0)).trans hx180_0
                                replace hx180_1 := (HB.out.cell (World.block_lt_of_cell? w _ hx180_1)).trans hx180_1
                                replace hx180_2 := (HB.out.cell (World.block_lt_of_cell? w _ hx180_2)).trans hx180_2
                                replace hx180_3 := (HB.out.cell (World.block_lt_of_cell? w _ hx180_3)).trans hx180_3
                                replace hx180_4 := (HB.out.cell (World.block_lt_of_cell? w _ hx180_4)).trans hx180_4
                                replace p180 := eq_true p180
                                replace q180 := eq_true q180
                                refine start_ (n := 14) (S := fun w' => w'.cell? ⟨gb178, 0, none⟩ = some (.int .i64 ((rd_T23 l0_4 x6_1).f0)) ∧ w'.cell? ⟨gb178, 1, none⟩ = some (.int .i64 ((rd_T23 l0_4 x6_1).f1)) ∧ w'.cell? ⟨gb178, 2, none⟩ = some (.int .i64 ((rd_T23 l0_4 x6_1).f2)) ∧ w'.cell? ⟨gb178, 3, none⟩ = some (.int .i64 ((rd_T23 l0_4 x6_1).f3)) ∧ w'.cell? ⟨gb178, 4, none⟩ = some (.int .i64 ((rd_T23 l0_4 x6_1).f4)) ∧ w'.cell? ⟨gb168, 0, none⟩ = some (.string a0_0) ∧ w'.cell? ⟨gb168, 1, none⟩ = some (.int .i64 a0_1) ∧ w'.cell? ⟨gb168, 2, none⟩ = some (.int .i64 a0_2) ∧ w'.cell? ⟨gb168, 3, none⟩ = some (.slice A0_3 l0_3.length c0_3) ∧ w'.cell? ⟨gb168, 4, none⟩ = some (.slice (some ad177) l0_4.length c0_4) ∧ w'.cell? (ad177.add (((ji40)).toNat * 5)) = some (.int .i64 ((rd_T23 l0_4 (ji40)).f0)) ∧ w'.cell? ⟨(ad177.add (((ji40)).toNat * 5)).block, (ad177.add (((ji40)).toNat * 5)).off + 1, none⟩ = some (.int .i64 ((rd_T23 l0_4 (ji40)).f1)) ∧ w'.cell? ⟨(ad177.add (((ji40)).toNat * 5)).block, (ad177.add (((ji40)).toNat * 5)).off + 2, none⟩ = some (.int .i64 ((rd_T23 l0_4 (ji40)).f2)) ∧ w'.cell? ⟨(ad177.add (((ji40)).toNat * 5)).block, (ad177.add (((ji40)).toNat * 5)).off + 3, none⟩ = some (.int .i64 ((rd_T23 l0_4 (ji40)).f3)) ∧ w'.cell? ⟨(ad177.add (((ji40)).toNat * 5)).block, (ad177.add (((ji40)).toNat * 5)).off + 4, none⟩ = some (.int .i64 ((rd_T23 l0_4 (ji40)).f4))) (ds := []) #[false, false, false, false, false, false, false, false, false, false, false, false, false, false] (by kernel_rfl) rfl rfl ⟨(blk_cell BK178.out 0).trans rfl, (blk_cell BK178.out 1).trans rfl, (blk_cell BK178.out 2).trans rfl, (blk_cell BK178.out 3).trans rfl, (blk_cell BK178.out 4).trans rfl, (blk_cell BK168.out 0).trans rfl, (blk_cell BK168.out 1).trans rfl, (blk_cell BK168.out 2).trans rfl, (blk_cell BK168.out 3).trans rfl, (blk_cell BK168.out 4).trans rfl, ((HB.out.cell (World.block_lt_of_cell? w _ hw180_0)).trans hw180_0), ((HB.out.cell (World.block_lt_of_cell? w _ hw180_1)).trans hw180_1), ((HB.out.cell (World.block_lt_of_cell? w _ hw180_2)).trans hw180_2), ((HB.out.cell (World.block_lt_of_cell? w _ hw180_3)).trans hw180_3), ((HB.out.cell (World.block_lt_of_cell? w _ hw180_4)).trans hw180_4)⟩ (fun hHeld => ?_); refine with_tabW fuse_Run.tab10 fuse_Run.bits10 (fun HT_ HW_ => ?_)
                                generalize wc.drew = w48 at HO_3 HO_4 HO_5 BK168 BK169 BK178 HB hx180_0 hx180_1 hx180_2 hx180_3 hx180_4 hHeld ⊢
                                refine pure_ (i := 1) (N := some 54) (v := ?_) (a' := ?_) #[false, true, false, false, false, false, false, false, false, false, false, false, false, false] rfl rfl (any_of HT_.out (by kernel_rfl)) (fun _ _ _ h => h) (Or.inl ⟨by rfl, ?_⟩) ?_ ?_
                                rotate_left
                                · intro w'
                                  go_simp
                                  with_reducible rfl
                                rotate_left
                                · simp only [Act.put, List.setIfInBounds_toArray, List.set_cons_zero, List.set_cons_succ, i64_w, i32_w]
                                  rfl
                                refine pure_ (i := 3) (N := some 56) (v := ?_) (a' := ?_) #[false, true, false, true, false, false, false, false, false, false, false, false, false, false] rfl rfl (any_of HT_.out (by kernel_rfl)) (fun _ _ _ h => h) (Or.inl ⟨by rfl, ?_⟩) ?_ ?_
                                rotate_left
                                · intro w'
                                  go_simp
                                  with_reducible rfl
                                rotate_left
                                · simp only [Act.put, List.setIfInBounds_toArray, List.set_cons_zero, List.set_cons_succ, i64_w, i32_w]
                                  rfl
                                refine pure_ (i := 4) (N := some 57) (v := ?_) (a' := ?_) #[false, true, false, true, true, false, false, false, false, false, false, false, false, false] rfl rfl (any_of HT_.out (by kernel_rfl)) (fun _ _ _ h => h) (Or.inl ⟨by rfl, ?_⟩) ?_ ?_
                                rotate_left
                                · intro w'
                                  go_simp
                                  with_reducible rfl
                                rotate_left
                                · simp only [Act.put, List.setIfInBounds_toArray, List.set_cons_zero, List.set_cons_succ, i64_w, i32_w]
                                  rfl
                                refine take_ (i := 0) (N := some 53) (v := ?_) (a' := ?_) #[true, true, false, true, true, false, false, false, false, false, false, false, false, false] rfl rfl (take_ofW HT_.out HW_.out (by kernel_rfl)) (fun _ _ _ h => h) (Or.inl ⟨by rfl, ?_⟩) hHeld ?_ ?_
                                rotate_left
                                · rintro w' ⟨s0, s1, s2, s3, s4, s5, s6, s7, s8, s9, s10, s11, s12, s13, s14⟩
                                  go_simp
                                  with_reducible rfl
                                rotate_left
                                · simp only [Act.put, List.setIfInBounds_toArray, List.set_cons_zero, List.set_cons_succ, i64_w, i32_w]
                                  rfl
                                refine take_ (i := 2) (N := some 55) (v := ?_) (a' := ?_) #[true, true, true, true, true, false, false, false, false, false, false, false, false, false] rfl rfl (take_ofW HT_.out HW_.out (by kernel_rfl)) (fun _ _ _ h => h) (Or.inl ⟨by rfl, ?_⟩) hHeld ?_ ?_
                                rotate_left
                                · rintro w' ⟨s0, s1, s2, s3, s4, s5, s6, s7, s8, s9, s10, s11, s12, s13, s14⟩
                                  go_simp
                                  with_reducible rfl
                                rotate_left
                                · simp only [Act.put, List.setIfInBounds_toArray, List.set_cons_zero, List.set_cons_succ, i64_w, i32_w]
                                  rfl
                                refine pure_ (i := 5) (N := some 58) (v := ?_) (a' := ?_) #[true, true, true, true, true, true, false, false, false, false, false, false, false, false] rfl rfl (any_of HT_.out (by kernel_rfl)) (fun _ _ _ h => h) (Or.inl ⟨by rfl, ?_⟩) ?_ ?_
                                rotate_left
                                · intro w'
                                  go_simp
                                  with_reducible rfl
                                rotate_left
                                · simp only [Act.put, List.setIfInBounds_toArray, List.set_cons_zero, List.set_cons_succ, i64_w, i32_w]
                                  rfl
                                refine take_ (i := 6) (N := some 59) (v := ?_) (a' := ?_) #[true, true, true, true, true, true, true, false, false, false, false, false, false, false] rfl rfl (take_ofW HT_.out HW_.out (by kernel_rfl)) (fun _ _ _ h => h) (Or.inl ⟨by rfl, ?_⟩) hHeld ?_ ?_
                                rotate_left
                                · rintro w' ⟨s0, s1, s2, s3, s4, s5, s6, s7, s8, s9, s10, s11, s12, s13, s14⟩
                                  go_simp
                                  with_reducible rfl
                                rotate_left
                                · simp only [Act.put, List.setIfInBounds_toArray, List.set_cons_zero, List.set_cons_succ, i64_w, i32_w]
                                  rfl
                                refine join_ (σ := Nat) 2 #[true, true, true, true, true, true, true, true, true, true, true, true, false, false] (fun s_ => [(60, .tuple #[.agg #[.int .i64 t181, .int .i64 t182, .int .i64 t183, .int .i64 t184, .int .i64 t185], .bool true]), (8, .pointer (some ⟨s_, 0, none⟩)), (52, .tuple #[.agg #[.int .i64 t181, .int .i64 t182, .int .i64 t183, .int .i64 t184, .int .i64 t185], .bool true]), (61, .agg #[.int .i64 t181, .int .i64 t182, .int .i64 t183, .int .i64 t184, .int .i64 t185]), (62, .bool true)]) (fun s_ w' => (w'.cell? ⟨gb178, 0, none⟩ = some (.int .i64 ((rd_T23 l0_4 x6_1).f0)) ∧ w'.cell? ⟨gb178, 1, none⟩ = some (.int .i64 ((rd_T23 l0_4 x6_1).f1)) ∧ w'.cell? ⟨gb178, 2, none⟩ = some (.int .i64 ((rd_T23 l0_4 x6_1).f2)) ∧ w'.cell? ⟨gb178, 3, none⟩ = some (.int .i64 ((rd_T23 l0_4 x6_1).f3)) ∧ w'.cell? ⟨gb178, 4, none⟩ = some (.int .i64 ((rd_T23 l0_4 x6_1).f4)) ∧ w'.cell? ⟨gb168, 0, none⟩ = some (.string a0_0) ∧ w'.cell? ⟨gb168, 1, none⟩ = some (.int .i64 a0_1) ∧ w'.cell? ⟨gb168, 2, none⟩ = some (.int .i64 a0_2) ∧ w'.cell? ⟨gb168, 3, none⟩ = some (.slice A0_3 l0_3.length c0_3) ∧ w'.cell? ⟨gb168, 4, none⟩ = some (.slice (some ad177) l0_4.length c0_4) ∧ w'.cell? (ad177.add (((ji40)).toNat * 5)) = some (.int .i64 ((rd_T23 l0_4 (ji40)).f0)) ∧ w'.cell? ⟨(ad177.add (((ji40)).toNat * 5)).block, (ad177.add (((ji40)).toNat * 5)).off + 1, none⟩ = some (.int .i64 ((rd_T23 l0_4 (ji40)).f1)) ∧ w'.cell? ⟨(ad177.add (((ji40)).toNat * 5)).block, (ad177.add (((ji40)).toNat * 5)).off + 2, none⟩ = some (.int .i64 ((rd_T23 l0_4 (ji40)).f2)) ∧ w'.cell? ⟨(ad177.add (((ji40)).toNat * 5)).block, (ad177.add (((ji40)).toNat * 5)).off + 3, none⟩ = some (.int .i64 ((rd_T23 l0_4 (ji40)).f3)) ∧ w'.cell? ⟨(ad177.add (((ji40)).toNat * 5)).block, (ad177.add (((ji40)).toNat * 5)).off + 4, none⟩ = some (.int .i64 ((rd_T23 l0_4 (ji40)).f4))) ∧ (Kd.R Kd.bool 4 w' w.heap.size (fun k_ => (w.heap.size ≤ k_)) v171 t170) ∧ (Kd.R (Kd.int .i64) 3 w' w.heap.size (fun k_ => (w.heap.size ≤ k_)) (.slice (some ⟨go16, 0, none⟩) y176.length co16) y176) ∧ (Kd.R k23 23 w' w.heap.size (fun k_ => (w.heap.size ≤ k_) ∧ k_ ≠ gb178 ∧ k_ ≠ s_) (.slice Ao20 x5_1.length co20) x5_1) ∧ (w'.heap[gb168]? = some (.cells #[.string a0_0, .int .i64 a0_1, .int .i64 a0_2, .slice A0_3 l0_3.length c0_3, .slice (some ad177) l0_4.length c0_4] 32 (0, 0))) ∧ (w'.heap[gb169]? = some (.cells #[.string (⟨#[]⟩ : ByteArray), .int .i64 0, .int .i64 0, .slice none 0 0, .slice none 0 0] 32 (0, 0))) ∧ (w'.heap[gb178]? = some (.cells #[.int .i64 ((rd_T23 l0_4 x6_1).f0), .int .i64 ((rd_T23 l0_4 x6_1).f1), .int .i64 ((rd_T23 l0_4 x6_1).f2), .int .i64 ((rd_T23 l0_4 x6_1).f3), .int .i64 ((rd_T23 l0_4 x6_1).f4)] 23 (0, 0))) ∧ (w'.heap[s_]? = some (.cells #[.int .i64 0, .int .i64 0, .int .i64 0, .int .i64 0, .int .i64 0] 23 (0, 0))) ∧ (w.heap.size ≤ s_) ∧ (w.heap.size ≤ s_) ∧ (gb168 ≠ s_) ∧ (s_ ≠ gb168) ∧ (gb169 ≠ s_) ∧ (s_ ≠ gb169) ∧ (gb178 ≠ s_) ∧ (s_ ≠ gb178) ∧ (Below w.heap.size w w')) ?_ ?_
                                rotate_left
                                · intro hCont
                                  refine two_ (i := 7) (j := 11) (Ni := some 60) (Nj := some 8) #[true, true, true, true, true, true, true, true, false, false, false, false, false, false] #[true, true, true, true, true, true, true, false, false, false, false, true, false, false] rfl rfl rfl rfl (two_of HT_.out (by kernel_rfl)) (by decide) (by decide) (fun K hK => ?_) (fun K hK => ?_)
                                  · skip
                                    refine goes_ Try.func6 (by kernel_rfl) rfl #[.agg #[.int .i64 ((rd_T23 l0_4 x6_1).f0), .int .i64 ((rd_T23 l0_4 x6_1).f1), .int .i64 ((rd_T23 l0_4 x6_1).f2), .int .i64 ((rd_T23 l0_4 x6_1).f3), .int .i64 ((rd_T23 l0_4 x6_1).f4)], .agg #[.int .i64 ((rd_T23 l0_4 (ji40)).f0), .int .i64 ((rd_T23 l0_4 (ji40)).f1), .int .i64 ((rd_T23 l0_4 (ji40)).f2), .int .i64 ((rd_T23 l0_4 (ji40)).f3), .int .i64 ((rd_T23 l0_4 (ji40)).f4)]] (by rfl) rfl rfl (by (try simp only [List.map_toArray, List.map_cons, List.map_nil]); first | done | (simp only [hji40]; rfl) | rfl | (simp only [List.length_drop, List.length_take]; rfl)) ?_
                                    with_reducible refine (fuse_Pair.calls kj16 ((rd_T23 l0_4 x6_1).f0) ((rd_T23 l0_4 x6_1).f1) ((rd_T23 l0_4 x6_1).f2) ((rd_T23 l0_4 x6_1).f3) ((rd_T23 l0_4 x6_1).f4) ((rd_T23 l0_4 (ji40)).f0) ((rd_T23 l0_4 (ji40)).f1) ((rd_T23 l0_4 (ji40)).f2) ((rd_T23 l0_4 (ji40)).f3) ((rd_T23 l0_4 (ji40)).f4) t181 t182 t183 t184 t185 true _ A43.out).mono ?_
                                    rintro e w49 ⟨rfl, hb⟩
                                    refine ⟨_, rfl, ?_⟩
                                    have n0_ := Aside0.mk (Kd.R_below (by (with_reducible repeat (first | apply Kd.R_alloc | apply Kd.R_drewN | apply Kd.R_drew)); exact HO_3.out) hb)
                                    have n1_ := Aside0.mk (Kd.R_below (by (with_reducible repeat (first | apply Kd.R_alloc | apply Kd.R_drewN | apply Kd.R_drew)); exact HO_4.out) hb)
                                    have n2_ := Aside0.mk (Kd.R_below (by (with_reducible repeat (first | apply Kd.R_alloc | apply Kd.R_drewN | apply Kd.R_drew)); exact HO_5.out) hb)
                                    have n3_ := Aside0.mk (blk_below (g := gb168) (o := .cells #[.string a0_0, .int .i64 a0_1, .int .i64 a0_2, .slice A0_3 l0_3.length c0_3, .slice (some ad177) l0_4.length c0_4] 32 (0, 0)) (by (with_reducible repeat (first | refine blk_drewN ?_ _ | refine blk_drew ?_ | refine blk_alloc ?_ _)); exact BK168.out) hb)
                                    have n4_ := Aside0.mk (blk_below (g := gb169) (o := .cells #[.string (⟨#[]⟩ : ByteArray), .int .i64 0, .int .i64 0, .slice none 0 0, .slice none 0 0] 32 (0, 0)) (by (with_reducible repeat (first | refine blk_drewN ?_ _ | refine blk_drew ?_ | refine blk_alloc ?_ _)); exact BK169.out) hb)
                                    have n5_ := Aside0.mk (blk_below (g := gb178) (o := .cells #[.int .i64 ((rd_T23 l0_4 x6_1).f0), .int .i64 ((rd_T23 l0_4 x6_1).f1), .int .i64 ((rd_T23 l0_4 x6_1).f2), .int .i64 ((rd_T23 l0_4 x6_1).f3), .int .i64 ((rd_T23 l0_4 x6_1).f4)] 23 (0, 0)) (by (with_reducible repeat (first | refine blk_drewN ?_ _ | refine blk_drew ?_ | refine blk_alloc ?_ _)); exact BK178.out) hb)
                                    have n6_ := Aside0.mk (below_step (by repeat (first | (with_reducible first | exact HB.out | apply below_alloc | apply pw_below_drewN | apply below_drew1 | refine below_set ?_ GE168.out | refine below_set ?_ GE169.out | refine below_set ?_ GE178.out) | exact HB.out)) hb)
                                    clear HO_3
                                    clear HO_4
                                    clear HO_5
                                    clear BK168
                                    clear BK169
                                    clear BK178
                                    clear HB
                                    have HO_3 := n0_
                                    have HO_4 := n1_
                                    have HO_5 := n2_
                                    have BK168 := n3_
                                    have BK169 := n4_
                                    have BK178 := n5_
                                    have HB := n6_
                                    clear n0_ n1_ n2_ n3_ n4_ n5_ n6_
                                    (try clear hb)
                                    (try clear hb2)
                                    (try clear hk)
                                    (try clear hi)
                                    refine hK.out _ _ ⟨(blk_cell BK178.out 0).trans rfl, (blk_cell BK178.out 1).trans rfl, (blk_cell BK178.out 2).trans rfl, (blk_cell BK178.out 3).trans rfl, (blk_cell BK178.out 4).trans rfl, (blk_cell BK168.out 0).trans rfl, (blk_cell BK168.out 1).trans rfl, (blk_cell BK168.out 2).trans rfl, (blk_cell BK168.out 3).trans rfl, (blk_cell BK168.out 4).trans rfl, ((HB.out.cell (World.block_lt_of_cell? w _ hw180_0)).trans hw180_0), ((HB.out.cell (World.block_lt_of_cell? w _ hw180_1)).trans hw180_1), ((HB.out.cell (World.block_lt_of_cell? w _ hw180_2)).trans hw180_2), ((HB.out.cell (World.block_lt_of_cell? w _ hw180_3)).trans hw180_3), ((HB.out.cell (World.block_lt_of_cell? w _ hw180_4)).trans hw180_4)⟩ (fun hHeld => ?_)
                                    clear hK K
                                    refine norm_ (a' := ?_) ?_ ?_
                                    rotate_left
                                    · show Act.put _ (some 60) _ = _
                                      simp only [Act.put, List.setIfInBounds_toArray, List.set_cons_zero, List.set_cons_succ, i64_w, i32_w]
                                      rfl
                                    refine pure_ (i := 8) (N := some 52) (v := ?_) (a' := ?_) #[true, true, true, true, true, true, true, true, true, false, false, false, false, false] rfl rfl (any_of HT_.out (by kernel_rfl)) (fun _ _ _ h => h) (Or.inl ⟨by rfl, ?_⟩) ?_ ?_
                                    rotate_left
                                    · intro w'
                                      go_simp
                                      with_reducible rfl
                                    rotate_left
                                    · simp only [Act.put, List.setIfInBounds_toArray, List.set_cons_zero, List.set_cons_succ, i64_w, i32_w]
                                      rfl
                                    refine pure_ (i := 9) (N := some 61) (v := ?_) (a' := ?_) #[true, true, true, true, true, true, true, true, true, true, false, false, false, false] rfl rfl (any_of HT_.out (by kernel_rfl)) (fun _ _ _ h => h) (Or.inl ⟨by rfl, ?_⟩) ?_ ?_
                                    rotate_left
                                    · intro w'
                                      go_simp
                                      with_reducible rfl
                                    rotate_left
                                    · simp only [Act.put, List.setIfInBounds_toArray, List.set_cons_zero, List.set_cons_succ, i64_w, i32_w]
                                      rfl
                                    refine pure_ (i := 10) (N := some 62) (v := ?_) (a' := ?_) #[true, true, true, true, true, true, true, true, true, true, true, false, false, false] rfl rfl (any_of HT_.out (by kernel_rfl)) (fun _ _ _ h => h) (Or.inl ⟨by rfl, ?_⟩) ?_ ?_
                                    rotate_left
                                    · intro w'
                                      go_simp
                                      with_reducible rfl
                                    rotate_left
                                    · simp only [Act.put, List.setIfInBounds_toArray, List.set_cons_zero, List.set_cons_succ, i64_w, i32_w]
                                      rfl
                                    refine one_ (i := 11) (N := some 8) #[true, true, true, true, true, true, true, true, true, true, true, true, false, false] rfl rfl (one_of HT_.out (by kernel_rfl)) (by decide) (fun K hK => ?_)
                                    refine box_step ?hg (N := 8) ?hd (cs := #[.int .i64 0, .int .i64 0, .int .i64 0, .int .i64 0, .int .i64 0]) (t := 23) ?hr ?_; (case hd => rfl); (case hg => rfl); (case hr => first | (go_simp; done) | (go_simp; rfl))
                                    intro gb187 hg w50 hbox hb
                                    have n0_ := Aside0.mk (Kd.R_below (by (with_reducible repeat (first | apply Kd.R_alloc | apply Kd.R_drewN | apply Kd.R_drew)); exact HO_3.out) hb)
                                    have n1_ := Aside0.mk (Kd.R_below (by (with_reducible repeat (first | apply Kd.R_alloc | apply Kd.R_drewN | apply Kd.R_drew)); exact HO_4.out) hb)
                                    have n2_ := Aside0.mk (Kd.R_below (Kd.R_elderB (by (with_reducible repeat (first | apply Kd.R_alloc | apply Kd.R_drewN | apply Kd.R_drew)); exact HO_5.out) gb187 (Nat.le_of_eq hg.symm)) hb)
                                    have n3_ := Aside0.mk (blk_below (g := gb168) (o := .cells #[.string a0_0, .int .i64 a0_1, .int .i64 a0_2, .slice A0_3 l0_3.length c0_3, .slice (some ad177) l0_4.length c0_4] 32 (0, 0)) (by (with_reducible repeat (first | refine blk_drewN ?_ _ | refine blk_drew ?_ | refine blk_alloc ?_ _)); exact BK168.out) hb)
                                    have n4_ := Aside0.mk (blk_below (g := gb169) (o := .cells #[.string (⟨#[]⟩ : ByteArray), .int .i64 0, .int .i64 0, .slice none 0 0, .slice none 0 0] 32 (0, 0)) (by (with_reducible repeat (first | refine blk_drewN ?_ _ | refine blk_drew ?_ | refine blk_alloc ?_ _)); exact BK169.out) hb)
                                    have n5_ := Aside0.mk (blk_below (g := gb178) (o := .cells #[.int .i64 ((rd_T23 l0_4 x6_1).f0), .int .i64 ((rd_T23 l0_4 x6_1).f1), .int .i64 ((rd_T23 l0_4 x6_1).f2), .int .i64 ((rd_T23 l0_4 x6_1).f3), .int .i64 ((rd_T23 l0_4 x6_1).f4)] 23 (0, 0)) (by (with_reducible repeat (first | refine blk_drewN ?_ _ | refine blk_drew ?_ | refine blk_alloc ?_ _)); exact BK178.out) hb)
                                    have n6_ := Aside0.mk (below_step (by repeat (first | (with_reducible first | exact HB.out | apply below_alloc | apply pw_below_drewN | apply below_drew1 | refine below_set ?_ GE168.out | refine below_set ?_ GE169.out | refine below_set ?_ GE178.out) | exact HB.out)) hb)
                                    have n7_ := Aside0.mk (hbox)
                                    have n8_ := Aside0.mk ((by rw [hg]; exact (below_size (by repeat (first | (with_reducible first | exact HB.out | apply below_alloc | apply pw_below_drewN | apply below_drew1 | refine below_set ?_ GE168.out | refine below_set ?_ GE169.out | refine below_set ?_ GE178.out) | exact HB.out))) : w.heap.size ≤ gb187))
                                    have n9_ := Aside0.mk ((by rw [hg]; exact (below_size (by repeat (first | (with_reducible first | exact HB.out | apply below_alloc | apply pw_below_drewN | apply below_drew1 | refine below_set ?_ GE168.out | refine below_set ?_ GE169.out | refine below_set ?_ GE178.out) | exact HB.out))) : w.heap.size ≤ gb187))
                                    have n10_ := Aside0.mk ((by rw [hg]; exact Nat.ne_of_lt (blk_lt (g := gb168) (o := .cells #[.string a0_0, .int .i64 a0_1, .int .i64 a0_2, .slice A0_3 l0_3.length c0_3, .slice (some ad177) l0_4.length c0_4] 32 (0, 0)) (by (with_reducible repeat (first | refine blk_drewN ?_ _ | refine blk_drew ?_ | refine blk_alloc ?_ _)); exact BK168.out)) : gb168 ≠ gb187))
                                    have n11_ := Aside0.mk ((by rw [hg]; exact Nat.ne_of_gt (blk_lt (g := gb168) (o := .cells #[.string a0_0, .int .i64 a0_1, .int .i64 a0_2, .slice A0_3 l0_3.length c0_3, .slice (some ad177) l0_4.length c0_4] 32 (0, 0)) (by (with_reducible repeat (first | refine blk_drewN ?_ _ | refine blk_drew ?_ | refine blk_alloc ?_ _)); exact BK168.out)) : gb187 ≠ gb168))
                                    have n12_ := Aside0.mk ((by rw [hg]; exact Nat.ne_of_lt (blk_lt (g := gb169) (o := .cells #[.string (⟨#[]⟩ : ByteArray), .int .i64 0, .int .i64 0, .slice none 0 0, .slice none 0 0] 32 (0, 0)) (by (with_reducible repeat (first | refine blk_drewN ?_ _ | refine blk_drew ?_ | refine blk_alloc ?_ _)); exact BK169.out)) : gb169 ≠ gb187))
                                    have n13_ := Aside0.mk ((by rw [hg]; exact Nat.ne_of_gt (blk_lt (g := gb169) (o := .cells #[.string (⟨#[]⟩ : ByteArray), .int .i64 0, .int .i64 0, .slice none 0 0, .slice none 0 0] 32 (0, 0)) (by (with_reducible repeat (first | refine blk_drewN ?_ _ | refine blk_drew ?_ | refine blk_alloc ?_ _)); exact BK169.out)) : gb187 ≠ gb169))
                                    have n14_ := Aside0.mk ((by rw [hg]; exact Nat.ne_of_lt (blk_lt (g := gb178) (o := .cells #[.int .i64 ((rd_T23 l0_4 x6_1).f0), .int .i64 ((rd_T23 l0_4 x6_1).f1), .int .i64 ((rd_T23 l0_4 x6_1).f2), .int .i64 ((rd_T23 l0_4 x6_1).f3), .int .i64 ((rd_T23 l0_4 x6_1).f4)] 23 (0, 0)) (by (with_reducible repeat (first | refine blk_drewN ?_ _ | refine blk_drew ?_ | refine blk_alloc ?_ _)); exact BK178.out)) : gb178 ≠ gb187))
                                    have n15_ := Aside0.mk ((by rw [hg]; exact Nat.ne_of_gt (blk_lt (g := gb178) (o := .cells #[.int .i64 ((rd_T23 l0_4 x6_1).f0), .int .i64 ((rd_T23 l0_4 x6_1).f1), .int .i64 ((rd_T23 l0_4 x6_1).f2), .int .i64 ((rd_T23 l0_4 x6_1).f3), .int .i64 ((rd_T23 l0_4 x6_1).f4)] 23 (0, 0)) (by (with_reducible repeat (first | refine blk_drewN ?_ _ | refine blk_drew ?_ | refine blk_alloc ?_ _)); exact BK178.out)) : gb187 ≠ gb178))
                                    clear HO_3
                                    clear HO_4
                                    clear HO_5
                                    clear BK168
                                    clear BK169
                                    clear BK178
                                    clear HB
                                    have HO_3 := n0_
                                    have HO_4 := n1_
                                    have HO_5 := n2_
                                    have BK168 := n3_
                                    have BK169 := n4_
                                    have BK178 := n5_
                                    have HB := n6_
                                    have BK187 := n7_
                                    have GW187 := n8_
                                    have GE187 := n9_
                                    have NB168_187 := n10_
                                    have NB187_168 := n11_
                                    have NB169_187 := n12_
                                    have NB187_169 := n13_
                                    have NB178_187 := n14_
                                    have NB187_178 := n15_
                                    clear n0_ n1_ n2_ n3_ n4_ n5_ n6_ n7_ n8_ n9_ n10_ n11_ n12_ n13_ n14_ n15_
                                    clear hb hbox hg
                                    refine hK.out _ _ ⟨(blk_cell BK178.out 0).trans rfl, (blk_cell BK178.out 1).trans rfl, (blk_cell BK178.out 2).trans rfl, (blk_cell BK178.out 3).trans rfl, (blk_cell BK178.out 4).trans rfl, (blk_cell BK168.out 0).trans rfl, (blk_cell BK168.out 1).trans rfl, (blk_cell BK168.out 2).trans rfl, (blk_cell BK168.out 3).trans rfl, (blk_cell BK168.out 4).trans rfl, ((HB.out.cell (World.block_lt_of_cell? w _ hw180_0)).trans hw180_0), ((HB.out.cell (World.block_lt_of_cell? w _ hw180_1)).trans hw180_1), ((HB.out.cell (World.block_lt_of_cell? w _ hw180_2)).trans hw180_2), ((HB.out.cell (World.block_lt_of_cell? w _ hw180_3)).trans hw180_3), ((HB.out.cell (World.block_lt_of_cell? w _ hw180_4)).trans hw180_4)⟩ (fun hHeld => ?_)
                                    clear hK K
                                    refine norm_ (a' := ?_) ?_ ?_
                                    rotate_left
                                    · show Act.put _ (some 8) _ = _
                                      simp only [Act.put, List.setIfInBounds_toArray, List.set_cons_zero, List.set_cons_succ, i64_w, i32_w]
                                      rfl
                                    exact norm_ (by simp only [putAll, Act.put, List.setIfInBounds_toArray, List.set_cons_zero, List.set_cons_succ]) (hCont (gb187) _ ⟨hHeld, (by (with_reducible repeat (first | apply Kd.R_alloc | apply Kd.R_drewN | apply Kd.R_drew)); exact HO_3.out), (by (with_reducible repeat (first | apply Kd.R_alloc | apply Kd.R_drewN | apply Kd.R_drew)); exact HO_4.out), (by (with_reducible repeat (first | apply Kd.R_alloc | apply Kd.R_drewN | apply Kd.R_drew)); exact Kd.R_mono HO_5.out (fun _ hk => ⟨hk.1.1, ⟨hk.1.2, hk.2⟩⟩)), (by (with_reducible repeat (first | refine blk_drewN ?_ _ | refine blk_drew ?_ | refine blk_alloc ?_ _)); exact BK168.out), (by (with_reducible repeat (first | refine blk_drewN ?_ _ | refine blk_drew ?_ | refine blk_alloc ?_ _)); exact BK169.out), (by (with_reducible repeat (first | refine blk_drewN ?_ _ | refine blk_drew ?_ | refine blk_alloc ?_ _)); exact BK178.out), (by (with_reducible repeat (first | refine blk_drewN ?_ _ | refine blk_drew ?_ | refine blk_alloc ?_ _)); exact BK187.out), GW187.out, GE187.out, NB168_187.out, NB187_168.out, NB169_187.out, NB187_169.out, NB178_187.out, NB187_178.out, (by repeat (first | (with_reducible first | exact HB.out | apply below_alloc | apply pw_below_drewN | apply below_drew1 | refine below_set ?_ GE168.out | refine below_set ?_ GE169.out | refine below_set ?_ GE178.out | refine below_set ?_ GE187.out) | exact HB.out))⟩)
                                  · skip
                                    refine box_step ?hg (N := 8) ?hd (cs := #[.int .i64 0, .int .i64 0, .int .i64 0, .int .i64 0, .int .i64 0]) (t := 23) ?hr ?_; (case hd => rfl); (case hg => rfl); (case hr => first | (go_simp; done) | (go_simp; rfl))
                                    intro gb187 hg w49 hbox hb
                                    have n0_ := Aside0.mk (Kd.R_below (by (with_reducible repeat (first | apply Kd.R_alloc | apply Kd.R_drewN | apply Kd.R_drew)); exact HO_3.out) hb)
                                    have n1_ := Aside0.mk (Kd.R_below (by (with_reducible repeat (first | apply Kd.R_alloc | apply Kd.R_drewN | apply Kd.R_drew)); exact HO_4.out) hb)
                                    have n2_ := Aside0.mk (Kd.R_below (Kd.R_elderB (by (with_reducible repeat (first | apply Kd.R_alloc | apply Kd.R_drewN | apply Kd.R_drew)); exact HO_5.out) gb187 (Nat.le_of_eq hg.symm)) hb)
                                    have n3_ := Aside0.mk (blk_below (g := gb168) (o := .cells #[.string a0_0, .int .i64 a0_1, .int .i64 a0_2, .slice A0_3 l0_3.length c0_3, .slice (some ad177) l0_4.length c0_4] 32 (0, 0)) (by (with_reducible repeat (first | refine blk_drewN ?_ _ | refine blk_drew ?_ | refine blk_alloc ?_ _)); exact BK168.out) hb)
                                    have n4_ := Aside0.mk (blk_below (g := gb169) (o := .cells #[.string (⟨#[]⟩ : ByteArray), .int .i64 0, .int .i64 0, .slice none 0 0, .slice none 0 0] 32 (0, 0)) (by (with_reducible repeat (first | refine blk_drewN ?_ _ | refine blk_drew ?_ | refine blk_alloc ?_ _)); exact BK169.out) hb)
                                    have n5_ := Aside0.mk (blk_below (g := gb178) (o := .cells #[.int .i64 ((rd_T23 l0_4 x6_1).f0), .int .i64 ((rd_T23 l0_4 x6_1).f1), .int .i64 ((rd_T23 l0_4 x6_1).f2), .int .i64 ((rd_T23 l0_4 x6_1).f3), .int .i64 ((rd_T23 l0_4 x6_1).f4)] 23 (0, 0)) (by (with_reducible repeat (first | refine blk_drewN ?_ _ | refine blk_drew ?_ | refine blk_alloc ?_ _)); exact BK178.out) hb)
                                    have n6_ := Aside0.mk (below_step (by repeat (first | (with_reducible first | exact HB.out | apply below_alloc | apply pw_below_drewN | apply below_drew1 | refine below_set ?_ GE168.out | refine below_set ?_ GE169.out | refine below_set ?_ GE178.out) | exact HB.out)) hb)
                                    have n7_ := Aside0.mk (hbox)
                                    have n8_ := Aside0.mk ((by rw [hg]; exact (below_size (by repeat (first | (with_reducible first | exact HB.out | apply below_alloc | apply pw_below_drewN | apply below_drew1 | refine below_set ?_ GE168.out | refine below_set ?_ GE169.out | refine below_set ?_ GE178.out) | exact HB.out))) : w.heap.size ≤ gb187))
                                    have n9_ := Aside0.mk ((by rw [hg]; exact (below_size (by repeat (first | (with_reducible first | exact HB.out | apply below_alloc | apply pw_below_drewN | apply below_drew1 | refine below_set ?_ GE168.out | refine below_set ?_ GE169.out | refine below_set ?_ GE178.out) | exact HB.out))) : w.heap.size ≤ gb187))
                                    have n10_ := Aside0.mk ((by rw [hg]; exact Nat.ne_of_lt (blk_lt (g := gb168) (o := .cells #[.string a0_0, .int .i64 a0_1, .int .i64 a0_2, .slice A0_3 l0_3.length c0_3, .slice (some ad177) l0_4.length c0_4] 32 (0, 0)) (by (with_reducible repeat (first | refine blk_drewN ?_ _ | refine blk_drew ?_ | refine blk_alloc ?_ _)); exact BK168.out)) : gb168 ≠ gb187))
                                    have n11_ := Aside0.mk ((by rw [hg]; exact Nat.ne_of_gt (blk_lt (g := gb168) (o := .cells #[.string a0_0, .int .i64 a0_1, .int .i64 a0_2, .slice A0_3 l0_3.length c0_3, .slice (some ad177) l0_4.length c0_4] 32 (0, 0)) (by (with_reducible repeat (first | refine blk_drewN ?_ _ | refine blk_drew ?_ | refine blk_alloc ?_ _)); exact BK168.out)) : gb187 ≠ gb168))
                                    have n12_ := Aside0.mk ((by rw [hg]; exact Nat.ne_of_lt (blk_lt (g := gb169) (o := .cells #[.string (⟨#[]⟩ : ByteArray), .int .i64 0, .int .i64 0, .slice none 0 0, .slice none 0 0] 32 (0, 0)) (by (with_reducible repeat (first | refine blk_drewN ?_ _ | refine blk_drew ?_ | refine blk_alloc ?_ _)); exact BK169.out)) : gb169 ≠ gb187))
                                    have n13_ := Aside0.mk ((by rw [hg]; exact Nat.ne_of_gt (blk_lt (g := gb169) (o := .cells #[.string (⟨#[]⟩ : ByteArray), .int .i64 0, .int .i64 0, .slice none 0 0, .slice none 0 0] 32 (0, 0)) (by (with_reducible repeat (first | refine blk_drewN ?_ _ | refine blk_drew ?_ | refine blk_alloc ?_ _)); exact BK169.out)) : gb187 ≠ gb169))
                                    have n14_ := Aside0.mk ((by rw [hg]; exact Nat.ne_of_lt (blk_lt (g := gb178) (o := .cells #[.int .i64 ((rd_T23 l0_4 x6_1).f0), .int .i64 ((rd_T23 l0_4 x6_1).f1), .int .i64 ((rd_T23 l0_4 x6_1).f2), .int .i64 ((rd_T23 l0_4 x6_1).f3), .int .i64 ((rd_T23 l0_4 x6_1).f4)] 23 (0, 0)) (by (with_reducible repeat (first | refine blk_drewN ?_ _ | refine blk_drew ?_ | refine blk_alloc ?_ _)); exact BK178.out)) : gb178 ≠ gb187))
                                    have n15_ := Aside0.mk ((by rw [hg]; exact Nat.ne_of_gt (blk_lt (g := gb178) (o := .cells #[.int .i64 ((rd_T23 l0_4 x6_1).f0), .int .i64 ((rd_T23 l0_4 x6_1).f1), .int .i64 ((rd_T23 l0_4 x6_1).f2), .int .i64 ((rd_T23 l0_4 x6_1).f3), .int .i64 ((rd_T23 l0_4 x6_1).f4)] 23 (0, 0)) (by (with_reducible repeat (first | refine blk_drewN ?_ _ | refine blk_drew ?_ | refine blk_alloc ?_ _)); exact BK178.out)) : gb187 ≠ gb178))
                                    clear HO_3
                                    clear HO_4
                                    clear HO_5
                                    clear BK168
                                    clear BK169
                                    clear BK178
                                    clear HB
                                    have HO_3 := n0_
                                    have HO_4 := n1_
                                    have HO_5 := n2_
                                    have BK168 := n3_
                                    have BK169 := n4_
                                    have BK178 := n5_
                                    have HB := n6_
                                    have BK187 := n7_
                                    have GW187 := n8_
                                    have GE187 := n9_
                                    have NB168_187 := n10_
                                    have NB187_168 := n11_
                                    have NB169_187 := n12_
                                    have NB187_169 := n13_
                                    have NB178_187 := n14_
                                    have NB187_178 := n15_
                                    clear n0_ n1_ n2_ n3_ n4_ n5_ n6_ n7_ n8_ n9_ n10_ n11_ n12_ n13_ n14_ n15_
                                    clear hb hbox hg
                                    refine hK.out _ _ ⟨(blk_cell BK178.out 0).trans rfl, (blk_cell BK178.out 1).trans rfl, (blk_cell BK178.out 2).trans rfl, (blk_cell BK178.out 3).trans rfl, (blk_cell BK178.out 4).trans rfl, (blk_cell BK168.out 0).trans rfl, (blk_cell BK168.out 1).trans rfl, (blk_cell BK168.out 2).trans rfl, (blk_cell BK168.out 3).trans rfl, (blk_cell BK168.out 4).trans rfl, ((HB.out.cell (World.block_lt_of_cell? w _ hw180_0)).trans hw180_0), ((HB.out.cell (World.block_lt_of_cell? w _ hw180_1)).trans hw180_1), ((HB.out.cell (World.block_lt_of_cell? w _ hw180_2)).trans hw180_2), ((HB.out.cell (World.block_lt_of_cell? w _ hw180_3)).trans hw180_3), ((HB.out.cell (World.block_lt_of_cell? w _ hw180_4)).trans hw180_4)⟩ (fun hHeld => ?_)
                                    clear hK K
                                    refine norm_ (a' := ?_) ?_ ?_
                                    rotate_left
                                    · show Act.put _ (some 8) _ = _
                                      simp only [Act.put, List.setIfInBounds_toArray, List.set_cons_zero, List.set_cons_succ, i64_w, i32_w]
                                      rfl
                                    refine one_ (i := 7) (N := some 60) #[true, true, true, true, true, true, true, true, false, false, false, true, false, false] rfl rfl (one_of HT_.out (by kernel_rfl)) (by decide) (fun K hK => ?_)
                                    refine goes_ Try.func6 (by kernel_rfl) rfl #[.agg #[.int .i64 ((rd_T23 l0_4 x6_1).f0), .int .i64 ((rd_T23 l0_4 x6_1).f1), .int .i64 ((rd_T23 l0_4 x6_1).f2), .int .i64 ((rd_T23 l0_4 x6_1).f3), .int .i64 ((rd_T23 l0_4 x6_1).f4)], .agg #[.int .i64 ((rd_T23 l0_4 (ji40)).f0), .int .i64 ((rd_T23 l0_4 (ji40)).f1), .int .i64 ((rd_T23 l0_4 (ji40)).f2), .int .i64 ((rd_T23 l0_4 (ji40)).f3), .int .i64 ((rd_T23 l0_4 (ji40)).f4)]] (by rfl) rfl rfl (by (try simp only [List.map_toArray, List.map_cons, List.map_nil]); first | done | (simp only [hji40]; rfl) | rfl | (simp only [List.length_drop, List.length_take]; rfl)) ?_
                                    with_reducible refine (fuse_Pair.calls kj16 ((rd_T23 l0_4 x6_1).f0) ((rd_T23 l0_4 x6_1).f1) ((rd_T23 l0_4 x6_1).f2) ((rd_T23 l0_4 x6_1).f3) ((rd_T23 l0_4 x6_1).f4) ((rd_T23 l0_4 (ji40)).f0) ((rd_T23 l0_4 (ji40)).f1) ((rd_T23 l0_4 (ji40)).f2) ((rd_T23 l0_4 (ji40)).f3) ((rd_T23 l0_4 (ji40)).f4) t181 t182 t183 t184 t185 true _ A43.out).mono ?_
                                    rintro e w50 ⟨rfl, hb⟩
                                    refine ⟨_, rfl, ?_⟩
                                    have n0_ := Aside0.mk (Kd.R_below (by (with_reducible repeat (first | apply Kd.R_alloc | apply Kd.R_drewN | apply Kd.R_drew)); exact HO_3.out) hb)
                                    have n1_ := Aside0.mk (Kd.R_below (by (with_reducible repeat (first | apply Kd.R_alloc | apply Kd.R_drewN | apply Kd.R_drew)); exact HO_4.out) hb)
                                    have n2_ := Aside0.mk (Kd.R_below (by (with_reducible repeat (first | apply Kd.R_alloc | apply Kd.R_drewN | apply Kd.R_drew)); exact HO_5.out) hb)
                                    have n3_ := Aside0.mk (blk_below (g := gb168) (o := .cells #[.string a0_0, .int .i64 a0_1, .int .i64 a0_2, .slice A0_3 l0_3.length c0_3, .slice (some ad177) l0_4.length c0_4] 32 (0, 0)) (by (with_reducible repeat (first | refine blk_drewN ?_ _ | refine blk_drew ?_ | refine blk_alloc ?_ _)); exact BK168.out) hb)
                                    have n4_ := Aside0.mk (blk_below (g := gb169) (o := .cells #[.string (⟨#[]⟩ : ByteArray), .int .i64 0, .int .i64 0, .slice none 0 0, .slice none 0 0] 32 (0, 0)) (by (with_reducible repeat (first | refine blk_drewN ?_ _ | refine blk_drew ?_ | refine blk_alloc ?_ _)); exact BK169.out) hb)
                                    have n5_ := Aside0.mk (blk_below (g := gb178) (o := .cells #[.int .i64 ((rd_T23 l0_4 x6_1).f0), .int .i64 ((rd_T23 l0_4 x6_1).f1), .int .i64 ((rd_T23 l0_4 x6_1).f2), .int .i64 ((rd_T23 l0_4 x6_1).f3), .int .i64 ((rd_T23 l0_4 x6_1).f4)] 23 (0, 0)) (by (with_reducible repeat (first | refine blk_drewN ?_ _ | refine blk_drew ?_ | refine blk_alloc ?_ _)); exact BK178.out) hb)
                                    have n6_ := Aside0.mk (blk_below (g := gb187) (o := .cells #[.int .i64 0, .int .i64 0, .int .i64 0, .int .i64 0, .int .i64 0] 23 (0, 0)) (by (with_reducible repeat (first | refine blk_drewN ?_ _ | refine blk_drew ?_ | refine blk_alloc ?_ _)); exact BK187.out) hb)
                                    have n7_ := Aside0.mk (below_step (by repeat (first | (with_reducible first | exact HB.out | apply below_alloc | apply pw_below_drewN | apply below_drew1 | refine below_set ?_ GE168.out | refine below_set ?_ GE169.out | refine below_set ?_ GE178.out | refine below_set ?_ GE187.out) | exact HB.out)) hb)
                                    clear HO_3
                                    clear HO_4
                                    clear HO_5
                                    clear BK168
                                    clear BK169
                                    clear BK178
                                    clear BK187
                                    clear HB
                                    have HO_3 := n0_
                                    have HO_4 := n1_
                                    have HO_5 := n2_
                                    have BK168 := n3_
                                    have BK169 := n4_
                                    have BK178 := n5_
                                    have BK187 := n6_
                                    have HB := n7_
                                    clear n0_ n1_ n2_ n3_ n4_ n5_ n6_ n7_
                                    (try clear hb)
                                    (try clear hb2)
                                    (try clear hk)
                                    (try clear hi)
                                    refine hK.out _ _ ⟨(blk_cell BK178.out 0).trans rfl, (blk_cell BK178.out 1).trans rfl, (blk_cell BK178.out 2).trans rfl, (blk_cell BK178.out 3).trans rfl, (blk_cell BK178.out 4).trans rfl, (blk_cell BK168.out 0).trans rfl, (blk_cell BK168.out 1).trans rfl, (blk_cell BK168.out 2).trans rfl, (blk_cell BK168.out 3).trans rfl, (blk_cell BK168.out 4).trans rfl, ((HB.out.cell (World.block_lt_of_cell? w _ hw180_0)).trans hw180_0), ((HB.out.cell (World.block_lt_of_cell? w _ hw180_1)).trans hw180_1), ((HB.out.cell (World.block_lt_of_cell? w _ hw180_2)).trans hw180_2), ((HB.out.cell (World.block_lt_of_cell? w _ hw180_3)).trans hw180_3), ((HB.out.cell (World.block_lt_of_cell? w _ hw180_4)).trans hw180_4)⟩ (fun hHeld => ?_)
                                    clear hK K
                                    refine norm_ (a' := ?_) ?_ ?_
                                    rotate_left
                                    · show Act.put _ (some 60) _ = _
                                      simp only [Act.put, List.setIfInBounds_toArray, List.set_cons_zero, List.set_cons_succ, i64_w, i32_w]
                                      rfl
                                    refine pure_ (i := 8) (N := some 52) (v := ?_) (a' := ?_) #[true, true, true, true, true, true, true, true, true, false, false, true, false, false] rfl rfl (any_of HT_.out (by kernel_rfl)) (fun _ _ _ h => h) (Or.inl ⟨by rfl, ?_⟩) ?_ ?_
                                    rotate_left
                                    · intro w'
                                      go_simp
                                      with_reducible rfl
                                    rotate_left
                                    · simp only [Act.put, List.setIfInBounds_toArray, List.set_cons_zero, List.set_cons_succ, i64_w, i32_w]
                                      rfl
                                    refine pure_ (i := 9) (N := some 61) (v := ?_) (a' := ?_) #[true, true, true, true, true, true, true, true, true, true, false, true, false, false] rfl rfl (any_of HT_.out (by kernel_rfl)) (fun _ _ _ h => h) (Or.inl ⟨by rfl, ?_⟩) ?_ ?_
                                    rotate_left
                                    · intro w'
                                      go_simp
                                      with_reducible rfl
                                    rotate_left
                                    · simp only [Act.put, List.setIfInBounds_toArray, List.set_cons_zero, List.set_cons_succ, i64_w, i32_w]
                                      rfl
                                    refine pure_ (i := 10) (N := some 62) (v := ?_) (a' := ?_) #[true, true, true, true, true, true, true, true, true, true, true, true, false, false] rfl rfl (any_of HT_.out (by kernel_rfl)) (fun _ _ _ h => h) (Or.inl ⟨by rfl, ?_⟩) ?_ ?_
                                    rotate_left
                                    · intro w'
                                      go_simp
                                      with_reducible rfl
                                    rotate_left
                                    · simp only [Act.put, List.setIfInBounds_toArray, List.set_cons_zero, List.set_cons_succ, i64_w, i32_w]
                                      rfl
                                    exact norm_ (by simp only [putAll, Act.put, List.setIfInBounds_toArray, List.set_cons_zero, List.set_cons_succ]) (hCont (gb187) _ ⟨hHeld, (by (with_reducible repeat (first | apply Kd.R_alloc | apply Kd.R_drewN | apply Kd.R_drew)); exact HO_3.out), (by (with_reducible repeat (first | apply Kd.R_alloc | apply Kd.R_drewN | apply Kd.R_drew)); exact HO_4.out), (by (with_reducible repeat (first | apply Kd.R_alloc | apply Kd.R_drewN | apply Kd.R_drew)); exact Kd.R_mono HO_5.out (fun _ hk => ⟨hk.1.1, ⟨hk.1.2, hk.2⟩⟩)), (by (with_reducible repeat (first | refine blk_drewN ?_ _ | refine blk_drew ?_ | refine blk_alloc ?_ _)); exact BK168.out), (by (with_reducible repeat (first | refine blk_drewN ?_ _ | refine blk_drew ?_ | refine blk_alloc ?_ _)); exact BK169.out), (by (with_reducible repeat (first | refine blk_drewN ?_ _ | refine blk_drew ?_ | refine blk_alloc ?_ _)); exact BK178.out), (by (with_reducible repeat (first | refine blk_drewN ?_ _ | refine blk_drew ?_ | refine blk_alloc ?_ _)); exact BK187.out), GW187.out, GE187.out, NB168_187.out, NB187_168.out, NB169_187.out, NB187_169.out, NB178_187.out, NB187_178.out, (by repeat (first | (with_reducible first | exact HB.out | apply below_alloc | apply pw_below_drewN | apply below_drew1 | refine below_set ?_ GE168.out | refine below_set ?_ GE169.out | refine below_set ?_ GE178.out | refine below_set ?_ GE187.out) | exact HB.out))⟩)
                                rintro gb187 w51 ⟨hS_, h0_, h1_, h2_, h3_, h4_, h5_, h6_, h7_, h8_, h9_, h10_, h11_, h12_, h13_, h14_, h15_⟩
                                have n0_ : Aside0 (Kd.R Kd.bool 4 w51 w.heap.size (fun k_ => (w.heap.size ≤ k_)) v171 t170) := ⟨h0_⟩
                                have n1_ : Aside0 (Kd.R (Kd.int .i64) 3 w51 w.heap.size (fun k_ => (w.heap.size ≤ k_)) (.slice (some ⟨go16, 0, none⟩) y176.length co16) y176) := ⟨h1_⟩
                                have n2_ : Aside0 (Kd.R k23 23 w51 w.heap.size (fun k_ => (w.heap.size ≤ k_) ∧ k_ ≠ gb178 ∧ k_ ≠ gb187) (.slice Ao20 x5_1.length co20) x5_1) := ⟨h2_⟩
                                have n3_ : Aside0 (w51.heap[gb168]? = some (.cells #[.string a0_0, .int .i64 a0_1, .int .i64 a0_2, .slice A0_3 l0_3.length c0_3, .slice (some ad177) l0_4.length c0_4] 32 (0, 0))) := ⟨h3_⟩
                                have n4_ : Aside0 (w51.heap[gb169]? = some (.cells #[.string (⟨#[]⟩ : ByteArray), .int .i64 0, .int .i64 0, .slice none 0 0, .slice none 0 0] 32 (0, 0))) := ⟨h4_⟩
                                have n5_ : Aside0 (w51.heap[gb178]? = some (.cells #[.int .i64 ((rd_T23 l0_4 x6_1).f0), .int .i64 ((rd_T23 l0_4 x6_1).f1), .int .i64 ((rd_T23 l0_4 x6_1).f2), .int .i64 ((rd_T23 l0_4 x6_1).f3), .int .i64 ((rd_T23 l0_4 x6_1).f4)] 23 (0, 0))) := ⟨h5_⟩
                                have n6_ : Aside0 (w51.heap[gb187]? = some (.cells #[.int .i64 0, .int .i64 0, .int .i64 0, .int .i64 0, .int .i64 0] 23 (0, 0))) := ⟨h6_⟩
                                have n7_ : Aside0 (w.heap.size ≤ gb187) := ⟨h7_⟩
                                have n8_ : Aside0 (w.heap.size ≤ gb187) := ⟨h8_⟩
                                have n9_ : Aside0 (gb168 ≠ gb187) := ⟨h9_⟩
                                have n10_ : Aside0 (gb187 ≠ gb168) := ⟨h10_⟩
                                have n11_ : Aside0 (gb169 ≠ gb187) := ⟨h11_⟩
                                have n12_ : Aside0 (gb187 ≠ gb169) := ⟨h12_⟩
                                have n13_ : Aside0 (gb178 ≠ gb187) := ⟨h13_⟩
                                have n14_ : Aside0 (gb187 ≠ gb178) := ⟨h14_⟩
                                have n15_ : Aside0 (Below w.heap.size w w51) := ⟨h15_⟩
                                clear HO_3
                                clear HO_4
                                clear HO_5
                                clear BK168
                                clear BK169
                                clear BK178
                                clear HB
                                clear h0_ h1_ h2_ h3_ h4_ h5_ h6_ h7_ h8_ h9_ h10_ h11_ h12_ h13_ h14_ h15_
                                have HO_3 := n0_
                                have HO_4 := n1_
                                have HO_5 := n2_
                                have BK168 := n3_
                                have BK169 := n4_
                                have BK178 := n5_
                                have BK187 := n6_
                                have GW187 := n7_
                                have GE187 := n8_
                                have NB168_187 := n9_
                                have NB187_168 := n10_
                                have NB169_187 := n11_
                                have NB187_169 := n12_
                                have NB178_187 := n13_
                                have NB187_178 := n14_
                                have HB := n15_
                                clear n0_ n1_ n2_ n3_ n4_ n5_ n6_ n7_ n8_ n9_ n10_ n11_ n12_ n13_ n14_ n15_
                                have hHeld : w51.cell? ⟨gb178, 0, none⟩ = some (.int .i64 ((rd_T23 l0_4 x6_1).f0)) ∧ w51.cell? ⟨gb178, 1, none⟩ = some (.int .i64 ((rd_T23 l0_4 x6_1).f1)) ∧ w51.cell? ⟨gb178, 2, none⟩ = some (.int .i64 ((rd_T23 l0_4 x6_1).f2)) ∧ w51.cell? ⟨gb178, 3, none⟩ = some (.int .i64 ((rd_T23 l0_4 x6_1).f3)) ∧ w51.cell? ⟨gb178, 4, none⟩ = some (.int .i64 ((rd_T23 l0_4 x6_1).f4)) ∧ w51.cell? ⟨gb168, 0, none⟩ = some (.string a0_0) ∧ w51.cell? ⟨gb168, 1, none⟩ = some (.int .i64 a0_1) ∧ w51.cell? ⟨gb168, 2, none⟩ = some (.int .i64 a0_2) ∧ w51.cell? ⟨gb168, 3, none⟩ = some (.slice A0_3 l0_3.length c0_3) ∧ w51.cell? ⟨gb168, 4, none⟩ = some (.slice (some ad177) l0_4.length c0_4) ∧ w51.cell? (ad177.add (((ji40)).toNat * 5)) = some (.int .i64 ((rd_T23 l0_4 (ji40)).f0)) ∧ w51.cell? ⟨(ad177.add (((ji40)).toNat * 5)).block, (ad177.add (((ji40)).toNat * 5)).off + 1, none⟩ = some (.int .i64 ((rd_T23 l0_4 (ji40)).f1)) ∧ w51.cell? ⟨(ad177.add (((ji40)).toNat * 5)).block, (ad177.add (((ji40)).toNat * 5)).off + 2, none⟩ = some (.int .i64 ((rd_T23 l0_4 (ji40)).f2)) ∧ w51.cell? ⟨(ad177.add (((ji40)).toNat * 5)).block, (ad177.add (((ji40)).toNat * 5)).off + 3, none⟩ = some (.int .i64 ((rd_T23 l0_4 (ji40)).f3)) ∧ w51.cell? ⟨(ad177.add (((ji40)).toNat * 5)).block, (ad177.add (((ji40)).toNat * 5)).off + 4, none⟩ = some (.int .i64 ((rd_T23 l0_4 (ji40)).f4)) := hS_
                                refine norm_ (a' := ?_) ?_ ?_
                                rotate_left
                                · simp only [putAll, Act.put, List.setIfInBounds_toArray, List.set_cons_zero, List.set_cons_succ]
                                  rfl
                                refine one_ (i := 12) (N := none) #[true, true, true, true, true, true, true, true, true, true, true, true, true, false] rfl rfl (one_of HT_.out (by kernel_rfl)) (by decide) (fun K hK => ?_)
                                have hs52 : w51.cell? ⟨gb187, 0, none⟩ = some (.int .i64 0) := (blk_cell BK187.out 0).trans rfl
                                have hfs52 := blk_frozen BK187.out 0
                                have hns52_0 := NB168_187.out
                                have hns52_1 := NB169_187.out
                                have hns52_2 := NB178_187.out
                                have hms52_0 := NB187_168.out
                                have hms52_1 := NB187_169.out
                                have hms52_2 := NB187_178.out
                                have hs53 : w51.cell? ⟨gb187, 1, none⟩ = some (.int .i64 0) := (blk_cell BK187.out 1).trans rfl
                                have hfs53 := blk_frozen BK187.out 1
                                have hns53_0 := NB168_187.out
                                have hns53_1 := NB169_187.out
                                have hns53_2 := NB178_187.out
                                have hms53_0 := NB187_168.out
                                have hms53_1 := NB187_169.out
                                have hms53_2 := NB187_178.out
                                have hs54 : w51.cell? ⟨gb187, 2, none⟩ = some (.int .i64 0) := (blk_cell BK187.out 2).trans rfl
                                have hfs54 := blk_frozen BK187.out 2
                                have hns54_0 := NB168_187.out
                                have hns54_1 := NB169_187.out
                                have hns54_2 := NB178_187.out
                                have hms54_0 := NB187_168.out
                                have hms54_1 := NB187_169.out
                                have hms54_2 := NB187_178.out
                                have hs55 : w51.cell? ⟨gb187, 3, none⟩ = some (.int .i64 0) := (blk_cell BK187.out 3).trans rfl
                                have hfs55 := blk_frozen BK187.out 3
                                have hns55_0 := NB168_187.out
                                have hns55_1 := NB169_187.out
                                have hns55_2 := NB178_187.out
                                have hms55_0 := NB187_168.out
                                have hms55_1 := NB187_169.out
                                have hms55_2 := NB187_178.out
                                have hs56 : w51.cell? ⟨gb187, 4, none⟩ = some (.int .i64 0) := (blk_cell BK187.out 4).trans rfl
                                have hfs56 := blk_frozen BK187.out 4
                                have hns56_0 := NB168_187.out
                                have hns56_1 := NB169_187.out
                                have hns56_2 := NB178_187.out
                                have hms56_0 := NB187_168.out
                                have hms56_1 := NB187_169.out
                                have hms56_2 := NB187_178.out
                                refine skip_ (w1 := ?_) (by rfl) rfl ?_ ?_
                                rotate_left
                                · go_simp
                                  rfl
                                refine hK.out _ _ ⟨((cell_far (p := ⟨gb187, _, none⟩) NB178_187.out _).trans (((cell_far (p := ⟨gb187, _, none⟩) NB178_187.out _).trans (((cell_far (p := ⟨gb187, _, none⟩) NB178_187.out _).trans (((cell_far (p := ⟨gb187, _, none⟩) NB178_187.out _).trans (((cell_far (p := ⟨gb187, _, none⟩) NB178_187.out _).trans (hHeld.1)))))))))), ((cell_far (p := ⟨gb187, _, none⟩) NB178_187.out _).trans (((cell_far (p := ⟨gb187, _, none⟩) NB178_187.out _).trans (((cell_far (p := ⟨gb187, _, none⟩) NB178_187.out _).trans (((cell_far (p := ⟨gb187, _, none⟩) NB178_187.out _).trans (((cell_far (p := ⟨gb187, _, none⟩) NB178_187.out _).trans (hHeld.2.1)))))))))), ((cell_far (p := ⟨gb187, _, none⟩) NB178_187.out _).trans (((cell_far (p := ⟨gb187, _, none⟩) NB178_187.out _).trans (((cell_far (p := ⟨gb187, _, none⟩) NB178_187.out _).trans (((cell_far (p := ⟨gb187, _, none⟩) NB178_187.out _).trans (((cell_far (p := ⟨gb187, _, none⟩) NB178_187.out _).trans (hHeld.2.2.1)))))))))), ((cell_far (p := ⟨gb187, _, none⟩) NB178_187.out _).trans (((cell_far (p := ⟨gb187, _, none⟩) NB178_187.out _).trans (((cell_far (p := ⟨gb187, _, none⟩) NB178_187.out _).trans (((cell_far (p := ⟨gb187, _, none⟩) NB178_187.out _).trans (((cell_far (p := ⟨gb187, _, none⟩) NB178_187.out _).trans (hHeld.2.2.2.1)))))))))), ((cell_far (p := ⟨gb187, _, none⟩) NB178_187.out _).trans (((cell_far (p := ⟨gb187, _, none⟩) NB178_187.out _).trans (((cell_far (p := ⟨gb187, _, none⟩) NB178_187.out _).trans (((cell_far (p := ⟨gb187, _, none⟩) NB178_187.out _).trans (((cell_far (p := ⟨gb187, _, none⟩) NB178_187.out _).trans (hHeld.2.2.2.2.1)))))))))), ((cell_far (p := ⟨gb187, _, none⟩) NB168_187.out _).trans (((cell_far (p := ⟨gb187, _, none⟩) NB168_187.out _).trans (((cell_far (p := ⟨gb187, _, none⟩) NB168_187.out _).trans (((cell_far (p := ⟨gb187, _, none⟩) NB168_187.out _).trans (((cell_far (p := ⟨gb187, _, none⟩) NB168_187.out _).trans (hHeld.2.2.2.2.2.1)))))))))), ((cell_far (p := ⟨gb187, _, none⟩) NB168_187.out _).trans (((cell_far (p := ⟨gb187, _, none⟩) NB168_187.out _).trans (((cell_far (p := ⟨gb187, _, none⟩) NB168_187.out _).trans (((cell_far (p := ⟨gb187, _, none⟩) NB168_187.out _).trans (((cell_far (p := ⟨gb187, _, none⟩) NB168_187.out _).trans (hHeld.2.2.2.2.2.2.1)))))))))), ((cell_far (p := ⟨gb187, _, none⟩) NB168_187.out _).trans (((cell_far (p := ⟨gb187, _, none⟩) NB168_187.out _).trans (((cell_far (p := ⟨gb187, _, none⟩) NB168_187.out _).trans (((cell_far (p := ⟨gb187, _, none⟩) NB168_187.out _).trans (((cell_far (p := ⟨gb187, _, none⟩) NB168_187.out _).trans (hHeld.2.2.2.2.2.2.2.1)))))))))), ((cell_far (p := ⟨gb187, _, none⟩) NB168_187.out _).trans (((cell_far (p := ⟨gb187, _, none⟩) NB168_187.out _).trans (((cell_far (p := ⟨gb187, _, none⟩) NB168_187.out _).trans (((cell_far (p := ⟨gb187, _, none⟩) NB168_187.out _).trans (((cell_far (p := ⟨gb187, _, none⟩) NB168_187.out _).trans (hHeld.2.2.2.2.2.2.2.2.1)))))))))), ((cell_far (p := ⟨gb187, _, none⟩) NB168_187.out _).trans (((cell_far (p := ⟨gb187, _, none⟩) NB168_187.out _).trans (((cell_far (p := ⟨gb187, _, none⟩) NB168_187.out _).trans (((cell_far (p := ⟨gb187, _, none⟩) NB168_187.out _).trans (((cell_far (p := ⟨gb187, _, none⟩) NB168_187.out _).trans (hHeld.2.2.2.2.2.2.2.2.2.1)))))))))), ((cell_far (p := ⟨gb187, _, none⟩) (by first | exact Nat.ne_of_lt (Nat.lt_of_lt_of_le (by have := World.block_lt_of_cell? _ _ hw180_0; first | rwa [add_block] at this | exact this) GW187.out) | (rw [add_block]; exact Nat.ne_of_lt (Nat.lt_of_lt_of_le (by have := World.block_lt_of_cell? _ _ hw180_0; first | rwa [add_block] at this | exact this) GW187.out)) | (show (Addr.add _ _).block ≠ _; rw [add_block]; exact Nat.ne_of_lt (Nat.lt_of_lt_of_le (by have := World.block_lt_of_cell? _ _ hw180_0; first | rwa [add_block] at this | exact this) GW187.out)) | (dsimp only; exact Nat.ne_of_lt (Nat.lt_of_lt_of_le (by have := World.block_lt_of_cell? _ _ hw180_0; first | rwa [add_block] at this | exact this) GW187.out))) _).trans (((cell_far (p := ⟨gb187, _, none⟩) (by first | exact Nat.ne_of_lt (Nat.lt_of_lt_of_le (by have := World.block_lt_of_cell? _ _ hw180_0; first | rwa [add_block] at this | exact this) GW187.out) | (rw [add_block]; exact Nat.ne_of_lt (Nat.lt_of_lt_of_le (by have := World.block_lt_of_cell? _ _ hw180_0; first | rwa [add_block] at this | exact this) GW187.out)) | (show (Addr.add _ _).block ≠ _; rw [add_block]; exact Nat.ne_of_lt (Nat.lt_of_lt_of_le (by have := World.block_lt_of_cell? _ _ hw180_0; first | rwa [add_block] at this | exact this) GW187.out)) | (dsimp only; exact Nat.ne_of_lt (Nat.lt_of_lt_of_le (by have := World.block_lt_of_cell? _ _ hw180_0; first | rwa [add_block] at this | exact this) GW187.out))) _).trans (((cell_far (p := ⟨gb187, _, none⟩) (by first | exact Nat.ne_of_lt (Nat.lt_of_lt_of_le (by have := World.block_lt_of_cell? _ _ hw180_0; first | rwa [add_block] at this | exact this) GW187.out) | (rw [add_block]; exact Nat.ne_of_lt (Nat.lt_of_lt_of_le (by have := World.block_lt_of_cell? _ _ hw180_0; first | rwa [add_block] at this | exact this) GW187.out)) | (show (Addr.add _ _).block ≠ _; rw [add_block]; exact Nat.ne_of_lt (Nat.lt_of_lt_of_le (by have := World.block_lt_of_cell? _ _ hw180_0; first | rwa [add_block] at this | exact this) GW187.out)) | (dsimp only; exact Nat.ne_of_lt (Nat.lt_of_lt_of_le (by have := World.block_lt_of_cell? _ _ hw180_0; first | rwa [add_block] at this | exact this) GW187.out))) _).trans (((cell_far (p := ⟨gb187, _, none⟩) (by first | exact Nat.ne_of_lt (Nat.lt_of_lt_of_le (by have := World.block_lt_of_cell? _ _ hw180_0; first | rwa [add_block] at this | exact this) GW187.out) | (rw [add_block]; exact Nat.ne_of_lt (Nat.lt_of_lt_of_le (by have := World.block_lt_of_cell? _ _ hw180_0; first | rwa [add_block] at this | exact this) GW187.out)) | (show (Addr.add _ _).block ≠ _; rw [add_block]; exact Nat.ne_of_lt (Nat.lt_of_lt_of_le (by have := World.block_lt_of_cell? _ _ hw180_0; first | rwa [add_block] at this | exact this) GW187.out)) | (dsimp only; exact Nat.ne_of_lt (Nat.lt_of_lt_of_le (by have := World.block_lt_of_cell? _ _ hw180_0; first | rwa [add_block] at this | exact this) GW187.out))) _).trans (((cell_far (p := ⟨gb187, _, none⟩) (by first | exact Nat.ne_of_lt (Nat.lt_of_lt_of_le (by have := World.block_lt_of_cell? _ _ hw180_0; first | rwa [add_block] at this | exact this) GW187.out) | (rw [add_block]; exact Nat.ne_of_lt (Nat.lt_of_lt_of_le (by have := World.block_lt_of_cell? _ _ hw180_0; first | rwa [add_block] at this | exact this) GW187.out)) | (show (Addr.add _ _).block ≠ _; rw [add_block]; exact Nat.ne_of_lt (Nat.lt_of_lt_of_le (by have := World.block_lt_of_cell? _ _ hw180_0; first | rwa [add_block] at this | exact this) GW187.out)) | (dsimp only; exact Nat.ne_of_lt (Nat.lt_of_lt_of_le (by have := World.block_lt_of_cell? _ _ hw180_0; first | rwa [add_block] at this | exact this) GW187.out))) _).trans (hHeld.2.2.2.2.2.2.2.2.2.2.1)))))))))), ((cell_far (p := ⟨gb187, _, none⟩) (by first | exact Nat.ne_of_lt (Nat.lt_of_lt_of_le (by have := World.block_lt_of_cell? _ _ hw180_1; first | rwa [add_block] at this | exact this) GW187.out) | (rw [add_block]; exact Nat.ne_of_lt (Nat.lt_of_lt_of_le (by have := World.block_lt_of_cell? _ _ hw180_1; first | rwa [add_block] at this | exact this) GW187.out)) | (show (Addr.add _ _).block ≠ _; rw [add_block]; exact Nat.ne_of_lt (Nat.lt_of_lt_of_le (by have := World.block_lt_of_cell? _ _ hw180_1; first | rwa [add_block] at this | exact this) GW187.out)) | (dsimp only; exact Nat.ne_of_lt (Nat.lt_of_lt_of_le (by have := World.block_lt_of_cell? _ _ hw180_1; first | rwa [add_block] at this | exact this) GW187.out))) _).trans (((cell_far (p := ⟨gb187, _, none⟩) (by first | exact Nat.ne_of_lt (Nat.lt_of_lt_of_le (by have := World.block_lt_of_cell? _ _ hw180_1; first | rwa [add_block] at this | exact this) GW187.out) | (rw [add_block]; exact Nat.ne_of_lt (Nat.lt_of_lt_of_le (by have := World.block_lt_of_cell? _ _ hw180_1; first | rwa [add_block] at this | exact this) GW187.out)) | (show (Addr.add _ _).block ≠ _; rw [add_block]; exact Nat.ne_of_lt (Nat.lt_of_lt_of_le (by have := World.block_lt_of_cell? _ _ hw180_1; first | rwa [add_block] at this | exact this) GW187.out)) | (dsimp only; exact Nat.ne_of_lt (Nat.lt_of_lt_of_le (by have := World.block_lt_of_cell? _ _ hw180_1; first | rwa [add_block] at this | exact this) GW187.out))) _).trans (((cell_far (p := ⟨gb187, _, none⟩) (by first | exact Nat.ne_of_lt (Nat.lt_of_lt_of_le (by have := World.block_lt_of_cell? _ _ hw180_1; first | rwa [add_block] at this | exact this) GW187.out) | (rw [add_block]; exact Nat.ne_of_lt (Nat.lt_of_lt_of_le (by have := World.block_lt_of_cell? _ _ hw180_1; first | rwa [add_block] at this | exact this) GW187.out)) | (show (Addr.add _ _).block ≠ _; rw [add_block]; exact Nat.ne_of_lt (Nat.lt_of_lt_of_le (by have := World.block_lt_of_cell? _ _ hw180_1; first | rwa [add_block] at this | exact this) GW187.out)) | (dsimp only; exact Nat.ne_of_lt (Nat.lt_of_lt_of_le (by have := World.block_lt_of_cell? _ _ hw180_1; first | rwa [add_block] at this | exact this) GW187.out))) _).trans (((cell_far (p := ⟨gb187, _, none⟩) (by first | exact Nat.ne_of_lt (Nat.lt_of_lt_of_le (by have := World.block_lt_of_cell? _ _ hw180_1; first | rwa [add_block] at this | exact this) GW187.out) | (rw [add_block]; exact Nat.ne_of_lt (Nat.lt_of_lt_of_le (by have := World.block_lt_of_cell? _ _ hw180_1; first | rwa [add_block] at this | exact this) GW187.out)) | (show (Addr.add _ _).block ≠ _; rw [add_block]; exact Nat.ne_of_lt (Nat.lt_of_lt_of_le (by have := World.block_lt_of_cell? _ _ hw180_1; first | rwa [add_block] at this | exact this) GW187.out)) | (dsimp only; exact Nat.ne_of_lt (Nat.lt_of_lt_of_le (by have := World.block_lt_of_cell? _ _ hw180_1; first | rwa [add_block] at this | exact this) GW187.out))) _).trans (((cell_far (p := ⟨gb187, _, none⟩) (by first | exact Nat.ne_of_lt (Nat.lt_of_lt_of_le (by have := World.block_lt_of_cell? _ _ hw180_1; first | rwa [add_block] at this | exact this) GW187.out) | (rw [add_block]; exact Nat.ne_of_lt (Nat.lt_of_lt_of_le (by have := World.block_lt_of_cell? _ _ hw180_1; first | rwa [add_block] at this | exact this) GW187.out)) | (show (Addr.add _ _).block ≠ _; rw [add_block]; exact Nat.ne_of_lt (Nat.lt_of_lt_of_le (by have := World.block_lt_of_cell? _ _ hw180_1; first | rwa [add_block] at this | exact this) GW187.out)) | (dsimp only; exact Nat.ne_of_lt (Nat.lt_of_lt_of_le (by have := World.block_lt_of_cell? _ _ hw180_1; first | rwa [add_block] at this | exact this) GW187.out))) _).trans (hHeld.2.2.2.2.2.2.2.2.2.2.2.1)))))))))), ((cell_far (p := ⟨gb187, _, none⟩) (by first | exact Nat.ne_of_lt (Nat.lt_of_lt_of_le (by have := World.block_lt_of_cell? _ _ hw180_2; first | rwa [add_block] at this | exact this) GW187.out) | (rw [add_block]; exact Nat.ne_of_lt (Nat.lt_of_lt_of_le (by have := World.block_lt_of_cell? _ _ hw180_2; first | rwa [add_block] at this | exact this) GW187.out)) | (show (Addr.add _ _).block ≠ _; rw [add_block]; exact Nat.ne_of_lt (Nat.lt_of_lt_of_le (by have := World.block_lt_of_cell? _ _ hw180_2; first | rwa [add_block] at this | exact this) GW187.out)) | (dsimp only; exact Nat.ne_of_lt (Nat.lt_of_lt_of_le (by have := World.block_lt_of_cell? _ _ hw180_2; first | rwa [add_block] at this | exact this) GW187.out))) _).trans (((cell_far (p := ⟨gb187, _, none⟩) (by first | exact Nat.ne_of_lt (Nat.lt_of_lt_of_le (by have := World.block_lt_of_cell? _ _ hw180_2; first | rwa [add_block] at this | exact this) GW187.out) | (rw [add_block]; exact Nat.ne_of_lt (Nat.lt_of_lt_of_le (by have := World.block_lt_of_cell? _ _ hw180_2; first | rwa [add_block] at this | exact this) GW187.out)) | (show (Addr.add _ _).block ≠ _; rw [add_block]; exact Nat.ne_of_lt (Nat.lt_of_lt_of_le (by have := World.block_lt_of_cell? _ _ hw180_2; first | rwa [add_block] at this | exact this) GW187.out)) | (dsimp only; exact Nat.ne_of_lt (Nat.lt_of_lt_of_le (by have := World.block_lt_of_cell? _ _ hw180_2; first | rwa [add_block] at this | exact this) GW187.out))) _).trans (((cell_far (p := ⟨gb187, _, none⟩) (by first | exact Nat.ne_of_lt (Nat.lt_of_lt_of_le (by have := World.block_lt_of_cell? _ _ hw180_2; first | rwa [add_block] at this | exact this) GW187.out) | (rw [add_block]; exact Nat.ne_of_lt (Nat.lt_of_lt_of_le (by have := World.block_lt_of_cell? _ _ hw180_2; first | rwa [add_block] at this | exact this) GW187.out)) | (show (Addr.add _ _).block ≠ _; rw [add_block]; exact Nat.ne_of_lt (Nat.lt_of_lt_of_le (by have := World.block_lt_of_cell? _ _ hw180_2; first | rwa [add_block] at this | exact this) GW187.out)) | (dsimp only; exact Nat.ne_of_lt (Nat.lt_of_lt_of_le (by have := World.block_lt_of_cell? _ _ hw180_2; first | rwa [add_block] at this | exact this) GW187.out))) _).trans (((cell_far (p := ⟨gb187, _, none⟩) (by first | exact Nat.ne_of_lt (Nat.lt_of_lt_of_le (by have := World.block_lt_of_cell? _ _ hw180_2; first | rwa [add_block] at this | exact this) GW187.out) | (rw [add_block]; exact Nat.ne_of_lt (Nat.lt_of_lt_of_le (by have := World.block_lt_of_cell? _ _ hw180_2; first | rwa [add_block] at this | exact this) GW187.out)) | (show (Addr.add _ _).block ≠ _; rw [add_block]; exact Nat.ne_of_lt (Nat.lt_of_lt_of_le (by have := World.block_lt_of_cell? _ _ hw180_2; first | rwa [add_block] at this | exact this) GW187.out)) | (dsimp only; exact Nat.ne_of_lt (Nat.lt_of_lt_of_le (by have := World.block_lt_of_cell? _ _ hw180_2; first | rwa [add_block] at this | exact this) GW187.out))) _).trans (((cell_far (p := ⟨gb187, _, none⟩) (by first | exact Nat.ne_of_lt (Nat.lt_of_lt_of_le (by have := World.block_lt_of_cell? _ _ hw180_2; first | rwa [add_block] at this | exact this) GW187.out) | (rw [add_block]; exact Nat.ne_of_lt (Nat.lt_of_lt_of_le (by have := World.block_lt_of_cell? _ _ hw180_2; first | rwa [add_block] at this | exact this) GW187.out)) | (show (Addr.add _ _).block ≠ _; rw [add_block]; exact Nat.ne_of_lt (Nat.lt_of_lt_of_le (by have := World.block_lt_of_cell? _ _ hw180_2; first | rwa [add_block] at this | exact this) GW187.out)) | (dsimp only; exact Nat.ne_of_lt (Nat.lt_of_lt_of_le (by have := World.block_lt_of_cell? _ _ hw180_2; first | rwa [add_block] at this | exact this) GW187.out))) _).trans (hHeld.2.2.2.2.2.2.2.2.2.2.2.2.1)))))))))), ((cell_far (p := ⟨gb187, _, none⟩) (by first | exact Nat.ne_of_lt (Nat.lt_of_lt_of_le (by have := World.block_lt_of_cell? _ _ hw180_3; first | rwa [add_block] at this | exact this) GW187.out) | (rw [add_block]; exact Nat.ne_of_lt (Nat.lt_of_lt_of_le (by have := World.block_lt_of_cell? _ _ hw180_3; first | rwa [add_block] at this | exact this) GW187.out)) | (show (Addr.add _ _).block ≠ _; rw [add_block]; exact Nat.ne_of_lt (Nat.lt_of_lt_of_le (by have := World.block_lt_of_cell? _ _ hw180_3; first | rwa [add_block] at this | exact this) GW187.out)) | (dsimp only; exact Nat.ne_of_lt (Nat.lt_of_lt_of_le (by have := World.block_lt_of_cell? _ _ hw180_3; first | rwa [add_block] at this | exact this) GW187.out))) _).trans (((cell_far (p := ⟨gb187, _, none⟩) (by first | exact Nat.ne_of_lt (Nat.lt_of_lt_of_le (by have := World.block_lt_of_cell? _ _ hw180_3; first | rwa [add_block] at this | exact this) GW187.out) | (rw [add_block]; exact Nat.ne_of_lt (Nat.lt_of_lt_of_le (by have := World.block_lt_of_cell? _ _ hw180_3; first | rwa [add_block] at this | exact this) GW187.out)) | (show (Addr.add _ _).block ≠ _; rw [add_block]; exact Nat.ne_of_lt (Nat.lt_of_lt_of_le (by have := World.block_lt_of_cell? _ _ hw180_3; first | rwa [add_block] at this | exact this) GW187.out)) | (dsimp only; exact Nat.ne_of_lt (Nat.lt_of_lt_of_le (by have := World.block_lt_of_cell? _ _ hw180_3; first | rwa [add_block] at this | exact this) GW187.out))) _).trans (((cell_far (p := ⟨gb187, _, none⟩) (by first | exact Nat.ne_of_lt (Nat.lt_of_lt_of_le (by have := World.block_lt_of_cell? _ _ hw180_3; first | rwa [add_block] at this | exact this) GW187.out) | (rw [add_block]; exact Nat.ne_of_lt (Nat.lt_of_lt_of_le (by have := World.block_lt_of_cell? _ _ hw180_3; first | rwa [add_block] at this | exact this) GW187.out)) | (show (Addr.add _ _).block ≠ _; rw [add_block]; exact Nat.ne_of_lt (Nat.lt_of_lt_of_le (by have := World.block_lt_of_cell? _ _ hw180_3; first | rwa [add_block] at this | exact this) GW187.out)) | (dsimp only; exact Nat.ne_of_lt (Nat.lt_of_lt_of_le (by have := World.block_lt_of_cell? _ _ hw180_3; first | rwa [add_block] at this | exact this) GW187.out))) _).trans (((cell_far (p := ⟨gb187, _, none⟩) (by first | exact Nat.ne_of_lt (Nat.lt_of_lt_of_le (by have := World.block_lt_of_cell? _ _ hw180_3; first | rwa [add_block] at this | exact this) GW187.out) | (rw [add_block]; exact Nat.ne_of_lt (Nat.lt_of_lt_of_le (by have := World.block_lt_of_cell? _ _ hw180_3; first | rwa [add_block] at this | exact this) GW187.out)) | (show (Addr.add _ _).block ≠ _; rw [add_block]; exact Nat.ne_of_lt (Nat.lt_of_lt_of_le (by have := World.block_lt_of_cell? _ _ hw180_3; first | rwa [add_block] at this | exact this) GW187.out)) | (dsimp only; exact Nat.ne_of_lt (Nat.lt_of_lt_of_le (by have := World.block_lt_of_cell? _ _ hw180_3; first | rwa [add_block] at this | exact this) GW187.out))) _).trans (((cell_far (p := ⟨gb187, _, none⟩) (by first | exact Nat.ne_of_lt (Nat.lt_of_lt_of_le (by have := World.block_lt_of_cell? _ _ hw180_3; first | rwa [add_block] at this | exact this) GW187.out) | (rw [add_block]; exact Nat.ne_of_lt (Nat.lt_of_lt_of_le (by have := World.block_lt_of_cell? _ _ hw180_3; first | rwa [add_block] at this | exact this) GW187.out)) | (show (Addr.add _ _).block ≠ _; rw [add_block]; exact Nat.ne_of_lt (Nat.lt_of_lt_of_le (by have := World.block_lt_of_cell? _ _ hw180_3; first | rwa [add_block] at this | exact this) GW187.out)) | (dsimp only; exact Nat.ne_of_lt (Nat.lt_of_lt_of_le (by have := World.block_lt_of_cell? _ _ hw180_3; first | rwa [add_block] at this | exact this) GW187.out))) _).trans (hHeld.2.2.2.2.2.2.2.2.2.2.2.2.2.1)))))))))), ((cell_far (p := ⟨gb187, _, none⟩) (by first | exact Nat.ne_of_lt (Nat.lt_of_lt_of_le (by have := World.block_lt_of_cell? _ _ hw180_4; first | rwa [add_block] at this | exact this) GW187.out) | (rw [add_block]; exact Nat.ne_of_lt (Nat.lt_of_lt_of_le (by have := World.block_lt_of_cell? _ _ hw180_4; first | rwa [add_block] at this | exact this) GW187.out)) | (show (Addr.add _ _).block ≠ _; rw [add_block]; exact Nat.ne_of_lt (Nat.lt_of_lt_of_le (by have := World.block_lt_of_cell? _ _ hw180_4; first | rwa [add_block] at this | exact this) GW187.out)) | (dsimp only; exact Nat.ne_of_lt (Nat.lt_of_lt_of_le (by have := World.block_lt_of_cell? _ _ hw180_4; first | rwa [add_block] at this | exact this) GW187.out))) _).trans (((cell_far (p := ⟨gb187, _, none⟩) (by first | exact Nat.ne_of_lt (Nat.lt_of_lt_of_le (by have := World.block_lt_of_cell? _ _ hw180_4; first | rwa [add_block] at this | exact this) GW187.out) | (rw [add_block]; exact Nat.ne_of_lt (Nat.lt_of_lt_of_le (by have := World.block_lt_of_cell? _ _ hw180_4; first | rwa [add_block] at this | exact this) GW187.out)) | (show (Addr.add _ _).block ≠ _; rw [add_block]; exact Nat.ne_of_lt (Nat.lt_of_lt_of_le (by have := World.block_lt_of_cell? _ _ hw180_4; first | rwa [add_block] at this | exact this) GW187.out)) | (dsimp only; exact Nat.ne_of_lt (Nat.lt_of_lt_of_le (by have := World.block_lt_of_cell? _ _ hw180_4; first | rwa [add_block] at this | exact this) GW187.out))) _).trans (((cell_far (p := ⟨gb187, _, none⟩) (by first | exact Nat.ne_of_lt (Nat.lt_of_lt_of_le (by have := World.block_lt_of_cell? _ _ hw180_4; first | rwa [add_block] at this | exact this) GW187.out) | (rw [add_block]; exact Nat.ne_of_lt (Nat.lt_of_lt_of_le (by have := World.block_lt_of_cell? _ _ hw180_4; first | rwa [add_block] at this | exact this) GW187.out)) | (show (Addr.add _ _).block ≠ _; rw [add_block]; exact Nat.ne_of_lt (Nat.lt_of_lt_of_le (by have := World.block_lt_of_cell? _ _ hw180_4; first | rwa [add_block] at this | exact this) GW187.out)) | (dsimp only; exact Nat.ne_of_lt (Nat.lt_of_lt_of_le (by have := World.block_lt_of_cell? _ _ hw180_4; first | rwa [add_block] at this | exact this) GW187.out))) _).trans (((cell_far (p := ⟨gb187, _, none⟩) (by first | exact Nat.ne_of_lt (Nat.lt_of_lt_of_le (by have := World.block_lt_of_cell? _ _ hw180_4; first | rwa [add_block] at this | exact this) GW187.out) | (rw [add_block]; exact Nat.ne_of_lt (Nat.lt_of_lt_of_le (by have := World.block_lt_of_cell? _ _ hw180_4; first | rwa [add_block] at this | exact this) GW187.out)) | (show (Addr.add _ _).block ≠ _; rw [add_block]; exact Nat.ne_of_lt (Nat.lt_of_lt_of_le (by have := World.block_lt_of_cell? _ _ hw180_4; first | rwa [add_block] at this | exact this) GW187.out)) | (dsimp only; exact Nat.ne_of_lt (Nat.lt_of_lt_of_le (by have := World.block_lt_of_cell? _ _ hw180_4; first | rwa [add_block] at this | exact this) GW187.out))) _).trans (((cell_far (p := ⟨gb187, _, none⟩) (by first | exact Nat.ne_of_lt (Nat.lt_of_lt_of_le (by have := World.block_lt_of_cell? _ _ hw180_4; first | rwa [add_block] at this | exact this) GW187.out) | (rw [add_block]; exact Nat.ne_of_lt (Nat.lt_of_lt_of_le (by have := World.block_lt_of_cell? _ _ hw180_4; first | rwa [add_block] at this | exact this) GW187.out)) | (show (Addr.add _ _).block ≠ _; rw [add_block]; exact Nat.ne_of_lt (Nat.lt_of_lt_of_le (by have := World.block_lt_of_cell? _ _ hw180_4; first | rwa [add_block] at this | exact this) GW187.out)) | (dsimp only; exact Nat.ne_of_lt (Nat.lt_of_lt_of_le (by have := World.block_lt_of_cell? _ _ hw180_4; first | rwa [add_block] at this | exact this) GW187.out))) _).trans (hHeld.2.2.2.2.2.2.2.2.2.2.2.2.2.2))))))))))⟩ (fun hHeld => ?_)
                                clear hK K
                                refine pure_ (i := 13) (N := some 9) (v := ?_) (a' := ?_) #[true, true, true, true, true, true, true, true, true, true, true, true, true, true] rfl rfl (any_of HT_.out (by kernel_rfl)) (fun _ _ _ h => h) (Or.inl ⟨by rfl, ?_⟩) ?_ ?_
                                rotate_left
                                · intro w'
                                  go_simp
                                  with_reducible rfl
                                rotate_left
                                · simp only [Act.put, List.setIfInBounds_toArray, List.set_cons_zero, List.set_cons_succ, i64_w, i32_w]
                                  rfl
                                refine done_ (done_of HT_.out (by kernel_rfl)) ?_
                                have n0_ : Aside0 (Kd.R Kd.bool 4 (((((w51.setCell ⟨gb187, 0, none⟩ (.int .i64 t181)).setCell ⟨gb187, 1, none⟩ (.int .i64 t182)).setCell ⟨gb187, 2, none⟩ (.int .i64 t183)).setCell ⟨gb187, 3, none⟩ (.int .i64 t184)).setCell ⟨gb187, 4, none⟩ (.int .i64 t185)) w.heap.size (fun k_ => (w.heap.size ≤ k_)) v171 t170) := ⟨by (with_reducible repeat (first | apply Kd.R_alloc | apply Kd.R_drewN | apply Kd.R_drew)); exact Kd.R_mono (Kd.R_far (p := ⟨gb187, 4, none⟩) (Kd.R_far (p := ⟨gb187, 3, none⟩) (Kd.R_far (p := ⟨gb187, 2, none⟩) (Kd.R_far (p := ⟨gb187, 1, none⟩) (Kd.R_far (p := ⟨gb187, 0, none⟩) (Kd.R_types HO_3.out BK187.out (by decide)) (fun _ hk => hk.2) (.int .i64 t181)) (fun _ hk => hk.2) (.int .i64 t182)) (fun _ hk => hk.2) (.int .i64 t183)) (fun _ hk => hk.2) (.int .i64 t184)) (fun _ hk => hk.2) (.int .i64 t185)) (fun _ hk => hk.1)⟩
                                have n1_ : Aside0 (Kd.R (Kd.int .i64) 3 (((((w51.setCell ⟨gb187, 0, none⟩ (.int .i64 t181)).setCell ⟨gb187, 1, none⟩ (.int .i64 t182)).setCell ⟨gb187, 2, none⟩ (.int .i64 t183)).setCell ⟨gb187, 3, none⟩ (.int .i64 t184)).setCell ⟨gb187, 4, none⟩ (.int .i64 t185)) w.heap.size (fun k_ => (w.heap.size ≤ k_)) (.slice (some ⟨go16, 0, none⟩) y176.length co16) y176) := ⟨by (with_reducible repeat (first | apply Kd.R_alloc | apply Kd.R_drewN | apply Kd.R_drew)); exact Kd.R_mono (Kd.R_far (p := ⟨gb187, 4, none⟩) (Kd.R_far (p := ⟨gb187, 3, none⟩) (Kd.R_far (p := ⟨gb187, 2, none⟩) (Kd.R_far (p := ⟨gb187, 1, none⟩) (Kd.R_far (p := ⟨gb187, 0, none⟩) (Kd.R_types HO_4.out BK187.out (by decide)) (fun _ hk => hk.2) (.int .i64 t181)) (fun _ hk => hk.2) (.int .i64 t182)) (fun _ hk => hk.2) (.int .i64 t183)) (fun _ hk => hk.2) (.int .i64 t184)) (fun _ hk => hk.2) (.int .i64 t185)) (fun _ hk => hk.1)⟩
                                have n2_ : Aside0 (Kd.R k23 23 (((((w51.setCell ⟨gb187, 0, none⟩ (.int .i64 t181)).setCell ⟨gb187, 1, none⟩ (.int .i64 t182)).setCell ⟨gb187, 2, none⟩ (.int .i64 t183)).setCell ⟨gb187, 3, none⟩ (.int .i64 t184)).setCell ⟨gb187, 4, none⟩ (.int .i64 t185)) w.heap.size (fun k_ => (w.heap.size ≤ k_) ∧ k_ ≠ gb178 ∧ k_ ≠ gb187) (.slice Ao20 x5_1.length co20) x5_1) := ⟨by (with_reducible repeat (first | apply Kd.R_alloc | apply Kd.R_drewN | apply Kd.R_drew)); exact Kd.R_mono (Kd.R_far (p := ⟨gb187, 4, none⟩) (Kd.R_far (p := ⟨gb187, 3, none⟩) (Kd.R_far (p := ⟨gb187, 2, none⟩) (Kd.R_far (p := ⟨gb187, 1, none⟩) (Kd.R_far (p := ⟨gb187, 0, none⟩) (Kd.R_mono HO_5.out (fun k_ hk => (⟨hk, hk.2.2⟩ : _ ∧ k_ ≠ gb187))) (fun _ hk => hk.2) (.int .i64 t181)) (fun _ hk => hk.2) (.int .i64 t182)) (fun _ hk => hk.2) (.int .i64 t183)) (fun _ hk => hk.2) (.int .i64 t184)) (fun _ hk => hk.2) (.int .i64 t185)) (fun _ hk => ⟨hk.1.1, ⟨hk.1.2.1, hk.1.2.2⟩⟩)⟩
                                have n3_ : Aside0 ((((((w51.setCell ⟨gb187, 0, none⟩ (.int .i64 t181)).setCell ⟨gb187, 1, none⟩ (.int .i64 t182)).setCell ⟨gb187, 2, none⟩ (.int .i64 t183)).setCell ⟨gb187, 3, none⟩ (.int .i64 t184)).setCell ⟨gb187, 4, none⟩ (.int .i64 t185)).heap[gb168]? = some (.cells #[.string a0_0, .int .i64 a0_1, .int .i64 a0_2, .slice A0_3 l0_3.length c0_3, .slice (some ad177) l0_4.length c0_4] 32 (0, 0))) := ⟨by (with_reducible repeat (first | refine blk_drewN ?_ _ | refine blk_drew ?_ | refine blk_alloc ?_ _)); refine blk_far ?_ NB168_187.out _; (with_reducible repeat (first | refine blk_drewN ?_ _ | refine blk_drew ?_ | refine blk_alloc ?_ _)); refine blk_far ?_ NB168_187.out _; (with_reducible repeat (first | refine blk_drewN ?_ _ | refine blk_drew ?_ | refine blk_alloc ?_ _)); refine blk_far ?_ NB168_187.out _; (with_reducible repeat (first | refine blk_drewN ?_ _ | refine blk_drew ?_ | refine blk_alloc ?_ _)); refine blk_far ?_ NB168_187.out _; (with_reducible repeat (first | refine blk_drewN ?_ _ | refine blk_drew ?_ | refine blk_alloc ?_ _)); refine blk_far ?_ NB168_187.out _; (with_reducible repeat (first | refine blk_drewN ?_ _ | refine blk_drew ?_ | refine blk_alloc ?_ _)); exact BK168.out⟩
                                have n4_ : Aside0 ((((((w51.setCell ⟨gb187, 0, none⟩ (.int .i64 t181)).setCell ⟨gb187, 1, none⟩ (.int .i64 t182)).setCell ⟨gb187, 2, none⟩ (.int .i64 t183)).setCell ⟨gb187, 3, none⟩ (.int .i64 t184)).setCell ⟨gb187, 4, none⟩ (.int .i64 t185)).heap[gb169]? = some (.cells #[.string (⟨#[]⟩ : ByteArray), .int .i64 0, .int .i64 0, .slice none 0 0, .slice none 0 0] 32 (0, 0))) := ⟨by (with_reducible repeat (first | refine blk_drewN ?_ _ | refine blk_drew ?_ | refine blk_alloc ?_ _)); refine blk_far ?_ NB169_187.out _; (with_reducible repeat (first | refine blk_drewN ?_ _ | refine blk_drew ?_ | refine blk_alloc ?_ _)); refine blk_far ?_ NB169_187.out _; (with_reducible repeat (first | refine blk_drewN ?_ _ | refine blk_drew ?_ | refine blk_alloc ?_ _)); refine blk_far ?_ NB169_187.out _; (with_reducible repeat (first | refine blk_drewN ?_ _ | refine blk_drew ?_ | refine blk_alloc ?_ _)); refine blk_far ?_ NB169_187.out _; (with_reducible repeat (first | refine blk_drewN ?_ _ | refine blk_drew ?_ | refine blk_alloc ?_ _)); refine blk_far ?_ NB169_187.out _; (with_reducible repeat (first | refine blk_drewN ?_ _ | refine blk_drew ?_ | refine blk_alloc ?_ _)); exact BK169.out⟩
                                have n5_ : Aside0 ((((((w51.setCell ⟨gb187, 0, none⟩ (.int .i64 t181)).setCell ⟨gb187, 1, none⟩ (.int .i64 t182)).setCell ⟨gb187, 2, none⟩ (.int .i64 t183)).setCell ⟨gb187, 3, none⟩ (.int .i64 t184)).setCell ⟨gb187, 4, none⟩ (.int .i64 t185)).heap[gb178]? = some (.cells #[.int .i64 ((rd_T23 l0_4 x6_1).f0), .int .i64 ((rd_T23 l0_4 x6_1).f1), .int .i64 ((rd_T23 l0_4 x6_1).f2), .int .i64 ((rd_T23 l0_4 x6_1).f3), .int .i64 ((rd_T23 l0_4 x6_1).f4)] 23 (0, 0))) := ⟨by (with_reducible repeat (first | refine blk_drewN ?_ _ | refine blk_drew ?_ | refine blk_alloc ?_ _)); refine blk_far ?_ NB178_187.out _; (with_reducible repeat (first | refine blk_drewN ?_ _ | refine blk_drew ?_ | refine blk_alloc ?_ _)); refine blk_far ?_ NB178_187.out _; (with_reducible repeat (first | refine blk_drewN ?_ _ | refine blk_drew ?_ | refine blk_alloc ?_ _)); refine blk_far ?_ NB178_187.out _; (with_reducible repeat (first | refine blk_drewN ?_ _ | refine blk_drew ?_ | refine blk_alloc ?_ _)); refine blk_far ?_ NB178_187.out _; (with_reducible repeat (first | refine blk_drewN ?_ _ | refine blk_drew ?_ | refine blk_alloc ?_ _)); refine blk_far ?_ NB178_187.out _; (with_reducible repeat (first | refine blk_drewN ?_ _ | refine blk_drew ?_ | refine blk_alloc ?_ _)); exact BK178.out⟩
                                have n6_ : Aside0 ((((((w51.setCell ⟨gb187, 0, none⟩ (.int .i64 t181)).setCell ⟨gb187, 1, none⟩ (.int .i64 t182)).setCell ⟨gb187, 2, none⟩ (.int .i64 t183)).setCell ⟨gb187, 3, none⟩ (.int .i64 t184)).setCell ⟨gb187, 4, none⟩ (.int .i64 t185)).heap[gb187]? = some (.cells #[.int .i64 t181, .int .i64 t182, .int .i64 t183, .int .i64 t184, .int .i64 t185] 23 (0, 0))) := ⟨by (with_reducible repeat (first | refine blk_drewN ?_ _ | refine blk_drew ?_ | refine blk_alloc ?_ _)); refine blk_put (cs := #[.int .i64 t181, .int .i64 t182, .int .i64 t183, .int .i64 t184, .int .i64 0]) ?_ 4 _ rfl; (with_reducible repeat (first | refine blk_drewN ?_ _ | refine blk_drew ?_ | refine blk_alloc ?_ _)); refine blk_put (cs := #[.int .i64 t181, .int .i64 t182, .int .i64 t183, .int .i64 0, .int .i64 0]) ?_ 3 _ rfl; (with_reducible repeat (first | refine blk_drewN ?_ _ | refine blk_drew ?_ | refine blk_alloc ?_ _)); refine blk_put (cs := #[.int .i64 t181, .int .i64 t182, .int .i64 0, .int .i64 0, .int .i64 0]) ?_ 2 _ rfl; (with_reducible repeat (first | refine blk_drewN ?_ _ | refine blk_drew ?_ | refine blk_alloc ?_ _)); refine blk_put (cs := #[.int .i64 t181, .int .i64 0, .int .i64 0, .int .i64 0, .int .i64 0]) ?_ 1 _ rfl; (with_reducible repeat (first | refine blk_drewN ?_ _ | refine blk_drew ?_ | refine blk_alloc ?_ _)); refine blk_put (cs := #[.int .i64 0, .int .i64 0, .int .i64 0, .int .i64 0, .int .i64 0]) ?_ 0 _ rfl; (with_reducible repeat (first | refine blk_drewN ?_ _ | refine blk_drew ?_ | refine blk_alloc ?_ _)); exact BK187.out⟩
                                have n7_ : Aside0 (Below w.heap.size w (((((w51.setCell ⟨gb187, 0, none⟩ (.int .i64 t181)).setCell ⟨gb187, 1, none⟩ (.int .i64 t182)).setCell ⟨gb187, 2, none⟩ (.int .i64 t183)).setCell ⟨gb187, 3, none⟩ (.int .i64 t184)).setCell ⟨gb187, 4, none⟩ (.int .i64 t185))) := ⟨by repeat (first | (with_reducible first | exact HB.out | apply below_alloc | apply pw_below_drewN | apply below_drew1 | refine below_set ?_ GE168.out | refine below_set ?_ GE169.out | refine below_set ?_ GE178.out | refine below_set ?_ GE187.out) | exact HB.out)⟩
                                (try clear HO_3)
                                (try clear HO_4)
                                (try clear HO_5)
                                (try clear BK168)
                                (try clear BK169)
                                (try clear BK178)
                                (try clear BK187)
                                (try clear HB)
                                generalize (((((w51.setCell ⟨gb187, 0, none⟩ (.int .i64 t181)).setCell ⟨gb187, 1, none⟩ (.int .i64 t182)).setCell ⟨gb187, 2, none⟩ (.int .i64 t183)).setCell ⟨gb187, 3, none⟩ (.int .i64 t184)).setCell ⟨gb187, 4, none⟩ (.int .i64 t185)) = w57 at n0_ n1_ n2_ n3_ n4_ n5_ n6_ n7_ ⊢
                                have HO_3 := n0_
                                have HO_4 := n1_
                                have HO_5 := n2_
                                have BK168 := n3_
                                have BK169 := n4_
                                have BK178 := n5_
                                have BK187 := n6_
                                have HB := n7_
                                clear n0_ n1_ n2_ n3_ n4_ n5_ n6_ n7_
                                have hnb58 := NB187_168.out
                                have hnc58 := NB168_187.out
                                have hnb59 := NB187_169.out
                                have hnc59 := NB169_187.out
                                have hnb60 := NB187_178.out
                                have hnc60 := NB178_187.out
                                have hcz61_0 : w57.cell? ⟨gb187, 0, none⟩ = some (.int .i64 t181) := (blk_cell BK187.out 0).trans rfl
                                have hcz61_1 : w57.cell? ⟨gb187, 1, none⟩ = some (.int .i64 t182) := (blk_cell BK187.out 1).trans rfl
                                have hcz61_2 : w57.cell? ⟨gb187, 2, none⟩ = some (.int .i64 t183) := (blk_cell BK187.out 2).trans rfl
                                have hcz61_3 : w57.cell? ⟨gb187, 3, none⟩ = some (.int .i64 t184) := (blk_cell BK187.out 3).trans rfl
                                have hcz61_4 : w57.cell? ⟨gb187, 4, none⟩ = some (.int .i64 t185) := (blk_cell BK187.out 4).trans rfl
                                have hfz61_0 := blk_frozen BK187.out 0
                                have hfz61_1 := blk_frozen BK187.out 1
                                have hfz61_2 := blk_frozen BK187.out 2
                                have hfz61_3 := blk_frozen BK187.out 3
                                have hfz61_4 := blk_frozen BK187.out 4
                                have hnb62 := NB178_168.out
                                have hnc62 := NB168_178.out
                                have hnb63 := NB178_169.out
                                have hnc63 := NB169_178.out
                                have hcz64_0 : w57.cell? ⟨gb178, 0, none⟩ = some (.int .i64 ((rd_T23 l0_4 x6_1).f0)) := (blk_cell BK178.out 0).trans rfl
                                have hcz64_1 : w57.cell? ⟨gb178, 1, none⟩ = some (.int .i64 ((rd_T23 l0_4 x6_1).f1)) := (blk_cell BK178.out 1).trans rfl
                                have hcz64_2 : w57.cell? ⟨gb178, 2, none⟩ = some (.int .i64 ((rd_T23 l0_4 x6_1).f2)) := (blk_cell BK178.out 2).trans rfl
                                have hcz64_3 : w57.cell? ⟨gb178, 3, none⟩ = some (.int .i64 ((rd_T23 l0_4 x6_1).f3)) := (blk_cell BK178.out 3).trans rfl
                                have hcz64_4 : w57.cell? ⟨gb178, 4, none⟩ = some (.int .i64 ((rd_T23 l0_4 x6_1).f4)) := (blk_cell BK178.out 4).trans rfl
                                have hfz64_0 := blk_frozen BK178.out 0
                                have hfz64_1 := blk_frozen BK178.out 1
                                have hfz64_2 := blk_frozen BK178.out 2
                                have hfz64_3 := blk_frozen BK178.out 3
                                have hfz64_4 := blk_frozen BK178.out 4
                                try go_wp2_with (first | ((with_reducible refine gate_store (t := 23) (p := 7) rfl ?_); refine store_event (t := 23) (p := 7) (v := ?vo_w65) (w1 := (((((w57.setCell ⟨gb178, 0, none⟩ (.int .i64 t181)).setCell ⟨gb178, 1, none⟩ (.int .i64 t182)).setCell ⟨gb178, 2, none⟩ (.int .i64 t183)).setCell ⟨gb178, 3, none⟩ (.int .i64 t184)).setCell ⟨gb178, 4, none⟩ (.int .i64 t185))) ?hg ?ho ?hn ?hr ?_; (case ho => rfl); (case hg => rfl); (case hn => rfl); (case hr => first | (go_simp; done) | (go_simp; rfl)); intro w65 hw; have n0_ : Aside0 (Kd.R Kd.bool 4 w65 w.heap.size (fun k_ => (w.heap.size ≤ k_)) v171 t170) := ⟨(by rw [hw]; exact (by (with_reducible repeat (first | apply Kd.R_alloc | apply Kd.R_drewN | apply Kd.R_drew)); exact Kd.R_mono (Kd.R_far (p := ⟨gb178, 4, none⟩) (Kd.R_far (p := ⟨gb178, 3, none⟩) (Kd.R_far (p := ⟨gb178, 2, none⟩) (Kd.R_far (p := ⟨gb178, 1, none⟩) (Kd.R_far (p := ⟨gb178, 0, none⟩) (Kd.R_types HO_3.out BK178.out (by decide)) (fun _ hk => hk.2) (.int .i64 t181)) (fun _ hk => hk.2) (.int .i64 t182)) (fun _ hk => hk.2) (.int .i64 t183)) (fun _ hk => hk.2) (.int .i64 t184)) (fun _ hk => hk.2) (.int .i64 t185)) (fun _ hk => hk.1)))⟩; have n1_ : Aside0 (Kd.R (Kd.int .i64) 3 w65 w.heap.size (fun k_ => (w.heap.size ≤ k_)) (.slice (some ⟨go16, 0, none⟩) y176.length co16) y176) := ⟨(by rw [hw]; exact (by (with_reducible repeat (first | apply Kd.R_alloc | apply Kd.R_drewN | apply Kd.R_drew)); exact Kd.R_mono (Kd.R_far (p := ⟨gb178, 4, none⟩) (Kd.R_far (p := ⟨gb178, 3, none⟩) (Kd.R_far (p := ⟨gb178, 2, none⟩) (Kd.R_far (p := ⟨gb178, 1, none⟩) (Kd.R_far (p := ⟨gb178, 0, none⟩) (Kd.R_types HO_4.out BK178.out (by decide)) (fun _ hk => hk.2) (.int .i64 t181)) (fun _ hk => hk.2) (.int .i64 t182)) (fun _ hk => hk.2) (.int .i64 t183)) (fun _ hk => hk.2) (.int .i64 t184)) (fun _ hk => hk.2) (.int .i64 t185)) (fun _ hk => hk.1)))⟩; have n2_ : Aside0 (Kd.R k23 23 w65 w.heap.size (fun k_ => (w.heap.size ≤ k_) ∧ k_ ≠ gb178 ∧ k_ ≠ gb187) (.slice Ao20 x5_1.length co20) x5_1) := ⟨(by rw [hw]; exact (by (with_reducible repeat (first | apply Kd.R_alloc | apply Kd.R_drewN | apply Kd.R_drew)); exact Kd.R_mono (Kd.R_far (p := ⟨gb178, 4, none⟩) (Kd.R_far (p := ⟨gb178, 3, none⟩) (Kd.R_far (p := ⟨gb178, 2, none⟩) (Kd.R_far (p := ⟨gb178, 1, none⟩) (Kd.R_far (p := ⟨gb178, 0, none⟩) (Kd.R_mono HO_5.out (fun k_ hk => (⟨hk, hk.2.1⟩ : _ ∧ k_ ≠ gb178))) (fun _ hk => hk.2) (.int .i64 t181)) (fun _ hk => hk.2) (.int .i64 t182)) (fun _ hk => hk.2) (.int .i64 t183)) (fun _ hk => hk.2) (.int .i64 t184)) (fun _ hk => hk.2) (.int .i64 t185)) (fun _ hk => ⟨hk.1.1, ⟨hk.1.2.1, hk.1.2.2⟩⟩)))⟩; have n3_ : Aside0 (w65.heap[gb168]? = some (.cells #[.string a0_0, .int .i64 a0_1, .int .i64 a0_2, .slice A0_3 l0_3.length c0_3, .slice (some ad177) l0_4.length c0_4] 32 (0, 0))) := ⟨(by rw [hw]; exact (by (with_reducible repeat (first | refine blk_drewN ?_ _ | refine blk_drew ?_ | refine blk_alloc ?_ _)); refine blk_far ?_ NB168_178.out _; (with_reducible repeat (first | refine blk_drewN ?_ _ | refine blk_drew ?_ | refine blk_alloc ?_ _)); refine blk_far ?_ NB168_178.out _; (with_reducible repeat (first | refine blk_drewN ?_ _ | refine blk_drew ?_ | refine blk_alloc ?_ _)); refine blk_far ?_ NB168_178.out _; (with_reducible repeat (first | refine blk_drewN ?_ _ | refine blk_drew ?_ | refine blk_alloc ?_ _)); refine blk_far ?_ NB168_178.out _; (with_reducible repeat (first | refine blk_drewN ?_ _ | refine blk_drew ?_ | refine blk_alloc ?_ _)); refine blk_far ?_ NB168_178.out _; (with_reducible repeat (first | refine blk_drewN ?_ _ | refine blk_drew ?_ | refine blk_alloc ?_ _)); exact BK168.out))⟩; have n4_ : Aside0 (w65.heap[gb169]? = some (.cells #[.string (⟨#[]⟩ : ByteArray), .int .i64 0, .int .i64 0, .slice none 0 0, .slice none 0 0] 32 (0, 0))) := ⟨(by rw [hw]; exact (by (with_reducible repeat (first | refine blk_drewN ?_ _ | refine blk_drew ?_ | refine blk_alloc ?_ _)); refine blk_far ?_ NB169_178.out _; (with_reducible repeat (first | refine blk_drewN ?_ _ | refine blk_drew ?_ | refine blk_alloc ?_ _)); refine blk_far ?_ NB169_178.out _; (with_reducible repeat (first | refine blk_drewN ?_ _ | refine blk_drew ?_ | refine blk_alloc ?_ _)); refine blk_far ?_ NB169_178.out _; (with_reducible repeat (first | refine blk_drewN ?_ _ | refine blk_drew ?_ | refine blk_alloc ?_ _)); refine blk_far ?_ NB169_178.out _; (with_reducible repeat (first | refine blk_drewN ?_ _ | refine blk_drew ?_ | refine blk_alloc ?_ _)); refine blk_far ?_ NB169_178.out _; (with_reducible repeat (first | refine blk_drewN ?_ _ | refine blk_drew ?_ | refine blk_alloc ?_ _)); exact BK169.out))⟩; have n5_ : Aside0 (w65.heap[gb178]? = some (.cells #[.int .i64 t181, .int .i64 t182, .int .i64 t183, .int .i64 t184, .int .i64 t185] 23 (0, 0))) := ⟨(by rw [hw]; exact (by (with_reducible repeat (first | refine blk_drewN ?_ _ | refine blk_drew ?_ | refine blk_alloc ?_ _)); refine blk_put (cs := #[.int .i64 t181, .int .i64 t182, .int .i64 t183, .int .i64 t184, .int .i64 ((rd_T23 l0_4 x6_1).f4)]) ?_ 4 _ rfl; (with_reducible repeat (first | refine blk_drewN ?_ _ | refine blk_drew ?_ | refine blk_alloc ?_ _)); refine blk_put (cs := #[.int .i64 t181, .int .i64 t182, .int .i64 t183, .int .i64 ((rd_T23 l0_4 x6_1).f3), .int .i64 ((rd_T23 l0_4 x6_1).f4)]) ?_ 3 _ rfl; (with_reducible repeat (first | refine blk_drewN ?_ _ | refine blk_drew ?_ | refine blk_alloc ?_ _)); refine blk_put (cs := #[.int .i64 t181, .int .i64 t182, .int .i64 ((rd_T23 l0_4 x6_1).f2), .int .i64 ((rd_T23 l0_4 x6_1).f3), .int .i64 ((rd_T23 l0_4 x6_1).f4)]) ?_ 2 _ rfl; (with_reducible repeat (first | refine blk_drewN ?_ _ | refine blk_drew ?_ | refine blk_alloc ?_ _)); refine blk_put (cs := #[.int .i64 t181, .int .i64 ((rd_T23 l0_4 x6_1).f1), .int .i64 ((rd_T23 l0_4 x6_1).f2), .int .i64 ((rd_T23 l0_4 x6_1).f3), .int .i64 ((rd_T23 l0_4 x6_1).f4)]) ?_ 1 _ rfl; (with_reducible repeat (first | refine blk_drewN ?_ _ | refine blk_drew ?_ | refine blk_alloc ?_ _)); refine blk_put (cs := #[.int .i64 ((rd_T23 l0_4 x6_1).f0), .int .i64 ((rd_T23 l0_4 x6_1).f1), .int .i64 ((rd_T23 l0_4 x6_1).f2), .int .i64 ((rd_T23 l0_4 x6_1).f3), .int .i64 ((rd_T23 l0_4 x6_1).f4)]) ?_ 0 _ rfl; (with_reducible repeat (first | refine blk_drewN ?_ _ | refine blk_drew ?_ | refine blk_alloc ?_ _)); exact BK178.out))⟩; have n6_ : Aside0 (w65.heap[gb187]? = some (.cells #[.int .i64 t181, .int .i64 t182, .int .i64 t183, .int .i64 t184, .int .i64 t185] 23 (0, 0))) := ⟨(by rw [hw]; exact (by (with_reducible repeat (first | refine blk_drewN ?_ _ | refine blk_drew ?_ | refine blk_alloc ?_ _)); refine blk_far ?_ NB187_178.out _; (with_reducible repeat (first | refine blk_drewN ?_ _ | refine blk_drew ?_ | refine blk_alloc ?_ _)); refine blk_far ?_ NB187_178.out _; (with_reducible repeat (first | refine blk_drewN ?_ _ | refine blk_drew ?_ | refine blk_alloc ?_ _)); refine blk_far ?_ NB187_178.out _; (with_reducible repeat (first | refine blk_drewN ?_ _ | refine blk_drew ?_ | refine blk_alloc ?_ _)); refine blk_far ?_ NB187_178.out _; (with_reducible repeat (first | refine blk_drewN ?_ _ | refine blk_drew ?_ | refine blk_alloc ?_ _)); refine blk_far ?_ NB187_178.out _; (with_reducible repeat (first | refine blk_drewN ?_ _ | refine blk_drew ?_ | refine blk_alloc ?_ _)); exact BK187.out))⟩; have n7_ : Aside0 (Below w.heap.size w w65) := ⟨(by rw [hw]; exact (by repeat (first | (with_reducible first | exact HB.out | apply below_alloc | apply pw_below_drewN | apply below_drew1 | refine below_set ?_ GE168.out | refine below_set ?_ GE169.out | refine below_set ?_ GE178.out | refine below_set ?_ GE187.out) | exact HB.out)))⟩; clear hw; clear HO_3; clear HO_4; clear HO_5; clear BK168; clear BK169; clear BK178; clear BK187; clear HB; have HO_3 := n0_; have HO_4 := n1_; have HO_5 := n2_; have BK168 := n3_; have BK169 := n4_; have BK178 := n5_; have BK187 := n6_; have HB := n7_; clear n0_ n1_ n2_ n3_ n4_ n5_ n6_ n7_; have p46 : 0 ≤ ((ji40) : Int) := of_decide_eq_true (by first | (with_reducible assumption) | assumption); have q46 : ((ji40) : Int) < ((y176.length : Int) : Int) := of_decide_eq_true (by first | (with_reducible assumption) | assumption); obtain ⟨hx46_0, hf46_0⟩ := Kd.R_celln 0 HO_4.out ((ji40) : Int) p46 q46; replace p46 := eq_true p46; replace q46 := eq_true q46; obtain ⟨hy66_, hz66_⟩ := Kd.R_celln 0 HO_4.out ((ji40) : Int) (of_decide_eq_true (by first | (with_reducible assumption) | assumption)) (of_decide_eq_true (by first | (with_reducible assumption) | assumption)); have HP66 := Kd.R_putg HO_4.out ((ji40) : Int) (x5_1.length : Int)) | ((with_reducible refine gate_store (t := 3) (p := 71) rfl ?_); refine store_event (t := 3) (p := 71) (v := ?vo_w67) (w1 := (w65.setCell ⟨go16, ((ji40) : Int).toNat, none⟩ (.int .i64 (x5_1.length : Int)))) ?hg ?ho ?hn ?hr ?_; (case ho => rfl); (case hg => rfl); (case hn => rfl); (case hr => first | (go_simp; done) | (go_simp; rfl)); intro w67 hw; have hg : w65.grownBy w67 (some go16) := (by rw [hw]; exact HP66.2); have hp_ : Kd.R (Kd.int .i64) 3 w67 w.heap.size (fun k_ => (w.heap.size ≤ k_)) (.slice (some ⟨go16, 0, none⟩) y176.length co16) y188 := (by rw [hw, Ny188.out]; exact HP66.1); clear HP66; have n0_ := Aside0.mk (Kd.R_over' (v := (.slice (some ⟨go16, 0, none⟩) y176.length co16)) (by (with_reducible repeat (first | apply Kd.R_alloc | apply Kd.R_drewN | apply Kd.R_drew)); exact HO_3.out) (Kd.R_typed HO_4.out) (by decide) hg); have n1_ := Aside0.mk (hp_); have n2_ := Aside0.mk (Kd.R_over' (v := (.slice (some ⟨go16, 0, none⟩) y176.length co16)) (by (with_reducible repeat (first | apply Kd.R_alloc | apply Kd.R_drewN | apply Kd.R_drew)); exact HO_5.out) (Kd.R_typed HO_4.out) (by decide) hg); have n3_ := Aside0.mk (blk_grown (g := gb168) (o := .cells #[.string a0_0, .int .i64 a0_1, .int .i64 a0_2, .slice A0_3 l0_3.length c0_3, .slice (some ad177) l0_4.length c0_4] 32 (0, 0)) (by (with_reducible repeat (first | refine blk_drewN ?_ _ | refine blk_drew ?_ | refine blk_alloc ?_ _)); exact BK168.out) hg (Kd.R_ne HO_4.out BK168.out (by decide))); have n4_ := Aside0.mk (blk_grown (g := gb169) (o := .cells #[.string (⟨#[]⟩ : ByteArray), .int .i64 0, .int .i64 0, .slice none 0 0, .slice none 0 0] 32 (0, 0)) (by (with_reducible repeat (first | refine blk_drewN ?_ _ | refine blk_drew ?_ | refine blk_alloc ?_ _)); exact BK169.out) hg (Kd.R_ne HO_4.out BK169.out (by decide))); have n5_ := Aside0.mk (blk_grown (g := gb178) (o := .cells #[.int .i64 t181, .int .i64 t182, .int .i64 t183, .int .i64 t184, .int .i64 t185] 23 (0, 0)) (by (with_reducible repeat (first | refine blk_drewN ?_ _ | refine blk_drew ?_ | refine blk_alloc ?_ _)); exact BK178.out) hg (Kd.R_ne HO_4.out BK178.out (by decide))); have n6_ := Aside0.mk (blk_grown (g := gb187) (o := .cells #[.int .i64 t181, .int .i64 t182, .int .i64 t183, .int .i64 t184, .int .i64 t185] 23 (0, 0)) (by (with_reducible repeat (first | refine blk_drewN ?_ _ | refine blk_drew ?_ | refine blk_alloc ?_ _)); exact BK187.out) hg (Kd.R_ne HO_4.out BK187.out (by decide))); have n7_ := Aside0.mk ((by rw [hw]; exact below_set (HB.out) GB16.out : Below w.heap.size w w67)); clear HO_3; clear HO_4; clear HO_5; clear BK168; clear BK169; clear BK178; clear BK187; clear HB; have HO_3 := n0_; have HO_4 := n1_; have HO_5 := n2_; have BK168 := n3_; have BK169 := n4_; have BK178 := n5_; have BK187 := n6_; have HB := n7_; clear n0_ n1_ n2_ n3_ n4_ n5_ n6_ n7_; clear hg hw hp_; have hcz68_0 : w67.cell? ⟨gb178, 0, none⟩ = some (.int .i64 t181) := (blk_cell BK178.out 0).trans rfl; have hcz68_1 : w67.cell? ⟨gb178, 1, none⟩ = some (.int .i64 t182) := (blk_cell BK178.out 1).trans rfl; have hcz68_2 : w67.cell? ⟨gb178, 2, none⟩ = some (.int .i64 t183) := (blk_cell BK178.out 2).trans rfl; have hcz68_3 : w67.cell? ⟨gb178, 3, none⟩ = some (.int .i64 t184) := (blk_cell BK178.out 3).trans rfl; have hcz68_4 : w67.cell? ⟨gb178, 4, none⟩ = some (.int .i64 t185) := (blk_cell BK178.out 4).trans rfl; have hfz68_0 := blk_frozen BK178.out 0; have hfz68_1 := blk_frozen BK178.out 1; have hfz68_2 := blk_frozen BK178.out 2; have hfz68_3 := blk_frozen BK178.out 3; have hfz68_4 := blk_frozen BK178.out 4) | ((with_reducible refine gate_builtin (b := .append) (xs := #[.tmp 72, .tmp 74]) rfl ?_); (try (refine gate_guard (by rfl) ?_; dsimp only)); at_builtin; refine Kd.R_append k23 (w0 := w) w.heap.size rfl (.tmp 72) (.tmp 74) 30 23 (.agg #[(.int .i64 0), (.int .i64 0), (.int .i64 0), (.int .i64 0), (.int .i64 0)]) 40 rfl Try.underlying30 info23 rfl (by decide) (by omega) (.slice Ao20 x5_1.length co20) x5_1 (⟨t181, t182, t183, t184, t185⟩ : S23) [.int .i64 t181, .int .i64 t182, .int .i64 t183, .int .i64 t184, .int .i64 t185] (fun k_ => (w.heap.size ≤ k_) ∧ k_ ≠ gb178 ∧ k_ ≠ gb187) (fun _ => False) rfl rfl ?aP (fun _ hk => hk.elim) ?aF ?aO ?aB ?aS ?aL ?_; (case aP => exact k23_mkM _ _ _ (⟨t181, t182, t183, t184, t185⟩ : S23)); (case aB => exact (by repeat (first | (with_reducible first | exact HB.out | apply below_alloc | apply pw_below_drewN | apply below_drew1 | refine below_set ?_ GE168.out | refine below_set ?_ GE169.out | refine below_set ?_ GE178.out | refine below_set ?_ GE187.out) | exact HB.out))); (case aF => exact (fun k_ hk => ⟨(Nat.le_trans (below_size (by repeat (first | (with_reducible first | exact HB.out | apply below_alloc | apply pw_below_drewN | apply below_drew1 | refine below_set ?_ GE168.out | refine below_set ?_ GE169.out | refine below_set ?_ GE178.out | refine below_set ?_ GE187.out) | exact HB.out))) hk), Kd.freshB (g := gb178) (o := .cells #[.int .i64 t181, .int .i64 t182, .int .i64 t183, .int .i64 t184, .int .i64 t185] 23 (0, 0)) (by (with_reducible repeat (first | refine blk_drewN ?_ _ | refine blk_drew ?_ | refine blk_alloc ?_ _)); exact BK178.out) k_ hk, Kd.freshB (g := gb187) (o := .cells #[.int .i64 t181, .int .i64 t182, .int .i64 t183, .int .i64 t184, .int .i64 t185] 23 (0, 0)) (by (with_reducible repeat (first | refine blk_drewN ?_ _ | refine blk_drew ?_ | refine blk_alloc ?_ _)); exact BK187.out) k_ hk⟩)); (case aO => exact (by (with_reducible repeat (first | apply Kd.R_alloc | apply Kd.R_drewN | apply Kd.R_drew)); exact HO_5.out)); (case aS => exact (below_size (by repeat (first | (with_reducible first | exact HB.out | apply below_alloc | apply pw_below_drewN | apply below_drew1 | refine below_set ?_ GE168.out | refine below_set ?_ GE169.out | refine below_set ?_ GE178.out | refine below_set ?_ GE187.out) | exact HB.out)))); (case aL => have := LMc47.out; omega); intro v190 w69 ho hb hg hat; rw [← Ny189.out] at ho; have n0_ := Aside0.mk (Kd.R_over' (by (with_reducible repeat (first | apply Kd.R_alloc | apply Kd.R_drewN | apply Kd.R_drew)); exact HO_3.out) (Kd.R_typed (by (with_reducible repeat (first | apply Kd.R_alloc | apply Kd.R_drewN | apply Kd.R_drew)); exact HO_5.out)) (by decide) hg); have n1_ := Aside0.mk (Kd.R_over' (by (with_reducible repeat (first | apply Kd.R_alloc | apply Kd.R_drewN | apply Kd.R_drew)); exact HO_4.out) (Kd.R_typed (by (with_reducible repeat (first | apply Kd.R_alloc | apply Kd.R_drewN | apply Kd.R_drew)); exact HO_5.out)) (by decide) hg); have n2_ := Aside0.mk (blk_grown (g := gb168) (o := .cells #[.string a0_0, .int .i64 a0_1, .int .i64 a0_2, .slice A0_3 l0_3.length c0_3, .slice (some ad177) l0_4.length c0_4] 32 (0, 0)) (by (with_reducible repeat (first | refine blk_drewN ?_ _ | refine blk_drew ?_ | refine blk_alloc ?_ _)); exact BK168.out) hg (Kd.R_ne HO_5.out BK168.out (by decide))); have n3_ := Aside0.mk (blk_grown (g := gb169) (o := .cells #[.string (⟨#[]⟩ : ByteArray), .int .i64 0, .int .i64 0, .slice none 0 0, .slice none 0 0] 32 (0, 0)) (by (with_reducible repeat (first | refine blk_drewN ?_ _ | refine blk_drew ?_ | refine blk_alloc ?_ _)); exact BK169.out) hg (Kd.R_ne HO_5.out BK169.out (by decide))); have n4_ := Aside0.mk (blk_grown (g := gb178) (o := .cells #[.int .i64 t181, .int .i64 t182, .int .i64 t183, .int .i64 t184, .int .i64 t185] 23 (0, 0)) (by (with_reducible repeat (first | refine blk_drewN ?_ _ | refine blk_drew ?_ | refine blk_alloc ?_ _)); exact BK178.out) hg (Kd.R_away HO_5.out (fun _ hk => hk.2.1))); have n5_ := Aside0.mk (blk_grown (g := gb187) (o := .cells #[.int .i64 t181, .int .i64 t182, .int .i64 t183, .int .i64 t184, .int .i64 t185] 23 (0, 0)) (by (with_reducible repeat (first | refine blk_drewN ?_ _ | refine blk_drew ?_ | refine blk_alloc ?_ _)); exact BK187.out) hg (Kd.R_away HO_5.out (fun _ hk => hk.2.2))); have n6_ := Aside0.mk (hb); have n7_ := Aside0.mk (ho); clear HO_3; clear HO_4; clear BK168; clear BK169; clear BK178; clear BK187; clear HB; clear HO_5; have HO_3 := n0_; have HO_4 := n1_; have BK168 := n2_; have BK169 := n3_; have BK178 := n4_; have BK187 := n5_; have HB := n6_; have HO191 := n7_; clear n0_ n1_ n2_ n3_ n4_ n5_ n6_ n7_; clear ho hb hg hat))
                                (try simp only [← hl4_16])
                                go_roundg kj16
                                case measure => have := HK1.out; have := HJ16.out; omega
                                case rel => exact ⟨(y188), (y189), (wrap64 ((ji40) + 1)), (by first | rfl | (simp; done) | (simp only [← hji40] <;> (first | rfl | simp)) | (simp [*]; done)), H', ⟨by have := HK1.out; have := HJ16.out; omega⟩, ⟨by (try simp only [hl4_16]); (with_reducible repeat (first | apply Kd.R_alloc | apply Kd.R_drewN | apply Kd.R_drew)); exact HO_3.out⟩, ⟨by (try simp only [hl4_16]); (with_reducible repeat (first | apply Kd.R_alloc | apply Kd.R_drewN | apply Kd.R_drew)); exact HO_4.out⟩, ⟨by (try simp only [hl4_16]); (with_reducible repeat (first | apply Kd.R_alloc | apply Kd.R_drewN | apply Kd.R_drew)); exact Kd.R_mono HO191.out (fun _ hk => hk.1)⟩, ⟨by (try simp only [hl4_16]); (with_reducible repeat (first | refine blk_drewN ?_ _ | refine blk_drew ?_ | refine blk_alloc ?_ _)); exact BK168.out⟩, ⟨by (try simp only [hl4_16]); (with_reducible repeat (first | refine blk_drewN ?_ _ | refine blk_drew ?_ | refine blk_alloc ?_ _)); exact BK169.out⟩, ⟨by repeat (first | (with_reducible first | exact HB.out | apply below_alloc | apply pw_below_drewN | apply below_drew1 | refine below_set ?_ GE168.out | refine below_set ?_ GE169.out | refine below_set ?_ GE178.out | refine below_set ?_ GE187.out) | exact HB.out)⟩⟩
                              · rw [if_neg c47] at H
                                exact absurd H (by simp)
                            · rw [if_neg c45] at H
                              exact absurd H (by simp)
                          · replace c44 := Bool.eq_false_iff.mpr c44
                            subst c44
                            exact absurd (show Option.none = some _ from H) (by simp)
                        · rw [if_neg c42] at H
                          exact absurd H (by simp)
                      · rw [if_neg c41] at H
                        exact absurd H (by simp)
                    · replace c39 := Bool.eq_false_iff.mpr c39
                      subst c39
                      exact absurd (show Option.none = some _ from H) (by simp)
              · rw [if_neg c15] at H
                exact absurd H (by simp)
            · rw [if_neg c14] at H
              exact absurd H (by simp)
          · rw [if_neg c13] at H
            have c13b0 : decide (x6_1 < (l0_4.length : Int)) = false := decide_eq_false c13
            clear c13
            have H' := Aside0.mk H
            clear H
            have hnb90 := NB168_169.out
            have hnc90 := NB169_168.out
            have hcz91_0 : wr.cell? ⟨gb168, 0, none⟩ = some (.string a0_0) := (blk_cell BK168.out 0).trans rfl
            have hcz91_1 : wr.cell? ⟨gb168, 1, none⟩ = some (.int .i64 a0_1) := (blk_cell BK168.out 1).trans rfl
            have hcz91_2 : wr.cell? ⟨gb168, 2, none⟩ = some (.int .i64 a0_2) := (blk_cell BK168.out 2).trans rfl
            have hcz91_3 : wr.cell? ⟨gb168, 3, none⟩ = some (.slice A0_3 l0_3.length c0_3) := (blk_cell BK168.out 3).trans rfl
            have hcz91_4 : wr.cell? ⟨gb168, 4, none⟩ = some (.slice A0_4 l0_4.length c0_4) := (blk_cell BK168.out 4).trans rfl
            have hfz91_0 := blk_frozen BK168.out 0
            have hfz91_1 := blk_frozen BK168.out 1
            have hfz91_2 := blk_frozen BK168.out 2
            have hfz91_3 := blk_frozen BK168.out 3
            have hfz91_4 := blk_frozen BK168.out 4
            obtain ⟨Ao92, co92, eo92⟩ := Kd.R_slice HO_5.out
            subst eo92
            go_wp2
            go_loopg [78] k1 (fun kq v78 w' => ∃ (x5_2 : List (S23)) (x78_2 : Int), v78 = .int .i64 x78_2 ∧ Aside0 (fuse_Run.l1 kq x4_1 x5_2 (x5_1.length : Int) x78_2 a0_0 a0_1 a0_2 l0_3 l0_4 = some (r1, r2, r3, r4, r5)) ∧ Aside0 (kq ≤ k1) ∧ Aside0 (Kd.R (Kd.int .i64) 3 w' w.heap.size (fun k_ => (w.heap.size ≤ k_)) v174 x4_1) ∧ Aside0 (Kd.R k23 23 w' w.heap.size (fun k_ => (w.heap.size ≤ k_)) (.slice Ao92 x5_1.length co92) x5_2) ∧ Aside0 (w'.heap[gb168]? = some (.cells #[.string a0_0, .int .i64 a0_1, .int .i64 a0_2, (.slice A0_3 l0_3.length c0_3), (.slice A0_4 l0_4.length c0_4)] 32 (0, 0))) ∧ Aside0 (w'.heap[gb169]? = some (.cells #[.string (⟨#[]⟩ : ByteArray), .int .i64 0, .int .i64 0, (.slice none 0 0), (.slice none 0 0)] 32 (0, 0))) ∧ Aside0 (Below w.heap.size w w'))
            case atStart => exact ⟨(x5_1), (0), (by first | rfl | (simp; done) | (simp [*]; done)), H', ⟨Nat.le_refl _⟩, ⟨by (with_reducible repeat (first | apply Kd.R_alloc | apply Kd.R_drewN | apply Kd.R_drew)); exact HO_4.out⟩, ⟨by (with_reducible repeat (first | apply Kd.R_alloc | apply Kd.R_drewN | apply Kd.R_drew)); exact HO_5.out⟩, ⟨by (with_reducible repeat (first | refine blk_drewN ?_ _ | refine blk_drew ?_ | refine blk_alloc ?_ _)); exact BK168.out⟩, ⟨by (with_reducible repeat (first | refine blk_drewN ?_ _ | refine blk_drew ?_ | refine blk_alloc ?_ _)); exact BK169.out⟩, ⟨by repeat (first | (with_reducible first | exact HB.out | apply below_alloc | apply pw_below_drewN | apply below_drew1 | refine below_set ?_ GE168.out | refine below_set ?_ GE169.out) | exact HB.out)⟩⟩
            case round =>
              clear H'
              try clear c1
              try clear p1
              try clear q1
              try clear hx1
              try clear p2
              try clear c3
              try clear c4
              try clear p4
              try clear q4
              try clear hx4
              try clear hf4
              try clear c5
              try clear c6
              try clear p6
              try clear c7
              try clear c8
              try clear c9
              try clear c13
              try clear c13b0
              try clear c14
              try clear c15
              try clear p18
              try clear q18
              try clear hx18
              try clear c39
              try clear c41
              try clear c42
              try clear c44
              try clear c45
              try clear p46
              try clear q46
              try clear hx46
              try clear hf46
              try clear c47
              try clear c58
              try clear c59
              try clear c60
              try clear c62
              try clear c63
              try clear p64
              try clear c70
              try clear c80
              try clear c81
              try clear c82
              try clear c85
              try clear c86
              try clear c87
              try clear c90
              try clear hcz61_0
              try clear hcz61_1
              try clear hcz61_2
              try clear hcz61_3
              try clear hcz61_4
              try clear hcz64_0
              try clear hcz64_1
              try clear hcz64_2
              try clear hcz64_3
              try clear hcz64_4
              try clear hcz68_0
              try clear hcz68_1
              try clear hcz68_2
              try clear hcz68_3
              try clear hcz68_4
              try clear hcz83_0
              try clear hcz83_1
              try clear hcz83_2
              try clear hcz83_3
              try clear hcz83_4
              try clear hcz88_0
              try clear hcz88_1
              try clear hcz88_2
              try clear hcz88_3
              try clear hcz88_4
              try clear hcz91_0
              try clear hcz91_1
              try clear hcz91_2
              try clear hcz91_3
              try clear hcz91_4
              try clear hfz61_0
              try clear hfz61_1
              try clear hfz61_2
              try clear hfz61_3
              try clear hfz61_4
              try clear hfz64_0
              try clear hfz64_1
              try clear hfz64_2
              try clear hfz64_3
              try clear hfz64_4
              try clear hfz68_0
              try clear hfz68_1
              try clear hfz68_2
              try clear hfz68_3
              try clear hfz68_4
              try clear hfz83_0
              try clear hfz83_1
              try clear hfz83_2
              try clear hfz83_3
              try clear hfz83_4
              try clear hfz88_0
              try clear hfz88_1
              try clear hfz88_2
              try clear hfz88_3
              try clear hfz88_4
              try clear hfz91_0
              try clear hfz91_1
              try clear hfz91_2
              try clear hfz91_3
              try clear hfz91_4
              try clear hx180_0
              try clear hx180_1
              try clear hx180_2
              try clear hx180_3
              try clear hx180_4
              try clear hx46_0
              try clear p180
              try clear p46
              try clear q180
              try clear q46
              obtain ⟨x5_2, x78_2, rfl, HA, HK2, HO_4, HO_5, BK168, BK169, HB⟩ := hrel
              have hl5_2 := (Kd.R_reads' HO_5.out).1
              rw [hl5_2] at HO_5
              (try simp only [hl5_2])
              (try simp only [hl5_2] at BK168)
              (try simp only [hl5_2] at BK169)
              (try simp only [hl5_2] at HO_4)
              cases gk with
              | zero => exact absurd HA.out (by simp [fuse_Run.l1])
              | succ k2 =>
                have H := HA.out
                clear HA
                simp only [fuse_Run.l1] at H
                by_cases c93 : x78_2 < (x5_1.length : Int)
                · rw [if_pos c93] at H
                  have c93b0 : decide (x78_2 < (x5_1.length : Int)) = true := decide_eq_true c93
                  have c93b9 := c93b0
                  rw [hl5_2] at c93b9
                  clear c93
                  by_cases c94 : 0 ≤ x78_2
                  · rw [if_pos c94] at H
                    have c94b0 : decide (0 ≤ x78_2) = true := decide_eq_true c94
                    clear c94
                    by_cases c95 : x78_2 < (x5_2.length : Int)
                    · rw [if_pos c95] at H
                      have c95b0 : decide (x78_2 < (x5_2.length : Int)) = true := decide_eq_true c95
                      clear c95
                      replace H := Option.bind_eq_some_iff.mp H
                      obtain ⟨⟨t209, t210⟩, A960, H⟩ := H
                      replace H : (if t210 = true then (none) else (fuse_Run.j3 k2 x4_1 x5_2 x78_2 t209 (x5_1.length : Int) x78_2 true a0_0 a0_1 a0_2 l0_3 l0_4 ((rd_T23 x5_2 x78_2).f0) ((rd_T23 x5_2 x78_2).f1) ((rd_T23 x5_2 x78_2).f2) ((rd_T23 x5_2 x78_2).f3) ((rd_T23 x5_2 x78_2).f4))) = some (r1, r2, r3, r4, r5) := H
                      have A96 := Aside0.mk A960
                      clear A960
                      have HC97 := Aside0.mk H
                      clear H
                      have p207 : 0 ≤ (x78_2 : Int) := of_decide_eq_true (by first | (with_reducible assumption) | assumption)
                      have q207 : x78_2 < (x5_2.length : Int) := of_decide_eq_true (by first | (with_reducible assumption) | assumption)
                      obtain ⟨ad207, e207, hx207_0, hx207_1, hx207_2, hx207_3, hx207_4⟩ := at_T23 (Kd.R_reads' HO_5.out).2.2 x78_2 p207 q207
                      cases e207
                      replace p207 := eq_true p207
                      replace q207 := eq_true q207
                      go_upto_region 20 with (first | ((with_reducible refine gate_dst (N := 11) rfl ?_); (try (refine gate_guard (by rfl) ?_; dsimp only)); refine box_event ?hg (N := 11) ?hd (cs := #[.int .i64 0, .int .i64 0, .int .i64 0, .int .i64 0, .int .i64 0]) (t := 23) ?hr ?_; (case hd => rfl); (case hg => rfl); (case hr => first | (go_simp; done) | (go_simp; rfl)); intro gb208 hg w98 hbox hb; have n0_ := Aside0.mk (Kd.R_below (by (with_reducible repeat (first | apply Kd.R_alloc | apply Kd.R_drewN | apply Kd.R_drew)); exact HO_4.out) hb); have n1_ := Aside0.mk (Kd.R_below (Kd.R_elderB (by (with_reducible repeat (first | apply Kd.R_alloc | apply Kd.R_drewN | apply Kd.R_drew)); exact HO_5.out) gb208 (Nat.le_of_eq hg.symm)) hb); have n2_ := Aside0.mk (blk_below (g := gb168) (o := .cells #[.string a0_0, .int .i64 a0_1, .int .i64 a0_2, .slice A0_3 l0_3.length c0_3, .slice A0_4 l0_4.length c0_4] 32 (0, 0)) (by (with_reducible repeat (first | refine blk_drewN ?_ _ | refine blk_drew ?_ | refine blk_alloc ?_ _)); exact BK168.out) hb); have n3_ := Aside0.mk (blk_below (g := gb169) (o := .cells #[.string (⟨#[]⟩ : ByteArray), .int .i64 0, .int .i64 0, .slice none 0 0, .slice none 0 0] 32 (0, 0)) (by (with_reducible repeat (first | refine blk_drewN ?_ _ | refine blk_drew ?_ | refine blk_alloc ?_ _)); exact BK169.out) hb); have n4_ := Aside0.mk (below_step (by repeat (first | (with_reducible first | exact HB.out | apply below_alloc | apply pw_below_drewN | apply below_drew1 | refine below_set ?_ GE168.out | refine below_set ?_ GE169.out) | exact HB.out)) hb); have n5_ := Aside0.mk (hbox); have n6_ := Aside0.mk ((by rw [hg]; exact (below_size (by repeat (first | (with_reducible first | exact HB.out | apply below_alloc | apply pw_below_drewN | apply below_drew1 | refine below_set ?_ GE168.out | refine below_set ?_ GE169.out) | exact HB.out))) : w.heap.size ≤ gb208)); have n7_ := Aside0.mk ((by rw [hg]; exact (below_size (by repeat (first | (with_reducible first | exact HB.out | apply below_alloc | apply pw_below_drewN | apply below_drew1 | refine below_set ?_ GE168.out | refine below_set ?_ GE169.out) | exact HB.out))) : w.heap.size ≤ gb208)); have n8_ := Aside0.mk ((by rw [hg]; exact Nat.ne_of_lt (blk_lt (g := gb168) (o := .cells #[.string a0_0, .int .i64 a0_1, .int .i64 a0_2, .slice A0_3 l0_3.length c0_3, .slice A0_4 l0_4.length c0_4] 32 (0, 0)) (by (with_reducible repeat (first | refine blk_drewN ?_ _ | refine blk_drew ?_ | refine blk_alloc ?_ _)); exact BK168.out)) : gb168 ≠ gb208)); have n9_ := Aside0.mk ((by rw [hg]; exact Nat.ne_of_gt (blk_lt (g := gb168) (o := .cells #[.string a0_0, .int .i64 a0_1, .int .i64 a0_2, .slice A0_3 l0_3.length c0_3, .slice A0_4 l0_4.length c0_4] 32 (0, 0)) (by (with_reducible repeat (first | refine blk_drewN ?_ _ | refine blk_drew ?_ | refine blk_alloc ?_ _)); exact BK168.out)) : gb208 ≠ gb168)); have n10_ := Aside0.mk ((by rw [hg]; exact Nat.ne_of_lt (blk_lt (g := gb169) (o := .cells #[.string (⟨#[]⟩ : ByteArray), .int .i64 0, .int .i64 0, .slice none 0 0, .slice none 0 0] 32 (0, 0)) (by (with_reducible repeat (first | refine blk_drewN ?_ _ | refine blk_drew ?_ | refine blk_alloc ?_ _)); exact BK169.out)) : gb169 ≠ gb208)); have n11_ := Aside0.mk ((by rw [hg]; exact Nat.ne_of_gt (blk_lt (g := gb169) (o := .cells #[.string (⟨#[]⟩ : ByteArray), .int .i64 0, .int .i64 0, .slice none 0 0, .slice none 0 0] 32 (0, 0)) (by (with_reducible repeat (first | refine blk_drewN ?_ _ | refine blk_drew ?_ | refine blk_alloc ?_ _)); exact BK169.out)) : gb208 ≠ gb169)); clear HO_4; clear HO_5; clear BK168; clear BK169; clear HB; have HO_4 := n0_; have HO_5 := n1_; have BK168 := n2_; have BK169 := n3_; have HB := n4_; have BK208 := n5_; have GW208 := n6_; have GE208 := n7_; have NB168_208 := n8_; have NB208_168 := n9_; have NB169_208 := n10_; have NB208_169 := n11_; clear n0_ n1_ n2_ n3_ n4_ n5_ n6_ n7_ n8_ n9_ n10_ n11_; clear hb hbox hg; have hnb99 := NB208_168.out; have hnc99 := NB168_208.out; have hnb100 := NB208_169.out; have hnc100 := NB169_208.out; have hcz101_0 : w98.cell? ⟨gb208, 0, none⟩ = some (.int .i64 0) := (blk_cell BK208.out 0).trans rfl; have hcz101_1 : w98.cell? ⟨gb208, 1, none⟩ = some (.int .i64 0) := (blk_cell BK208.out 1).trans rfl; have hcz101_2 : w98.cell? ⟨gb208, 2, none⟩ = some (.int .i64 0) := (blk_cell BK208.out 2).trans rfl; have hcz101_3 : w98.cell? ⟨gb208, 3, none⟩ = some (.int .i64 0) := (blk_cell BK208.out 3).trans rfl; have hcz101_4 : w98.cell? ⟨gb208, 4, none⟩ = some (.int .i64 0) := (blk_cell BK208.out 4).trans rfl; have hfz101_0 := blk_frozen BK208.out 0; have hfz101_1 := blk_frozen BK208.out 1; have hfz101_2 := blk_frozen BK208.out 2; have hfz101_3 := blk_frozen BK208.out 3; have hfz101_4 := blk_frozen BK208.out 4) | ((with_reducible refine gate_callee (f := 11) rfl ?_); refine goesL_ (some 85) rfl rfl Try.func11 (by kernel_rfl) rfl #[.agg #[.int .i64 ((rd_T23 x5_2 x78_2).f0), .int .i64 ((rd_T23 x5_2 x78_2).f1), .int .i64 ((rd_T23 x5_2 x78_2).f2), .int .i64 ((rd_T23 x5_2 x78_2).f3), .int .i64 ((rd_T23 x5_2 x78_2).f4)]] rfl (by (try simp only [List.map_toArray, List.map_cons, List.map_nil]); first | done | rfl | (simp only [List.length_drop, List.length_take]; rfl)) ?_; (with_reducible refine (mach_Jump.calls ((rd_T23 x5_2 x78_2).f0) ((rd_T23 x5_2 x78_2).f1) ((rd_T23 x5_2 x78_2).f2) ((rd_T23 x5_2 x78_2).f3) ((rd_T23 x5_2 x78_2).f4) t209 t210 _ A96.out).mono ?_); rintro e w102 ⟨rfl, hb⟩; refine ⟨_, rfl, ?_⟩; have n0_ := Aside0.mk (Kd.R_below (by (with_reducible repeat (first | apply Kd.R_alloc | apply Kd.R_drewN | apply Kd.R_drew)); exact (Kd.R_mono (Kd.R_far (p := ⟨gb208, 4, none⟩) (Kd.R_far (p := ⟨gb208, 3, none⟩) (Kd.R_far (p := ⟨gb208, 2, none⟩) (Kd.R_far (p := ⟨gb208, 1, none⟩) (Kd.R_far (p := ⟨gb208, 0, none⟩) (Kd.R_types HO_4.out BK208.out (by decide)) (fun _ hk => hk.2) (.int .i64 ((rd_T23 x5_2 x78_2).f0))) (fun _ hk => hk.2) (.int .i64 ((rd_T23 x5_2 x78_2).f1))) (fun _ hk => hk.2) (.int .i64 ((rd_T23 x5_2 x78_2).f2))) (fun _ hk => hk.2) (.int .i64 ((rd_T23 x5_2 x78_2).f3))) (fun _ hk => hk.2) (.int .i64 ((rd_T23 x5_2 x78_2).f4))) (fun _ h_ => h_.1))) hb); have n1_ := Aside0.mk (Kd.R_below (by (with_reducible repeat (first | apply Kd.R_alloc | apply Kd.R_drewN | apply Kd.R_drew)); exact (Kd.R_mono (Kd.R_far (p := ⟨gb208, 4, none⟩) (Kd.R_far (p := ⟨gb208, 3, none⟩) (Kd.R_far (p := ⟨gb208, 2, none⟩) (Kd.R_far (p := ⟨gb208, 1, none⟩) (Kd.R_far (p := ⟨gb208, 0, none⟩) (Kd.R_mono HO_5.out (fun k_ hk => (⟨hk, hk.2⟩ : _ ∧ k_ ≠ gb208))) (fun _ hk => hk.2) (.int .i64 ((rd_T23 x5_2 x78_2).f0))) (fun _ hk => hk.2) (.int .i64 ((rd_T23 x5_2 x78_2).f1))) (fun _ hk => hk.2) (.int .i64 ((rd_T23 x5_2 x78_2).f2))) (fun _ hk => hk.2) (.int .i64 ((rd_T23 x5_2 x78_2).f3))) (fun _ hk => hk.2) (.int .i64 ((rd_T23 x5_2 x78_2).f4))) (fun _ h_ => h_.1))) hb); have n2_ := Aside0.mk (blk_below (g := gb168) (o := .cells #[.string a0_0, .int .i64 a0_1, .int .i64 a0_2, .slice A0_3 l0_3.length c0_3, .slice A0_4 l0_4.length c0_4] 32 (0, 0)) (by (with_reducible repeat (first | refine blk_drewN ?_ _ | refine blk_drew ?_ | refine blk_alloc ?_ _)); refine blk_far ?_ NB168_208.out _; (with_reducible repeat (first | refine blk_drewN ?_ _ | refine blk_drew ?_ | refine blk_alloc ?_ _)); refine blk_far ?_ NB168_208.out _; (with_reducible repeat (first | refine blk_drewN ?_ _ | refine blk_drew ?_ | refine blk_alloc ?_ _)); refine blk_far ?_ NB168_208.out _; (with_reducible repeat (first | refine blk_drewN ?_ _ | refine blk_drew ?_ | refine blk_alloc ?_ _)); refine blk_far ?_ NB168_208.out _; (with_reducible repeat (first | refine blk_drewN ?_ _ | refine blk_drew ?_ | refine blk_alloc ?_ _)); refine blk_far ?_ NB168_208.out _; (with_reducible repeat (first | refine blk_drewN ?_ _ | refine blk_drew ?_ | refine blk_alloc ?_ _)); exact BK168.out) hb); have n3_ := Aside0.mk (blk_below (g := gb169) (o := .cells #[.string (⟨#[]⟩ : ByteArray), .int .i64 0, .int .i64 0, .slice none 0 0, .slice none 0 0] 32 (0, 0)) (by (with_reducible repeat (first | refine blk_drewN ?_ _ | refine blk_drew ?_ | refine blk_alloc ?_ _)); refine blk_far ?_ NB169_208.out _; (with_reducible repeat (first | refine blk_drewN ?_ _ | refine blk_drew ?_ | refine blk_alloc ?_ _)); refine blk_far ?_ NB169_208.out _; (with_reducible repeat (first | refine blk_drewN ?_ _ | refine blk_drew ?_ | refine blk_alloc ?_ _)); refine blk_far ?_ NB169_208.out _; (with_reducible repeat (first | refine blk_drewN ?_ _ | refine blk_drew ?_ | refine blk_alloc ?_ _)); refine blk_far ?_ NB169_208.out _; (with_reducible repeat (first | refine blk_drewN ?_ _ | refine blk_drew ?_ | refine blk_alloc ?_ _)); refine blk_far ?_ NB169_208.out _; (with_reducible repeat (first | refine blk_drewN ?_ _ | refine blk_drew ?_ | refine blk_alloc ?_ _)); exact BK169.out) hb); have n4_ := Aside0.mk (blk_below (g := gb208) (o := .cells #[.int .i64 ((rd_T23 x5_2 x78_2).f0), .int .i64 ((rd_T23 x5_2 x78_2).f1), .int .i64 ((rd_T23 x5_2 x78_2).f2), .int .i64 ((rd_T23 x5_2 x78_2).f3), .int .i64 ((rd_T23 x5_2 x78_2).f4)] 23 (0, 0)) (by (with_reducible repeat (first | refine blk_drewN ?_ _ | refine blk_drew ?_ | refine blk_alloc ?_ _)); refine blk_put (cs := #[.int .i64 ((rd_T23 x5_2 x78_2).f0), .int .i64 ((rd_T23 x5_2 x78_2).f1), .int .i64 ((rd_T23 x5_2 x78_2).f2), .int .i64 ((rd_T23 x5_2 x78_2).f3), .int .i64 0]) ?_ 4 _ rfl; (with_reducible repeat (first | refine blk_drewN ?_ _ | refine blk_drew ?_ | refine blk_alloc ?_ _)); refine blk_put (cs := #[.int .i64 ((rd_T23 x5_2 x78_2).f0), .int .i64 ((rd_T23 x5_2 x78_2).f1), .int .i64 ((rd_T23 x5_2 x78_2).f2), .int .i64 0, .int .i64 0]) ?_ 3 _ rfl; (with_reducible repeat (first | refine blk_drewN ?_ _ | refine blk_drew ?_ | refine blk_alloc ?_ _)); refine blk_put (cs := #[.int .i64 ((rd_T23 x5_2 x78_2).f0), .int .i64 ((rd_T23 x5_2 x78_2).f1), .int .i64 0, .int .i64 0, .int .i64 0]) ?_ 2 _ rfl; (with_reducible repeat (first | refine blk_drewN ?_ _ | refine blk_drew ?_ | refine blk_alloc ?_ _)); refine blk_put (cs := #[.int .i64 ((rd_T23 x5_2 x78_2).f0), .int .i64 0, .int .i64 0, .int .i64 0, .int .i64 0]) ?_ 1 _ rfl; (with_reducible repeat (first | refine blk_drewN ?_ _ | refine blk_drew ?_ | refine blk_alloc ?_ _)); refine blk_put (cs := #[.int .i64 0, .int .i64 0, .int .i64 0, .int .i64 0, .int .i64 0]) ?_ 0 _ rfl; (with_reducible repeat (first | refine blk_drewN ?_ _ | refine blk_drew ?_ | refine blk_alloc ?_ _)); exact BK208.out) hb); have n5_ := Aside0.mk (below_step (by repeat (first | (with_reducible first | exact HB.out | apply below_alloc | apply pw_below_drewN | apply below_drew1 | refine below_set ?_ GE168.out | refine below_set ?_ GE169.out | refine below_set ?_ GE208.out) | exact HB.out)) hb); clear HO_4; clear HO_5; clear BK168; clear BK169; clear BK208; clear HB; have HO_4 := n0_; have HO_5 := n1_; have BK168 := n2_; have BK169 := n3_; have BK208 := n4_; have HB := n5_; clear n0_ n1_ n2_ n3_ n4_ n5_; (try clear hb); (try clear hb2); (try clear hk); (try clear hi)))
                      (try simp only [Act.put, List.setIfInBounds_toArray, List.set_cons_zero, List.set_cons_succ])
                      go_cut [98] (fun v98 wc => ∃ (kq : Nat) (x98_96 : Bool), v98 = .bool x98_96 ∧ Aside0 (fuse_Run.j3 kq x4_1 x5_2 x78_2 t209 (x5_1.length : Int) x78_2 x98_96 a0_0 a0_1 a0_2 l0_3 l0_4 ((rd_T23 x5_2 x78_2).f0) ((rd_T23 x5_2 x78_2).f1) ((rd_T23 x5_2 x78_2).f2) ((rd_T23 x5_2 x78_2).f3) ((rd_T23 x5_2 x78_2).f4) = some (r1, r2, r3, r4, r5)) ∧ Aside0 (kq ≤ k2) ∧ Aside0 (Kd.R (Kd.int .i64) 3 wc w.heap.size (fun k_ => (w.heap.size ≤ k_)) v174 x4_1) ∧ Aside0 (Kd.R k23 23 wc w.heap.size (fun k_ => (w.heap.size ≤ k_) ∧ k_ ≠ gb208) (.slice (some ad207) x5_2.length co92) x5_2) ∧ Aside0 (wc.heap[gb168]? = some (.cells #[.string a0_0, .int .i64 a0_1, .int .i64 a0_2, (.slice A0_3 l0_3.length c0_3), (.slice A0_4 l0_4.length c0_4)] 32 (0, 0))) ∧ Aside0 (wc.heap[gb169]? = some (.cells #[.string (⟨#[]⟩ : ByteArray), .int .i64 0, .int .i64 0, (.slice none 0 0), (.slice none 0 0)] 32 (0, 0))) ∧ Aside0 (wc.heap[gb208]? = some (.cells #[.int .i64 ((rd_T23 x5_2 x78_2).f0), .int .i64 ((rd_T23 x5_2 x78_2).f1), .int .i64 ((rd_T23 x5_2 x78_2).f2), .int .i64 ((rd_T23 x5_2 x78_2).f3), .int .i64 ((rd_T23 x5_2 x78_2).f4)] 23 (0, 0))) ∧ Aside0 (Below w.heap.size w wc))
                      case first =>
                        have H := HC97.out
                        clear HC97
                        by_cases c103 : t210 = true
                        · subst c103
                          exact absurd (show Option.none = some _ from H) (by simp)
                        · replace c103 := Bool.eq_false_iff.mpr c103
                          subst c103
                          have H1 : (fuse_Run.j3 k2 x4_1 x5_2 x78_2 t209 (x5_1.length : Int) x78_2 true a0_0 a0_1 a0_2 l0_3 l0_4 ((rd_T23 x5_2 x78_2).f0) ((rd_T23 x5_2 x78_2).f1) ((rd_T23 x5_2 x78_2).f2) ((rd_T23 x5_2 x78_2).f3) ((rd_T23 x5_2 x78_2).f4)) = some (r1, r2, r3, r4, r5) := by rw [if_neg (show ¬ (false = true) by decide)] at H; exact H
                          clear H
                          have H := H1
                          clear H1
                          have H' := Aside0.mk H
                          clear H
                          go_wp2
                          go_meet
                          case rel => exact ⟨_, (true), (by first | rfl | (simp; done) | (simp [*]; done)), H', ⟨by have := HK1.out; have := HK2.out; first | omega | exact Nat.le_refl _⟩, ⟨by (try simp only [hl5_2]); (with_reducible repeat (first | apply Kd.R_alloc | apply Kd.R_drewN | apply Kd.R_drew)); exact HO_4.out⟩, ⟨by (try simp only [hl5_2]); (with_reducible repeat (first | apply Kd.R_alloc | apply Kd.R_drewN | apply Kd.R_drew)); exact HO_5.out⟩, ⟨by (try simp only [hl5_2]); (with_reducible repeat (first | refine blk_drewN ?_ _ | refine blk_drew ?_ | refine blk_alloc ?_ _)); exact BK168.out⟩, ⟨by (try simp only [hl5_2]); (with_reducible repeat (first | refine blk_drewN ?_ _ | refine blk_drew ?_ | refine blk_alloc ?_ _)); exact BK169.out⟩, ⟨by (try simp only [hl5_2]); (with_reducible repeat (first | refine blk_drewN ?_ _ | refine blk_drew ?_ | refine blk_alloc ?_ _)); exact BK208.out⟩, ⟨by repeat (first | (with_reducible first | exact HB.out | apply below_alloc | apply pw_below_drewN | apply below_drew1 | refine below_set ?_ GE168.out | refine below_set ?_ GE169.out | refine below_set ?_ GE208.out) | exact HB.out)⟩⟩
                      case rest =>
                        clear HC97
                        try clear c1
                        try clear p1
                        try clear q1
                        try clear hx1
                        try clear p2
                        try clear q2
                        try clear hx2
                        try clear c3
                        try clear c4
                        try clear p4
                        try clear q4
                        try clear hx4
                        try clear hf4
                        try clear c5
                        try clear c6
                        try clear p6
                        try clear c7
                        try clear c8
                        try clear c9
                        try clear c10
                        try clear c11
                        try clear c13
                        try clear c13b0
                        try clear c14
                        try clear c15
                        try clear p18
                        try clear q18
                        try clear hx18
                        try clear p20
                        try clear q20
                        try clear hx20
                        try clear c39
                        try clear c41
                        try clear c42
                        try clear c44
                        try clear c45
                        try clear p46
                        try clear q46
                        try clear hx46
                        try clear hf46
                        try clear c47
                        try clear c58
                        try clear c59
                        try clear c60
                        try clear c62
                        try clear c63
                        try clear p64
                        try clear c70
                        try clear c80
                        try clear c81
                        try clear c82
                        try clear c85
                        try clear c86
                        try clear c87
                        try clear c90
                        try clear c93
                        try clear c93b0
                        try clear c94
                        try clear c94b0
                        try clear c95
                        try clear c95b0
                        try clear c99
                        try clear c100
                        try clear c103
                        try clear hcz101_0
                        try clear hcz101_1
                        try clear hcz101_2
                        try clear hcz101_3
                        try clear hcz101_4
                        try clear hcz61_0
                        try clear hcz61_1
                        try clear hcz61_2
                        try clear hcz61_3
                        try clear hcz61_4
                        try clear hcz64_0
                        try clear hcz64_1
                        try clear hcz64_2
                        try clear hcz64_3
                        try clear hcz64_4
                        try clear hcz68_0
                        try clear hcz68_1
                        try clear hcz68_2
                        try clear hcz68_3
                        try clear hcz68_4
                        try clear hcz83_0
                        try clear hcz83_1
                        try clear hcz83_2
                        try clear hcz83_3
                        try clear hcz83_4
                        try clear hcz88_0
                        try clear hcz88_1
                        try clear hcz88_2
                        try clear hcz88_3
                        try clear hcz88_4
                        try clear hcz91_0
                        try clear hcz91_1
                        try clear hcz91_2
                        try clear hcz91_3
                        try clear hcz91_4
                        try clear hfz101_0
                        try clear hfz101_1
                        try clear hfz101_2
                        try clear hfz101_3
                        try clear hfz101_4
                        try clear hfz61_0
                        try clear hfz61_1
                        try clear hfz61_2
                        try clear hfz61_3
                        try clear hfz61_4
                        try clear hfz64_0
                        try clear hfz64_1
                        try clear hfz64_2
                        try clear hfz64_3
                        try clear hfz64_4
                        try clear hfz68_0
                        try clear hfz68_1
                        try clear hfz68_2
                        try clear hfz68_3
                        try clear hfz68_4
                        try clear hfz83_0
                        try clear hfz83_1
                        try clear hfz83_2
                        try clear hfz83_3
                        try clear hfz83_4
                        try clear hfz88_0
                        try clear hfz88_1
                        try clear hfz88_2
                        try clear hfz88_3
                        try clear hfz88_4
                        try clear hfz91_0
                        try clear hfz91_1
                        try clear hfz91_2
                        try clear hfz91_3
                        try clear hfz91_4
                        try clear hx180_0
                        try clear hx180_1
                        try clear hx180_2
                        try clear hx180_3
                        try clear hx180_4
                        try clear hx207_0
                        try clear hx207_1
                        try clear hx207_2
                        try clear hx207_3
                        try clear hx207_4
                        try clear hx46_0
                        try clear p1
                        try clear p18
                        try clear p180
                        try clear p2
                        try clear p207
                        try clear p4
                        try clear p46
                        try clear p6
                        try clear p64
                        try clear q1
                        try clear q18
                        try clear q180
                        try clear q207
                        try clear q4
                        try clear q46
                        obtain ⟨kq, x98_96, rfl, HA, HJ96, HO_4, HO_5, BK168, BK169, BK208, HB⟩ := hcut
                        cases kq with
                        | zero => exact absurd HA.out (by simp [fuse_Run.j3])
                        | succ kj96 =>
                          have H := HA.out
                          clear HA
                          simp only [fuse_Run.j3] at H
                          by_cases c110 : x98_96 = true
                          · subst c110
                            have H1 : (fuse_Run.l1 kj96 x4_1 x5_2 (x5_1.length : Int) (wrap64 (x78_2 + 1)) a0_0 a0_1 a0_2 l0_3 l0_4) = some (r1, r2, r3, r4, r5) := by rw [if_pos rfl] at H; exact H
                            clear H
                            have H := H1
                            clear H1
                            have H' := Aside0.mk H
                            clear H
                            go_wp2
                            (try simp only [← hl5_2])
                            go_roundg kj96
                            case measure => have := HK1.out; have := HK2.out; have := HJ96.out; omega
                            case rel => exact ⟨(x5_2), (wrap64 (x78_2 + 1)), (by first | rfl | (simp; done) | (simp [*]; done)), H', ⟨by have := HK1.out; have := HK2.out; have := HJ96.out; omega⟩, ⟨by (try simp only [hl5_2]); (with_reducible repeat (first | apply Kd.R_alloc | apply Kd.R_drewN | apply Kd.R_drew)); exact HO_4.out⟩, ⟨by (try simp only [hl5_2]); (with_reducible repeat (first | apply Kd.R_alloc | apply Kd.R_drewN | apply Kd.R_drew)); exact Kd.R_mono HO_5.out (fun _ hk => hk.1)⟩, ⟨by (try simp only [hl5_2]); (with_reducible repeat (first | refine blk_drewN ?_ _ | refine blk_drew ?_ | refine blk_alloc ?_ _)); exact BK168.out⟩, ⟨by (try simp only [hl5_2]); (with_reducible repeat (first | refine blk_drewN ?_ _ | refine blk_drew ?_ | refine blk_alloc ?_ _)); exact BK169.out⟩, ⟨by repeat (first | (with_reducible first | exact HB.out | apply below_alloc | apply pw_below_drewN | apply below_drew1 | refine below_set ?_ GE168.out | refine below_set ?_ GE169.out | refine below_set ?_ GE208.out) | exact HB.out)⟩⟩
                          · replace c110 := Bool.eq_false_iff.mpr c110
                            subst c110
                            exact absurd (show Option.none = some _ from H) (by simp)
                    · rw [if_neg c95] at H
                      exact absurd H (by simp)
                  · rw [if_neg c94] at H
                    exact absurd H (by simp)
                · rw [if_neg c93] at H
                  have c93b0 : decide (x78_2 < (x5_1.length : Int)) = false := decide_eq_false c93
                  have c93b9 := c93b0
                  rw [hl5_2] at c93b9
                  clear c93
                  replace H := Option.bind_eq_some_iff.mp H
                  obtain ⟨⟨t198, t199, t200, t201, t204⟩, A1340, H⟩ := H
                  replace H : (some (t198, t199, t200, t201, t204)) = some (r1, r2, r3, r4, r5) := H
                  have A134 := Aside0.mk A1340
                  clear A1340
                  simp only [Option.some.injEq, Prod.mk.injEq] at H
                  obtain ⟨rfl, rfl, rfl, rfl, rfl⟩ := H
                  have hnb135 := NB168_169.out
                  have hnc135 := NB169_168.out
                  have hcz136_0 : wr.cell? ⟨gb168, 0, none⟩ = some (.string a0_0) := (blk_cell BK168.out 0).trans rfl
                  have hcz136_1 : wr.cell? ⟨gb168, 1, none⟩ = some (.int .i64 a0_1) := (blk_cell BK168.out 1).trans rfl
                  have hcz136_2 : wr.cell? ⟨gb168, 2, none⟩ = some (.int .i64 a0_2) := (blk_cell BK168.out 2).trans rfl
                  have hcz136_3 : wr.cell? ⟨gb168, 3, none⟩ = some (.slice A0_3 l0_3.length c0_3) := (blk_cell BK168.out 3).trans rfl
                  have hcz136_4 : wr.cell? ⟨gb168, 4, none⟩ = some (.slice A0_4 l0_4.length c0_4) := (blk_cell BK168.out 4).trans rfl
                  have hfz136_0 := blk_frozen BK168.out 0
                  have hfz136_1 := blk_frozen BK168.out 1
                  have hfz136_2 := blk_frozen BK168.out 2
                  have hfz136_3 := blk_frozen BK168.out 3
                  have hfz136_4 := blk_frozen BK168.out 4
                  go_wp2_with (first | ((with_reducible refine gate_callee (f := 12) rfl ?_); refine goesL_ (some 122) rfl rfl Try.func12 (by kernel_rfl) rfl #[.agg #[.string a0_0, .int .i64 a0_1, .int .i64 a0_2, .slice A0_3 l0_3.length c0_3, .slice Ao92 x5_2.length co92]] rfl (by (try simp only [List.map_toArray, List.map_cons, List.map_nil]); first | done | rfl | (simp only [List.length_drop, List.length_take]; rfl)) ?_; (with_reducible refine (fuse_copied.calls k2 a0_0 a0_1 a0_2 _ _ l0_3 _ _ x5_2 t198 t199 t200 t201 t204 _ ?side1 ?side2 ?side3 ?side4 A134.out).mono ?_); (case side1 => exact Kd.C_below HR0_3.out (by repeat (first | (with_reducible first | exact HB.out | apply below_alloc | apply pw_below_drewN | apply below_drew1 | refine below_set ?_ GE168.out | refine below_set ?_ GE169.out) | exact HB.out))); (case side2 => exact HC0_3.out); (case side3 => refine (Kd.R_reads' (e := 23) (base := w.heap.size) (ok := fun k_ => (w.heap.size ≤ k_)) (n := x5_2.length) (c := co92) ?_).2.2; exact (by (with_reducible repeat (first | apply Kd.R_alloc | apply Kd.R_drewN | apply Kd.R_drew)); exact (Kd.R_mono (Kd.R_far (p := ⟨gb168, 4, none⟩) (Kd.R_types HO_5.out BK168.out (by decide)) (fun _ hk => hk.2) (.slice Ao92 x5_2.length co92)) (fun _ h_ => h_.1)))); (case side4 => exact (Kd.R_reads' HO_5.out).2.1); rintro e w137 ⟨v202, v205, rfl, ho0, ho1, hb⟩; refine ⟨_, rfl, ?_⟩; have n0_ := Aside0.mk (Kd.R_elder' (by (with_reducible repeat (first | apply Kd.R_alloc | apply Kd.R_drewN | apply Kd.R_drew)); exact (Kd.R_mono (Kd.R_far (p := ⟨gb168, 4, none⟩) (Kd.R_types HO_4.out BK168.out (by decide)) (fun _ hk => hk.2) (.slice Ao92 x5_2.length co92)) (fun _ h_ => h_.1))) (Kd.R_base ho0) hb); have n1_ := Aside0.mk (Kd.R_below (by (with_reducible repeat (first | apply Kd.R_alloc | apply Kd.R_drewN | apply Kd.R_drew)); exact (Kd.R_mono (Kd.R_far (p := ⟨gb168, 4, none⟩) (Kd.R_types HO_5.out BK168.out (by decide)) (fun _ hk => hk.2) (.slice Ao92 x5_2.length co92)) (fun _ h_ => h_.1))) hb); have n2_ := Aside0.mk (Kd.R_lower (Kd.R_new' (Kd.R_newM (M := fun k_ => (w.heap.size ≤ k_)) (Kd.R_mono (ok' := fun k_ => True) ho0 (fun _ hk_ => trivial)) (below_size (by repeat (first | (with_reducible first | exact HB.out | apply below_alloc | apply pw_below_drewN | apply below_drew1 | refine below_set ?_ GE168.out | refine below_set ?_ GE169.out) | exact HB.out))) (fun k_ h_ => h_)) (Kd.R_lt (by (with_reducible repeat (first | apply Kd.R_alloc | apply Kd.R_drewN | apply Kd.R_drew)); exact (Kd.R_mono (Kd.R_far (p := ⟨gb168, 4, none⟩) (Kd.R_types HO_4.out BK168.out (by decide)) (fun _ hk => hk.2) (.slice Ao92 x5_2.length co92)) (fun _ h_ => h_.1))))) (below_size (by repeat (first | (with_reducible first | exact HB.out | apply below_alloc | apply pw_below_drewN | apply below_drew1 | refine below_set ?_ GE168.out | refine below_set ?_ GE169.out) | exact HB.out)))); have n3_ := Aside0.mk (Kd.V_lower (Kd.V_mono (ok' := fun k_ => (w.heap.size ≤ k_) ∧ some k_ ≠ (v202 : Value).ownBlock ∧ some k_ ≠ (v174 : Value).ownBlock ∧ some k_ ≠ (.slice Ao92 x5_2.length co92 : Value).ownBlock ∧ k_ ≠ gb168 ∧ k_ ≠ gb169) ho1 (fun k_ hk_ => ⟨(Nat.le_trans (below_size (by repeat (first | (with_reducible first | exact HB.out | apply below_alloc | apply pw_below_drewN | apply below_drew1 | refine below_set ?_ GE168.out | refine below_set ?_ GE169.out) | exact HB.out))) hk_.1), hk_.2, (Kd.fresh' (Kd.R_lt (by (with_reducible repeat (first | apply Kd.R_alloc | apply Kd.R_drewN | apply Kd.R_drew)); exact (Kd.R_mono (Kd.R_far (p := ⟨gb168, 4, none⟩) (Kd.R_types HO_4.out BK168.out (by decide)) (fun _ hk => hk.2) (.slice Ao92 x5_2.length co92)) (fun _ h_ => h_.1)))) k_ hk_.1), (Kd.fresh' (Kd.R_lt (by (with_reducible repeat (first | apply Kd.R_alloc | apply Kd.R_drewN | apply Kd.R_drew)); exact (Kd.R_mono (Kd.R_far (p := ⟨gb168, 4, none⟩) (Kd.R_types HO_5.out BK168.out (by decide)) (fun _ hk => hk.2) (.slice Ao92 x5_2.length co92)) (fun _ h_ => h_.1)))) k_ hk_.1), (Kd.freshB (g := gb168) (o := .cells #[.string a0_0, .int .i64 a0_1, .int .i64 a0_2, .slice A0_3 l0_3.length c0_3, .slice Ao92 x5_2.length co92] 32 (0, 0)) (by (with_reducible repeat (first | refine blk_drewN ?_ _ | refine blk_drew ?_ | refine blk_alloc ?_ _)); refine blk_put (cs := #[.string a0_0, .int .i64 a0_1, .int .i64 a0_2, .slice A0_3 l0_3.length c0_3, .slice A0_4 l0_4.length c0_4]) ?_ 4 _ rfl; (with_reducible repeat (first | refine blk_drewN ?_ _ | refine blk_drew ?_ | refine blk_alloc ?_ _)); exact BK168.out) k_ hk_.1), (Kd.freshB (g := gb169) (o := .cells #[.string (⟨#[]⟩ : ByteArray), .int .i64 0, .int .i64 0, .slice none 0 0, .slice none 0 0] 32 (0, 0)) (by (with_reducible repeat (first | refine blk_drewN ?_ _ | refine blk_drew ?_ | refine blk_alloc ?_ _)); refine blk_far ?_ NB169_168.out _; (with_reducible repeat (first | refine blk_drewN ?_ _ | refine blk_drew ?_ | refine blk_alloc ?_ _)); exact BK169.out) k_ hk_.1)⟩)) (below_size (by repeat (first | (with_reducible first | exact HB.out | apply below_alloc | apply pw_below_drewN | apply below_drew1 | refine below_set ?_ GE168.out | refine below_set ?_ GE169.out) | exact HB.out)))); have n4_ := Aside0.mk (blk_below (g := gb168) (o := .cells #[.string a0_0, .int .i64 a0_1, .int .i64 a0_2, .slice A0_3 l0_3.length c0_3, .slice Ao92 x5_2.length co92] 32 (0, 0)) (by (with_reducible repeat (first | refine blk_drewN ?_ _ | refine blk_drew ?_ | refine blk_alloc ?_ _)); refine blk_put (cs := #[.string a0_0, .int .i64 a0_1, .int .i64 a0_2, .slice A0_3 l0_3.length c0_3, .slice A0_4 l0_4.length c0_4]) ?_ 4 _ rfl; (with_reducible repeat (first | refine blk_drewN ?_ _ | refine blk_drew ?_ | refine blk_alloc ?_ _)); exact BK168.out) hb); have n5_ := Aside0.mk (blk_below (g := gb169) (o := .cells #[.string (⟨#[]⟩ : ByteArray), .int .i64 0, .int .i64 0, .slice none 0 0, .slice none 0 0] 32 (0, 0)) (by (with_reducible repeat (first | refine blk_drewN ?_ _ | refine blk_drew ?_ | refine blk_alloc ?_ _)); refine blk_far ?_ NB169_168.out _; (with_reducible repeat (first | refine blk_drewN ?_ _ | refine blk_drew ?_ | refine blk_alloc ?_ _)); exact BK169.out) hb); have n6_ := Aside0.mk (below_step (by repeat (first | (with_reducible first | exact HB.out | apply below_alloc | apply pw_below_drewN | apply below_drew1 | refine below_set ?_ GE168.out | refine below_set ?_ GE169.out) | exact HB.out)) hb); clear HO_4; clear HO_5; clear BK168; clear BK169; clear HB; have HO_4 := n0_; have HO_5 := n1_; have HO203 := n2_; have HO206 := n3_; have BK168 := n4_; have BK169 := n5_; have HB := n6_; clear n0_ n1_ n2_ n3_ n4_ n5_ n6_; (try clear hb); (try clear hb2); (try clear hk); (try clear hi); (try clear ho0); (try clear ho1); have hcz138_0 : w137.cell? ⟨gb169, 0, none⟩ = some (.string (⟨#[]⟩ : ByteArray)) := (blk_cell BK169.out 0).trans rfl; have hcz138_1 : w137.cell? ⟨gb169, 1, none⟩ = some (.int .i64 0) := (blk_cell BK169.out 1).trans rfl; have hcz138_2 : w137.cell? ⟨gb169, 2, none⟩ = some (.int .i64 0) := (blk_cell BK169.out 2).trans rfl; have hcz138_3 : w137.cell? ⟨gb169, 3, none⟩ = some (.slice none 0 0) := (blk_cell BK169.out 3).trans rfl; have hcz138_4 : w137.cell? ⟨gb169, 4, none⟩ = some (.slice none 0 0) := (blk_cell BK169.out 4).trans rfl; have hfz138_0 := blk_frozen BK169.out 0; have hfz138_1 := blk_frozen BK169.out 1; have hfz138_2 := blk_frozen BK169.out 2; have hfz138_3 := blk_frozen BK169.out 3; have hfz138_4 := blk_frozen BK169.out 4; obtain ⟨Ao139, co139, eo139⟩ := Kd.R_slice HO203.out; subst eo139; obtain ⟨Ao140, co140, eo140⟩ := Kd.V_slice HO206.out; subst eo140))
                  refine bodyPost_ret (results_cell_row rfl _ _ gb169 32 #[.string t198, .int .i64 t199, .int .i64 t200, .slice Ao139 t201.length co139, .slice Ao140 t204.length co140] (0, 0) _ rfl (by (with_reducible repeat (first | refine blk_drewN ?_ _ | refine blk_drew ?_ | refine blk_alloc ?_ _)); refine blk_put (cs := #[.string t198, .int .i64 t199, .int .i64 t200, .slice Ao139 t201.length co139, .slice none 0 0]) ?_ 4 _ rfl; (with_reducible repeat (first | refine blk_drewN ?_ _ | refine blk_drew ?_ | refine blk_alloc ?_ _)); refine blk_put (cs := #[.string t198, .int .i64 t199, .int .i64 t200, .slice none 0 0, .slice none 0 0]) ?_ 3 _ rfl; (with_reducible repeat (first | refine blk_drewN ?_ _ | refine blk_drew ?_ | refine blk_alloc ?_ _)); refine blk_put (cs := #[.string t198, .int .i64 t199, .int .i64 0, .slice none 0 0, .slice none 0 0]) ?_ 2 _ rfl; (with_reducible repeat (first | refine blk_drewN ?_ _ | refine blk_drew ?_ | refine blk_alloc ?_ _)); refine blk_put (cs := #[.string t198, .int .i64 0, .int .i64 0, .slice none 0 0, .slice none 0 0]) ?_ 1 _ rfl; (with_reducible repeat (first | refine blk_drewN ?_ _ | refine blk_drew ?_ | refine blk_alloc ?_ _)); refine blk_put (cs := #[.string (⟨#[]⟩ : ByteArray), .int .i64 0, .int .i64 0, .slice none 0 0, .slice none 0 0]) ?_ 0 _ rfl; (with_reducible repeat (first | refine blk_drewN ?_ _ | refine blk_drew ?_ | refine blk_alloc ?_ _)); exact BK169.out) Try.underlying32 rfl (by kernel_rfl)) rfl ?_
                  exact ⟨_, _, by first | rfl | (simp [errW_none, errW_some] <;> rfl) | (simp [*, errW_none, errW_some] <;> rfl), by (with_reducible repeat (first | apply Kd.R_alloc | apply Kd.R_drewN | apply Kd.R_drew)); exact Kd.R_mono (Kd.R_far (p := ⟨gb169, 4, none⟩) (Kd.R_far (p := ⟨gb169, 3, none⟩) (Kd.R_far (p := ⟨gb169, 2, none⟩) (Kd.R_far (p := ⟨gb169, 1, none⟩) (Kd.R_far (p := ⟨gb169, 0, none⟩) (Kd.R_types HO203.out BK169.out (by decide)) (fun _ hk => hk.2) (.string t198)) (fun _ hk => hk.2) (.int .i64 t199)) (fun _ hk => hk.2) (.int .i64 t200)) (fun _ hk => hk.2) (.slice Ao139 t201.length co139)) (fun _ hk => hk.2) (.slice Ao140 t204.length co140)) (fun _ hk => hk.1.1.1), by (with_reducible repeat (first | apply Kd.V_alloc | apply Kd.V_drewN | apply Kd.V_drew)); exact Kd.V_mono (Kd.V_far (p := ⟨gb169, 4, none⟩) (Kd.V_far (p := ⟨gb169, 3, none⟩) (Kd.V_far (p := ⟨gb169, 2, none⟩) (Kd.V_far (p := ⟨gb169, 1, none⟩) (Kd.V_far (p := ⟨gb169, 0, none⟩) (Kd.V_mono HO206.out (fun k_ hk => (⟨hk, hk.2.2.2.2.2⟩ : _ ∧ k_ ≠ gb169))) (fun _ hk => hk.2) (.string t198)) (fun _ hk => hk.2) (.int .i64 t199)) (fun _ hk => hk.2) (.int .i64 t200)) (fun _ hk => hk.2) (.slice Ao139 t201.length co139)) (fun _ hk => hk.2) (.slice Ao140 t204.length co140)) (fun _ hk => ⟨hk.1.1, hk.1.2.1⟩), by repeat (first | (with_reducible first | exact HB.out | apply below_alloc | apply pw_below_drewN | apply below_drew1 | refine below_set ?_ GE168.out | refine below_set ?_ GE169.out) | exact HB.out)⟩
    · rw [if_neg c4] at H
      exact absurd H (by simp)
  · rw [if_neg c3] at H
    exact absurd H (by simp)

end Go.Proofs.Ytglodkkhojgdiaa.PG
