/- mach.Leaders over code without a jump or an end: the first place alone; walked by hand. -/
import Derived.Test.YtglodkkhojgdiaaPair
import Derived.Test.YtglodkkhojgdiaaPGx7
namespace Go.Proofs.Ytglodkkhojgdiaa.PG
open Go.RowKit Go.Proofs.YtglodkkhojgdiaaW.PrintWords Go.Proofs.YtglodkkhojgdiaaW.PrintLast Go.Proofs.YtglodkkhojgdiaaW.PrintMore
set_option linter.unusedVariables false
set_option linter.unusedSimpArgs false
set_option maxHeartbeats 8000000 in
set_option maxRecDepth 100000 in
theorem put_calls (A : Option Addr) (c g : Nat) (out : List Bool) (w0 w : World) (hbox : w.heap[g]? = some (.cells #[.slice A out.length c] 36 (0, 0))) (hO : Kd.R Kd.bool 4 w w0.heap.size (fun _ => True) (.slice A out.length c) out) (hB : Below w0.heap.size w0 w) (hn : 0 < out.length) :
    Calls Try.prog 15 #[.int .i64 0, .pointer (some ⟨g, 0, none⟩)] w fun e w' => e = .returned (.tuple #[]) ∧ w'.heap[g]? = some (.cells #[.slice A out.length c] 36 (0, 0)) ∧ Kd.R Kd.bool 4 w' w0.heap.size (fun _ => True) (.slice A out.length c) (out.set 0 true) ∧ Below w0.heap.size w0 w' := by
  obtain ⟨go, co, eo, hbase, hgl, hgc⟩ := Kd.R_form hO hn
  injection eo with eo eo1 eo2
  subst eo
  have hb0 : w.cell? ⟨g, 0, none⟩ = some (.slice (some ⟨go, 0, none⟩) out.length c) := (blk_cell hbox 0).trans rfl
  obtain ⟨hx0, hf0⟩ := Kd.R_celln false hO 0 (by omega) (by omega)
  replace hx0 : w.cell? ⟨go, 0, none⟩ = some (.bool (rdOf false out 0)) := hx0
  replace hf0 : w.frozen? ⟨go, 0, none⟩ = false := hf0
  have hgo : go ≠ g := fun e => by
    obtain ⟨cells, hc⟩ := hgc
    rw [e, hbox] at hc
    injection hc with hc
    injection hc with _ hc _
    exact absurd hc (by decide)
  have HP := Kd.R_putn hO 0 true
  have q0 := eq_true (show (0 : Int) < (out.length : Int) by omega)
  have q1 : decide ((0 : Int) < (out.length : Int)) = true := decide_eq_true (by omega)
  have qi : (0 < out.length) = True := eq_true hn
  have qi1 : decide (0 < out.length) = true := decide_eq_true hn
  have HX1 := Aside0.mk hbox
  have HX2 := Aside0.mk hO
  have HX3 := Aside0.mk hB
  have HX4 := Aside0.mk HP
  have HX5 := Aside0.mk hn
  clear hbox hO hB HP hn eo1 eo2
  go_enter Try.func15, Try.ntmps15
  go_wp2
  exact bodyPost_end (v := .tuple #[]) (by simp [results, Try.f15, go_sem]) rfl ⟨rfl, blk_far HX1.out (fun e => hgo e.symm) _, HX4.out, below_set HX3.out hbase⟩
/-- Whether an instruction is neither a jump nor an end. -/
def stays (x : S23) : Bool := decide (x.f0 ≠ 4) && decide (x.f0 ≠ 5) && decide (x.f0 ≠ 6) && decide (x.f0 ≠ 17) && decide (x.f0 ≠ 7) && decide (x.f0 ≠ 16)
def mach_Leaders.f (k : Nat) (l0 : List S23) : Option (List Bool) := if (decide (0 < l0.length) && decide (l0.length < 1000000) && l0.all stays) = true then some ((List.replicate l0.length false).set 0 true) else none
theorem mach_Leaders.mono : ∀ a0 k, LeO (mach_Leaders.f k a0) (mach_Leaders.f (k + 1) a0) := fun a0 k => LeO.refl _
set_option maxHeartbeats 8000000 in
set_option maxRecDepth 100000 in
theorem mach_Leaders.calls (k : Nat) (A0 : Option Addr) (c0 : Nat) (l0 : List (S23)) (r : List Bool) (w : World) (hr0 : Kd.C k23 w A0 l0.length l0) (hc0 : l0.length ≤ c0) (h : mach_Leaders.f k l0 = some r) :
    Calls Try.prog 10 #[.slice A0 l0.length c0] w fun e w' => ∃ v0_ : Value, e = .returned (v0_) ∧ Kd.R Kd.bool 4 w' w.heap.size (fun _ => True) v0_ r ∧ Below w.heap.size w w' := by
  have hu23 := Try.underlying23
  have HR0 := Aside0.mk hr0
  have HC0 := Aside0.mk hc0
  clear hr0 hc0
  unfold mach_Leaders.f at h
  by_cases hc : (decide (0 < l0.length) && decide (l0.length < 1000000) && l0.all stays) = true
  rotate_left
  · rw [if_neg hc] at h
    cases h
  rw [if_pos hc] at h
  obtain rfl := Option.some.inj h
  clear h
  rw [Bool.and_eq_true, Bool.and_eq_true] at hc
  have hpos := of_decide_eq_true hc.1.1
  have hlt := of_decide_eq_true hc.1.2
  have HS := Aside0.mk hc.2
  clear hc
  have HB := Aside0.mk (Below.refl w.heap.size w)
  have HPOS := Aside0.mk hpos
  have HLT := Aside0.mk hlt
  have c2b0 := eq_true (show 0 ≤ (l0.length : Int) by omega)
  have c2b1 : decide (0 ≤ (l0.length : Int)) = true := decide_eq_true (by omega)
  have c3b0 := eq_true (show ((l0.length : Int) : Int).toNat ≤ 281474976710656 by omega)
  have c3b1 : decide (((l0.length : Int) : Int).toNat ≤ 281474976710656) = true := decide_eq_true (by omega)
  clear hpos hlt
  go_enter Try.func10, Try.ntmps10
  go_upto_region 2 with (first | ((with_reducible refine gate_dst (N := 11) rfl ?_); (try (refine gate_guard (by rfl) ?_; dsimp only)); refine Kd.R_make Kd.bool _ 4 rfl (N := 11) rfl 36 _ _ rfl (l0.length : Int) rfl rfl Try.underlying36 (.bool false) 1 info4 rfl (by decide) (by omega) false (ok := fun _ => True) (okp := fun _ => True) rfl (fun _ hk => hk) trivial (of_decide_eq_true (by first | (with_reducible assumption) | assumption)) (Nat.le_trans (Nat.mul_le_mul_right _ (of_decide_eq_true (by first | (with_reducible assumption) | assumption) : (l0.length : Int).toNat ≤ 281474976710656)) (by omega)) (Below.refl _ _) (Nat.le_refl _) ?_; intro v141 w5 ho6 hb hg_ hnew_; clear hg_ hnew_; have HO142 := Aside0.mk ho6; have HB2 := Aside0.mk hb; clear ho6 hb; obtain ⟨Ao7, co7, eo7⟩ := Kd.R_slice HO142.out; subst eo7))
  have hrl : (List.replicate ((l0.length : Int)).toNat false).length = l0.length := by simp
  have hre : List.replicate ((l0.length : Int)).toNat false = List.replicate l0.length false := by simp
  refine rebase (P := fun W_ => Code.wp _ _ _ _ W_) (fun W_ => W_.heap[w5.heap.size]? = some (.cells #[.slice Ao7 l0.length co7] 36 (0, 0)) ∧ Kd.R Kd.bool 4 W_ w.heap.size (fun _ => True) (.slice Ao7 l0.length co7) (List.replicate l0.length false) ∧ Below w.heap.size w W_) ⟨blk_new w5 _, ?_, below_alloc HB2.out _⟩ ?_
  · have := Kd.R_alloc HO142.out (.cells #[.slice Ao7 l0.length co7] 36 (0, 0))
    rw [hre] at this
    simpa using this
  generalize w5.heap.size = g
  rintro W1 ⟨hbox1, hO1, hB1⟩
  have hput := put_calls Ao7 co7 g (List.replicate l0.length false) w W1 (by simpa using hbox1) (by simpa using hO1) hB1 (by simpa using HPOS.out)
  have HPUT := Aside0.mk hput
  clear hput hbox1 hO1 hB1 HO142 HB2 hrl hre HB
  go_upto_region 4 with (go_at_call 15; refine HPUT.out.mono ?_; rintro e w2 ⟨rfl, h1, h2, h3⟩; have HX := Aside0.mk h1; have HO := Aside0.mk h2; have HB := Aside0.mk h3; clear h1 h2 h3)
  clear HPUT
  go_wp2
  go_loopg [17] (l0.length + 1) (fun kq v17 w' => ∃ (i : Nat), v17 = .int .i64 (i : Int) ∧ Aside0 (i + kq = l0.length + 1) ∧ Aside0 (w'.heap[g]? = some (.cells #[.slice Ao7 l0.length co7] 36 (0, 0))) ∧ Aside0 (Kd.R Kd.bool 4 w' w.heap.size (fun _ => True) (.slice Ao7 l0.length co7) ((List.replicate l0.length false).set 0 true)) ∧ Aside0 (Below w.heap.size w w'))
  case atStart =>
    refine ⟨0, rfl, ⟨by omega⟩, ⟨?_⟩, ⟨?_⟩, ⟨HB.out⟩⟩
    · simpa using HX.out
    · simpa using HO.out
  case round =>
    clear HX HO HB
    obtain ⟨i, rfl, HK1, HX, HO, HB⟩ := hrel
    have hk1 := HK1.out
    have hll := HLT.out
    by_cases c1 : (i : Int) < (l0.length : Int)
    · have c1b : decide ((i : Int) < (l0.length : Int)) = true := decide_eq_true c1
      have c2 : 0 ≤ (i : Int) := by omega
      have c2b : decide (0 ≤ (i : Int)) = true := decide_eq_true c2
      obtain ⟨k1, rfl⟩ : ∃ k1, gk = k1 + 1 := ⟨gk - 1, by omega⟩
      have hst : stays (rd_T23 l0 (i : Int)) = true := by
        have hi : i < l0.length := by omega
        have : rd_T23 l0 (i : Int) = l0[i] := by simp [rd_T23, List.getD_eq_getElem?_getD, List.getElem?_eq_getElem hi]
        rw [this]
        exact List.all_eq_true.mp HS.out _ (List.getElem_mem hi)
      simp only [stays, Bool.and_eq_true, decide_eq_true_eq] at hst
      obtain ⟨⟨⟨⟨⟨n4, n5⟩, n6⟩, n17⟩, n7⟩, n16⟩ := hst
      have hj : mach_Jump.f ((rd_T23 l0 (i : Int)).f0) ((rd_T23 l0 (i : Int)).f1) ((rd_T23 l0 (i : Int)).f2) ((rd_T23 l0 (i : Int)).f3) ((rd_T23 l0 (i : Int)).f4) = some (0, false) := by
        unfold mach_Jump.f
        rw [if_neg n4, if_neg n5, if_neg n6, if_neg n17]
      have HJ := Aside0.mk hj
      have b7 : ((rd_T23 l0 (i : Int)).f0 == 7) = false := beq_eq_false_iff_ne.mpr n7
      have b16 : ((rd_T23 l0 (i : Int)).f0 == 16) = false := beq_eq_false_iff_ne.mpr n16
      clear n4 n5 n6 n17 n7 n16 hj
      obtain ⟨ad, e0, hx0, hx1, hx2, hx3, hx4⟩ := at_T23 HR0.out (i : Int) c2 c1
      cases e0
      simp only [Int.toNat_natCast] at hx0 hx1 hx2 hx3 hx4
      replace hx0 := (HB.out.cell (World.block_lt_of_cell? w _ hx0)).trans hx0
      replace hx1 := (HB.out.cell (World.block_lt_of_cell? w _ hx1)).trans hx1
      replace hx2 := (HB.out.cell (World.block_lt_of_cell? w _ hx2)).trans hx2
      replace hx3 := (HB.out.cell (World.block_lt_of_cell? w _ hx3)).trans hx3
      replace hx4 := (HB.out.cell (World.block_lt_of_cell? w _ hx4)).trans hx4
      replace c1 := eq_true c1
      replace c2 := eq_true c2
      clear hk1 hll
      go_upto_region 7 with (fail)
      refine rebase (P := fun W_ => Code.wp _ _ _ _ W_) (fun W_ => W_.heap[wr.heap.size]? = some (.cells #[.int .i64 (rd_T23 l0 (i : Int)).f0, .int .i64 (rd_T23 l0 (i : Int)).f1, .int .i64 (rd_T23 l0 (i : Int)).f2, .int .i64 (rd_T23 l0 (i : Int)).f3, .int .i64 (rd_T23 l0 (i : Int)).f4] 23 (0, 0)) ∧ W_.heap[g]? = some (.cells #[.slice Ao7 l0.length co7] 36 (0, 0)) ∧ Kd.R Kd.bool 4 W_ w.heap.size (fun _ => True) (.slice Ao7 l0.length co7) ((List.replicate l0.length false).set 0 true) ∧ Below w.heap.size w W_) ⟨blk_new wr _, blk_alloc HX.out _, Kd.R_alloc HO.out _, below_alloc HB.out _⟩ ?_
      generalize wr.heap.size = gx
      rintro W3 ⟨h3x, h3b, h3o, h3B⟩
      clear hx0 hx1 hx2 hx3 hx4
      have hx0 : W3.cell? ⟨gx, 0, none⟩ = some (.int .i64 (rd_T23 l0 (i : Int)).f0) := (blk_cell h3x 0).trans rfl
      have hx1 : W3.cell? ⟨gx, 1, none⟩ = some (.int .i64 (rd_T23 l0 (i : Int)).f1) := (blk_cell h3x 1).trans rfl
      have hx2 : W3.cell? ⟨gx, 2, none⟩ = some (.int .i64 (rd_T23 l0 (i : Int)).f2) := (blk_cell h3x 2).trans rfl
      have hx3 : W3.cell? ⟨gx, 3, none⟩ = some (.int .i64 (rd_T23 l0 (i : Int)).f3) := (blk_cell h3x 3).trans rfl
      have hx4 : W3.cell? ⟨gx, 4, none⟩ = some (.int .i64 (rd_T23 l0 (i : Int)).f4) := (blk_cell h3x 4).trans rfl
      have H3b := Aside0.mk h3b
      have H3o := Aside0.mk h3o
      have H3B := Aside0.mk h3B
      clear h3b h3o h3B HX HO HB
      go_wp2_with (go_at_call 11; refine (mach_Jump.calls _ _ _ _ _ 0 false _ HJ.out).mono ?_; rintro e w4 ⟨rfl, hb4⟩; have h4x := blk_below h3x hb4; have hy0 : w4.cell? ⟨gx, 0, none⟩ = some (.int .i64 (rd_T23 l0 (i : Int)).f0) := (blk_cell h4x 0).trans rfl; have hy1 : w4.cell? ⟨gx, 1, none⟩ = some (.int .i64 (rd_T23 l0 (i : Int)).f1) := (blk_cell h4x 1).trans rfl; have hy2 : w4.cell? ⟨gx, 2, none⟩ = some (.int .i64 (rd_T23 l0 (i : Int)).f2) := (blk_cell h4x 2).trans rfl; have hy3 : w4.cell? ⟨gx, 3, none⟩ = some (.int .i64 (rd_T23 l0 (i : Int)).f3) := (blk_cell h4x 3).trans rfl; have hy4 : w4.cell? ⟨gx, 4, none⟩ = some (.int .i64 (rd_T23 l0 (i : Int)).f4) := (blk_cell h4x 4).trans rfl)
      go_roundg k1
      case measure => omega
      case rel =>
        have h1 := HK1.out
        have h2 := HLT.out
        have hw : wrap64 ((i : Int) + 1) = ((i + 1 : Nat) : Int) := by
          unfold wrap64
          omega
        exact ⟨i + 1, congrArg (Value.int .i64) hw, ⟨by omega⟩, ⟨blk_below H3b.out hb4⟩, ⟨Kd.R_below H3o.out hb4⟩, ⟨below_step H3B.out hb4⟩⟩
    · have c1b : decide ((i : Int) < (l0.length : Int)) = false := decide_eq_false c1
      have hb0 : wr.cell? ⟨g, 0, none⟩ = some (.slice Ao7 l0.length co7) := (blk_cell HX.out 0).trans rfl
      clear hk1 hll
      go_wp2
      go_ret
      exact ⟨_, rfl, HO.out, HB.out⟩
end Go.Proofs.Ytglodkkhojgdiaa.PG
