/- Function 27: which block leads to which. -/
import Derived.Test.YtdndnjpfpelimaaUnreach
import Derived.Test.YtdndnjpfpelimaaPGx0
import Derived.Test.YtdndnjpfpelimaaU
namespace Go.Proofs.Ytdndnjpfpelimaa.PG
open Go.RowKit Go.Proofs.YtdndnjpfpelimaaW.PrintWords Go.Proofs.YtdndnjpfpelimaaW.PrintLast Go.Proofs.YtdndnjpfpelimaaW.PrintMore
attribute [local go_sem] max2_int min2_int max_two min_two max_three min_three max_four min_four   -- for this text's walks alone
set_option linter.unusedVariables false
set_option linter.unusedSimpArgs false
attribute [local go_sem] run_store_complex
def lmStep (m : List (Int × Option Int)) (b : S37) : List (Int × Option Int) := if b.f1.f0 = 1 then (b.f1.f2, some ((mval m b.f1.f2).getD 0 + 1)) :: m else m
def lm (bs : List S37) : List (Int × Option Int) := bs.foldl lmStep []
/-- Jumps and returns alone, each to a small number; few. -/
def LeadsOK (bs : List S37) : Prop := bs.length < 1000 ∧ (∀ b ∈ bs, b.f1.f0 ≠ 2 ∧ (b.f1.f0 = 1 → (Lit.int .i64 b.f1.f2).wf = true)) ∧ ∀ (i : Nat) (k : Int), 0 ≤ (mval (lm (bs.take i)) k).getD 0 ∧ (mval (lm (bs.take i)) k).getD 0 ≤ i ∧ (lm (bs.take i)).length ≤ i
set_option maxHeartbeats 4000000 in
set_option maxRecDepth 100000 in
theorem leads_calls (A : Option Addr) (c : Nat) (bs : List S37) (nm : ByteArray) (p q : Int) (w : World) (hr : Kd.C k37 w A bs.length bs) (hk : LeadsOK bs) :
    Calls Try.prog 27 #[.agg #[.string nm, .int .i64 p, .int .i64 q, .slice A bs.length c]] w fun e w' => e = .returned (.map (some (w.heap.size + 1))) ∧ MapI w' (w.heap.size + 1) (lm bs) ∧ Below w.heap.size w w' := by
  have HR := Aside0.mk hr
  have HK := Aside0.mk hk
  clear hr hk
  have hu24 := Try.underlying24
  have hu37 := Try.underlying37
  have hu35 := Try.underlying35
  have hmm := @run_makeMap Try.prog
  go_enter Try.func27, Try.ntmps27
  go_upto_region 2 with (fail)
  refine rebase (P := fun W_ => Code.wp _ _ _ _ W_) (fun W_ => W_.heap[w.heap.size]? = some (.cells #[.string nm, .int .i64 p, .int .i64 q, .slice A bs.length c] 24 (0, 0)) ∧ MapI W_ (w.heap.size + 1) [] ∧ Below w.heap.size w W_ ∧ w.heap.size + 2 ≤ W_.heap.size) ⟨blk_alloc (new1 _ _) _, by have h1 := MapI.made (w.alloc (.cells #[.string nm, .int .i64 p, .int .i64 q, .slice A bs.length c] 24)); rwa [World.size_alloc] at h1, below_alloc (below_alloc (Below.refl _ _) _) _, by rw [World.size_alloc, World.size_alloc]; omega⟩ ?_
  rintro W1 ⟨h0, h1, h2, h3⟩
  have H0 := Aside0.mk h0
  have HM := Aside0.mk h1
  have HB := Aside0.mk h2
  have HS := Aside0.mk h3
  obtain ⟨f0, f1, f2, f3⟩ := box4 h0
  clear h0 h1 h2 h3
  go_wp2
  clear f0 f1 f2 f3
  go_loopg [11] bs.length (fun kq v11 w' => ∃ i : Int, v11 = .int .i64 i ∧ Aside0 (0 ≤ i ∧ i + kq = bs.length) ∧ Aside0 (MapI w' (w.heap.size + 1) (lm (bs.take i.toNat))) ∧ Aside0 (Below w.heap.size w w') ∧ Aside0 (w.heap.size + 2 ≤ w'.heap.size))
  case atStart => exact ⟨0, rfl, ⟨by omega, by simp⟩, HM, HB, HS⟩
  case round =>
    clear HM HB HS
    obtain ⟨i, rfl, HI, HM, HB, HS⟩ := hrel
    by_cases hi : i < (bs.length : Int)
    · have hib : decide (i < (bs.length : Int)) = true := decide_eq_true hi
      have hi0 := HI.out.1
      obtain ⟨ad, A0, c0, rfl, hx0, hx1, hx2, hx3, hx4, _, _⟩ := at_T37 HR.out i hi0 hi
      have hmem := rd37_mem bs i hi0 hi
      have hkb := HK.out.2.1 _ hmem
      have hst : lm (bs.take (i.toNat + 1)) = lmStep (lm (bs.take i.toNat)) (rd_T37 bs i) := by
        have hlt : i.toNat < bs.length := by omega
        rw [List.take_succ_eq_append_getElem hlt]
        unfold lm rd_T37
        rw [List.foldl_append, List.getD_eq_getElem?_getD, List.getElem?_eq_getElem hlt]
        rfl
      generalize rd_T37 bs i = b at hx0 hx1 hx2 hx3 hx4 hkb hst hmem
      obtain ⟨l, b0, b1, b2, b3⟩ := b
      dsimp only at hx0 hx1 hx2 hx3 hx4 hkb
      have HKB := Aside0.mk hkb
      have HST := Aside0.mk hst
      replace hx0 := (HB.out.cell (World.block_lt_of_cell? w _ hx0)).trans hx0
      replace hx1 := (HB.out.cell (World.block_lt_of_cell? w _ hx1)).trans hx1
      replace hx2 := (HB.out.cell (World.block_lt_of_cell? w _ hx2)).trans hx2
      replace hx3 := (HB.out.cell (World.block_lt_of_cell? w _ hx3)).trans hx3
      replace hx4 := (HB.out.cell (World.block_lt_of_cell? w _ hx4)).trans hx4
      have hi0t := eq_true hi0
      have hi1t := eq_true hi
      have HII := Aside0.mk hi
      have HW := Aside0.mk (wrapS hi0 hi (by have h1 := HK.out.1; omega))
      clear hi hi0 hkb hst hmem
      go_upto_region 7 with (fail)
      refine rebase (P := fun W_ => Code.wp _ _ _ _ W_) (fun W_ => W_.heap[wr.heap.size + 1]? = some (.cells #[.int .i64 b0, .int .i64 b1, .int .i64 b2, .int .i64 b3] 35 (0, 0)) ∧ MapI W_ (w.heap.size + 1) (lm (bs.take i.toNat)) ∧ Below w.heap.size w W_ ∧ w.heap.size + 2 ≤ W_.heap.size) ⟨new2 _ _ _, HM.out.below (below_alloc (below_alloc (Below.refl _ _) _) _), below_alloc (below_alloc HB.out _) _, by rw [World.size_alloc, World.size_alloc]; have h1 := HS.out; omega⟩ ?_
      clear HM HB hx0 hx1 hx2 hx3 hx4
      rintro W7 ⟨h0, h1, h2, h3⟩
      have HM := Aside0.mk h1
      have HB := Aside0.mk h2
      have HS7 := Aside0.mk h3
      obtain ⟨z0, z1, z2, z3⟩ := box4 h0
      clear h0 h1 h2 h3
      by_cases k1 : b0 = 1
      · subst k1
        have hlk := (HM.out.look b2 (HKB.out.2 rfl)).1
        have hbd := HK.out.2.2 i.toNat b2
        have hw1 : wrap64 ((mval (lm (bs.take i.toNat)) b2).getD 0 + 1) = (mval (lm (bs.take i.toNat)) b2).getD 0 + 1 := by have h1 := HK.out.1; have h2 := HII.out; unfold wrap64; omega
        obtain ⟨W8, hst, hm8, hg8⟩ := HM.out.store b2 ((mval (lm (bs.take i.toNat)) b2).getD 0 + 1) (HKB.out.2 rfl) (wfI (by omega) (by have h1 := HK.out.1; have h2 := HII.out; omega)) (by have h1 := HK.out.1; have h2 := HII.out; omega)
        have HM8 := Aside0.mk hm8
        have HB8 := Aside0.mk (HB.out.grown hg8 HB.out.size (fun k hk => by injection hk with hk; omega))
        have HS8 := Aside0.mk (Nat.le_trans HS7.out hg8.size)
        rw [← hw1] at hst
        have HW1 := Aside0.mk hw1
        clear hbd hw1 hm8 hg8
        go_wp2
        go_roundg (gk - 1)
        case measure => have h1 := HI.out; have h2 := HII.out; omega
        case rel =>
          have h2 := HI.out
          have h3 := HII.out
          exact ⟨wrap64 (i + 1), rfl, ⟨by rw [HW.out]; omega, by rw [HW.out]; omega⟩, ⟨by rw [HW.out, show (i + 1).toNat = i.toNat + 1 by omega, HST.out]; exact HM8.out⟩, HB8, HS8⟩
      · have k1b : (b0 == 1) = false := beq_eq_false_iff_ne.mpr k1
        have k2b : (b0 == 2) = false := beq_eq_false_iff_ne.mpr HKB.out.1
        go_wp2
        go_roundg (gk - 1)
        case measure => have h1 := HI.out; have h2 := HII.out; omega
        case rel =>
          have h2 := HI.out
          have h3 := HII.out
          exact ⟨wrap64 (i + 1), rfl, ⟨by rw [HW.out]; omega, by rw [HW.out]; omega⟩, ⟨by rw [HW.out, show (i + 1).toNat = i.toNat + 1 by omega, HST.out]; simp only [lmStep, k1, if_false]; exact HM.out⟩, HB, HS7⟩
    · have hib : decide (i < (bs.length : Int)) = false := decide_eq_false hi
      have hjl : bs.take i.toNat = bs := List.take_of_length_le (by omega)
      have hm := HM.out
      rw [hjl] at hm
      have HM2 := Aside0.mk hm
      clear hm hjl
      go_wp2
      go_ret
      exact ⟨rfl, HM2.out, HB.out⟩
end Go.Proofs.Ytdndnjpfpelimaa.PG
