/- Function 14 copies blocks without constants into memory of its own. -/
import Derived.Test.YtdndnjpfpelimaaKC
import Derived.Test.YtdndnjpfpelimaaIns
import Derived.Test.YtdndnjpfpelimaaPGx0
import Derived.Test.YtdndnjpfpelimaaU
namespace Go.Proofs.Ytdndnjpfpelimaa.PG
open Go.RowKit Go.Proofs.YtdndnjpfpelimaaW.PrintWords Go.Proofs.YtdndnjpfpelimaaW.PrintLast Go.Proofs.YtdndnjpfpelimaaW.PrintMore
attribute [local go_sem] max2_int min2_int max_two min_two max_three min_three max_four min_four   -- for this text's walks alone
set_option linter.unusedVariables false
set_option linter.unusedSimpArgs false
attribute [local go_sem] run_store_complex
theorem size24 : (Try.prog.info? 24).map (·.size) = some 4 := by kernel_rfl
theorem size22 : (Try.prog.info? 22).map (·.size) = some 1 := by kernel_rfl
/-- No constant in any instruction. -/
def NoK (bs : List S37) : Prop := (∀ b ∈ bs, ∀ x ∈ b.f0, x.f6 = z29) ∧ bs.length < 1000 ∧ ∀ b ∈ bs, b.f0.length < 1000
def CopyOutC (nm : ByteArray) (p q : Int) (bs : List S37) (w : World) (e : Ending) (w' : World) : Prop := ∃ A' c', e = .returned (.agg #[.string nm, .int .i64 p, .int .i64 q, .slice A' bs.length bs.length]) ∧ bs.length ≤ c' ∧ Kd.N k37c 37 w' w.heap.size (fun k => w.heap.size + 2 ≤ k) (.slice A' bs.length c') bs ∧ Below w.heap.size w w'
def CopyOut (nm : ByteArray) (p q : Int) (bs : List S37) (w : World) (e : Ending) (w' : World) : Prop := ∃ A' c', e = .returned (.agg #[.string nm, .int .i64 p, .int .i64 q, .slice A' bs.length bs.length]) ∧ bs.length ≤ c' ∧ Kd.N k37 37 w' w.heap.size (fun k => w.heap.size + 2 ≤ k) (.slice A' bs.length c') bs ∧ Below w.heap.size w w'
set_option maxHeartbeats 4000000 in
set_option maxRecDepth 100000 in
theorem Copy_calls_c (A : Option Addr) (c : Nat) (bs : List S37) (nm : ByteArray) (p q : Int) (w : World) (hr : Kd.C k37 w A bs.length bs) (hc : bs.length ≤ c) (hk : NoK bs) :
    Calls Try.prog 14 #[.agg #[.string nm, .int .i64 p, .int .i64 q, .slice A bs.length c]] w (CopyOutC nm p q bs w) := by
  have HR := Aside0.mk hr
  have HC := Aside0.mk hc
  have HK := Aside0.mk hk
  clear hr hc hk
  have hu24 := Try.underlying24
  have hu37 := Try.underlying37
  have hu35 := Try.underlying35
  have hu32 := Try.underlying32
  go_enter Try.func14, Try.ntmps14
  go_wp2
  refine rebase (P := fun W_ => Code.wp _ _ _ _ W_) (fun W_ => W_.heap[w.heap.size]? = some (.cells #[.string nm, .int .i64 p, .int .i64 q, .slice A bs.length c] 24 (0, 0)) ∧ W_.heap[w.heap.size + 1]? = some (.cells #[.string (⟨#[]⟩ : ByteArray), .int .i64 0, .int .i64 0, .slice none 0 0] 24 (0, 0)) ∧ Below w.heap.size w W_ ∧ w.heap.size + 2 ≤ W_.heap.size) ⟨new12 _ _ _, new2 _ _ _, below_alloc (below_alloc (Below.refl _ _) _) _, by rw [World.size_alloc, World.size_alloc]; omega⟩ ?_
  rintro W1 ⟨h0, h1, hB, hs⟩
  have H0 := Aside0.mk h0
  have H1 := Aside0.mk h1
  have HB := Aside0.mk hB
  have HS := Aside0.mk hs
  clear h0 h1 hB hs
  go_loopg [3, 12] bs.length (fun kq v3 v12 w' => ∃ i : Int, v12 = .int .i64 i ∧ Aside0 (0 ≤ i ∧ i + kq = bs.length) ∧ Aside0 (w'.heap[w.heap.size]? = some (.cells #[.string nm, .int .i64 p, .int .i64 q, .slice A bs.length c] 24 (0, 0))) ∧ Aside0 (w'.heap[w.heap.size + 1]? = some (.cells #[.string (⟨#[]⟩ : ByteArray), .int .i64 0, .int .i64 0, .slice none 0 0] 24 (0, 0))) ∧ Aside0 (Below w.heap.size w w') ∧ Aside0 (w.heap.size + 2 ≤ w'.heap.size) ∧ Aside0 (Kd.N k37c 37 w' w.heap.size (fun k => w.heap.size + 2 ≤ k) v3 (bs.take i.toNat)))
  case atStart => exact ⟨0, rfl, ⟨by omega, by simp⟩, H0, H1, HB, HS, ⟨by simpa using Kd.N_nil k37c 37 W1 w.heap.size (fun k => w.heap.size + 2 ≤ k)⟩⟩
  case round =>
    clear H0 H1 HB HS
    obtain ⟨i, rfl, HI, H0, H1, HB, HS, HN⟩ := hrel
    obtain ⟨wo, rfl⟩ : ∃ wo : World, wo = wr := ⟨_, rfl⟩
    obtain ⟨ko, rfl⟩ : ∃ ko : Nat, ko = gk := ⟨_, rfl⟩
    by_cases hi : i < (bs.length : Int)
    · have hib : decide (i < (bs.length : Int)) = true := decide_eq_true hi
      have hi0 := HI.out.1
      obtain ⟨ad, A0, c0, rfl, hx0, hx1, hx2, hx3, hx4, hl0, hC0⟩ := at_T37 HR.out i hi0 hi
      have hbz : (∀ x ∈ (rd_T37 bs i).f0, x.f6 = z29) ∧ (rd_T37 bs i).f0.length < 1000 := by
        have hm : rd_T37 bs i ∈ bs := by
          unfold rd_T37
          rw [List.getD_eq_getElem?_getD, List.getElem?_eq_getElem (by omega)]
          exact List.getElem_mem _
        exact ⟨HK.out.1 _ hm, HK.out.2.2 _ hm⟩
      have hsnoc : bs.take (i.toNat + 1) = bs.take i.toNat ++ [rd_T37 bs i] := by
        have hlt : i.toNat < bs.length := by omega
        unfold rd_T37
        rw [List.take_succ_eq_append_getElem hlt, List.getD_eq_getElem?_getD, List.getElem?_eq_getElem hlt]
        rfl
      generalize rd_T37 bs i = b at hx0 hx1 hx2 hx3 hx4 hl0 hC0 hbz hsnoc
      obtain ⟨l, b0, b1, b2, b3⟩ := b
      dsimp only at hx0 hx1 hx2 hx3 hx4 hl0 hC0 hbz hsnoc
      have HL0 := Aside0.mk hl0
      have HC0 := Aside0.mk hC0
      have HBZ := Aside0.mk hbz
      have HSN := Aside0.mk hsnoc
      clear hl0 hC0 hbz hsnoc
      replace hx0 := (HB.out.cell (World.block_lt_of_cell? w _ hx0)).trans hx0
      replace hx1 := (HB.out.cell (World.block_lt_of_cell? w _ hx1)).trans hx1
      replace hx2 := (HB.out.cell (World.block_lt_of_cell? w _ hx2)).trans hx2
      replace hx3 := (HB.out.cell (World.block_lt_of_cell? w _ hx3)).trans hx3
      replace hx4 := (HB.out.cell (World.block_lt_of_cell? w _ hx4)).trans hx4
      replace hi := eq_true hi
      replace hi0 := eq_true hi0
      go_wp2
      refine rebase (P := fun W_ => Code.wp _ _ _ _ W_) (fun W_ => W_.heap[wo.heap.size]? = some (.cells #[.slice A0 l.length c0, .int .i64 b0, .int .i64 b1, .int .i64 b2, .int .i64 b3] 37 (0, 0)) ∧ Below wo.heap.size wo W_ ∧ wo.heap.size + 1 ≤ W_.heap.size) ⟨new1 _ _, below_alloc (Below.refl _ _) _, by rw [World.size_alloc]; exact Nat.le_refl _⟩ ?_
      rintro W2 ⟨g0, gB, gs⟩
      have G0 := Aside0.mk g0
      have GB := Aside0.mk gB
      have GS := Aside0.mk gs
      clear g0 gB gs hx0 hx1 hx2 hx3 hx4
      have HLn := Aside0.mk (below_size HB.out)
      go_loopg [6, 19] l.length (fun kq v6 v19 w' => ∃ j : Int, v19 = .int .i64 j ∧ Aside0 (0 ≤ j ∧ j + kq = l.length) ∧ Aside0 (w'.heap[wo.heap.size]? = some (.cells #[.slice A0 l.length c0, .int .i64 b0, .int .i64 b1, .int .i64 b2, .int .i64 b3] 37 (0, 0))) ∧ Aside0 (Below wo.heap.size wo w') ∧ Aside0 (wo.heap.size + 1 ≤ w'.heap.size) ∧ Aside0 (Kd.R k32 32 w' wo.heap.size (fun k => wo.heap.size + 1 ≤ k) v6 (l.take j.toNat)))
      case atStart => exact ⟨0, rfl, ⟨by omega, by simp⟩, G0, GB, GS, ⟨by simpa using Kd.R_nil k32 32 W2 wo.heap.size (fun k => wo.heap.size + 1 ≤ k)⟩⟩
      case round =>
        clear G0 GB GS
        obtain ⟨j, rfl, HJ, G0, GB, GS, GR⟩ := hrel
        by_cases hj : j < (l.length : Int)
        · have hjb : decide (j < (l.length : Int)) = true := decide_eq_true hj
          have hj0 := HJ.out.1
          obtain ⟨ad2, rfl, y0, y1, y2, y3, y4, y5, y6, y7, y8, y9, y10, y11⟩ := at_T32 HC0.out j hj0 hj
          have hxz : (rd_T32 l j).f6 = z29 := by
            refine HBZ.out.1 _ ?_
            unfold rd_T32
            rw [List.getD_eq_getElem?_getD, List.getElem?_eq_getElem (by omega)]
            exact List.getElem_mem _
          have hsn2 : l.take (j.toNat + 1) = l.take j.toNat ++ [rd_T32 l j] := by
            have hlt : j.toNat < l.length := by omega
            unfold rd_T32
            rw [List.take_succ_eq_append_getElem hlt, List.getD_eq_getElem?_getD, List.getElem?_eq_getElem hlt]
            rfl
          generalize rd_T32 l j = x at y0 y1 y2 y3 y4 y5 y6 y7 hxz hsn2
          obtain ⟨a0, a1, a2, a3, a4, a5, xz, a7⟩ := x
          dsimp only at y0 y1 y2 y3 y4 y5 y6 y7 hxz hsn2
          subst hxz
          have HSN2 := Aside0.mk hsn2
          clear hsn2
          have hWB := below_step HB.out GB.out
          simp only [z29] at y6 y7
          replace y0 := (hWB.cell (World.block_lt_of_cell? w _ y0)).trans y0
          replace y1 := (hWB.cell (World.block_lt_of_cell? w _ y1)).trans y1
          replace y2 := (hWB.cell (World.block_lt_of_cell? w _ y2)).trans y2
          replace y3 := (hWB.cell (World.block_lt_of_cell? w _ y3)).trans y3
          replace y4 := (hWB.cell (World.block_lt_of_cell? w _ y4)).trans y4
          replace y5 := (hWB.cell (World.block_lt_of_cell? w _ y5)).trans y5
          replace y6 := (hWB.cell (World.block_lt_of_cell? w _ y6)).trans y6
          replace y7 := (hWB.cell (World.block_lt_of_cell? w _ y7)).trans y7
          replace y8 := (hWB.cell (World.block_lt_of_cell? w _ y8)).trans y8
          replace y9 := (hWB.cell (World.block_lt_of_cell? w _ y9)).trans y9
          replace y10 := (hWB.cell (World.block_lt_of_cell? w _ y10)).trans y10
          replace y11 := (hWB.cell (World.block_lt_of_cell? w _ y11)).trans y11
          clear hWB
          replace hj := eq_true hj
          replace hj0 := eq_true hj0
          go_wp2_with (first | (go_at_call 24; refine (Ins_z a0 a1 a2 a3 a4 a5 _).mono ?_; rintro e w4 ⟨rfl, hb⟩; have G0b := Aside0.mk (blk_below (blk_alloc G0.out _) hb); have GBb := Aside0.mk (below_step (below_alloc GB.out _) hb); have GRb := Aside0.mk (Kd.R_below (Kd.R_alloc GR.out _) hb); have GSb : Aside0 (wo.heap.size + 1 ≤ w4.heap.size) := Aside0.mk (by have h1 := hb.size; rw [World.size_alloc] at h1; have h2 := GS.out; omega); clear hb) | ((with_reducible refine gate_builtin (b := .append) (xs := #[.tmp 23, .tmp 26]) rfl ?_); at_builtin; refine Kd.R_append k32 (w0 := wo) wo.heap.size rfl (.tmp 23) (.tmp 26) 33 32 (.agg #[.int .i64 0, .int .i64 0, .int .i64 0, .int .i64 0, .int .i64 0, .int .i64 0, .int .i64 0, .int .i64 0, .complex .f64 0 0, .string (⟨#[]⟩ : ByteArray), .slice none 0 0, .slice none 0 0]) 144 rfl Try.underlying33 info32 rfl (by decide) (by omega) u6 (l.take j.toNat) (⟨a0, a1, a2, a3, a4, a5, z29, a7⟩ : S32) [.int .i64 a0, .int .i64 a1, .int .i64 a2, .int .i64 a3, .int .i64 a4, .int .i64 a5, .int .i64 0, .int .i64 0, .complex .f64 0 0, .string (⟨#[]⟩ : ByteArray), .slice none 0 0, .slice none 0 0] (fun k => wo.heap.size + 1 ≤ k) (fun _ => False) rfl rfl (k32_mkM _ _ _ (⟨a0, a1, a2, a3, a4, a5, z29, a7⟩ : S32)) (fun _ hk => hk.elim) (fun k hk => Nat.le_trans GSb.out hk) GRb.out GBb.out GBb.out.size ?aL ?_; (case aL => have h1 := take_len_le l j.toNat; have h2 := HBZ.out.2; omega); intro v1 w5 ho hb hg hat; have G0c := Aside0.mk (blk_grown G0b.out hg (fun he => by have h1 := GRb.out.1 _ he.symm; omega)); have GBc := Aside0.mk hb; have GRc := Aside0.mk ho; have GSc : Aside0 (wo.heap.size + 1 ≤ w5.heap.size) := Aside0.mk (Nat.le_trans GSb.out hg.size); clear ho hb hg hat))
          go_roundg (gk - 1)
          case measure => have h1 := HJ.out; have h2 := of_eq_true hj; omega
          case rel =>
            have h1 := wrapS (HJ.out.1) (of_eq_true hj) (by have := HBZ.out.2; omega)
            have h2 := HJ.out
            have h3 := of_eq_true hj
            exact ⟨wrap64 (j + 1), rfl, ⟨by omega, by omega⟩, G0c, GBc, GSc, ⟨by rw [h1, show (j + 1).toNat = j.toNat + 1 by omega, HSN2.out]; exact GRc.out⟩⟩
        · have hjb : decide (j < (l.length : Int)) = false := decide_eq_false hj
          have hjl : l.take j.toNat = l := List.take_of_length_le (by omega)
          have GRl := Aside0.mk (hjl ▸ GR.out : k32.R 32 wr wo.heap.size (fun k => wo.heap.size + 1 ≤ k) u6 l)
          clear hjl
          obtain ⟨A6, c6, rfl⟩ := Kd.R_slice GRl.out
          have hc6 := Aside0.mk (Kd.R_reads' GRl.out).2.1
          have HBr := Aside0.mk (below_step HB.out GB.out)
          have H0r := Aside0.mk (blk_below H0.out GB.out)
          have H1r := Aside0.mk (blk_below H1.out GB.out)
          have HNr := Aside0.mk (Kd.N_below HN.out GB.out)
          have HNlt := Aside0.mk (Kd.N_lt HN.out)
          have HSr : Aside0 (w.heap.size + 2 ≤ wr.heap.size) := Aside0.mk (Nat.le_trans HS.out GB.out.size)
          go_wp2
          refine start_ (n := 9) (S := fun w' => w'.cell? ⟨wo.heap.size, 1, none⟩ = some (.int .i64 b0) ∧ w'.cell? ⟨wo.heap.size, 2, none⟩ = some (.int .i64 b1) ∧ w'.cell? ⟨wo.heap.size, 3, none⟩ = some (.int .i64 b2) ∧ w'.cell? ⟨wo.heap.size, 4, none⟩ = some (.int .i64 b3)) (ds := [6, 7]) #[false, false, false, false, false, false, false, false, false] (by kernel_rfl) rfl rfl ⟨blk_cell G0.out 1, blk_cell G0.out 2, blk_cell G0.out 3, blk_cell G0.out 4⟩ (fun hHeld => ?_)
          refine pure_ (i := 0) (N := some 29) (v := ?_) (a' := ?_) #[true, false, false, false, false, false, false, false, false] rfl rfl (by kernel_rfl) (fun _ _ _ h => h) (Or.inl ⟨by rfl, ?_⟩) ?_ ?_
          rotate_left
          · intro w'
            go_simp
            with_reducible rfl
          rotate_left
          · simp only [Act.put, List.setIfInBounds_toArray, List.set_cons_zero, List.set_cons_succ, i64_w, i32_w]
            rfl
          refine pure_ (i := 1) (N := some 30) (v := ?_) (a' := ?_) #[true, true, false, false, false, false, false, false, false] rfl rfl (by kernel_rfl) (fun _ _ _ h => h) (Or.inl ⟨by rfl, ?_⟩) ?_ ?_
          rotate_left
          · intro w'
            go_simp
            with_reducible rfl
          rotate_left
          · simp only [Act.put, List.setIfInBounds_toArray, List.set_cons_zero, List.set_cons_succ, i64_w, i32_w]
            rfl
          refine pure_ (i := 3) (N := some 32) (v := ?_) (a' := ?_) #[true, true, false, true, false, false, false, false, false] rfl rfl (by kernel_rfl) (fun _ _ _ h => h) (Or.inl ⟨by rfl, ?_⟩) ?_ ?_
          rotate_left
          · intro w'
            go_simp
            with_reducible rfl
          rotate_left
          · simp only [Act.put, List.setIfInBounds_toArray, List.set_cons_zero, List.set_cons_succ, i64_w, i32_w]
            rfl
          refine take_ (i := 4) (N := some 33) (v := ?_) (a' := ?_) #[true, true, false, true, true, false, false, false, false] rfl rfl (by kernel_rfl) (fun _ _ _ h => h) (Or.inl ⟨by rfl, ?_⟩) hHeld ?_ ?_
          rotate_left
          · rintro w' ⟨s1, s2, s3, s4⟩
            go_simp
            with_reducible rfl
          rotate_left
          · simp only [Act.put, List.setIfInBounds_toArray, List.set_cons_zero, List.set_cons_succ, i64_w, i32_w]
            rfl
          refine one_ (i := 2) (N := (some 31)) #[true, true, true, true, true, false, false, false, false] rfl rfl (by kernel_rfl) (by decide) (fun K hK => ?_)
          refine goes_ (f := 25) Try.func25 (by kernel_rfl) rfl #[.slice A6 l.length c6] (by rfl) rfl rfl (by (try simp only [List.map_toArray, List.map_cons, List.map_nil]); first | done | rfl) ?_
          refine (ClipIns A6 l.length c6 hc6.out _).mono ?_
          rintro e w' ⟨rfl, rfl⟩
          refine ⟨_, rfl, ?_⟩
          refine hK.out _ _ hHeld (fun hHeld => ?_)
          clear hK K
          refine norm_ (a' := ?_) ?_ ?_
          rotate_left
          · show Act.put _ (some 31) _ = _
            simp only [Act.put, List.setIfInBounds_toArray, List.set_cons_zero, List.set_cons_succ, i64_w, i32_w]
            rfl
          refine pure_ (i := 5) (N := some 34) (v := ?_) (a' := ?_) #[true, true, true, true, true, true, false, false, false] rfl rfl (by kernel_rfl) (fun _ _ _ h => h) (Or.inl ⟨by rfl, ?_⟩) ?_ ?_
          rotate_left
          · intro w'
            go_simp
            with_reducible rfl
          rotate_left
          · simp only [Act.put, List.setIfInBounds_toArray, List.set_cons_zero, List.set_cons_succ, i64_w, i32_w]
            rfl
          refine last_ (i := 6) (N := (some 35)) #[true, true, true, true, true, true, true, false, false] rfl rfl (by kernel_rfl) (by decide) (fun K hK => ?_)
          refine value_ (w1 := ?_) (v := ?_) (by rfl) rfl ?_ ?_
          rotate_left 2
          · go_simp
            constructor
            · rfl
            · rfl
          refine hK.out _ _ ?_
          clear hK K
          refine norm_ (a' := ?_) ?_ ?_
          rotate_left
          · show Act.put _ (some 35) _ = _
            simp only [Act.put, List.setIfInBounds_toArray, List.set_cons_zero, List.set_cons_succ, i64_w, i32_w]
            rfl
          refine last_ (i := 7) (N := (some 36)) #[true, true, true, true, true, true, true, true, false] rfl rfl (by kernel_rfl) (by decide) (fun K hK => ?_)
          refine Kd.N_append_step k37c (w0 := w) w.heap.size (by rfl) (.tmp 29) (.tmp 35) 22 37 (.agg #[.slice none 0 0, .int .i64 0, .int .i64 0, .int .i64 0, .int .i64 0]) 56 rfl Try.underlying22 info37 rfl (by decide) (by omega) u3 (bs.take i.toNat) (⟨l, ⟨b0, b1, b2, b3⟩⟩ : S37) [.slice A6 l.length l.length, .int .i64 b0, .int .i64 b1, .int .i64 b2, .int .i64 b3] (fun k => w.heap.size + 2 ≤ k) (fun k => wo.heap.size + 1 ≤ k) rfl rfl (k37c_mkF _ _ _ (Kd.F_drew (Kd.R_F GRl.out))) ?aP (fun k hk => Nat.le_trans (by have h1 := HS.out; have h2 := GS.out; exact Nat.le_trans h1 (Nat.le_of_succ_le h2)) hk) (Kd.N_drew HNr.out) (below_drew1 HBr.out) ?aS ?aL ?_
          (case aP => exact fun k hk => ⟨by have h1 := HS.out; omega, fun he => by have h1 := HNlt.out k he.symm; omega⟩)
          (case aS => exact HBr.out.size)
          (case aL => have h1 := take_len_le bs i.toNat; have h2 := HK.out.2.1; omega)
          intro v1 w5 ho hb hg hat
          have H0c := Aside0.mk (blk_grown (w := wr.drew) H0r.out hg (fun he => by have h1 := HN.out.1 _ he.symm; omega))
          have H1c := Aside0.mk (blk_grown (w := wr.drew) H1r.out hg (fun he => by have h1 := HN.out.1 _ he.symm; omega))
          have HBc := Aside0.mk hb
          have HNc := Aside0.mk ho
          have HSc : Aside0 (w.heap.size + 2 ≤ w5.heap.size) := Aside0.mk (Nat.le_trans HSr.out hg.size)
          clear ho hb hg hat
          refine hK.out _ _ ?_
          clear hK K
          refine norm_ (a' := ?_) ?_ ?_
          rotate_left
          · show Act.put _ (some 36) _ = _
            simp only [Act.put, List.setIfInBounds_toArray, List.set_cons_zero, List.set_cons_succ, i64_w, i32_w]
            rfl
          refine pure_ (i := 8) (N := some 3) (v := ?_) (a' := ?_) #[true, true, true, true, true, true, true, true, true] rfl rfl (by kernel_rfl) (fun _ _ _ h => h) (Or.inl ⟨by rfl, ?_⟩) ?_ ?_
          rotate_left
          · intro w'
            go_simp
            with_reducible rfl
          rotate_left
          · simp only [Act.put, List.setIfInBounds_toArray, List.set_cons_zero, List.set_cons_succ, i64_w, i32_w]
            rfl
          refine done_ (by kernel_rfl) ?_
          go_wp2
          go_roundg (ko - 1)
          case measure => have h1 := HI.out; have h2 := of_eq_true hi; omega
          case rel =>
            have h1 := wrapS (HI.out.1) (of_eq_true hi) (by have := HK.out.2.1; omega)
            have h2 := HI.out
            have h3 := of_eq_true hi
            exact ⟨wrap64 (i + 1), rfl, ⟨by omega, by omega⟩, H0c, H1c, HBc, HSc, ⟨by rw [h1, show (i + 1).toNat = i.toNat + 1 by omega, HSN.out]; exact HNc.out⟩⟩
    · have hib : decide (i < (bs.length : Int)) = false := decide_eq_false hi
      have hjl : bs.take i.toNat = bs := List.take_of_length_le (by omega)
      have HNl := Aside0.mk (hjl ▸ HN.out : Kd.N k37c 37 wo w.heap.size (fun k => w.heap.size + 2 ≤ k) u3 bs)
      clear hjl
      obtain ⟨A3, c3, rfl⟩ := Kd.N_slice HNl.out
      have hc3 := Aside0.mk (Kd.N_reads' HNl.out).2.1
      go_wp2_with (first | (go_at_call 26; refine (ClipBlk A3 bs.length c3 hc3.out _).mono ?_; rintro e w4 ⟨rfl, rfl⟩) | ((with_reducible refine gate_store (t := 22) (p := 40) (v := (.tmp 39)) rfl ?_); refine wpList_seg rfl 22 40 (.tmp 39) rfl rfl w.heap.size 3 _ [.slice A3 bs.length bs.length] rfl rfl rfl 24 #[.string nm, .int .i64 p, .int .i64 q, .slice A bs.length c] H0.out size22 (Nat.le_of_ble_eq_true rfl) rfl ?_; intro W3 hU_; have hU : Aside0 (Upd _ W3 w.heap.size #[.string nm, .int .i64 p, .int .i64 q, .slice A3 bs.length bs.length] 24) := Aside0.mk hU_; clear hU_; obtain ⟨x0, x1, x2, x3⟩ := box4 hU.out.blk; have H1u := Aside0.mk (hU.out.other H1.out (by omega))) | ((with_reducible refine gate_store (t := 24) (p := 2) (v := .tmp 41) rfl ?_); refine wpList_upd rfl 24 2 (.tmp 41) rfl rfl (w.heap.size + 1) #[.string nm, .int .i64 p, .int .i64 q, .slice A3 bs.length bs.length] rfl rfl 24 #[.string (⟨#[]⟩ : ByteArray), .int .i64 0, .int .i64 0, .slice none 0 0] H1u.out size24 rfl rfl ?_; intro W4 hV_; have hV := Aside0.mk hV_; clear hV_))
      refine bodyPost_ret (results_cell_row rfl _ _ (w.heap.size + 1) 24 _ (0, 0) _ rfl hV.out.blk Try.underlying24 rfl size24) rfl ?_
      refine ⟨A3, c3, rfl, hc3.out, ?_, hV.out.below (hU.out.below HB.out (Nat.le_refl _)) (by omega)⟩
      exact Kd.N_keep (Kd.N_keep HNl.out hU.out.keep (fun k hk => by omega)) hV.out.keep (fun k hk => by omega)
theorem Copy_calls (A : Option Addr) (c : Nat) (bs : List S37) (nm : ByteArray) (p q : Int) (w : World) (hr : Kd.C k37 w A bs.length bs) (hc : bs.length ≤ c) (hk : NoK bs) :
    Calls Try.prog 14 #[.agg #[.string nm, .int .i64 p, .int .i64 q, .slice A bs.length c]] w (CopyOut nm p q bs w) :=
  (Copy_calls_c A c bs nm p q w hr hc hk).mono fun e w' ⟨A', c', h1, h2, h3, h4⟩ => ⟨A', c', h1, h2, N_unclip h3, h4⟩
end Go.Proofs.Ytdndnjpfpelimaa.PG
