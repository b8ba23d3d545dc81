/- Function 8 turns each jump to the end of its chain. -/
import Derived.Test.YtdndnjpfpelimaaRow
import Derived.Test.YtdndnjpfpelimaaFinal
import Derived.Test.YtdndnjpfpelimaaPGx0
import Derived.Test.YtdndnjpfpelimaaU
namespace Go.Proofs.Ytdndnjpfpelimaa.PG
open Go.RowKit Go.Proofs.YtdndnjpfpelimaaW.PrintWords Go.Proofs.YtdndnjpfpelimaaW.PrintLast Go.Proofs.YtdndnjpfpelimaaW.PrintMore
attribute [local go_sem] max2_int min2_int max_two min_two max_three min_three max_four min_four   -- for this text's walks alone
set_option linter.unusedVariables false
set_option linter.unusedSimpArgs false
attribute [local go_sem] run_store_complex
/-- A block whose end leads where it leads at last. -/
def endOf (fin : Int → Int) (b : S37) : S37 :=
  if b.f1.f0 = 1 then ⟨b.f0, ⟨1, b.f1.f1, fin b.f1.f2, b.f1.f3⟩⟩
  else if b.f1.f0 = 2 then ⟨b.f0, ⟨1, 0, fin b.f1.f2, 0⟩⟩
  else b
def EndsOK (bs : List S37) (fin : Int → Int) : Prop := ∀ x : Int, 0 ≤ x → x < bs.length →
  ((rd_T37 bs x).f1.f0 = 1 → ∃ N, N < 1000 ∧ Leads bs N (rd_T37 bs x).f1.f2 (fin (rd_T37 bs x).f1.f2)) ∧
  ((rd_T37 bs x).f1.f0 = 2 → ∃ N N', N < 1000 ∧ N' < 1000 ∧ Leads bs N (rd_T37 bs x).f1.f2 (fin (rd_T37 bs x).f1.f2) ∧ Leads bs N' (rd_T37 bs x).f1.f3 (fin (rd_T37 bs x).f1.f2))
def mixed (fin : Int → Int) (bs : List S37) (i : Int) : List S37 := (bs.map (endOf fin)).take i.toNat ++ bs.drop i.toNat
theorem mixed_length (fin : Int → Int) (bs : List S37) (i : Int) (h : i ≤ bs.length) : (mixed fin bs i).length = bs.length := by
  simp [mixed]; omega
theorem mixed_at (fin : Int → Int) (bs : List S37) (i : Int) (h0 : 0 ≤ i) (h : i < bs.length) : (mixed fin bs i).getD i.toNat z37 = rd_T37 bs i := by
  have hlt : i.toNat < bs.length := by omega
  unfold mixed rd_T37
  rw [List.getD_eq_getElem?_getD, List.getD_eq_getElem?_getD, List.getElem?_append_right (by simp; omega), List.length_take, List.length_map, Nat.min_eq_left (by omega), Nat.sub_self, List.getElem?_drop, Nat.add_zero]
theorem mixed_set (fin : Int → Int) (bs : List S37) (i : Int) (h0 : 0 ≤ i) (h : i < bs.length) (x : S37) (hx : x = endOf fin (rd_T37 bs i)) : (mixed fin bs i).set i.toNat x = mixed fin bs (i + 1) := by
  have hlt : i.toNat < bs.length := by omega
  have h1 : (i + 1).toNat = i.toNat + 1 := by omega
  have hl : ((bs.map (endOf fin)).take i.toNat).length = i.toNat := by simp; omega
  unfold mixed
  rw [h1, List.set_append_right _ _ (by omega), hl, Nat.sub_self, List.take_succ_eq_append_getElem (by simpa using hlt), List.drop_eq_getElem_cons hlt]
  subst hx
  rw [List.set_cons_zero]
  simp [rd_T37, List.getD_eq_getElem?_getD, List.getElem?_eq_getElem hlt]
theorem mixed_skip (fin : Int → Int) (bs : List S37) (i : Int) (h0 : 0 ≤ i) (h : i < bs.length) (hx : endOf fin (rd_T37 bs i) = rd_T37 bs i) : mixed fin bs i = mixed fin bs (i + 1) := by
  rw [← mixed_set fin bs i h0 h _ rfl, hx, ← mixed_at fin bs i h0 h]
  have hlt : i.toNat < (mixed fin bs i).length := by rw [mixed_length _ _ _ (by omega)]; omega
  rw [List.getD_eq_getElem?_getD, List.getElem?_eq_getElem hlt]
  simp
theorem mixed_all (fin : Int → Int) (bs : List S37) (i : Int) (h : bs.length ≤ i) : mixed fin bs i = bs.map (endOf fin) := by
  unfold mixed
  rw [List.take_of_length_le (by simp; omega), List.drop_of_length_le (by omega), List.append_nil]
theorem set_at (xs : List S37) (x : S37) {n : Nat} (h : n < xs.length) : (xs.set n x).getD n z37 = x := by simp [List.getD_eq_getElem?_getD, h]
theorem mixed_none (fin : Int → Int) (bs : List S37) : mixed fin bs 0 = bs := by simp [mixed]
set_option maxHeartbeats 4000000 in
set_option maxRecDepth 100000 in
theorem Ends_calls (A : Option Addr) (c : Nat) (bs : List S37) (nm : ByteArray) (p q : Int) (fin : Int → Int) (w : World) (hr : Kd.C k37 w A bs.length bs) (hc : bs.length ≤ c) (hk : NoK bs) (he : EndsOK bs fin) (hp : 0 < bs.length) :
    Calls Try.prog 8 #[.agg #[.string nm, .int .i64 p, .int .i64 q, .slice A bs.length c]] w (CopyOut nm p q (bs.map (endOf fin)) w) := by
  have HR := Aside0.mk hr
  have HC := Aside0.mk hc
  have HK := Aside0.mk hk
  have HE := Aside0.mk he
  have HP := Aside0.mk hp
  clear hr hc hk he hp
  have hu24 := Try.underlying24
  have hu37 := Try.underlying37
  have hu35 := Try.underlying35
  go_enter Try.func8, Try.ntmps8
  go_upto_region 1 with (fail)
  refine rebase (P := fun W_ => Code.wp _ _ _ _ W_) (fun W_ => W_.heap[w.heap.size]? = some (.cells #[.string nm, .int .i64 p, .int .i64 q, .slice A bs.length c] 24 (0, 0)) ∧ W_.heap[w.heap.size + 1]? = some (.cells #[.string (⟨#[]⟩ : ByteArray), .int .i64 0, .int .i64 0, .slice none 0 0] 24 (0, 0)) ∧ Below w.heap.size w W_ ∧ W_.heap.size = w.heap.size + 2) ⟨new12 _ _ _, new2 _ _ _, below_alloc (below_alloc (Below.refl _ _) _) _, by rw [World.size_alloc, World.size_alloc]⟩ ?_
  rintro W1 ⟨h0, h1, hB, hs⟩
  have H0 := Aside0.mk h0
  have H1 := Aside0.mk h1
  have HB := Aside0.mk hB
  have HS := Aside0.mk hs
  obtain ⟨f0, f1, f2, f3⟩ := box4 h0
  clear h0 h1 hB hs
  go_wp2_with ((go_at_call 14; refine (Copy_calls A c bs nm p q _ (Kd.C_below HR.out HB.out) HC.out HK.out).mono ?_; rintro e w2 ⟨A2, c2, rfl, hc2, hN, hB⟩; have H0b := Aside0.mk (blk_below H0.out hB); have H1b := Aside0.mk (blk_below H1.out hB); have HBb := Aside0.mk (below_step HB.out hB); have HNb := Aside0.mk hN; have HSb := Aside0.mk hB.size; clear hc2 hN hB f0 f1 f2 f3))
  obtain ⟨g, cap, hA2, hg1, hg2, _⟩ := Kd.N_form HNb.out HP.out
  injection hA2 with hA2 _ _
  subst hA2
  have hgo := HNb.out.1 g (by simp [Value.ownBlock])
  refine rebase (P := fun W_ => Code.wp _ _ _ _ W_) (fun W_ => W_.heap[w.heap.size]? = some (.cells #[.string nm, .int .i64 p, .int .i64 q, .slice A bs.length c] 24 (0, 0)) ∧ W_.heap[w.heap.size + 1]? = some (.cells #[.string (⟨#[]⟩ : ByteArray), .int .i64 0, .int .i64 0, .slice none 0 0] 24 (0, 0)) ∧ W_.heap[w2.heap.size]? = some (.cells #[.string nm, .int .i64 p, .int .i64 q, .slice (some ⟨g, 0, none⟩) bs.length bs.length] 24 (0, 0)) ∧ Below w.heap.size w W_ ∧ Kd.N k37 37 W_ w.heap.size (fun k => w.heap.size + 2 ≤ k) (.slice (some ⟨g, 0, none⟩) bs.length c2) bs) ⟨blk_alloc H0b.out _, blk_alloc H1b.out _, new1 _ _, below_alloc HBb.out _, Kd.N_lower (Kd.N_mono (Kd.N_alloc HNb.out _) (fun k hk => by have h1 := HS.out; omega)) (by have h1 := HS.out; omega)⟩ ?_
  rintro W3 ⟨h0, h1, h3, hB, hN⟩
  have GG : Aside0 (w.heap.size + 4 ≤ g ∧ g < w2.heap.size) := ⟨by have h1 := HS.out; omega, hg2⟩
  have H03 := Aside0.mk h0
  have H13 := Aside0.mk h1
  have H33 := Aside0.mk h3
  have HB3 := Aside0.mk hB
  have HN3 := Aside0.mk hN
  clear h0 h1 h3 hB hN hg1 hg2 hgo H0b H1b HBb HNb HSb
  go_loopg [11] bs.length (fun kq v11 w' => ∃ i : Int, v11 = .int .i64 i ∧ Aside0 (0 ≤ i ∧ i + kq = bs.length) ∧ Aside0 (w'.heap[w.heap.size]? = some (.cells #[.string nm, .int .i64 p, .int .i64 q, .slice A bs.length c] 24 (0, 0))) ∧ Aside0 (w'.heap[w.heap.size + 1]? = some (.cells #[.string (⟨#[]⟩ : ByteArray), .int .i64 0, .int .i64 0, .slice none 0 0] 24 (0, 0))) ∧ Aside0 (w'.heap[w2.heap.size]? = some (.cells #[.string nm, .int .i64 p, .int .i64 q, .slice (some ⟨g, 0, none⟩) bs.length bs.length] 24 (0, 0))) ∧ Aside0 (Below w.heap.size w w') ∧ Aside0 (Kd.N k37 37 w' w.heap.size (fun k => w.heap.size + 2 ≤ k) (.slice (some ⟨g, 0, none⟩) bs.length c2) (mixed fin bs i)))
  case atStart => exact ⟨0, rfl, ⟨by omega, by simp⟩, H03, H13, H33, HB3, ⟨by rw [mixed_none]; exact HN3.out⟩⟩
  case round =>
    clear H03 H13 H33 HB3 HN3
    obtain ⟨i, rfl, HI, H0, H1, H3, HB, HN⟩ := hrel
    by_cases hi : i < (bs.length : Int)
    · have hib : decide (i < (bs.length : Int)) = true := decide_eq_true hi
      have hi0 := HI.out.1
      have hrow := row_at HN.out i hi0 hi (l := (rd_T37 bs i).f0) (t := (rd_T37 bs i).f1) (mixed_at fin bs i hi0 hi)
      have hat := mixed_at fin bs i hi0 hi
      have hEo := HE.out i hi0 hi
      have hms := mixed_set fin bs i hi0 hi
      have hmk := mixed_skip fin bs i hi0 hi
      generalize rd_T37 bs i = b at hrow hat hEo hms hmk
      obtain ⟨l, b0, b1, b2, b3⟩ := b
      dsimp only at hrow hat hEo hms hmk
      obtain ⟨A0, c0, hl0, hF0, hx0, hx1, hx2, hx3, hx4, hfr⟩ := hrow
      have hi0t := eq_true hi0
      have hi1t := eq_true hi
      have HAT := Aside0.mk hat
      have HFR := Aside0.mk hfr
      have HEO := Aside0.mk hEo
      have HMS := Aside0.mk hms
      have HMK := Aside0.mk hmk
      have HII := Aside0.mk hi
      have HW := Aside0.mk (wrapS hi0 hi (by have h1 := HK.out.2.1; omega))
      have hgl : g < wr.heap.size := World.block_lt_of_cell? wr _ hx0
      have hwl : w.heap.size < wr.heap.size := blk_lt H0.out
      have HG := Aside0.mk hgl
      have HWL := Aside0.mk hwl
      clear hat hfr hEo hms hmk hF0 hl0 hi hi0 hgl hwl
      obtain ⟨f0, f1, f2, f3⟩ := box4 H3.out
      obtain ⟨e0, e1, e2, e3⟩ := box4 H0.out
      go_upto_region 7 with (fail)
      by_cases k1 : b0 = 1
      · subst k1
        obtain ⟨N1, hN1, hL1⟩ := HEO.out.1 rfl
        have HN1 := Aside0.mk hN1
        have HL1 := Aside0.mk hL1
        clear hN1 hL1
        go_wp2
        refine start_ (n := 10) (S := fun w' => w'.cell? ⟨w.heap.size, 0, none⟩ = some (.string nm) ∧ w'.cell? ⟨w.heap.size, 1, none⟩ = some (.int .i64 p) ∧ w'.cell? ⟨w.heap.size, 2, none⟩ = some (.int .i64 q) ∧ w'.cell? ⟨w.heap.size, 3, none⟩ = some (.slice A bs.length c) ∧ w'.cell? ⟨g, i.toNat * 5 + 3, none⟩ = some (.int .i64 b2)) (ds := [9]) #[false, false, false, false, false, false, false, false, false, false] (by kernel_rfl) rfl rfl ⟨e0, e1, e2, e3, hx3⟩ (fun hHeld => ?_)
        refine pure_ (i := 0) (N := some 25) (v := ?_) (a' := ?_) #[true, false, false, false, false, false, false, false, false, false] rfl rfl (by kernel_rfl) (fun _ _ _ h => h) (Or.inl ⟨by rfl, ?_⟩) ?_ ?_
        rotate_left
        · intro w'
          go_simp
          with_reducible rfl
        rotate_left
        · simp only [Act.put, List.setIfInBounds_toArray, List.set_cons_zero, List.set_cons_succ, i64_w, i32_w]
          rfl
        refine pure_ (i := 2) (N := some 27) (v := ?_) (a' := ?_) #[true, false, true, false, false, false, false, false, false, false] rfl rfl (by kernel_rfl) (fun _ _ _ h => h) (Or.inl ⟨by rfl, ?_⟩) ?_ ?_
        rotate_left
        · intro w'
          go_simp
          with_reducible rfl
        rotate_left
        · simp only [Act.put, List.setIfInBounds_toArray, List.set_cons_zero, List.set_cons_succ, i64_w, i32_w]
          rfl
        refine pure_ (i := 3) (N := some 28) (v := ?_) (a' := ?_) #[true, false, true, true, false, false, false, false, false, false] rfl rfl (by kernel_rfl) (fun _ _ _ h => h) (Or.inl ⟨by rfl, ?_⟩) ?_ ?_
        rotate_left
        · intro w'
          go_simp
          with_reducible rfl
        rotate_left
        · simp only [Act.put, List.setIfInBounds_toArray, List.set_cons_zero, List.set_cons_succ, i64_w, i32_w]
          rfl
        refine pure_ (i := 4) (N := some 29) (v := ?_) (a' := ?_) #[true, false, true, true, true, false, false, false, false, false] rfl rfl (by kernel_rfl) (fun _ _ _ h => h) (Or.inl ⟨by rfl, ?_⟩) ?_ ?_
        rotate_left
        · intro w'
          go_simp
          with_reducible rfl
        rotate_left
        · simp only [Act.put, List.setIfInBounds_toArray, List.set_cons_zero, List.set_cons_succ, i64_w, i32_w]
          rfl
        refine take_ (i := 1) (N := some 26) (v := ?_) (a' := ?_) #[true, true, true, true, true, false, false, false, false, false] rfl rfl (by kernel_rfl) (fun _ _ _ h => h) (Or.inl ⟨by rfl, ?_⟩) hHeld ?_ ?_
        rotate_left
        · rintro w' ⟨s0, s1, s2, s3, s4⟩
          go_simp
          with_reducible rfl
        rotate_left
        · simp only [Act.put, List.setIfInBounds_toArray, List.set_cons_zero, List.set_cons_succ, i64_w, i32_w]
          rfl
        refine take_ (i := 5) (N := some 30) (v := ?_) (a' := ?_) #[true, true, true, true, true, true, false, false, false, false] rfl rfl (by kernel_rfl) (fun _ _ _ h => h) (Or.inl ⟨by rfl, ?_⟩) hHeld ?_ ?_
        rotate_left
        · rintro w' ⟨s0, s1, s2, s3, s4⟩
          go_simp
          with_reducible rfl
        rotate_left
        · simp only [Act.put, List.setIfInBounds_toArray, List.set_cons_zero, List.set_cons_succ, i64_w, i32_w]
          rfl
        refine one_ (i := 6) (N := (some 31)) #[true, true, true, true, true, true, true, false, false, false] rfl rfl (by kernel_rfl) (by decide) (fun K hK => ?_)
        refine goes_ (f := 13) Try.func13 (by kernel_rfl) rfl #[.agg #[.string nm, .int .i64 p, .int .i64 q, .slice A bs.length c], .int .i64 b2] (by rfl) rfl rfl (by (try simp only [List.map_toArray, List.map_cons, List.map_nil]); first | done | rfl) ?_
        refine (Final_calls A c bs nm p q b2 (fin b2) N1 _ (Kd.C_below HR.out (below_drew1 HB.out)) HC.out HK.out.2.1 HL1.out HN1.out).mono ?_
        rintro e w4 ⟨rfl, hb⟩
        refine ⟨_, rfl, ?_⟩
        have HBc := Aside0.mk (below_step (below_drew1 HB.out) hb)
        have HNc := Aside0.mk (Kd.N_below (Kd.N_drew HN.out) hb)
        have H0c := Aside0.mk (blk_below (w := wr.drew) H0.out hb)
        have H1c := Aside0.mk (blk_below (w := wr.drew) H1.out hb)
        have H3c := Aside0.mk (blk_below (w := wr.drew) H3.out hb)
        have y3 : w4.cell? ⟨g, i.toNat * 5 + 3, none⟩ = some (.int .i64 b2) := (hb.cell (p := ⟨g, i.toNat * 5 + 3, none⟩) HG.out).trans hx3
        have y3f : w4.frozen? ⟨g, i.toNat * 5 + 3, none⟩ = false := (hb.frozen (p := ⟨g, i.toNat * 5 + 3, none⟩) HG.out).trans (HFR.out 3)
        refine hK.out _ _ ⟨(hb.cell (p := ⟨w.heap.size, 0, none⟩) HWL.out).trans e0, (hb.cell (p := ⟨w.heap.size, 1, none⟩) HWL.out).trans e1, (hb.cell (p := ⟨w.heap.size, 2, none⟩) HWL.out).trans e2, (hb.cell (p := ⟨w.heap.size, 3, none⟩) HWL.out).trans e3, y3⟩ (fun hHeld => ?_)
        clear hK K
        refine norm_ (a' := ?_) ?_ ?_
        rotate_left
        · show Act.put _ (some 31) _ = _
          simp only [Act.put, List.setIfInBounds_toArray, List.set_cons_zero, List.set_cons_succ, i64_w, i32_w]
          rfl
        refine pure_ (i := 7) (N := some 32) (v := ?_) (a' := ?_) #[true, true, true, true, true, true, true, true, false, false] rfl rfl (by kernel_rfl) (fun _ _ _ h => h) (Or.inl ⟨by rfl, ?_⟩) ?_ ?_
        rotate_left
        · intro w'
          go_simp
          with_reducible rfl
        rotate_left
        · simp only [Act.put, List.setIfInBounds_toArray, List.set_cons_zero, List.set_cons_succ, i64_w, i32_w]
          rfl
        refine pure_ (i := 8) (N := some 33) (v := ?_) (a' := ?_) #[true, true, true, true, true, true, true, true, true, false] rfl rfl (by kernel_rfl) (fun _ _ _ h => h) (Or.inl ⟨by rfl, ?_⟩) ?_ ?_
        rotate_left
        · intro w'
          go_simp
          with_reducible rfl
        rotate_left
        · simp only [Act.put, List.setIfInBounds_toArray, List.set_cons_zero, List.set_cons_succ, i64_w, i32_w]
          rfl
        refine last_ (i := 9) (N := none) #[true, true, true, true, true, true, true, true, true, true] rfl rfl (by kernel_rfl) (by decide) (fun K hK => ?_)
        refine skip_ (w1 := ?_) (by rfl) rfl ?_ ?_
        rotate_left
        · go_simp
          rfl
        refine hK.out _ _ ?_
        clear hK K
        refine done_ (by kernel_rfl) ?_
        go_wp2
        go_roundg (gk - 1)
        case measure => have h1 := HI.out; have h2 := HII.out; omega
        case rel =>
          have h2 := HI.out
          have h3 := HII.out
          have hne : ∀ k, k < w.heap.size + 2 ∨ k = w2.heap.size → k ≠ g := fun k hk => by have h4 := GG.out; omega
          exact ⟨wrap64 (i + 1), rfl, ⟨by rw [HW.out]; omega, by rw [HW.out]; omega⟩, ⟨blk_far H0c.out (hne _ (Or.inl (by omega))) _⟩, ⟨blk_far H1c.out (hne _ (Or.inl (by omega))) _⟩, ⟨blk_far H3c.out (hne _ (Or.inr rfl)) _⟩, ⟨below_set HBc.out (by have h4 := GG.out; omega)⟩, ⟨by rw [HW.out, ← HMS.out ⟨l, ⟨1, b1, fin b2, b3⟩⟩ (by simp [endOf])]; exact row_to HNc.out i (of_eq_true hi0t) (of_eq_true hi1t) HAT.out (fin b2)⟩⟩
      · have k1b : (b0 == 1) = false := beq_eq_false_iff_ne.mpr k1
        by_cases k2 : b0 = 2
        · subst k2
          obtain ⟨N1, N2, hN1, hN2, hL1, hL2⟩ := HEO.out.2 rfl
          have HN1 := Aside0.mk hN1
          have HN2 := Aside0.mk hN2
          have HL1 := Aside0.mk hL1
          have HL2 := Aside0.mk hL2
          clear hN1 hN2 hL1 hL2
          go_wp2
          refine start_ (n := 20) (S := fun w' => w'.cell? ⟨w.heap.size, 0, none⟩ = some (.string nm) ∧ w'.cell? ⟨w.heap.size, 1, none⟩ = some (.int .i64 p) ∧ w'.cell? ⟨w.heap.size, 2, none⟩ = some (.int .i64 q) ∧ w'.cell? ⟨w.heap.size, 3, none⟩ = some (.slice A bs.length c) ∧ w'.cell? ⟨g, i.toNat * 5 + 3, none⟩ = some (.int .i64 b2) ∧ w'.cell? ⟨g, i.toNat * 5 + 4, none⟩ = some (.int .i64 b3)) (ds := [16, 19]) #[false, false, false, false, false, false, false, false, false, false, false, false, false, false, false, false, false, false, false, false] (by kernel_rfl) rfl rfl ⟨e0, e1, e2, e3, hx3, hx4⟩ (fun hHeld => ?_)
          refine pure_ (i := 0) (N := some 36) (v := ?_) (a' := ?_) #[true, false, false, false, false, false, false, false, false, false, false, false, false, false, false, false, false, false, false, false] rfl rfl (by kernel_rfl) (fun _ _ _ h => h) (Or.inl ⟨by rfl, ?_⟩) ?_ ?_
          rotate_left
          · intro w'
            go_simp
            with_reducible rfl
          rotate_left
          · simp only [Act.put, List.setIfInBounds_toArray, List.set_cons_zero, List.set_cons_succ, i64_w, i32_w]
            rfl
          refine pure_ (i := 1) (N := some 37) (v := ?_) (a' := ?_) #[true, true, false, false, false, false, false, false, false, false, false, false, false, false, false, false, false, false, false, false] rfl rfl (by kernel_rfl) (fun _ _ _ h => h) (Or.inl ⟨by rfl, ?_⟩) ?_ ?_
          rotate_left
          · intro w'
            go_simp
            with_reducible rfl
          rotate_left
          · simp only [Act.put, List.setIfInBounds_toArray, List.set_cons_zero, List.set_cons_succ, i64_w, i32_w]
            rfl
          refine pure_ (i := 3) (N := some 39) (v := ?_) (a' := ?_) #[true, true, false, true, false, false, false, false, false, false, false, false, false, false, false, false, false, false, false, false] rfl rfl (by kernel_rfl) (fun _ _ _ h => h) (Or.inl ⟨by rfl, ?_⟩) ?_ ?_
          rotate_left
          · intro w'
            go_simp
            with_reducible rfl
          rotate_left
          · simp only [Act.put, List.setIfInBounds_toArray, List.set_cons_zero, List.set_cons_succ, i64_w, i32_w]
            rfl
          refine pure_ (i := 4) (N := some 40) (v := ?_) (a' := ?_) #[true, true, false, true, true, false, false, false, false, false, false, false, false, false, false, false, false, false, false, false] rfl rfl (by kernel_rfl) (fun _ _ _ h => h) (Or.inl ⟨by rfl, ?_⟩) ?_ ?_
          rotate_left
          · intro w'
            go_simp
            with_reducible rfl
          rotate_left
          · simp only [Act.put, List.setIfInBounds_toArray, List.set_cons_zero, List.set_cons_succ, i64_w, i32_w]
            rfl
          refine pure_ (i := 5) (N := some 41) (v := ?_) (a' := ?_) #[true, true, false, true, true, true, false, false, false, false, false, false, false, false, false, false, false, false, false, false] rfl rfl (by kernel_rfl) (fun _ _ _ h => h) (Or.inl ⟨by rfl, ?_⟩) ?_ ?_
          rotate_left
          · intro w'
            go_simp
            with_reducible rfl
          rotate_left
          · simp only [Act.put, List.setIfInBounds_toArray, List.set_cons_zero, List.set_cons_succ, i64_w, i32_w]
            rfl
          refine pure_ (i := 9) (N := some 45) (v := ?_) (a' := ?_) #[true, true, false, true, true, true, false, false, false, true, false, false, false, false, false, false, false, false, false, false] rfl rfl (by kernel_rfl) (fun _ _ _ h => h) (Or.inl ⟨by rfl, ?_⟩) ?_ ?_
          rotate_left
          · intro w'
            go_simp
            with_reducible rfl
          rotate_left
          · simp only [Act.put, List.setIfInBounds_toArray, List.set_cons_zero, List.set_cons_succ, i64_w, i32_w]
            rfl
          refine pure_ (i := 10) (N := some 46) (v := ?_) (a' := ?_) #[true, true, false, true, true, true, false, false, false, true, true, false, false, false, false, false, false, false, false, false] rfl rfl (by kernel_rfl) (fun _ _ _ h => h) (Or.inl ⟨by rfl, ?_⟩) ?_ ?_
          rotate_left
          · intro w'
            go_simp
            with_reducible rfl
          rotate_left
          · simp only [Act.put, List.setIfInBounds_toArray, List.set_cons_zero, List.set_cons_succ, i64_w, i32_w]
            rfl
          refine pure_ (i := 11) (N := some 47) (v := ?_) (a' := ?_) #[true, true, false, true, true, true, false, false, false, true, true, true, false, false, false, false, false, false, false, false] rfl rfl (by kernel_rfl) (fun _ _ _ h => h) (Or.inl ⟨by rfl, ?_⟩) ?_ ?_
          rotate_left
          · intro w'
            go_simp
            with_reducible rfl
          rotate_left
          · simp only [Act.put, List.setIfInBounds_toArray, List.set_cons_zero, List.set_cons_succ, i64_w, i32_w]
            rfl
          refine take_ (i := 2) (N := some 38) (v := ?_) (a' := ?_) #[true, true, true, true, true, true, false, false, false, true, true, true, false, false, false, false, false, false, false, false] rfl rfl (by kernel_rfl) (fun _ _ _ h => h) (Or.inl ⟨by rfl, ?_⟩) hHeld ?_ ?_
          rotate_left
          · rintro w' ⟨s0, s1, s2, s3, s4, s5⟩
            go_simp
            with_reducible rfl
          rotate_left
          · simp only [Act.put, List.setIfInBounds_toArray, List.set_cons_zero, List.set_cons_succ, i64_w, i32_w]
            rfl
          refine take_ (i := 6) (N := some 42) (v := ?_) (a' := ?_) #[true, true, true, true, true, true, true, false, false, true, true, true, false, false, false, false, false, false, false, false] rfl rfl (by kernel_rfl) (fun _ _ _ h => h) (Or.inl ⟨by rfl, ?_⟩) hHeld ?_ ?_
          rotate_left
          · rintro w' ⟨s0, s1, s2, s3, s4, s5⟩
            go_simp
            with_reducible rfl
          rotate_left
          · simp only [Act.put, List.setIfInBounds_toArray, List.set_cons_zero, List.set_cons_succ, i64_w, i32_w]
            rfl
          refine take_ (i := 8) (N := some 44) (v := ?_) (a' := ?_) #[true, true, true, true, true, true, true, false, true, true, true, true, false, false, false, false, false, false, false, false] rfl rfl (by kernel_rfl) (fun _ _ _ h => h) (Or.inl ⟨by rfl, ?_⟩) hHeld ?_ ?_
          rotate_left
          · rintro w' ⟨s0, s1, s2, s3, s4, s5⟩
            go_simp
            with_reducible rfl
          rotate_left
          · simp only [Act.put, List.setIfInBounds_toArray, List.set_cons_zero, List.set_cons_succ, i64_w, i32_w]
            rfl
          refine take_ (i := 12) (N := some 48) (v := ?_) (a' := ?_) #[true, true, true, true, true, true, true, false, true, true, true, true, true, false, false, false, false, false, false, false] rfl rfl (by kernel_rfl) (fun _ _ _ h => h) (Or.inl ⟨by rfl, ?_⟩) hHeld ?_ ?_
          rotate_left
          · rintro w' ⟨s0, s1, s2, s3, s4, s5⟩
            go_simp
            with_reducible rfl
          rotate_left
          · simp only [Act.put, List.setIfInBounds_toArray, List.set_cons_zero, List.set_cons_succ, i64_w, i32_w]
            rfl
          refine one_ (i := 7) (N := (some 43)) #[true, true, true, true, true, true, true, true, true, true, true, true, true, false, false, false, false, false, false, false] rfl rfl (by kernel_rfl) (by decide) (fun K hK => ?_)
          refine goes_ (f := 13) Try.func13 (by kernel_rfl) rfl #[.agg #[.string nm, .int .i64 p, .int .i64 q, .slice A bs.length c], .int .i64 b2] (by rfl) rfl rfl (by (try simp only [List.map_toArray, List.map_cons, List.map_nil]); first | done | rfl) ?_
          refine (Final_calls A c bs nm p q b2 (fin b2) N1 _ (Kd.C_below HR.out (below_drew1 HB.out)) HC.out HK.out.2.1 HL1.out HN1.out).mono ?_
          rintro e w4 ⟨rfl, hb⟩
          refine ⟨_, rfl, ?_⟩
          have HBc := Aside0.mk (below_step (below_drew1 HB.out) hb)
          have HNc := Aside0.mk (Kd.N_below (Kd.N_drew HN.out) hb)
          have H0c := Aside0.mk (blk_below (w := wr.drew) H0.out hb)
          have H1c := Aside0.mk (blk_below (w := wr.drew) H1.out hb)
          have H3c := Aside0.mk (blk_below (w := wr.drew) H3.out hb)
          have HGc : Aside0 (g < w4.heap.size) := Aside0.mk (Nat.lt_of_lt_of_le HG.out hb.size)
          have HWLc : Aside0 (w.heap.size < w4.heap.size) := Aside0.mk (Nat.lt_of_lt_of_le HWL.out hb.size)
          refine hK.out _ _ ⟨(hb.cell (p := ⟨w.heap.size, 0, none⟩) HWL.out).trans e0, (hb.cell (p := ⟨w.heap.size, 1, none⟩) HWL.out).trans e1, (hb.cell (p := ⟨w.heap.size, 2, none⟩) HWL.out).trans e2, (hb.cell (p := ⟨w.heap.size, 3, none⟩) HWL.out).trans e3, (hb.cell (p := ⟨g, i.toNat * 5 + 3, none⟩) HG.out).trans hx3, (hb.cell (p := ⟨g, i.toNat * 5 + 4, none⟩) HG.out).trans hx4⟩ (fun hHeld => ?_)
          clear hK K
          refine norm_ (a' := ?_) ?_ ?_
          rotate_left
          · show Act.put _ (some 43) _ = _
            simp only [Act.put, List.setIfInBounds_toArray, List.set_cons_zero, List.set_cons_succ, i64_w, i32_w]
            rfl
          refine one_ (i := 13) (N := (some 49)) #[true, true, true, true, true, true, true, true, true, true, true, true, true, true, false, false, false, false, false, false] rfl rfl (by kernel_rfl) (by decide) (fun K hK => ?_)
          refine goes_ (f := 13) Try.func13 (by kernel_rfl) rfl #[.agg #[.string nm, .int .i64 p, .int .i64 q, .slice A bs.length c], .int .i64 b3] (by rfl) rfl rfl (by (try simp only [List.map_toArray, List.map_cons, List.map_nil]); first | done | rfl) ?_
          refine (Final_calls A c bs nm p q b3 (fin b2) N2 _ (Kd.C_below HR.out HBc.out) HC.out HK.out.2.1 HL2.out HN2.out).mono ?_
          rintro e w5 ⟨rfl, hb⟩
          refine ⟨_, rfl, ?_⟩
          have HBd := Aside0.mk (below_step (HBc.out) hb)
          have HNd := Aside0.mk (Kd.N_below (HNc.out) hb)
          have H0d := Aside0.mk (blk_below (w := w4) H0c.out hb)
          have H1d := Aside0.mk (blk_below (w := w4) H1c.out hb)
          have H3d := Aside0.mk (blk_below (w := w4) H3c.out hb)
          have HGd : Aside0 (g < w5.heap.size) := Aside0.mk (Nat.lt_of_lt_of_le HGc.out hb.size)
          have HWLd : Aside0 (w.heap.size < w5.heap.size) := Aside0.mk (Nat.lt_of_lt_of_le HWLc.out hb.size)
          have y3 : w5.cell? ⟨g, i.toNat * 5 + 3, none⟩ = some (.int .i64 b2) := (hb.cell (p := ⟨g, i.toNat * 5 + 3, none⟩) HGc.out).trans hHeld.2.2.2.2.1
          have y4 : w5.cell? ⟨g, i.toNat * 5 + 4, none⟩ = some (.int .i64 b3) := (hb.cell (p := ⟨g, i.toNat * 5 + 4, none⟩) HGc.out).trans hHeld.2.2.2.2.2
          refine hK.out _ _ ⟨(hb.cell (p := ⟨w.heap.size, 0, none⟩) HWLc.out).trans hHeld.1, (hb.cell (p := ⟨w.heap.size, 1, none⟩) HWLc.out).trans hHeld.2.1, (hb.cell (p := ⟨w.heap.size, 2, none⟩) HWLc.out).trans hHeld.2.2.1, (hb.cell (p := ⟨w.heap.size, 3, none⟩) HWLc.out).trans hHeld.2.2.2.1, y3, y4⟩ (fun hHeld => ?_)
          clear hK K
          refine norm_ (a' := ?_) ?_ ?_
          rotate_left
          · show Act.put _ (some 49) _ = _
            simp only [Act.put, List.setIfInBounds_toArray, List.set_cons_zero, List.set_cons_succ, i64_w, i32_w]
            rfl
          refine pure_ (i := 14) (N := some 50) (v := ?_) (a' := ?_) #[true, true, true, true, true, true, true, true, true, true, true, true, true, true, true, false, false, false, false, false] rfl rfl (by kernel_rfl) (fun _ _ _ h => h) (Or.inl ⟨by rfl, ?_⟩) ?_ ?_
          rotate_left
          · intro w'
            go_simp
            with_reducible rfl
          rotate_left
          · simp only [Act.put, List.setIfInBounds_toArray, List.set_cons_zero, List.set_cons_succ, i64_w, i32_w]
            rfl
          refine pure_ (i := 15) (N := some 51) (v := ?_) (a' := ?_) #[true, true, true, true, true, true, true, true, true, true, true, true, true, true, true, true, false, false, false, false] rfl rfl (by kernel_rfl) (fun _ _ _ h => h) (Or.inl ⟨by rfl, ?_⟩) ?_ ?_
          rotate_left
          · intro w'
            go_simp
            with_reducible rfl
          rotate_left
          · simp only [Act.put, List.setIfInBounds_toArray, List.set_cons_zero, List.set_cons_succ, i64_w, i32_w]
            rfl
          obtain ⟨_, _, _, _, _, _, _, _, _, zfd⟩ := row_at HNd.out i (of_eq_true hi0t) (of_eq_true hi1t) HAT.out
          have zf3 := zfd 3
          refine last_ (i := 16) (N := none) #[true, true, true, true, true, true, true, true, true, true, true, true, true, true, true, true, true, false, false, false] rfl rfl (by kernel_rfl) (by decide) (fun K hK => ?_)
          refine skip_ (w1 := ?_) (by rfl) rfl ?_ ?_
          rotate_left
          · go_simp
            rfl
          refine hK.out _ _ ?_
          clear hK K
          clear hHeld zfd zf3 y3 y4
          have hne : ∀ k, k < w.heap.size + 2 ∨ k = w2.heap.size → k ≠ g := fun k hk => by have h4 := GG.out; omega
          refine rebase (P := fun W_ => wpAnyLast _ _ _ _ _ _ _ _ _ W_) (fun W_ => W_.heap[w.heap.size]? = some (.cells #[.string nm, .int .i64 p, .int .i64 q, .slice A bs.length c] 24 (0, 0)) ∧ W_.heap[w.heap.size + 1]? = some (.cells #[.string (⟨#[]⟩ : ByteArray), .int .i64 0, .int .i64 0, .slice none 0 0] 24 (0, 0)) ∧ W_.heap[w2.heap.size]? = some (.cells #[.string nm, .int .i64 p, .int .i64 q, .slice (some ⟨g, 0, none⟩) bs.length bs.length] 24 (0, 0)) ∧ Below w.heap.size w W_ ∧ Kd.N k37 37 W_ w.heap.size (fun k => w.heap.size + 2 ≤ k) (.slice (some ⟨g, 0, none⟩) bs.length c2) ((mixed fin bs i).set i.toNat ⟨l, ⟨2, b1, fin b2, b3⟩⟩)) ⟨blk_far H0d.out (hne _ (Or.inl (by omega))) _, blk_far H1d.out (hne _ (Or.inl (by omega))) _, blk_far H3d.out (hne _ (Or.inr rfl)) _, below_set HBd.out (by have h4 := GG.out; omega), row_to HNd.out i (of_eq_true hi0t) (of_eq_true hi1t) HAT.out (fin b2)⟩ ?_
          rintro w6 ⟨h0, h1, h3, hB, hN⟩
          have H0e := Aside0.mk h0
          have H1e := Aside0.mk h1
          have H3e := Aside0.mk h3
          have HBe := Aside0.mk hB
          have HNe := Aside0.mk hN
          have HATe : Aside0 (((mixed fin bs i).set i.toNat ⟨l, ⟨2, b1, fin b2, b3⟩⟩).getD i.toNat z37 = ⟨l, ⟨2, b1, fin b2, b3⟩⟩) := ⟨set_at _ _ (by rw [mixed_length _ _ _ (by have h1 := HII.out; omega)]; have h1 := HII.out; have h2 := of_eq_true hi0t; omega)⟩
          obtain ⟨_, _, _, _, _, z1e, z2e, z3e, z4e, zfe⟩ := row_at HNe.out i (of_eq_true hi0t) (of_eq_true hi1t) HATe.out
          clear h0 h1 h3 hB hN hne
          refine pure_ (i := 17) (N := some 52) (v := ?_) (a' := ?_) #[true, true, true, true, true, true, true, true, true, true, true, true, true, true, true, true, true, true, false, false] rfl rfl (by kernel_rfl) (fun _ _ _ h => h) (Or.inl ⟨by rfl, ?_⟩) ?_ ?_
          rotate_left
          · intro w'
            go_simp
            with_reducible rfl
          rotate_left
          · simp only [Act.put, List.setIfInBounds_toArray, List.set_cons_zero, List.set_cons_succ, i64_w, i32_w]
            rfl
          refine pure_ (i := 18) (N := some 53) (v := ?_) (a' := ?_) #[true, true, true, true, true, true, true, true, true, true, true, true, true, true, true, true, true, true, true, false] rfl rfl (by kernel_rfl) (fun _ _ _ h => h) (Or.inl ⟨by rfl, ?_⟩) ?_ ?_
          rotate_left
          · intro w'
            go_simp
            with_reducible rfl
          rotate_left
          · simp only [Act.put, List.setIfInBounds_toArray, List.set_cons_zero, List.set_cons_succ, i64_w, i32_w]
            rfl
          have zfe4 := zfe 4
          refine last_ (i := 19) (N := none) #[true, true, true, true, true, true, true, true, true, true, true, true, true, true, true, true, true, true, true, true] rfl rfl (by kernel_rfl) (by decide) (fun K hK => ?_)
          refine skip_ (w1 := ?_) (by rfl) rfl ?_ ?_
          rotate_left
          · go_simp
            rfl
          refine hK.out _ _ ?_
          clear hK K
          clear z1e z2e z3e z4e zfe zfe4
          have hne : ∀ k, k < w.heap.size + 2 ∨ k = w2.heap.size → k ≠ g := fun k hk => by have h4 := GG.out; omega
          refine rebase (P := fun W_ => wpAnyLast _ _ _ _ _ _ _ _ _ W_) (fun W_ => W_.heap[w.heap.size]? = some (.cells #[.string nm, .int .i64 p, .int .i64 q, .slice A bs.length c] 24 (0, 0)) ∧ W_.heap[w.heap.size + 1]? = some (.cells #[.string (⟨#[]⟩ : ByteArray), .int .i64 0, .int .i64 0, .slice none 0 0] 24 (0, 0)) ∧ W_.heap[w2.heap.size]? = some (.cells #[.string nm, .int .i64 p, .int .i64 q, .slice (some ⟨g, 0, none⟩) bs.length bs.length] 24 (0, 0)) ∧ Below w.heap.size w W_ ∧ Kd.N k37 37 W_ w.heap.size (fun k => w.heap.size + 2 ≤ k) (.slice (some ⟨g, 0, none⟩) bs.length c2) ((mixed fin bs i).set i.toNat ⟨l, ⟨2, b1, fin b2, fin b2⟩⟩)) ⟨blk_far H0e.out (hne _ (Or.inl (by omega))) _, blk_far H1e.out (hne _ (Or.inl (by omega))) _, blk_far H3e.out (hne _ (Or.inr rfl)) _, below_set HBe.out (by have h4 := GG.out; omega), by (have h9 := row_else HNe.out i (of_eq_true hi0t) (of_eq_true hi1t) HATe.out (fin b2); rwa [List.set_set] at h9)⟩ ?_
          rintro w7 ⟨h0, h1, h3, hB, hN⟩
          have H0h := Aside0.mk h0
          have H1h := Aside0.mk h1
          have H3h := Aside0.mk h3
          have HBh := Aside0.mk hB
          have HNh := Aside0.mk hN
          have HATh : Aside0 (((mixed fin bs i).set i.toNat ⟨l, ⟨2, b1, fin b2, fin b2⟩⟩).getD i.toNat z37 = ⟨l, ⟨2, b1, fin b2, fin b2⟩⟩) := ⟨set_at _ _ (by rw [mixed_length _ _ _ (by have h1 := HII.out; omega)]; have h1 := HII.out; have h2 := of_eq_true hi0t; omega)⟩
          obtain ⟨_, _, _, _, _, z1h, z2h, z3h, z4h, zfh⟩ := row_at HNh.out i (of_eq_true hi0t) (of_eq_true hi1t) HATh.out
          clear h0 h1 h3 hB hN hne
          refine done_ (by kernel_rfl) ?_
          go_wp2
          refine start_ (n := 9) (S := fun w' => w'.cell? ⟨g, i.toNat * 5 + 3, none⟩ = some (.int .i64 (fin b2)) ∧ w'.cell? ⟨g, i.toNat * 5 + 4, none⟩ = some (.int .i64 (fin b2))) (ds := []) #[false, false, false, false, false, false, false, false, false] (by kernel_rfl) rfl rfl ⟨z3h, z4h⟩ (fun hHeld => ?_)
          refine pure_ (i := 0) (N := some 54) (v := ?_) (a' := ?_) #[true, false, false, false, false, false, false, false, false] rfl rfl (by kernel_rfl) (fun _ _ _ h => h) (Or.inl ⟨by rfl, ?_⟩) ?_ ?_
          rotate_left
          · intro w'
            go_simp
            with_reducible rfl
          rotate_left
          · simp only [Act.put, List.setIfInBounds_toArray, List.set_cons_zero, List.set_cons_succ, i64_w, i32_w]
            rfl
          refine pure_ (i := 1) (N := some 55) (v := ?_) (a' := ?_) #[true, true, false, false, false, false, false, false, false] rfl rfl (by kernel_rfl) (fun _ _ _ h => h) (Or.inl ⟨by rfl, ?_⟩) ?_ ?_
          rotate_left
          · intro w'
            go_simp
            with_reducible rfl
          rotate_left
          · simp only [Act.put, List.setIfInBounds_toArray, List.set_cons_zero, List.set_cons_succ, i64_w, i32_w]
            rfl
          refine pure_ (i := 2) (N := some 56) (v := ?_) (a' := ?_) #[true, true, true, false, false, false, false, false, false] rfl rfl (by kernel_rfl) (fun _ _ _ h => h) (Or.inl ⟨by rfl, ?_⟩) ?_ ?_
          rotate_left
          · intro w'
            go_simp
            with_reducible rfl
          rotate_left
          · simp only [Act.put, List.setIfInBounds_toArray, List.set_cons_zero, List.set_cons_succ, i64_w, i32_w]
            rfl
          refine pure_ (i := 4) (N := some 58) (v := ?_) (a' := ?_) #[true, true, true, false, true, false, false, false, false] rfl rfl (by kernel_rfl) (fun _ _ _ h => h) (Or.inl ⟨by rfl, ?_⟩) ?_ ?_
          rotate_left
          · intro w'
            go_simp
            with_reducible rfl
          rotate_left
          · simp only [Act.put, List.setIfInBounds_toArray, List.set_cons_zero, List.set_cons_succ, i64_w, i32_w]
            rfl
          refine pure_ (i := 5) (N := some 59) (v := ?_) (a' := ?_) #[true, true, true, false, true, true, false, false, false] rfl rfl (by kernel_rfl) (fun _ _ _ h => h) (Or.inl ⟨by rfl, ?_⟩) ?_ ?_
          rotate_left
          · intro w'
            go_simp
            with_reducible rfl
          rotate_left
          · simp only [Act.put, List.setIfInBounds_toArray, List.set_cons_zero, List.set_cons_succ, i64_w, i32_w]
            rfl
          refine pure_ (i := 6) (N := some 60) (v := ?_) (a' := ?_) #[true, true, true, false, true, true, true, false, false] rfl rfl (by kernel_rfl) (fun _ _ _ h => h) (Or.inl ⟨by rfl, ?_⟩) ?_ ?_
          rotate_left
          · intro w'
            go_simp
            with_reducible rfl
          rotate_left
          · simp only [Act.put, List.setIfInBounds_toArray, List.set_cons_zero, List.set_cons_succ, i64_w, i32_w]
            rfl
          refine take_ (i := 3) (N := some 57) (v := ?_) (a' := ?_) #[true, true, true, true, true, true, true, false, false] rfl rfl (by kernel_rfl) (fun _ _ _ h => h) (Or.inl ⟨by rfl, ?_⟩) hHeld ?_ ?_
          rotate_left
          · rintro w' ⟨s0, s1⟩
            go_simp
            with_reducible rfl
          rotate_left
          · simp only [Act.put, List.setIfInBounds_toArray, List.set_cons_zero, List.set_cons_succ, i64_w, i32_w]
            rfl
          refine take_ (i := 7) (N := some 61) (v := ?_) (a' := ?_) #[true, true, true, true, true, true, true, true, false] rfl rfl (by kernel_rfl) (fun _ _ _ h => h) (Or.inl ⟨by rfl, ?_⟩) hHeld ?_ ?_
          rotate_left
          · rintro w' ⟨s0, s1⟩
            go_simp
            with_reducible rfl
          rotate_left
          · simp only [Act.put, List.setIfInBounds_toArray, List.set_cons_zero, List.set_cons_succ, i64_w, i32_w]
            rfl
          refine pure_ (i := 8) (N := some 62) (v := ?_) (a' := ?_) #[true, true, true, true, true, true, true, true, true] rfl rfl (by kernel_rfl) (fun _ _ _ h => h) (Or.inl ⟨by rfl, ?_⟩) ?_ ?_
          rotate_left
          · intro w'
            go_simp
            with_reducible rfl
          rotate_left
          · simp only [Act.put, List.setIfInBounds_toArray, List.set_cons_zero, List.set_cons_succ, i64_w, i32_w]
            rfl
          refine done_ (by kernel_rfl) ?_
          have HNi := Aside0.mk (Kd.N_drew HNh.out)
          have HOLD : Aside0 (∃ old, w7.drew.heap[g]? = some (.cells old 37 (0, 0)) ∧ i.toNat * 5 + 1 + 4 ≤ old.size) := ⟨row_typed HNi.out i (of_eq_true hi0t) (of_eq_true hi1t)⟩
          obtain ⟨old, hol⟩ := HOLD.out
          have HOL := Aside0.mk hol
          clear hol HOLD hHeld
          have z3i : w7.drew.cell? ⟨g, i.toNat * 5 + 3, none⟩ = some (.int .i64 (fin b2)) := z3h
          go_wp2_with ((with_reducible refine gate_store (t := 35) (p := 69) (v := .tmp 68) rfl ?_); refine wpList_cells rfl 35 69 (.tmp 68) rfl rfl g (i.toNat * 5 + 1) (.agg #[.int .i64 1, .int .i64 0, .int .i64 (fin b2), .int .i64 0]) [.int .i64 1, .int .i64 0, .int .i64 (fin b2), .int .i64 0] rfl rfl rfl 37 old HOL.out.1 size35 HOL.out.2 rfl ?_; intro w8 hw8; have HW8 := Aside0.mk hw8; clear hw8)
          go_roundg (gk - 1)
          case measure => have h1 := HI.out; have h2 := HII.out; omega
          case rel =>
            have h2 := HI.out
            have h3 := HII.out
            have hne : ∀ k, k < w.heap.size + 2 ∨ k = w2.heap.size → k ≠ g := fun k hk => by have h4 := GG.out; omega
            have hU := setCells_upd [.int .i64 1, .int .i64 0, .int .i64 (fin b2), .int .i64 0] w7.drew old (i.toNat * 5 + 1) HOL.out.1
            rw [← HW8.out] at hU
            have h9 := row_term HNi.out i (of_eq_true hi0t) (of_eq_true hi1t) HATh.out ⟨1, 0, fin b2, 0⟩
            rw [List.set_set, HMS.out ⟨l, ⟨1, 0, fin b2, 0⟩⟩ (by simp [endOf]), ← HW8.out] at h9
            exact ⟨wrap64 (i + 1), rfl, ⟨by rw [HW.out]; omega, by rw [HW.out]; omega⟩, ⟨hU.other H0h.out (hne _ (Or.inl (by omega)))⟩, ⟨hU.other H1h.out (hne _ (Or.inl (by omega)))⟩, ⟨hU.other H3h.out (hne _ (Or.inr rfl))⟩, ⟨hU.below (below_drew1 HBh.out) (by have h4 := GG.out; omega)⟩, ⟨by rw [HW.out]; exact h9⟩⟩
        · have k2b : (b0 == 2) = false := beq_eq_false_iff_ne.mpr k2
          go_wp2
          go_roundg (gk - 1)
          case measure => have h1 := HI.out; have h2 := HII.out; omega
          case rel =>
            have h2 := HI.out
            have h3 := HII.out
            exact ⟨wrap64 (i + 1), rfl, ⟨by rw [HW.out]; omega, by rw [HW.out]; omega⟩, H0, H1, H3, HB, ⟨by rw [HW.out, ← HMK.out (by simp [endOf, k1, k2])]; exact HN.out⟩⟩
    · have hib : decide (i < (bs.length : Int)) = false := decide_eq_false hi
      obtain ⟨f0, f1, f2, f3⟩ := box4 H3.out
      go_wp2_with ((with_reducible refine gate_store (t := 24) (p := 2) (v := .tmp 71) rfl ?_); refine wpList_upd rfl 24 2 (.tmp 71) rfl rfl (w.heap.size + 1) #[.string nm, .int .i64 p, .int .i64 q, .slice (some ⟨g, 0, none⟩) bs.length bs.length] rfl rfl 24 #[.string (⟨#[]⟩ : ByteArray), .int .i64 0, .int .i64 0, .slice none 0 0] H1.out size24 rfl rfl ?_; intro W4 hV_; have hV := Aside0.mk hV_; clear hV_)
      refine bodyPost_ret (results_cell_row rfl _ _ (w.heap.size + 1) 24 _ (0, 0) _ rfl hV.out.blk Try.underlying24 rfl size24) rfl ?_
      refine ⟨some ⟨g, 0, none⟩, c2, by rw [List.length_map], by rw [List.length_map]; exact (Kd.N_reads' HN.out).2.1, ?_, hV.out.below HB.out (by omega)⟩
      rw [List.length_map, ← mixed_all fin bs i (by omega)]
      exact Kd.N_keep HN.out hV.out.keep (fun k hk => by omega)
end Go.Proofs.Ytdndnjpfpelimaa.PG
