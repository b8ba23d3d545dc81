/- moves.Sequence, walked by hand. -/
import Derived.Test.YtcfomfcalpnbcaaSeqF
namespace Go.Proofs.Ytcfomfcalpnbcaa.PG
open Go.RowKit Go.Proofs.YtcfomfcalpnbcaaW.PrintWords Go.Proofs.YtcfomfcalpnbcaaW.PrintLast Go.Proofs.YtcfomfcalpnbcaaW.PrintMore
set_option linter.unusedVariables false
set_option linter.unusedSimpArgs false
def seqR9.T : Bool × List (List Nat × List Nat) := (true, [([], []), ([0], [0]), ([1], [1]), ([2], [2]), ([], []), ([4], [4]), ([], []), ([6], [6]), ([3, 5, 7, 0, 1, 2, 3, 4, 5, 6, 7], [3, 5, 7])])
def seqR9.B : List Nat := [0, 1, 3, 7, 0, 16, 0, 64, 255]
theorem seqR9.tab : rtab .any (opsOf Try.f9 9) = seqR9.T := by kernel_rfl
theorem seqR9.bits : waitsOk seqR9.T.2 seqR9.B = true := by kernel_rfl
def seqR10.T : Bool × List (List Nat × List Nat) := (true, [([], []), ([0], [0]), ([1], [1]), ([2], [2]), ([], []), ([4], [4]), ([3, 5], [3, 5]), ([6], [6]), ([3, 5, 7, 0, 1, 2, 3, 4, 5, 6, 7], [3, 5, 7])])
def seqR10.B : List Nat := [0, 1, 3, 7, 0, 16, 63, 127, 255]
theorem seqR10.tab : rtab .any (opsOf Try.f9 10) = seqR10.T := by kernel_rfl
theorem seqR10.bits : waitsOk seqR10.T.2 seqR10.B = true := by kernel_rfl
def pickV (l : List Value) : Nat → Value := fun i => l.getD i undef
theorem wp_scope_ghost {P : Program} {Q : Exit → Act → World → Prop} {a : Act} {w : World} {c rest : Code} (l : Nat) (hf : findLabel c l = some (Code.skip.seq rest)) (I : Nat → Act → World → Prop)
    (pass : ∀ n a w, I n a w → ∀ (J : Nat → Act → World → Prop) (K : Act → World → Prop), (∀ k a' w', I k a' w' → J k a' w') → (∀ a' w', Handed J n a' w' → K a' w') → rest.wp P (Exit.jump l K Q) a w)
    (first : ∀ (L K : Act → World → Prop), (∀ n a w, I n a w → L a w) → (∀ a w, L a w → rest.wp P (Exit.jump l K Q) a w) → c.wp P (Exit.jump l K Q) a w) : (Code.scope c).wp P Q a w := by
  have hl : ∀ a w, (∃ n, I n a w) → rest.wp P (Exit.jump l (fun a' w' => (∃ n, I n a' w') ∧ leastOf (fun n => I n a' w') < leastOf (fun n => I n a w)) Q) a w := by
    intro a w hI
    refine pass _ a w (leastOf_spec hI).1 (fun n a w => I n a w) _ (fun _ _ _ h => h) ?_
    rintro a' w' ⟨n', hlt, hI'⟩
    exact ⟨⟨n', hI'⟩, Nat.lt_of_le_of_lt ((leastOf_spec ⟨n', hI'⟩).2 n' hI') hlt⟩
  refine wp_scope_jumps l (fun a w => ∃ n, I n a w) (fun a w => leastOf (fun n => I n a w)) hf ?_ (fun a w h => wp_seq (wp_skip (hl a w h)))
  refine first (fun a w => ∃ n, I n a w) _ (fun n a w h => ⟨n, h⟩) (fun a w h => wp_mono (hl a w h) ?_)
  intro e a' w' hq
  cases e with
  | goto l' => exact ⟨hq.1, hq.2.1⟩
  | normal => exact hq
  | exit id => exact hq
  | ret => exact hq
  | panic ch => exact hq
  | outgrown => exact hq
set_option maxHeartbeats 8000000 in
set_option maxRecDepth 100000 in
theorem moves_Sequence.calls (k : Nat) (A0 : Option Addr) (c0 : Nat) (l0 : List S34) (sc : Int) (r : List S34) (w : World) (hr0 : Kd.C k34 w A0 l0.length l0) (hc0 : l0.length ≤ c0) (h : moves_Sequence.f k l0 sc = some r) :
    Calls Try.prog 9 #[.slice A0 l0.length c0, .int .i64 sc] w fun e w' => ∃ v0_ : Value, e = .returned v0_ ∧ Kd.V k34 34 w' w.heap.size (fun k_ => w.heap.size ≤ k_) v0_ r ∧ Below w.heap.size w w' := by
  have hmm := @run_makeMap Try.prog
  have hmf : ∀ (fn : Fn) (first cap : Array Value) (w : World), (Instr.makeFunc fn first cap).run Try.prog w = .ok (.func fn first cap) w := fun _ _ _ _ => rfl
  have hu34 := Try.underlying34
  have hu49 := Try.underlying49
  have HR0 := Aside0.mk hr0
  have HC0 := Aside0.mk hc0
  clear hr0 hc0
  replace h := Option.bind_eq_some_iff.mp h
  obtain ⟨may, hA, h⟩ := h
  have HA := Aside0.mk hA
  clear hA
  go_enter Try.func9, Try.ntmps9
  go_wp2
  refine rebase (P := fun W_ => Code.wp _ _ _ _ W_) (fun W_ => W_.heap[w.heap.size]? = some (.cells #[.int .i64 sc] 3 (0, 0)) ∧ Below w.heap.size w W_) ⟨blk_new w _, below_alloc (Below.refl _ _) _⟩ ?_
  rintro W ⟨hbx, hB0⟩
  have HBX := Aside0.mk hbx
  have HB0 := Aside0.mk hB0
  clear hbx hB0
  refine wp_scope_ghost 0 rfl (fun n a' w' => ∃ (g bF bN : Nat) (vO vR : Value) (mF mN : Mp) (out : List S34) (ready : List Int) (u : Nat → Value), Aside0 (seq2 n l0 sc mF mN ready out = some r) ∧ Aside0 (n ≤ k) ∧ Aside0 (St w w' w.heap.size g bF bN sc vO vR mF mN out ready) ∧ a' = { tmps := #[.slice A0 l0.length c0, .int .i64 sc, u 0, .pointer (some ⟨w.heap.size, 0, none⟩), u 1, .pointer (some ⟨g, 0, none⟩), vR, u 2, u 3, u 4, u 5, u 6, u 7, u 8, u 9, u 10, u 11, u 12, u 13, u 14, u 15, u 16, u 17, u 18, u 19, u 20, u 21, u 22, u 23, u 24, u 25, u 26, u 27, u 28, u 29, u 30, u 31, u 32, u 33, u 34, u 35, u 36, u 37, u 38, u 39, u 40, u 41, u 42, u 43, u 44, u 45, u 46, u 47, u 48, u 49, u 50, u 51, u 52, u 53, u 54, u 55, u 56, u 57, u 58, u 59, u 60, u 61, u 62, u 63, u 64, u 65, u 66, u 67, u 68, u 69, u 70, u 71, u 72, u 73, u 74, u 75, u 76, u 77, u 78, u 79, u 80, u 81, u 82, u 83, u 84, u 85, u 86, u 87, u 88, u 89, u 90, u 91, u 92, u 93, u 94, u 95, u 96, u 97, u 98, u 99, u 100, u 101, u 102, u 103, u 104, u 105, u 106, u 107, u 108, u 109, u 110, u 111, u 112, u 113, u 114, u 115, u 116, u 117, u 118, u 119, u 120, u 121, u 122, u 123, u 124, u 125, u 126, u 127, u 128, u 129, u 130, u 131, u 132, u 133, u 134, u 135, u 136, u 137, u 138, u 139, u 140, u 141, u 142, u 143, u 144, u 145, u 146, u 147, u 148, u 149, u 150, u 151, u 152, u 153, u 154, u 155, u 156, u 157, u 158, u 159, u 160, u 161, u 162, u 163, u 164, u 165, u 166, u 167, u 168, u 169, u 170, u 171, u 172, u 173, u 174, u 175, u 176, u 177, u 178, u 179, u 180, u 181, u 182, u 183, u 184, u 185, u 186, u 187, u 188, u 189, u 190, u 191, u 192, u 193, u 194], defers := [] }) ?_ ?_
  · rintro n _ wr0 ⟨g, bF, bN, vO0, vR0, mF0, mN0, out0, ready0, u, HA0, HKn, HS0, rfl⟩ J K hJ hK
    clear HBX HB0 HA h
    try go_wp2
    go_loopg [6] n (fun kq v6 w' => ∃ (vO : Value) (mF mN : Mp) (out : List S34) (ready : List Int), Aside0 (seq2 kq l0 sc mF mN ready out = some r) ∧ Aside0 (kq ≤ n) ∧ Aside0 (St w w' w.heap.size g bF bN sc vO v6 mF mN out ready))
    case atStart => exact ⟨_, _, _, _, _, HA0, ⟨Nat.le_refl _⟩, HS0⟩
    case round =>
      clear HA0 HS0
      obtain ⟨vO, mF, mN, out, ready, HA, HK1, HS⟩ := hrel
      cases gk with
      | zero => exact absurd HA.out (by simp [seq2])
      | succ k1 =>
        have H := HA.out
        clear HA
        simp only [seq2] at H
        obtain ⟨Ar, cr, er, her⟩ := Kd.Q_slice HS.out.hR
        subst er
        by_cases c1 : (ready.length : Int) > 0
        · rw [if_pos c1] at H
          have c1b : decide (0 < (ready.length : Int)) = true := decide_eq_true c1
          have c1d : decide ((ready.length : Int) > 0) = true := decide_eq_true c1
          by_cases c2 : wf64 (rd ready 0) = true
          · rw [if_pos c2] at H
            by_cases c3 : out.length < 1000000
            · rw [if_pos c3] at H
              by_cases c4 : mF.length < 1000000
              · rw [if_pos c4] at H
                by_cases c5 : mN.length < 1000000
                · rw [if_pos c5] at H
                  by_cases c6 : ready.length < 1000000
                  · rw [if_pos c6] at H
                    obtain ⟨ar, er, hr0⟩ := Kd.at_int (Kd.Q_reads' HS.out.hR).2.2 0 (by omega) (by omega)
                    subst er
                    rw [show ((0 : Int)).toNat = 0 from rfl, Addr.add_zero'] at hr0
                    have hw0 : wr.cell? ⟨g, 0, none⟩ = some (.map (some bF)) := (blk_cell HS.out.wk 0).trans rfl
                    obtain ⟨i0, hi, _, hsz, _⟩ := info_parts info3
                    have hcut := cut_from (P := Try.prog) 36 3 .i64 Try.underlying36 hi 1 hsz (some ar) ready.length cr 1 (by omega) (by omega)
                    have hdrop := Kd.Q_drop (k := 1) HS.out.hR (by omega)
                    obtain ⟨vq, hvq⟩ : ∃ vq, vq = Value.slice (if cr = 1 then some ar else Option.map (fun x => x.add (1 * (Kd.int IntKind.i64).sz)) (some ar)) (ready.length - 1) (cr - 1) := ⟨_, rfl⟩
                    have hcut' : ∀ W : World, (Instr.slice 36 (.slice (some ar) ready.length cr) (some (.int .i64 1)) none none).run Try.prog W = .ok vq W := fun W => by rw [hvq]; exact hcut W
                    rw [← hvq] at hdrop
                    clear hcut hvq
                    obtain ⟨hlk, hwfr⟩ := HS.out.hF.look (rd ready 0) c2
                    have c1e : decide ((0 : Int) < (ready.length : Int)) = true := decide_eq_true (by omega)
                    go_upto_region 23 with (fail)
                    generalize hfr : (mval mF (rd ready 0)).getD 0 = fr at *
                    have hSs := HS.out.swap hdrop
                    go_upto_region 24 with (go_at_call 18; refine (do_calls (rd ready 0) fr g bF bN vO out w _ hSs.wk hSs.hO hSs.below c3).mono ?_; rintro e w' ⟨W1, v', rfl, rfl, hgr, hO', hB', _⟩)
                    have hS2 := hSs.done hgr hO' hB'
                    revert hS2
                    generalize W1.setCell ⟨g, 2, none⟩ v' = W2
                    intro hS2
                    clear hgr hO' hB'
                    have hw0 : W2.cell? ⟨g, 0, none⟩ = some (.map (some bF)) := (blk_cell hS2.wk 0).trans rfl
                    obtain ⟨W3, hdel, hM3, hg3⟩ := hS2.hF.drop (rd ready 0) c2 0
                    have hS3 := hS2.putF hg3 hM3
                    go_upto_region 25 with (fail)
                    have hw1 : W3.cell? ⟨g, 1, none⟩ = some (.map (some bN)) := (blk_cell hS3.wk 1).trans rfl
                    obtain ⟨hlk3, _⟩ := hS3.hN.look fr hwfr
                    obtain ⟨W4, hst, hM4, hg4⟩ := hS3.hN.store fr (wrap64 ((mval mN fr).getD 0 - 1)) hwfr (wrap64_wf _) c5
                    have hS4 := hS3.putN hg4 hM4
                    go_upto_region 26 with (fail)
                    have hw0 : W4.cell? ⟨g, 0, none⟩ = some (.map (some bF)) := (blk_cell hS4.wk 0).trans rfl
                    have hw1 : W4.cell? ⟨g, 1, none⟩ = some (.map (some bN)) := (blk_cell hS4.wk 1).trans rfl
                    have hlk4 := (hS4.hN.look fr hwfr).1
                    rw [show (mval ((fr, some (wrap64 ((mval mN fr).getD 0 - 1))) :: mN) fr).getD 0 = wrap64 ((mval mN fr).getD 0 - 1) by simp [mval]] at hlk4
                    have hlk5 := hS4.hF.lookOk fr hwfr
                    by_cases c7 : wrap64 ((mval mN fr).getD 0 - 1) = 0
                    · have c7b : (wrap64 ((mval mN fr).getD 0 - 1) == 0) = true := beq_iff_eq.mpr c7
                      by_cases c8 : (mval ((rd ready 0, none) :: mF) fr).isSome = true
                      · rw [if_pos ⟨c8, c7⟩] at H
                        rw [c8] at hlk5
                        go_upto_region 29 with (fail)
                        have hbx4 := blk_lt hS4.box
                        have hrl : (ready.drop 1).length ≤ ready.length := by simp
                        go_wp2_with ((with_reducible refine gate_builtin (b := .append) (xs := #[.tmp 142, .tmp 144]) rfl ?_); (try (refine gate_guard (by rfl) ?_; dsimp only)); at_builtin; refine Kd.Q_append (Kd.int .i64) (w0 := w) w.heap.size rfl (.tmp 142) (.tmp 144) 36 3 (.int .i64 0) 8 rfl Try.underlying36 info3 rfl (by decide) (by omega) vq (ready.drop 1) fr [.int .i64 fr] (fun k_ => k_ ≠ w.heap.size) (fun _ => False) rfl rfl rfl (fun _ hk => hk.elim) (fun k_ hk => by omega) hS4.hR hS4.below hS4.below.size (by omega) ?_; intro v1 w1 ho hb hgr hat)
                        go_roundg k1
                        case measure => have := HK1.out; omega
                        case rel => exact ⟨_, _, _, _, _, ⟨H⟩, ⟨by have := HK1.out; omega⟩, ⟨hS4.push hgr ho hb⟩⟩
                      · rw [if_neg (fun hh => c8 hh.1)] at H
                        have c8b : (mval ((rd ready 0, none) :: mF) fr).isSome = false := by simpa using c8
                        rw [c8b] at hlk5
                        go_wp2
                        go_roundg k1
                        case measure => have := HK1.out; omega
                        case rel => exact ⟨_, _, _, _, _, ⟨H⟩, ⟨by have := HK1.out; omega⟩, ⟨hS4⟩⟩
                    · rw [if_neg (fun hh => c7 hh.2)] at H
                      have c7b : (wrap64 ((mval mN fr).getD 0 - 1) == 0) = false := beq_eq_false_iff_ne.mpr c7
                      go_wp2
                      go_roundg k1
                      case measure => have := HK1.out; omega
                      case rel => exact ⟨_, _, _, _, _, ⟨H⟩, ⟨by have := HK1.out; omega⟩, ⟨hS4⟩⟩
                  · rw [if_neg c6] at H
                    exact absurd H (by simp)
                · rw [if_neg c5] at H
                  exact absurd H (by simp)
              · rw [if_neg c4] at H
                exact absurd H (by simp)
            · rw [if_neg c3] at H
              exact absurd H (by simp)
          · rw [if_neg c2] at H
            exact absurd H (by simp)
        · rw [if_neg c1] at H
          have c1b : decide (0 < (ready.length : Int)) = false := decide_eq_false c1
          have c1d : decide ((ready.length : Int) > 0) = false := decide_eq_false c1
          have hr0 : ready = [] := List.length_eq_zero_iff.mp (by omega)
          subst hr0
          have H1 := Aside0.mk H
          clear H
          go_upto_region 31 with (fail)
          go_loopg [148] k1 (fun kq v148 w' => ∃ (i : Int), v148 = .int .i64 i ∧ Aside0 (seq3 kq l0 sc mF mN out i = some r) ∧ Aside0 (kq ≤ k1) ∧ Aside0 (St w w' w.heap.size g bF bN sc vO (.slice Ar ([] : List Int).length cr) mF mN out []))
          case atStart => exact ⟨0, rfl, H1, ⟨Nat.le_refl _⟩, HS⟩
          case round =>
            clear H1 HS c1 c1b c1d
            obtain ⟨i, rfl, HA, HK2, HS⟩ := hrel
            cases gk with
            | zero => exact absurd HA.out (by simp [seq3])
            | succ k2 =>
              have H := HA.out
              clear HA
              simp only [seq3] at H
              by_cases c1 : i < (l0.length : Int)
              · rw [if_pos c1] at H
                have c1b : decide (i < (l0.length : Int)) = true := decide_eq_true c1
                by_cases c2 : 0 ≤ i
                · rw [if_pos c2] at H
                  have c2b : decide (0 ≤ i) = true := decide_eq_true c2
                  by_cases c3 : wf64 (rd_T34 l0 i).f0 = true
                  · rw [if_pos c3] at H
                    by_cases c4 : out.length < 1000000
                    · rw [if_pos c4] at H
                      obtain ⟨ad, e0, hx0, hx1⟩ := at_T34 HR0.out i c2 c1
                      cases e0
                      replace hx0 := (HS.out.below.cell (World.block_lt_of_cell? w _ hx0)).trans hx0
                      replace hx1 := (HS.out.below.cell (World.block_lt_of_cell? w _ hx1)).trans hx1
                      replace c1 := eq_true c1
                      replace c2 := eq_true c2
                      have hgm : some wr.heap.size ≠ vO.ownBlock := fun e => by have := Kd.R_lt HS.out.hO _ e.symm; omega
                      go_upto_region 33 with (fail)
                      generalize hgm_ : wr.heap.size = gm at *
                      refine rebase (P := fun W_ => Code.wp _ _ _ _ W_) (fun W_ => W_.heap[gm]? = some (.cells #[.int .i64 (rd_T34 l0 i).f0, .int .i64 (rd_T34 l0 i).f1] 34 (0, 0)) ∧ St w W_ w.heap.size g bF bN sc vO (.slice Ar ([] : List Int).length cr) mF mN out []) ⟨by rw [← hgm_]; exact blk_new wr _, HS.out.alloc _⟩ ?_
                      rintro W4 ⟨hbk, hS4⟩
                      have hm0 : W4.cell? ⟨gm, 0, none⟩ = some (.int .i64 (rd_T34 l0 i).f0) := (blk_cell hbk 0).trans rfl
                      have hw0 : W4.cell? ⟨g, 0, none⟩ = some (.map (some bF)) := (blk_cell hS4.wk 0).trans rfl
                      have hlk := fun n => (hS4.drew n).hF.lookOk (rd_T34 l0 i).f0 c3
                      have hwfr := (hS4.hF.look (rd_T34 l0 i).f0 c3).2
                      by_cases c5 : (mval mF (rd_T34 l0 i).f0).isSome = true
                      · rw [if_pos c5] at H
                        simp only [c5] at hlk
                        go_quiet (fail)
                        go_upto_region 35 with (fail)
                        refine rebase (P := fun W_ => Code.wp _ _ _ _ W_) (fun W_ => W_.heap[gm]? = some (.cells #[.int .i64 (rd_T34 l0 i).f0, .int .i64 (rd_T34 l0 i).f1] 34 (0, 0)) ∧ St w W_ w.heap.size g bF bN sc vO (.slice Ar ([] : List Int).length cr) mF mN out []) ⟨blk_drewN hbk _, hS4.drew _⟩ ?_
                        rintro W5 ⟨hbk5, hS5⟩
                        have hm5 : W5.cell? ⟨gm, 0, none⟩ = some (.int .i64 (rd_T34 l0 i).f0) := (blk_cell hbk5 0).trans rfl
                        have hsc5 : W5.cell? ⟨w.heap.size, 0, none⟩ = some (.int .i64 sc) := (blk_cell hS5.box 0).trans rfl
                        go_upto_region 36 with (go_at_call 18; refine (do_calls sc (rd_T34 l0 i).f0 g bF bN vO out w _ hS5.wk hS5.hO hS5.below c4).mono ?_; rintro e w' ⟨W1, v', rfl, rfl, hgr, hO', hB', hat⟩)
                        have hS6 := hS5.done hgr hO' hB'
                        have hne6 : some gm ≠ v'.ownBlock := by
                          rcases hat with e | ⟨b, e, hb⟩
                          · rw [e]; exact hgm
                          · rw [e]; intro hh; have := blk_lt hbk5; have := Option.some.inj hh; omega
                        have hgg : gm ≠ g := blk_ne hbk5 hS5.wk (by decide)
                        have hbk6 := (Below.heap_setCell W1 ⟨g, 2, none⟩ v' gm hgg).trans (blk_grown hbk5 hgr hgm)
                        revert hS6 hbk6
                        generalize W1.setCell ⟨g, 2, none⟩ v' = W6
                        intro hS6 hbk6
                        clear hgr hO' hB' hat
                        have hm6 : W6.cell? ⟨gm, 0, none⟩ = some (.int .i64 (rd_T34 l0 i).f0) := (blk_cell hbk6 0).trans rfl
                        have H1 := Aside0.mk H
                        clear H
                        go_wp2
                        go_loopg [19, 21] k2 (fun kq v19 v21 w' => ∃ (fr tt : Int) (mF : Mp) (out : List S34) (vO : Value), v19 = .int .i64 fr ∧ v21 = .int .i64 tt ∧ Aside0 (seq4 kq l0 sc mF mN out (rd_T34 l0 i).f0 tt fr = some r) ∧ Aside0 (kq ≤ k2) ∧ Aside0 (St w w' w.heap.size g bF bN sc vO (.slice Ar ([] : List Int).length cr) mF mN out []) ∧ Aside0 (w'.heap[gm]? = some (.cells #[.int .i64 (rd_T34 l0 i).f0, .int .i64 (rd_T34 l0 i).f1] 34 (0, 0))) ∧ Aside0 (some gm ≠ vO.ownBlock))
                        case atStart => exact ⟨_, _, _, _, _, rfl, rfl, H1, ⟨Nat.le_refl _⟩, ⟨hS6⟩, ⟨hbk6⟩, ⟨hne6⟩⟩
                        case round =>
                          clear H1 hS6 hbk6 hm6 hne6 hS5 hbk5 hm5 hsc5 hlk hm0 hw0 hbk hS4 hgm HS hwfr c5
                          obtain ⟨fr, tt, mF, out, vO, rfl, rfl, HA, HK3, HS, HBK, HNE⟩ := hrel
                          cases gk with
                          | zero => exact absurd HA.out (by simp [seq4])
                          | succ k3 =>
                            have H := HA.out
                            clear HA
                            simp only [seq4] at H
                            by_cases d1 : wf64 tt = true
                            · rw [if_pos d1] at H
                              by_cases d2 : wf64 fr = true
                              · rw [if_pos d2] at H
                                by_cases d3 : mF.length < 1000000
                                · rw [if_pos d3] at H
                                  by_cases d4 : out.length < 1000000
                                  · rw [if_pos d4] at H
                                    have hw0 : wr.cell? ⟨g, 0, none⟩ = some (.map (some bF)) := (blk_cell HS.out.wk 0).trans rfl
                                    obtain ⟨W2, hdel, hM2, hg2⟩ := HS.out.hF.drop tt d1 0
                                    have hS2 := HS.out.putF hg2 hM2
                                    have hbk2 := blk_grown HBK.out hg2 (fun e => by obtain ⟨es, c, hb⟩ := HS.out.hF.obj; exact cells_ne_map HBK.out hb (Option.some.inj e))
                                    go_upto_region 38 with (fail)
                                    have hm0 : W2.cell? ⟨gm, 0, none⟩ = some (.int .i64 (rd_T34 l0 i).f0) := (blk_cell hbk2 0).trans rfl
                                    have hsc2 : W2.cell? ⟨w.heap.size, 0, none⟩ = some (.int .i64 sc) := (blk_cell hS2.box 0).trans rfl
                                    have hgg : gm ≠ g := blk_ne hbk2 hS2.wk (by decide)
                                    by_cases d5 : fr = (rd_T34 l0 i).f0
                                    · rw [if_pos d5] at H
                                      have d5b : (fr == (rd_T34 l0 i).f0) = true := beq_iff_eq.mpr d5
                                      go_wp2_with (go_at_call 18; refine (do_calls tt sc g bF bN vO out w _ hS2.wk hS2.hO hS2.below d4).mono ?_; rintro e w' ⟨W3, v', rfl, rfl, hgr, hO', hB', hat⟩)
                                      have hS3 := hS2.done hgr hO' hB'
                                      go_step3
                                      exact ⟨rfl, hK _ _ (Handed.intro k3 (by have := HK1.out; have := HK2.out; have := HK3.out; omega) (hJ _ _ _ ⟨g, bF, bN, _, _, _, _, _, [], pickV [_, _, _, _, _, _, _, _, _, _, _, _, _, _, _, _, _, _, _, _, _, _, _, _, _, _, _, _, _, _, _, _, _, _, _, _, _, _, _, _, _, _, _, _, _, _, _, _, _, _, _, _, _, _, _, _, _, _, _, _, _, _, _, _, _, _, _, _, _, _, _, _, _, _, _, _, _, _, _, _, _, _, _, _, _, _, _, _, _, _, _, _, _, _, _, _, _, _, _, _, _, _, _, _, _, _, _, _, _, _, _, _, _, _, _, _, _, _, _, _, _, _, _, _, _, _, _, _, _, _, _, _, _, _, _, _, _, _, _, _, _, _, _, _, _, _, _, _, _, _, _, _, _, _, _, _, _, _, _, _, _, _, _, _, _, _, _, _, _, _, _, _, _, _, _, _, _, _, _, _, _, _, _, _, _, _, _, _, _, _, _, _, _, _, _], ⟨H⟩, ⟨by have := HKn.out; have := HK1.out; have := HK2.out; have := HK3.out; omega⟩, ⟨hS3⟩, rfl⟩))⟩
                                    · rw [if_neg d5] at H
                                      have d5b : (fr == (rd_T34 l0 i).f0) = false := beq_eq_false_iff_ne.mpr d5
                                      go_upto_region 41 with (go_at_call 18; refine (do_calls tt fr g bF bN vO out w _ hS2.wk hS2.hO hS2.below d4).mono ?_; rintro e w' ⟨W3, v', rfl, rfl, hgr, hO', hB', hat⟩)
                                      have hS3 := hS2.done hgr hO' hB'
                                      have hne3 : some gm ≠ v'.ownBlock := by
                                        rcases hat with e | ⟨b, e, hb⟩
                                        · rw [e]; exact HNE.out
                                        · rw [e]; intro hh; have := blk_lt hbk2; have := Option.some.inj hh; omega
                                      have hbk3 := (Below.heap_setCell W3 ⟨g, 2, none⟩ v' gm hgg).trans (blk_grown hbk2 hgr HNE.out)
                                      revert hS3 hbk3
                                      generalize W3.setCell ⟨g, 2, none⟩ v' = W4
                                      intro hS3 hbk3
                                      clear hgr hO' hB' hat
                                      have hw0 : W4.cell? ⟨g, 0, none⟩ = some (.map (some bF)) := (blk_cell hS3.wk 0).trans rfl
                                      have hlk := fun n => ((hS3.drew n).hF.look fr d2).1
                                      go_quiet (fail)
                                      go_wp2
                                      go_roundg k3
                                      case measure => have := HK3.out; omega
                                      case rel => exact ⟨_, _, _, _, _, rfl, rfl, ⟨H⟩, ⟨by have := HK3.out; omega⟩, ⟨hS3.drew _⟩, ⟨blk_drewN hbk3 _⟩, ⟨hne3⟩⟩
                                  · rw [if_neg d4] at H
                                    exact absurd H (by simp)
                                · rw [if_neg d3] at H
                                  exact absurd H (by simp)
                              · rw [if_neg d2] at H
                                exact absurd H (by simp)
                            · rw [if_neg d1] at H
                              exact absurd H (by simp)
                      · rw [if_neg c5] at H
                        have c5b : (mval mF (rd_T34 l0 i).f0).isSome = false := by simpa using c5
                        simp only [c5b] at hlk
                        go_quiet (fail)
                        go_wp2
                        go_roundg k2
                        case measure => have := HK2.out; omega
                        case rel => exact ⟨_, rfl, ⟨H⟩, ⟨by have := HK2.out; omega⟩, ⟨hS4.drew _⟩⟩
                    · rw [if_neg c4] at H
                      exact absurd H (by simp)
                  · rw [if_neg c3] at H
                    exact absurd H (by simp)
                · rw [if_neg c2] at H
                  exact absurd H (by simp)
              · rw [if_neg c1] at H
                have c1b : decide (i < (l0.length : Int)) = false := decide_eq_false c1
                obtain rfl := Option.some.inj H
                have hw2 : wr.cell? ⟨g, 2, none⟩ = some vO := (blk_cell HS.out.wk 2).trans rfl
                obtain ⟨Av, cv, ev, hlv⟩ : ∃ A c, vO = .slice A out.length c ∧ out.length ≤ c := by
                  obtain ⟨A, c, e⟩ := Kd.R_slice HS.out.hO
                  subst e
                  exact ⟨A, c, rfl, (Kd.R_reads' HS.out.hO).2.1⟩
                subst ev
                go_wp2_with (go_at_call 19; refine (clip_calls Av out.length cv hlv _).mono ?_; rintro e w' ⟨rfl, rfl⟩)
                (try simp only [Exit.jump])
                go_ret
                obtain ⟨A_, c_, e_, _, hF_⟩ := Kd.R_V (base' := w.heap.size) (Kd.R_mono (Kd.R_bound HS.out.hO) (ok' := fun k_ => w.heap.size ≤ k_) (fun _ hk => hk.2.1))
                injection e_ with ea _ _
                subst ea
                exact ⟨_, rfl, Kd.V_mk (Nat.le_refl _) hF_, HS.out.below⟩
  intro L K hL hrest
  cases may with
  | false =>
    rw [if_neg (by decide)] at h
    obtain rfl := Option.some.inj h
    go_wp2_with (go_at_call 13; refine (moves_May.calls k _ _ l0 false _ (Kd.C_below HR0.out HB0.out) HC0.out HA.out).mono ?_; rintro e w' ⟨rfl, hb⟩)
    (try simp only [Exit.jump])
    go_ret
    exact ⟨_, rfl, Kd.V_nil _ _ _ _ _, below_step HB0.out hb⟩
  | true =>
    rw [if_pos rfl] at h
    replace h := Option.bind_eq_some_iff.mp h
    obtain ⟨ix, hI, h⟩ := h
    have HI := Aside0.mk hI
    clear hI
    by_cases c1 : ix ≥ 0
    · rw [if_pos c1] at h
      obtain rfl := Option.some.inj h
      have c1b : decide (ix ≥ 0) = true := decide_eq_true c1
      go_wp2_with (first | (go_at_call 13; refine (moves_May.calls k _ _ l0 true _ (Kd.C_below HR0.out HB0.out) HC0.out HA.out).mono ?_; rintro e w1 ⟨rfl, hb⟩) | (go_at_call 16; refine (cont_calls k _ _ l0 sc ⟨w.heap.size, 0, none⟩ ix _ (Kd.C_below HR0.out (below_step HB0.out hb)) HC0.out ((blk_cell (blk_below HBX.out hb) 0).trans rfl) HI.out).mono ?_; rw [c1b]; rintro e w2 ⟨rfl, hb2⟩))
      (try simp only [Exit.jump])
      go_ret
      exact ⟨_, rfl, Kd.V_nil _ _ _ _ _, below_step (below_step HB0.out hb) hb2⟩
    · rw [if_neg c1] at h
      have c1b : decide (ix ≥ 0) = false := decide_eq_false c1
      have H0 := Aside0.mk h
      clear h
      go_upto_region 3 with (first | (go_at_call 13; refine (moves_May.calls k _ _ l0 true _ (Kd.C_below HR0.out HB0.out) HC0.out HA.out).mono ?_; rintro e w1 ⟨rfl, hb⟩) | (go_at_call 16; refine (cont_calls k _ _ l0 sc ⟨w.heap.size, 0, none⟩ ix _ (Kd.C_below HR0.out (below_step HB0.out hb)) HC0.out ((blk_cell (blk_below HBX.out hb) 0).trans rfl) HI.out).mono ?_; rw [c1b]; rintro e w2 ⟨rfl, hb2⟩))
      have HBX2 := Aside0.mk (blk_below (blk_below HBX.out hb) hb2)
      have HB2 := Aside0.mk (below_step (below_step HB0.out hb) hb2)
      clear hb hb2 HB0 HBX
      go_upto_region 6 with (fail)
      have hSt0 : St w (((w2.alloc (Obj.map #[] 0)).alloc (Obj.map #[] 0)).alloc (Obj.cells #[Value.map (some w2.heap.size), Value.map (some (w2.heap.size + 1)), Value.slice none 0 0] 49)) w.heap.size (w2.heap.size + 1 + 1) w2.heap.size (w2.heap.size + 1) sc (.slice none 0 0) (.slice none 0 0) [] [] [] [] := by
        have sz1 : (w2.alloc (Obj.map #[] 0)).heap.size = w2.heap.size + 1 := by simp [World.alloc_eq]
        have sz2 : ((w2.alloc (Obj.map #[] 0)).alloc (Obj.map #[] 0)).heap.size = w2.heap.size + 1 + 1 := by simp [World.alloc_eq]
        refine ⟨blk_alloc (blk_alloc (blk_alloc HBX2.out _) _) _, ?_, ?_, ?_, by omega, Kd.R_nil _ _ _ _ _, Kd.Q_nil _ _ _ _ _, below_alloc (below_alloc (below_alloc HB2.out _) _) _, ?_, ?_, ?_⟩
        · have := blk_new ((w2.alloc (Obj.map #[] 0)).alloc (Obj.map #[] 0)) (Obj.cells #[Value.map (some w2.heap.size), Value.map (some (w2.heap.size + 1)), Value.slice none 0 0] 49)
          rw [sz2] at this
          exact this
        · exact ((MapI.made w2).kept (World.grownBy_alloc _ _ none) (by simp)).kept (World.grownBy_alloc _ _ none) (by simp)
        · have := MapI.made (w2.alloc (Obj.map #[] 0))
          rw [sz1] at this
          exact this.kept (World.grownBy_alloc _ _ none) (by simp)
        · have := HB2.out.size; omega
        · have := HB2.out.size; omega
        · have := HB2.out.size; omega
      revert hSt0
      generalize (((w2.alloc (Obj.map #[] 0)).alloc (Obj.map #[] 0)).alloc (Obj.cells #[Value.map (some w2.heap.size), Value.map (some (w2.heap.size + 1)), Value.slice none 0 0] 49)) = W3
      generalize hg_ : w2.heap.size + 1 + 1 = g
      generalize hn_ : w2.heap.size + 1 = bN
      generalize hf_ : w2.heap.size = bF
      intro hSt0
      clear hg_ hn_ hf_ HBX2 HB2
      have HS0 := Aside0.mk hSt0
      clear hSt0
      go_loopg [36] k (fun kq v36 w' => ∃ (mF mN : Mp) (i : Int), v36 = .int .i64 i ∧ Aside0 (seq0 kq l0 sc mF mN i = some r) ∧ Aside0 (kq ≤ k) ∧ Aside0 (St w w' w.heap.size g bF bN sc (.slice none 0 0) (.slice none 0 0) mF mN [] []))
      case atStart => exact ⟨[], [], 0, rfl, H0, ⟨Nat.le_refl _⟩, HS0⟩
      case round =>
        clear H0 HS0
        obtain ⟨mF, mN, i, rfl, HA, HK1, HS⟩ := hrel
        cases gk with
        | zero => exact absurd HA.out (by simp [seq0])
        | succ k1 =>
          have H := HA.out
          clear HA
          simp only [seq0] at H
          by_cases c1 : i < (l0.length : Int)
          · rw [if_pos c1] at H
            have c1b : decide (i < (l0.length : Int)) = true := decide_eq_true c1
            by_cases c2 : 0 ≤ i
            · rw [if_pos c2] at H
              have c2b : decide (0 ≤ i) = true := decide_eq_true c2
              by_cases c3 : wf64 (rd_T34 l0 i).f0 = true
              · rw [if_pos c3] at H
                by_cases c4 : wf64 (rd_T34 l0 i).f1 = true
                · rw [if_pos c4] at H
                  by_cases c5 : mF.length < 1000000
                  · rw [if_pos c5] at H
                    by_cases c6 : mN.length < 1000000
                    · rw [if_pos c6] at H
                      obtain ⟨ad, e0, hx0, hx1⟩ := at_T34 HR0.out i c2 c1
                      cases e0
                      replace hx0 := (HS.out.below.cell (World.block_lt_of_cell? w _ hx0)).trans hx0
                      replace hx1 := (HS.out.below.cell (World.block_lt_of_cell? w _ hx1)).trans hx1
                      replace c1 := eq_true c1
                      replace c2 := eq_true c2
                      go_upto_region 8 with (fail)
                      refine rebase (P := fun W_ => Code.wp _ _ _ _ W_) (fun W_ => W_.cell? ⟨wr.heap.size, 0, none⟩ = some (.int .i64 (rd_T34 l0 i).f0) ∧ W_.cell? ⟨wr.heap.size, 1, none⟩ = some (.int .i64 (rd_T34 l0 i).f1) ∧ St w W_ w.heap.size g bF bN sc (.slice none 0 0) (.slice none 0 0) mF mN [] [] ∧ W_.heap[wr.heap.size]? = some (.cells #[.int .i64 (rd_T34 l0 i).f0, .int .i64 (rd_T34 l0 i).f1] 34 (0, 0))) ⟨(blk_cell (blk_new wr _) 0).trans rfl, (blk_cell (blk_new wr _) 1).trans rfl, HS.out.alloc _, blk_new wr _⟩ ?_
                      rintro W4 ⟨hm0, hm1, hS4, hbk⟩
                      have hw0 : W4.cell? ⟨g, 0, none⟩ = some (.map (some bF)) := (blk_cell hS4.wk 0).trans rfl
                      have hw1 : W4.cell? ⟨g, 1, none⟩ = some (.map (some bN)) := (blk_cell hS4.wk 1).trans rfl
                      by_cases c7 : (rd_T34 l0 i).f0 = (rd_T34 l0 i).f1
                      · rw [if_pos c7] at H
                        have c7b : ((rd_T34 l0 i).f0 != (rd_T34 l0 i).f1) = false := bne_eq_false_iff_eq.mpr c7
                        go_wp2
                        go_roundg k1
                        case measure => have := HK1.out; omega
                        case rel => exact ⟨_, _, _, rfl, ⟨H⟩, ⟨by have := HK1.out; omega⟩, ⟨hS4⟩⟩
                      · rw [if_neg c7] at H
                        have c7b : ((rd_T34 l0 i).f0 != (rd_T34 l0 i).f1) = true := bne_iff_ne.mpr c7
                        go_wp2
                        refine start_ (n := 9) (S := fun w' => w'.cell? ⟨g, 0, none⟩ = some (.map (some bF)) ∧ w'.cell? ⟨wr.heap.size, 0, none⟩ = some (.int .i64 (rd_T34 l0 i).f0) ∧ w'.cell? ⟨wr.heap.size, 1, none⟩ = some (.int .i64 (rd_T34 l0 i).f1)) (ds := [8]) #[false, false, false, false, false, false, false, false, false] (by kernel_rfl) rfl rfl ⟨hw0, hm0, hm1⟩ (fun hHeld => ?_); refine with_tabW seqR9.tab seqR9.bits (fun HT_ HW_ => ?_)
                        have hS5 := hS4.drew1
                        have hbk5 := blk_drew hbk
                        obtain ⟨W6, hst, hM6, hg6⟩ := hS5.hF.store (rd_T34 l0 i).f0 (rd_T34 l0 i).f1 c3 c4 c5
                        refine pure_ (i := 0) (N := some 45) (v := ?_) (a' := ?_) #[true, false, false, false, false, false, false, false, false] rfl rfl (any_of HT_.out (by kernel_rfl)) (fun _ _ _ h => h) (Or.inl ⟨by rfl, ?_⟩) ?_ ?_
                        rotate_left
                        · intro w'
                          go_simp
                          with_reducible rfl
                        rotate_left
                        · simp only [Act.put, List.setIfInBounds_toArray, List.set_cons_zero, List.set_cons_succ, i64_w, i32_w]
                          rfl
                        refine pure_ (i := 1) (N := some 46) (v := ?_) (a' := ?_) #[true, true, false, false, false, false, false, false, false] rfl rfl (any_of HT_.out (by kernel_rfl)) (fun _ _ _ h => h) (Or.inl ⟨by rfl, ?_⟩) ?_ ?_
                        rotate_left
                        · intro w'
                          go_simp
                          with_reducible rfl
                        rotate_left
                        · simp only [Act.put, List.setIfInBounds_toArray, List.set_cons_zero, List.set_cons_succ, i64_w, i32_w]
                          rfl
                        refine pure_ (i := 2) (N := some 47) (v := ?_) (a' := ?_) #[true, true, true, false, false, false, false, false, false] rfl rfl (any_of HT_.out (by kernel_rfl)) (fun _ _ _ h => h) (Or.inl ⟨by rfl, ?_⟩) ?_ ?_
                        rotate_left
                        · intro w'
                          go_simp
                          with_reducible rfl
                        rotate_left
                        · simp only [Act.put, List.setIfInBounds_toArray, List.set_cons_zero, List.set_cons_succ, i64_w, i32_w]
                          rfl
                        refine pure_ (i := 4) (N := some 49) (v := ?_) (a' := ?_) #[true, true, true, false, true, false, false, false, false] rfl rfl (any_of HT_.out (by kernel_rfl)) (fun _ _ _ h => h) (Or.inl ⟨by rfl, ?_⟩) ?_ ?_
                        rotate_left
                        · intro w'
                          go_simp
                          with_reducible rfl
                        rotate_left
                        · simp only [Act.put, List.setIfInBounds_toArray, List.set_cons_zero, List.set_cons_succ, i64_w, i32_w]
                          rfl
                        refine pure_ (i := 6) (N := some 51) (v := ?_) (a' := ?_) #[true, true, true, false, true, false, true, false, false] rfl rfl (any_of HT_.out (by kernel_rfl)) (fun _ _ _ h => h) (Or.inl ⟨by rfl, ?_⟩) ?_ ?_
                        rotate_left
                        · intro w'
                          go_simp
                          with_reducible rfl
                        rotate_left
                        · simp only [Act.put, List.setIfInBounds_toArray, List.set_cons_zero, List.set_cons_succ, i64_w, i32_w]
                          rfl
                        refine take_ (i := 3) (N := some 48) (v := ?_) (a' := ?_) #[true, true, true, true, true, false, true, false, false] rfl rfl (take_ofW HT_.out HW_.out (by kernel_rfl)) (fun _ _ _ h => h) (Or.inl ⟨by rfl, ?_⟩) hHeld ?_ ?_
                        rotate_left
                        · rintro w' ⟨s0, s1, s2⟩
                          go_simp
                          with_reducible rfl
                        rotate_left
                        · simp only [Act.put, List.setIfInBounds_toArray, List.set_cons_zero, List.set_cons_succ, i64_w, i32_w]
                          rfl
                        refine take_ (i := 5) (N := some 50) (v := ?_) (a' := ?_) #[true, true, true, true, true, true, true, false, false] rfl rfl (take_ofW HT_.out HW_.out (by kernel_rfl)) (fun _ _ _ h => h) (Or.inl ⟨by rfl, ?_⟩) hHeld ?_ ?_
                        rotate_left
                        · rintro w' ⟨s0, s1, s2⟩
                          go_simp
                          with_reducible rfl
                        rotate_left
                        · simp only [Act.put, List.setIfInBounds_toArray, List.set_cons_zero, List.set_cons_succ, i64_w, i32_w]
                          rfl
                        refine take_ (i := 7) (N := some 52) (v := ?_) (a' := ?_) #[true, true, true, true, true, true, true, true, false] rfl rfl (take_ofW HT_.out HW_.out (by kernel_rfl)) (fun _ _ _ h => h) (Or.inl ⟨by rfl, ?_⟩) hHeld ?_ ?_
                        rotate_left
                        · rintro w' ⟨s0, s1, s2⟩
                          go_simp
                          with_reducible rfl
                        rotate_left
                        · simp only [Act.put, List.setIfInBounds_toArray, List.set_cons_zero, List.set_cons_succ, i64_w, i32_w]
                          rfl
                        refine last_ (i := 8) (N := none) #[true, true, true, true, true, true, true, true, true] rfl rfl (one_of HT_.out (by kernel_rfl)) (by decide) (fun K hK => ?_)
                        refine skip_ (w1 := ?_) (by rfl) rfl ?_ ?_
                        rotate_left
                        · go_simp
                          rfl
                        refine hK.out _ _ ?_
                        clear hK K
                        refine done_ (done_of HT_.out (by kernel_rfl)) ?_
                        have hS6 := hS5.putF hg6 hM6
                        have hbk6 := blk_grown hbk5 hg6 (fun e => by obtain ⟨es, c, hb⟩ := hS5.hF.obj; exact cells_ne_map hbk5 hb (Option.some.inj e))
                        have hm0 : W6.cell? ⟨wr.heap.size, 0, none⟩ = some (.int .i64 (rd_T34 l0 i).f0) := (blk_cell hbk6 0).trans rfl
                        have hm1 : W6.cell? ⟨wr.heap.size, 1, none⟩ = some (.int .i64 (rd_T34 l0 i).f1) := (blk_cell hbk6 1).trans rfl
                        have hw1 : W6.cell? ⟨g, 1, none⟩ = some (.map (some bN)) := (blk_cell hS6.wk 1).trans rfl
                        try go_wp2
                        refine start_ (n := 9) (S := fun w' => w'.cell? ⟨g, 1, none⟩ = some (.map (some bN)) ∧ w'.cell? ⟨wr.heap.size, 0, none⟩ = some (.int .i64 (rd_T34 l0 i).f0) ∧ w'.cell? ⟨wr.heap.size, 1, none⟩ = some (.int .i64 (rd_T34 l0 i).f1) ∧ (Instr.lookup 47 (.map (some bN)) (.int .i64 (rd_T34 l0 i).f1) false).run Try.prog w' = .ok (.int .i64 ((mval mN (rd_T34 l0 i).f1).getD 0)) w') (ds := [8]) #[false, false, false, false, false, false, false, false, false] (by kernel_rfl) rfl rfl ⟨hw1, hm0, hm1, (hS6.drew1.hN.look (rd_T34 l0 i).f1 c4).1⟩ (fun hHeld => ?_); refine with_tabW seqR10.tab seqR10.bits (fun HT_ HW_ => ?_)
                        have hS7 := hS6.drew1
                        obtain ⟨W8, hst, hM8, hg8⟩ := hS7.hN.store (rd_T34 l0 i).f1 (wrap64 ((mval mN (rd_T34 l0 i).f1).getD 0 + 1)) c4 (wrap64_wf _) c6
                        refine pure_ (i := 0) (N := some 53) (v := ?_) (a' := ?_) #[true, false, false, false, false, false, false, false, false] rfl rfl (any_of HT_.out (by kernel_rfl)) (fun _ _ _ h => h) (Or.inl ⟨by rfl, ?_⟩) ?_ ?_
                        rotate_left
                        · intro w'
                          go_simp
                          with_reducible rfl
                        rotate_left
                        · simp only [Act.put, List.setIfInBounds_toArray, List.set_cons_zero, List.set_cons_succ, i64_w, i32_w]
                          rfl
                        refine pure_ (i := 1) (N := some 54) (v := ?_) (a' := ?_) #[true, true, false, false, false, false, false, false, false] rfl rfl (any_of HT_.out (by kernel_rfl)) (fun _ _ _ h => h) (Or.inl ⟨by rfl, ?_⟩) ?_ ?_
                        rotate_left
                        · intro w'
                          go_simp
                          with_reducible rfl
                        rotate_left
                        · simp only [Act.put, List.setIfInBounds_toArray, List.set_cons_zero, List.set_cons_succ, i64_w, i32_w]
                          rfl
                        refine pure_ (i := 2) (N := some 55) (v := ?_) (a' := ?_) #[true, true, true, false, false, false, false, false, false] rfl rfl (any_of HT_.out (by kernel_rfl)) (fun _ _ _ h => h) (Or.inl ⟨by rfl, ?_⟩) ?_ ?_
                        rotate_left
                        · intro w'
                          go_simp
                          with_reducible rfl
                        rotate_left
                        · simp only [Act.put, List.setIfInBounds_toArray, List.set_cons_zero, List.set_cons_succ, i64_w, i32_w]
                          rfl
                        refine pure_ (i := 4) (N := some 57) (v := ?_) (a' := ?_) #[true, true, true, false, true, false, false, false, false] rfl rfl (any_of HT_.out (by kernel_rfl)) (fun _ _ _ h => h) (Or.inl ⟨by rfl, ?_⟩) ?_ ?_
                        rotate_left
                        · intro w'
                          go_simp
                          with_reducible rfl
                        rotate_left
                        · simp only [Act.put, List.setIfInBounds_toArray, List.set_cons_zero, List.set_cons_succ, i64_w, i32_w]
                          rfl
                        refine take_ (i := 3) (N := some 56) (v := ?_) (a' := ?_) #[true, true, true, true, true, false, false, false, false] rfl rfl (take_ofW HT_.out HW_.out (by kernel_rfl)) (fun _ _ _ h => h) (Or.inl ⟨by rfl, ?_⟩) hHeld ?_ ?_
                        rotate_left
                        · rintro w' ⟨s0, s1, s2, s3⟩
                          go_simp
                          with_reducible rfl
                        rotate_left
                        · simp only [Act.put, List.setIfInBounds_toArray, List.set_cons_zero, List.set_cons_succ, i64_w, i32_w]
                          rfl
                        refine take_ (i := 5) (N := some 58) (v := ?_) (a' := ?_) #[true, true, true, true, true, true, false, false, false] rfl rfl (take_ofW HT_.out HW_.out (by kernel_rfl)) (fun _ _ _ h => h) (Or.inl ⟨by rfl, ?_⟩) hHeld ?_ ?_
                        rotate_left
                        · rintro w' ⟨s0, s1, s2, s3⟩
                          go_simp
                          with_reducible rfl
                        rotate_left
                        · simp only [Act.put, List.setIfInBounds_toArray, List.set_cons_zero, List.set_cons_succ, i64_w, i32_w]
                          rfl
                        refine take_ (i := 6) (N := some 59) (v := ?_) (a' := ?_) #[true, true, true, true, true, true, true, false, false] rfl rfl (take_ofW HT_.out HW_.out (by kernel_rfl)) (fun _ _ _ h => h) (Or.inl ⟨by rfl, ?_⟩) hHeld ?_ ?_
                        rotate_left
                        · rintro w' ⟨s0, s1, s2, s3⟩
                          go_simp
                          with_reducible rfl
                        rotate_left
                        · simp only [Act.put, List.setIfInBounds_toArray, List.set_cons_zero, List.set_cons_succ, i64_w, i32_w]
                          rfl
                        refine pure_ (i := 7) (N := some 60) (v := ?_) (a' := ?_) #[true, true, true, true, true, true, true, true, false] rfl rfl (any_of HT_.out (by kernel_rfl)) (fun _ _ _ h => h) (Or.inl ⟨by rfl, ?_⟩) ?_ ?_
                        rotate_left
                        · intro w'
                          go_simp
                          with_reducible rfl
                        rotate_left
                        · simp only [Act.put, List.setIfInBounds_toArray, List.set_cons_zero, List.set_cons_succ, i64_w, i32_w]
                          rfl
                        refine last_ (i := 8) (N := none) #[true, true, true, true, true, true, true, true, true] rfl rfl (one_of HT_.out (by kernel_rfl)) (by decide) (fun K hK => ?_)
                        refine skip_ (w1 := ?_) (by rfl) rfl ?_ ?_
                        rotate_left
                        · go_simp
                          rfl
                        refine hK.out _ _ ?_
                        clear hK K
                        refine done_ (done_of HT_.out (by kernel_rfl)) ?_
                        have hS8 := hS7.putN hg8 hM8
                        try go_wp2
                        go_roundg k1
                        case measure => have := HK1.out; omega
                        case rel => exact ⟨_, _, _, rfl, ⟨H⟩, ⟨by have := HK1.out; omega⟩, ⟨hS8⟩⟩
                    · rw [if_neg c6] at H
                      exact absurd H (by simp)
                  · rw [if_neg c5] at H
                    exact absurd H (by simp)
                · rw [if_neg c4] at H
                  exact absurd H (by simp)
              · rw [if_neg c3] at H
                exact absurd H (by simp)
            · rw [if_neg c2] at H
              exact absurd H (by simp)
          · rw [if_neg c1] at H
            have c1b : decide (i < (l0.length : Int)) = false := decide_eq_false c1
            have H1 := Aside0.mk H
            clear H
            go_wp2
            go_loopg [6, 64] k1 (fun kq v6 v64 w' => ∃ (ready : List Int) (i : Int), v64 = .int .i64 i ∧ Aside0 (seq1 kq l0 sc mF mN ready i = some r) ∧ Aside0 (kq ≤ k1) ∧ Aside0 (St w w' w.heap.size g bF bN sc (.slice none 0 0) v6 mF mN [] ready))
            case atStart => exact ⟨[], 0, rfl, H1, ⟨Nat.le_refl _⟩, HS⟩
            case round =>
              clear H1 HS c1 c1b
              obtain ⟨ready, i, rfl, HA, HK2, HS⟩ := hrel
              cases gk with
              | zero => exact absurd HA.out (by simp [seq1])
              | succ k2 =>
                have H := HA.out
                clear HA
                simp only [seq1] at H
                by_cases c1 : i < (l0.length : Int)
                · rw [if_pos c1] at H
                  have c1b : decide (i < (l0.length : Int)) = true := decide_eq_true c1
                  by_cases c2 : 0 ≤ i
                  · rw [if_pos c2] at H
                    have c2b : decide (0 ≤ i) = true := decide_eq_true c2
                    by_cases c3 : wf64 (rd_T34 l0 i).f0 = true
                    · rw [if_pos c3] at H
                      by_cases c4 : ready.length < 1000000
                      · rw [if_pos c4] at H
                        obtain ⟨ad, e0, hx0, hx1⟩ := at_T34 HR0.out i c2 c1
                        cases e0
                        replace hx0 := (HS.out.below.cell (World.block_lt_of_cell? w _ hx0)).trans hx0
                        replace hx1 := (HS.out.below.cell (World.block_lt_of_cell? w _ hx1)).trans hx1
                        replace c1 := eq_true c1
                        replace c2 := eq_true c2
                        go_upto_region 15 with (fail)
                        refine rebase (P := fun W_ => Code.wp _ _ _ _ W_) (fun W_ => W_.cell? ⟨wr.heap.size, 0, none⟩ = some (.int .i64 (rd_T34 l0 i).f0) ∧ St w W_ w.heap.size g bF bN sc (.slice none 0 0) u6 mF mN [] ready) ⟨(blk_cell (blk_new wr _) 0).trans rfl, HS.out.alloc _⟩ ?_
                        rintro W4 ⟨hm0, hS4⟩
                        have hw0 : W4.cell? ⟨g, 0, none⟩ = some (.map (some bF)) := (blk_cell hS4.wk 0).trans rfl
                        have hw1 : W4.cell? ⟨g, 1, none⟩ = some (.map (some bN)) := (blk_cell hS4.wk 1).trans rfl
                        have hlk := fun n => (hS4.drew n).hF.lookOk (rd_T34 l0 i).f0 c3
                        have hlk2 := fun n => ((hS4.drew n).hN.look (rd_T34 l0 i).f0 c3).1
                        by_cases c5 : (mval mF (rd_T34 l0 i).f0).isSome = true
                        · rw [if_pos c5] at H
                          simp only [c5] at hlk
                          by_cases c6 : (mval mN (rd_T34 l0 i).f0).getD 0 = 0
                          · rw [if_pos c6] at H
                            have c6b : ((mval mN (rd_T34 l0 i).f0).getD 0 == 0) = true := beq_iff_eq.mpr c6
                            go_quiet (fail)
                            go_wp2
                            go_quiet (fail)
                            go_upto_region 17 with (fail)
                            refine rebase (P := fun W_ => Code.wp _ _ _ _ W_) (fun W_ => W_.cell? ⟨wr.heap.size, 0, none⟩ = some (.int .i64 (rd_T34 l0 i).f0) ∧ St w W_ w.heap.size g bF bN sc (.slice none 0 0) u6 mF mN [] ready) ?hF ?_
                            case hF => exact ⟨hm0, by first | exact hS4.drew _ | exact (hS4.drew _).drew _⟩
                            rintro W5 ⟨hm0, hS5⟩
                            obtain ⟨Ar, cr, er, _⟩ := Kd.Q_slice hS5.hR
                            subst er
                            go_wp2_with ((with_reducible refine gate_builtin (b := .append) (xs := #[.tmp 89, .tmp 92]) rfl ?_); (try (refine gate_guard (by rfl) ?_; dsimp only)); at_builtin; refine Kd.Q_append (Kd.int .i64) (w0 := w) w.heap.size rfl (.tmp 89) (.tmp 92) 36 3 (.int .i64 0) 8 rfl Try.underlying36 info3 rfl (by decide) (by omega) (.slice Ar ready.length cr) ready (rd_T34 l0 i).f0 [.int .i64 (rd_T34 l0 i).f0] (fun k_ => k_ ≠ w.heap.size) (fun _ => False) rfl rfl rfl (fun _ hk => hk.elim) (fun k_ hk => by have := blk_lt hS5.box; omega) hS5.hR hS5.below hS5.below.size (by omega) ?_; intro v1 w1 ho hb hgr hat)
                            go_roundg k2
                            case measure => have := HK2.out; omega
                            case rel => exact ⟨_, _, rfl, ⟨H⟩, ⟨by have := HK2.out; omega⟩, ⟨hS5.push hgr ho hb⟩⟩
                          · rw [if_neg c6] at H
                            have c6b : ((mval mN (rd_T34 l0 i).f0).getD 0 == 0) = false := beq_eq_false_iff_ne.mpr c6
                            go_quiet (fail)
                            go_wp2
                            go_quiet (fail)
                            go_wp2
                            go_roundg k2
                            case measure => have := HK2.out; omega
                            case rel => exact ⟨_, _, rfl, ⟨H⟩, ⟨by have := HK2.out; omega⟩, ⟨by first | exact hS4.drew _ | exact (hS4.drew _).drew _⟩⟩
                        · rw [if_neg c5] at H
                          have c5b : (mval mF (rd_T34 l0 i).f0).isSome = false := by simpa using c5
                          simp only [c5b] at hlk
                          go_quiet (fail)
                          go_wp2
                          go_quiet (fail)
                          go_wp2
                          go_roundg k2
                          case measure => have := HK2.out; omega
                          case rel => exact ⟨_, _, rfl, ⟨H⟩, ⟨by have := HK2.out; omega⟩, ⟨by first | exact hS4.drew _ | exact (hS4.drew _).drew _⟩⟩
                      · rw [if_neg c4] at H
                        exact absurd H (by simp)
                    · rw [if_neg c3] at H
                      exact absurd H (by simp)
                  · rw [if_neg c2] at H
                    exact absurd H (by simp)
                · rw [if_neg c1] at H
                  have c1b : decide (i < (l0.length : Int)) = false := decide_eq_false c1
                  go_wp2
                  go_step3
                  go_step
                  first | go_step | (rename_i hk_; refine hk_ _ _ ?_) | apply_assumption | skip
                  exact hrest _ _ (hL k2 _ _ ⟨g, bF, bN, _, _, mF, mN, [], ready, pickV [_, _, _, _, _, _, _, _, _, _, _, _, _, _, _, _, _, _, _, _, _, _, _, _, _, _, _, _, _, _, _, _, _, _, _, _, _, _, _, _, _, _, _, _, _, _, _, _, _, _, _, _, _, _, _, _, _, _, _, _, _, _, _, _, _, _, _, _, _, _, _, _, _, _, _, _, _, _, _, _, _, _, _, _, _, _, _, _, _, _, _, _, _, _, _, _, _, _, _, _, _, _, _, _, _, _, _, _, _, _, _, _, _, _, _, _, _, _, _, _, _, _, _, _, _, _, _, _, _, _, _, _, _, _, _, _, _, _, _, _, _, _, _, _, _, _, _, _, _, _, _, _, _, _, _, _, _, _, _, _, _, _, _, _, _, _, _, _, _, _, _, _, _, _, _, _, _, _, _, _, _, _, _, _, _, _, _, _, _, _, _, _, _, _, _], ⟨H⟩, ⟨by have := HK1.out; have := HK2.out; omega⟩, HS, rfl⟩)
end Go.Proofs.Ytcfomfcalpnbcaa.PG
