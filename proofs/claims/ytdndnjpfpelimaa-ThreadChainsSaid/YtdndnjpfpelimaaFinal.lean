/- Function 13 answers where a chain of empty blocks ends. -/
import Derived.Test.YtdndnjpfpelimaaMaps
import Derived.Test.YtdndnjpfpelimaaCopy
import Derived.Test.YtdndnjpfpelimaaPGx0
import Derived.Test.YtdndnjpfpelimaaU
namespace Go.Proofs.Ytdndnjpfpelimaa.PG
open Go.RowKit Go.Proofs.YtdndnjpfpelimaaW.PrintWords Go.Proofs.YtdndnjpfpelimaaW.PrintLast Go.Proofs.YtdndnjpfpelimaaW.PrintMore
attribute [local go_sem] max2_int min2_int max_two min_two max_three min_three max_four min_four   -- for this text's walks alone
set_option linter.unusedVariables false
set_option linter.unusedSimpArgs false
attribute [local go_sem] run_store_complex
/-- A scope whose label is come back to, by a number that falls. -/
theorem wp_scope_ghost {P : Program} {Q : Exit → Act → World → Prop} {a : Act} {w : World} {c rest : Code} (l : Nat) (hf : findLabel c l = some (Code.skip.seq rest)) (I : Nat → Act → World → Prop)
    (pass : ∀ n a w, I n a w → ∀ (J : Nat → Act → World → Prop) (K : Act → World → Prop), (∀ k a' w', I k a' w' → J k a' w') → (∀ a' w', Handed J n a' w' → K a' w') → rest.wp P (Exit.jump l K Q) a w)
    (first : ∀ (L K : Act → World → Prop), (∀ n a w, I n a w → L a w) → (∀ a w, L a w → rest.wp P (Exit.jump l K Q) a w) → c.wp P (Exit.jump l K Q) a w) : (Code.scope c).wp P Q a w := by
  have hl : ∀ a w, (∃ n, I n a w) → rest.wp P (Exit.jump l (fun a' w' => (∃ n, I n a' w') ∧ leastOf (fun n => I n a' w') < leastOf (fun n => I n a w)) Q) a w := by
    intro a w hI
    refine pass _ a w (leastOf_spec hI).1 (fun n a w => I n a w) _ (fun _ _ _ h => h) ?_
    rintro a' w' ⟨n', hlt, hI'⟩
    exact ⟨⟨n', hI'⟩, Nat.lt_of_le_of_lt ((leastOf_spec ⟨n', hI'⟩).2 n' hI') hlt⟩
  refine wp_scope_jumps l (fun a w => ∃ n, I n a w) (fun a w => leastOf (fun n => I n a w)) hf ?_ (fun a w h => wp_seq (wp_skip (hl a w h)))
  refine first (fun a w => ∃ n, I n a w) _ (fun n a w h => ⟨n, h⟩) (fun a w h => wp_mono (hl a w h) ?_)
  intro e a' w' hq
  cases e with
  | goto l' => exact ⟨hq.1, hq.2.1⟩
  | normal => exact hq
  | exit id => exact hq
  | ret => exact hq
  | panic ch => exact hq
  | outgrown => exact hq
def pickV (l : List Value) : Nat → Value := fun i => l.getD i undef
theorem wfI {x : Int} (h0 : 0 ≤ x) (h1 : x < 1000000) : (Lit.int .i64 x).wf = true := by
  simp [Lit.wf, IntKind.min, IntKind.max, IntKind.bits, IntKind.signed]
  omega
/-- Where a way of empty blocks leads at last, in so many steps, each to a later block. -/
def Leads (bs : List S37) : Nat → Int → Int → Prop
  | 0, x, e => x = e ∧ 0 ≤ x ∧ x < bs.length ∧ (0 < (rd_T37 bs x).f0.length ∨ ((rd_T37 bs x).f0.length = 0 ∧ (rd_T37 bs x).f1.f0 ≠ 1))
  | n + 1, x, e => 0 ≤ x ∧ x < bs.length ∧ (rd_T37 bs x).f0.length = 0 ∧ (rd_T37 bs x).f1.f0 = 1 ∧ x < (rd_T37 bs x).f1.f2 ∧ Leads bs n (rd_T37 bs x).f1.f2 e
theorem Leads.range {bs : List S37} : ∀ {n : Nat} {x e : Int}, Leads bs n x e → 0 ≤ x ∧ x < bs.length
  | 0, _, _, h => ⟨h.2.1, h.2.2.1⟩
  | _ + 1, _, _, h => ⟨h.1, h.2.1⟩
set_option maxHeartbeats 4000000 in
set_option maxRecDepth 100000 in
theorem Final_calls (A : Option Addr) (c : Nat) (bs : List S37) (nm : ByteArray) (p q blk e_ : Int) (N : Nat) (w : World) (hr : Kd.C k37 w A bs.length bs) (hc : bs.length ≤ c) (hk : bs.length < 1000) (hl : Leads bs N blk e_) (hN : N < 1000) :
    Calls Try.prog 13 #[.agg #[.string nm, .int .i64 p, .int .i64 q, .slice A bs.length c], .int .i64 blk] w fun e w' => e = .returned (.int .i64 e_) ∧ Below w.heap.size w w' := by
  have HR := Aside0.mk hr
  have HC := Aside0.mk hc
  have HK := Aside0.mk hk
  have HL := Aside0.mk hl
  have HN := Aside0.mk hN
  clear hr hc hk hl hN
  have hu24 := Try.underlying24
  have hu37 := Try.underlying37
  have hu35 := Try.underlying35
  have hmm := @run_makeMap Try.prog
  go_enter Try.func13, Try.ntmps13
  go_wp2
  refine wp_scope_ghost 0 rfl (fun n a' w' => ∃ (at_ : Int) (S : List Int) (u : Nat → Value), Aside0 (Leads bs n at_ e_) ∧ Aside0 (∀ x ∈ S, x < at_) ∧ Aside0 (S.length + n < 1000) ∧ Aside0 (w'.heap[w.heap.size]? = some (.cells #[.string nm, .int .i64 p, .int .i64 q, .slice A bs.length c] 24 (0, 0))) ∧ Aside0 (SetI w' (w.heap.size + 1) S) ∧ Aside0 (Below w.heap.size w w') ∧ a' = { tmps := #[.agg #[.string nm, .int .i64 p, .int .i64 q, .slice A bs.length c], .int .i64 blk, .pointer (some ⟨w.heap.size, 0, none⟩), undef, .int .i64 0, .map (some (w.heap.size + 1)), .int .i64 at_, u 0, u 1, u 2, u 3, u 4, u 5, u 6, u 7, u 8, u 9, u 10, u 11, u 12, u 13, u 14, u 15, u 16, u 17, u 18, u 19, u 20, u 21, u 22, u 23, u 24, u 25, u 26, u 27, u 28, u 29, u 30, u 31, u 32, u 33, u 34, u 35, u 36, u 37, u 38, u 39, u 40, u 41, u 42, u 43, u 44, u 45, u 46, u 47, u 48, u 49, u 50, u 51, u 52, u 53, u 54, u 55, u 56, u 57, u 58, u 59, u 60, u 61, u 62, u 63], defers := [] }) ?_ ?_
  · rintro n _ wr ⟨at_, S, u, HA, HS, HM, H0, HSet, HB, rfl⟩ J K hJ hK
    have hrg := HA.out.range
    have ha0 : decide (at_ < 0) = false := decide_eq_false (by omega)
    have ha1 : decide ((bs.length : Int) ≤ at_) = false := decide_eq_false (by omega)
    have HRG := Aside0.mk hrg
    obtain ⟨ad, A0, c0, rfl, hx0, hx1, hx2, hx3, hx4, hl0, hC0⟩ := at_T37 HR.out at_ hrg.1 hrg.2
    have hb := HB.out
    have hw3 := hx3
    replace hx0 := (hb.cell (World.block_lt_of_cell? w _ hx0)).trans hx0
    replace hx1 := (hb.cell (World.block_lt_of_cell? w _ hx1)).trans hx1
    replace hx2 := (hb.cell (World.block_lt_of_cell? w _ hx2)).trans hx2
    replace hx3 := (hb.cell (World.block_lt_of_cell? w _ hx3)).trans hx3
    replace hx4 := (hb.cell (World.block_lt_of_cell? w _ hx4)).trans hx4
    obtain ⟨f0, f1, f2, f3⟩ := box4 H0.out
    have hr0 := eq_true hrg.1
    have hr1 := eq_true hrg.2
    clear hl0 hC0 hb hrg
    cases n with
    | zero =>
      have hA := HA.out
      clear HA
      simp only [Leads] at hA
      obtain ⟨rfl, _, _, hA⟩ := hA
      rcases hA with hA | ⟨hA, hA2⟩
      · have hd0 : decide (0 < ((rd_T37 bs at_).f0.length : Int)) = true := decide_eq_true (by omega)
        have hd1 : decide (0 < (rd_T37 bs at_).f0.length) = true := decide_eq_true hA
        clear hA
        go_wp2
        (try simp only [Exit.jump])
        go_ret
        exact ⟨rfl, below_alloc HB.out _⟩
      · rw [hA] at hx0
        have hd0 : ((rd_T37 bs at_).f1.f0 != 1) = true := bne_iff_ne.mpr hA2
        clear hA hA2
        go_wp2
        (try simp only [Exit.jump])
        go_ret
        exact ⟨rfl, below_alloc HB.out _⟩
    | succ n =>
      have hA := HA.out
      clear HA
      simp only [Leads] at hA
      obtain ⟨_, _, hA, hA2, hA3, hA4⟩ := hA
      rw [hA] at hx0
      rw [hA2] at hx1
      have HA3 := Aside0.mk hA3
      have HA4 := Aside0.mk hA4
      clear hA hA2 hA3 hA4
      generalize rd_T37 bs at_ = b at *
      obtain ⟨l, b0, b1, b2, b3⟩ := b
      dsimp only at *
      go_upto_region 8 with (fail)
      refine rebase (P := fun W_ => Code.wp _ _ _ _ W_) (fun W_ => W_.heap[w.heap.size]? = some (.cells #[.string nm, .int .i64 p, .int .i64 q, .slice (some ad) bs.length c] 24 (0, 0)) ∧ SetI W_ (w.heap.size + 1) S ∧ Below w.heap.size w W_ ∧ (∀ u v, wr.cell? u = some v → W_.cell? u = some v)) ⟨blk_alloc H0.out _, HSet.out.below (below_alloc (Below.refl _ _) _), below_alloc HB.out _, fun u v h => (World.cell?_alloc_lt _ _ _ (World.block_lt_of_cell? _ _ h)).trans h⟩ ?_
      rintro W1 ⟨h0, hS, hB, hcc⟩
      have hlk := hS.look at_ (wfI HRG.out.1 (by have := HK.out; have := HRG.out; omega))
      have hni : decide (at_ ∈ S) = false := decide_eq_false (fun hm => by have := HS.out _ hm; omega)
      rw [hni] at hlk
      obtain ⟨W2, hst, hS2, hg2⟩ := hS.store at_ (wfI HRG.out.1 (by have := HK.out; have := HRG.out; omega)) (by have := HM.out; omega)
      have H02 := Aside0.mk (blk_grown h0 hg2 (by simp))
      have HB2 := Aside0.mk (hB.grown hg2 hB.size (fun k hk => by injection hk with hk; omega))
      have HS2 := Aside0.mk hS2
      have f3b := (blk_cell H02.out 3).trans rfl
      have hx3b : W2.cell? ⟨(ad.add (at_.toNat * 5)).block, (ad.add (at_.toNat * 5)).off + 3, none⟩ = some (.int .i64 b2) := by
        have hlt := World.block_lt_of_cell? w _ hw3
        exact (HB2.out.cell hlt).trans hw3
      clear h0 hS hB hcc hni hg2 hS2 hx0 hx1 hx2 hx3 hx4 f0 f1 f2 f3
      go_wp2
      refine wp_goto ?_
      exact ⟨rfl, hK _ _ (Handed.intro n (by omega) (hJ _ _ _ ⟨b2, at_ :: S, pickV [_, _, _, _, _, _, _, _, _, _, _, _, _, _, _, _, _, _, _, _, _, _, _, _, _, _, _, _, _, _, _, _, _, _, _, _, _, _, _, _, _, _, _, _, _, _, _, _, _, _, _, _, _, _, _, _, _, _, _, _, _, _, _, _], HA4, ⟨fun x hx => (List.mem_cons.1 hx).elim (fun h => by have h1 := HA3.out; omega) (fun h => by have h1 := HA3.out; have h2 := HS.out _ h; omega)⟩, ⟨by have h1 := HM.out; simp only [List.length_cons]; omega⟩, H02, HS2, HB2, rfl⟩))⟩
  · intro L K hL hrest
    go_wp2
    refine wp_label ?_
    rename_i Q1 K1 h1
    exact h1 _ _ (hrest _ _ (hL N _ _ ⟨blk, [], pickV [undef, undef, undef, _, _, _, _, _, _, _, _, _, _, _, _, _, _, _, _, _, _, _, _, _, _, _, _, _, _, _, _, _, _, _, _, _, _, _, _, _, _, _, _, _, _, _, _, _, _, _, _, _, _, _, _, _, _, _, _, _, _, _, _, _], HL, ⟨by simp⟩, ⟨by have := HN.out; simpa using this⟩, ⟨new12 _ _ _⟩, ⟨by have h1 := SetI.made (w.alloc (.cells #[.string nm, .int .i64 p, .int .i64 q, .slice A bs.length c] 24)); rwa [World.size_alloc] at h1⟩, ⟨below_alloc (below_alloc (Below.refl _ _) _) _⟩, rfl⟩))
end Go.Proofs.Ytdndnjpfpelimaa.PG
