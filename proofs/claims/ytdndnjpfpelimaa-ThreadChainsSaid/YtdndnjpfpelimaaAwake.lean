/- Function 7: true. -/
import Derived.Test.YtdndnjpfpelimaaRun
import Derived.Test.YtdndnjpfpelimaaPGx0
import Derived.Test.YtdndnjpfpelimaaU
namespace Go.Proofs.Ytdndnjpfpelimaa.PG
open Go.RowKit Go.Proofs.YtdndnjpfpelimaaW.PrintWords Go.Proofs.YtdndnjpfpelimaaW.PrintLast Go.Proofs.YtdndnjpfpelimaaW.PrintMore
attribute [local go_sem] max2_int min2_int max_two min_two max_three min_three max_four min_four   -- for this text's walks alone
set_option linter.unusedVariables false
set_option linter.unusedSimpArgs false
attribute [local go_sem] run_store_complex
/-- A row of blocks without instructions, by its cells. -/
theorem C_of_cells {W : World} {g : Nat} {cur : Array Value} (hg : W.heap[g]? = some (.cells cur 37 (0, 0))) (xs : List S37) (hx : ∀ (j : Nat) (x : S37), xs[j]? = some x → x.f0 = [] ∧ ∀ (i : Nat) (u : Value), ([.slice none 0 0, .int .i64 x.f1.f0, .int .i64 x.f1.f1, .int .i64 x.f1.f2, .int .i64 x.f1.f3] : List Value)[i]? = some u → cur[j * 5 + i]? = some u) (hl : xs.length < 1000) : Kd.C k37 W (some ⟨g, 0, none⟩) xs.length xs := by
  refine ⟨rfl, by omega, fun _ => ⟨_, rfl, fun j x hj => ?_⟩⟩
  obtain ⟨h0, h1⟩ := hx j x hj
  obtain ⟨l, t⟩ := x
  dsimp only at h0 h1
  subst h0
  refine ⟨[.slice none 0 0, .int .i64 t.f0, .int .i64 t.f1, .int .i64 t.f2, .int .i64 t.f3], rfl, k37_mk W ⟨[], t⟩ (A0 := none) (c0 := 0) (Nat.le_refl _) (Kd.F_now (Kd.F_nil k32 W (fun _ => True))), fun i u hu => ?_⟩
  rw [Addr.add_lit, Nat.zero_add, show k37.sz = 5 from rfl, blk_cell hg]
  exact h1 i u hu
theorem awake_ends : EndsOK [(⟨[], ⟨1, 0, 1, 0⟩⟩ : S37), ⟨[], ⟨1, 0, 2, 0⟩⟩, ⟨[], ⟨3, 0, 0, 0⟩⟩] (fun _ => 2) := by
  intro x h0 h1
  simp only [List.length_cons, List.length_nil] at h1
  have hL2 : Leads [(⟨[], ⟨1, 0, 1, 0⟩⟩ : S37), ⟨[], ⟨1, 0, 2, 0⟩⟩, ⟨[], ⟨3, 0, 0, 0⟩⟩] 0 2 2 := ⟨rfl, by decide, by decide, Or.inr ⟨rfl, by decide⟩⟩
  have hL1 : Leads [(⟨[], ⟨1, 0, 1, 0⟩⟩ : S37), ⟨[], ⟨1, 0, 2, 0⟩⟩, ⟨[], ⟨3, 0, 0, 0⟩⟩] 1 1 2 := ⟨by decide, by decide, rfl, rfl, by decide, hL2⟩
  have hx : x = 0 ∨ x = 1 ∨ x = 2 := by omega
  rcases hx with rfl | rfl | rfl
  · exact ⟨fun _ => ⟨1, by decide, hL1⟩, fun h => absurd h (by decide)⟩
  · exact ⟨fun _ => ⟨0, by decide, hL2⟩, fun h => absurd h (by decide)⟩
  · exact ⟨fun h => absurd h (by decide), fun h => absurd h (by decide)⟩
theorem awake_ends1 : EndsOK [(⟨[], ⟨1, 0, 2, 0⟩⟩ : S37), ⟨[], ⟨1, 0, 2, 0⟩⟩, ⟨[], ⟨3, 0, 0, 0⟩⟩] (fun _ => 2) := by
  intro x h0 h1
  simp only [List.length_cons, List.length_nil] at h1
  have hL2 : Leads [(⟨[], ⟨1, 0, 2, 0⟩⟩ : S37), ⟨[], ⟨1, 0, 2, 0⟩⟩, ⟨[], ⟨3, 0, 0, 0⟩⟩] 0 2 2 := ⟨rfl, by decide, by decide, Or.inr ⟨rfl, by decide⟩⟩
  have hx : x = 0 ∨ x = 1 ∨ x = 2 := by omega
  rcases hx with rfl | rfl | rfl
  · exact ⟨fun _ => ⟨0, by decide, hL2⟩, fun h => absurd h (by decide)⟩
  · exact ⟨fun _ => ⟨0, by decide, hL2⟩, fun h => absurd h (by decide)⟩
  · exact ⟨fun h => absurd h (by decide), fun h => absurd h (by decide)⟩
theorem noK_empty (xs : List S37) (h : ∀ b ∈ xs, b.f0 = []) (hl : xs.length < 1000) : NoK xs :=
  ⟨fun b hb x hx => (List.not_mem_nil (h b hb ▸ hx)).elim, hl, fun b hb => by simp [h b hb]⟩
theorem awake_un : UnOK [(⟨[], ⟨1, 0, 2, 0⟩⟩ : S37), ⟨[], ⟨1, 0, 2, 0⟩⟩, ⟨[], ⟨3, 0, 0, 0⟩⟩] 2 (⟨[], ⟨1, 0, 2, 0⟩⟩ : S37) (⟨[], ⟨3, 0, 0, 0⟩⟩ : S37) where
  e0 := by decide
  e1 := by decide
  h0 := rfl
  he := rfl
  kx := rfl
  tx := rfl
  ky := rfl
  k2 := by
    intro b hb
    simp only [List.mem_cons, List.not_mem_nil, or_false] at hb
    rcases hb with rfl | rfl | rfl <;> decide
  tt := by
    intro b hb h
    simp only [List.mem_cons, List.not_mem_nil, or_false] at hb
    rcases hb with rfl | rfl | rfl <;> simp_all
theorem awake_run (A : Option Addr) (c : Nat) (nm : ByteArray) (p q : Int) (w : World) (hr : Kd.C k37 w A 3 [(⟨[], ⟨1, 0, 1, 0⟩⟩ : S37), ⟨[], ⟨1, 0, 2, 0⟩⟩, ⟨[], ⟨3, 0, 0, 0⟩⟩]) (hc : 3 ≤ c) : Calls Try.prog 5 #[.agg #[.string nm, .int .i64 p, .int .i64 q, .slice A 3 c]] w (CopyOut nm p q [(⟨[], ⟨3, 0, 0, 0⟩⟩ : S37)] w) :=
  Run_calls A c [(⟨[], ⟨1, 0, 1, 0⟩⟩ : S37), ⟨[], ⟨1, 0, 2, 0⟩⟩, ⟨[], ⟨3, 0, 0, 0⟩⟩] [(⟨[], ⟨1, 0, 2, 0⟩⟩ : S37), ⟨[], ⟨1, 0, 2, 0⟩⟩, ⟨[], ⟨3, 0, 0, 0⟩⟩] nm p q 2 (fun _ => 2) (fun _ => 2) [] [] 0 0 0 0 0 w hr hc (noK_empty _ (by simp) (by simp)) (noK_empty _ (by simp) (by simp)) awake_ends awake_ends1 (by simp) rfl rfl (fun h => by have h2 := congrArg S35.f2 h; exact absurd h2 (by decide)) awake_un (noK_empty _ (by simp) (by simp)) (noK_empty _ (by simp) (by simp))
set_option maxHeartbeats 4000000 in
set_option maxRecDepth 100000 in
theorem awake_calls (w : World) : Calls Try.prog 7 #[] w fun e w' => e = .returned (.bool true) ∧ Below w.heap.size w w' := by
  have hu24 := Try.underlying24
  have hu37 := Try.underlying37
  have hu35 := Try.underlying35
  go_enter Try.func7, Try.ntmps7
  go_upto_region 2 with (fail)
  refine rebase (P := fun W_ => Code.wp _ _ _ _ W_) (fun W_ => W_.heap[w.heap.size]? = some (.cells #[.slice none 0 0, .int .i64 1, .int .i64 0, .int .i64 1, .int .i64 0, .slice none 0 0, .int .i64 1, .int .i64 0, .int .i64 2, .int .i64 0, .slice none 0 0, .int .i64 3, .int .i64 0, .int .i64 0, .int .i64 0] 37 (0, 0)) ∧ W_.heap[w.heap.size + 1]? = some (.cells #[.string (⟨#[]⟩ : ByteArray), .int .i64 0, .int .i64 1, .slice (some ⟨w.heap.size, 0, none⟩) 3 3] 24 (0, 0)) ∧ Below w.heap.size w W_) ⟨new12 _ _ _, new2 _ _ _, below_alloc (below_alloc (Below.refl _ _) _) _⟩ ?_
  rintro W1 ⟨h0, h1, hB⟩
  have HR : Aside0 (Kd.C k37 W1 (some ⟨w.heap.size, 0, none⟩) 3 [(⟨[], ⟨1, 0, 1, 0⟩⟩ : S37), ⟨[], ⟨1, 0, 2, 0⟩⟩, ⟨[], ⟨3, 0, 0, 0⟩⟩]) := ⟨C_of_cells h0 [(⟨[], ⟨1, 0, 1, 0⟩⟩ : S37), ⟨[], ⟨1, 0, 2, 0⟩⟩, ⟨[], ⟨3, 0, 0, 0⟩⟩] (fun j x hj => by
    rcases j with _ | _ | _ | j
    · simp only [List.getElem?_cons_zero, Option.some.injEq] at hj
      subst hj
      exact ⟨rfl, fun i u hu => by rcases i with _ | _ | _ | _ | _ | i <;> first | exact hu | simp at hu⟩
    · simp only [List.getElem?_cons_succ, List.getElem?_cons_zero, Option.some.injEq] at hj
      subst hj
      exact ⟨rfl, fun i u hu => by rcases i with _ | _ | _ | _ | _ | i <;> first | exact hu | simp at hu⟩
    · simp only [List.getElem?_cons_succ, List.getElem?_cons_zero, Option.some.injEq] at hj
      subst hj
      exact ⟨rfl, fun i u hu => by rcases i with _ | _ | _ | _ | _ | i <;> first | exact hu | simp at hu⟩
    · simp at hj) (by simp)⟩
  have H1 := Aside0.mk h1
  have HB := Aside0.mk hB
  obtain ⟨f0, f1, f2, f3⟩ := box4 h1
  clear h0 h1 hB
  go_upto_region 3 with (go_at_call 5; refine (awake_run (some ⟨w.heap.size, 0, none⟩) 3 _ 0 1 _ HR.out (by decide)).mono ?_; rintro e w2 ⟨A9, c9, rfl, hc9, hN, hb⟩; have H1b := Aside0.mk (blk_below H1.out hb); have HBb := Aside0.mk (below_step HB.out hb); have HNb := Aside0.mk hN; have HRb := Aside0.mk (Kd.C_below HR.out hb); clear hc9 hN hb f0 f1 f2 f3)
  obtain ⟨g, cap, hA9, _, _, _⟩ := Kd.N_form HNb.out (by simp)
  injection hA9 with hA9 _ _
  subst hA9
  refine rebase (P := fun W_ => Code.wp _ _ _ _ W_) (fun W_ => W_.heap[w.heap.size + 1]? = some (.cells #[.string (⟨#[]⟩ : ByteArray), .int .i64 0, .int .i64 1, .slice (some ⟨w.heap.size, 0, none⟩) 3 3] 24 (0, 0)) ∧ W_.heap[w2.heap.size]? = some (.cells #[.string (⟨#[]⟩ : ByteArray), .int .i64 0, .int .i64 1, .slice (some ⟨g, 0, none⟩) 1 1] 24 (0, 0)) ∧ Below w.heap.size w W_ ∧ Kd.N k37 37 W_ W1.heap.size (fun k => W1.heap.size + 2 ≤ k) (.slice (some ⟨g, 0, none⟩) 1 c9) [(⟨[], ⟨3, 0, 0, 0⟩⟩ : S37)] ∧ Kd.C k37 W_ (some ⟨w.heap.size, 0, none⟩) 3 [(⟨[], ⟨1, 0, 1, 0⟩⟩ : S37), ⟨[], ⟨1, 0, 2, 0⟩⟩, ⟨[], ⟨3, 0, 0, 0⟩⟩]) ⟨blk_alloc H1b.out _, new1 _ _, below_alloc HBb.out _, Kd.N_alloc HNb.out _, Kd.C_alloc HRb.out _⟩ ?_
  clear H1b HBb HNb HRb H1 HB HR
  rintro W3 ⟨h1, h2, hB, hN, hC⟩
  have H1 := Aside0.mk h1
  have H2 := Aside0.mk h2
  have HB := Aside0.mk hB
  have HN := Aside0.mk hN
  have HR := Aside0.mk hC
  obtain ⟨f0, f1, f2, f3⟩ := box4 h1
  clear h1 h2 hB hN hC
  have hL2 : Leads [(⟨[], ⟨1, 0, 1, 0⟩⟩ : S37), ⟨[], ⟨1, 0, 2, 0⟩⟩, ⟨[], ⟨3, 0, 0, 0⟩⟩] 2 0 2 := ⟨by decide, by decide, rfl, rfl, by decide, by decide, by decide, rfl, rfl, by decide, rfl, by decide, by decide, Or.inr ⟨rfl, by decide⟩⟩
  have HL2 := Aside0.mk hL2
  clear hL2
  go_wp2_with (go_at_call 13; refine (Final_calls (some ⟨w.heap.size, 0, none⟩) 3 [(⟨[], ⟨1, 0, 1, 0⟩⟩ : S37), ⟨[], ⟨1, 0, 2, 0⟩⟩, ⟨[], ⟨3, 0, 0, 0⟩⟩] _ 0 1 0 2 2 _ HR.out (by decide) (by decide) HL2.out (by decide)).mono ?_; rintro e w4 ⟨rfl, hb⟩; have HB4 := Aside0.mk (below_step HB.out hb); obtain ⟨g0, g1, g2, g3⟩ := box4 (blk_below H2.out hb); obtain ⟨_, _, _, _, z0, z1, _, _, _, _⟩ := row_at (Kd.N_below HN.out hb) 0 (by decide) (by decide) (l := []) (t := ⟨3, 0, 0, 0⟩) rfl; simp only [Int.toNat_zero, Nat.zero_mul, Nat.zero_add] at z1; clear hb f0 f1 f2 f3)
  go_ret
  exact ⟨rfl, HB4.out⟩
end Go.Proofs.Ytdndnjpfpelimaa.PG
