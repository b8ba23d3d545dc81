/- Functions 11, 20 and 21: the blocks that are not reached are taken out. -/
import Derived.Test.YtdndnjpfpelimaaGPure
import Derived.Test.YtdndnjpfpelimaaSame
import Derived.Test.YtdndnjpfpelimaaEnds
import Derived.Test.YtdndnjpfpelimaaPGx0
import Derived.Test.YtdndnjpfpelimaaU
namespace Go.Proofs.Ytdndnjpfpelimaa.PG
open Go.RowKit Go.Proofs.YtdndnjpfpelimaaW.PrintWords Go.Proofs.YtdndnjpfpelimaaW.PrintLast Go.Proofs.YtdndnjpfpelimaaW.PrintMore
attribute [local go_sem] max2_int min2_int max_two min_two max_three min_three max_four min_four   -- for this text's walks alone
set_option linter.unusedVariables false
set_option linter.unusedSimpArgs false
attribute [local go_sem] run_store_complex
set_option maxHeartbeats 4000000 in
set_option maxRecDepth 100000 in
theorem Un1_calls (x : Int) (v : Int) (P0 : Addr) (b : Nat) (m : List (Int × Option Int)) (w : World) (hp : w.cell? P0 = some (.map (some b))) (hm : MapI w b m) (hx : (Lit.int .i64 x).wf = true) (hv : mval m x = some v) :
    Calls Try.prog 21 #[.int .i64 x, .pointer (some P0)] w fun e w' => e = .returned (.int .i64 v) ∧ Below w.heap.size w w' := by
  have hlk := hm.lookOk x hx
  rw [hv] at hlk
  simp only [Option.getD_some, Option.isSome_some] at hlk
  clear hm hv
  go_enter Try.func21, Try.ntmps21
  go_wp2
  go_ret
  exact ⟨rfl, Below.refl _ _⟩
/-- A first block x that leads to the block y at e, which returns; all ends are jumps or returns. -/
structure UnOK (bs : List S37) (e : Int) (x y : S37) : Prop where
  e0 : 0 < e
  e1 : e < bs.length
  h0 : rd_T37 bs 0 = x
  he : rd_T37 bs e = y
  kx : x.f1.f0 = 1
  tx : x.f1.f2 = e
  ky : y.f1.f0 = 3
  k2 : ∀ b ∈ bs, b.f1.f0 ≠ 2
  tt : ∀ b ∈ bs, b.f1.f0 = 1 → 0 ≤ b.f1.f2 ∧ b.f1.f2 < bs.length
def lAt (e : Int) (x y : S37) (i : Int) : List S37 := if i ≤ 0 then [] else if i ≤ e then [x] else [x, y]
def mAt (e : Int) (i : Int) : List (Int × Option Int) := if i ≤ 0 then [] else if i ≤ e then [(0, some 0)] else [(e, some 1), (0, some 0)]
theorem seen_at (n : Nat) (e : Int) (i : Int) (h0 : 0 ≤ i) (h1 : i < n) (he0 : 0 < e) (he : e < n) : rdOf false (seenOf n e) i = decide (i = 0 ∨ i = e) := by
  have hi : i.toNat < n := by omega
  unfold rdOf seenOf
  rw [List.getD_eq_getElem?_getD, List.getElem?_set]
  by_cases h2 : i = e
  · rw [if_pos (by omega), if_pos (by simp; omega)]
    simp [h2]
  · rw [if_neg (by omega), List.getElem?_set]
    by_cases h3 : i = 0
    · rw [if_pos (by omega), if_pos (by simp; omega)]
      simp [h3]
    · rw [if_neg (by omega), List.getElem?_replicate, if_pos (by omega)]
      simp [h2, h3]
theorem lAt_skip (e : Int) (x y : S37) (i : Int) (h0 : 0 ≤ i) (h : i ≠ 0) (h2 : i ≠ e) : lAt e x y (i + 1) = lAt e x y i := by
  unfold lAt
  rw [if_neg (show ¬ (i ≤ 0) by omega), if_neg (show ¬ (i + 1 ≤ 0) by omega)]
  by_cases a : i ≤ e
  · rw [if_pos a, if_pos (by omega)]
  · rw [if_neg a, if_neg (by omega)]
theorem mAt_skip (e : Int) (i : Int) (h0 : 0 ≤ i) (h : i ≠ 0) (h2 : i ≠ e) : mAt e (i + 1) = mAt e i := by
  unfold mAt
  rw [if_neg (show ¬ (i ≤ 0) by omega), if_neg (show ¬ (i + 1 ≤ 0) by omega)]
  by_cases a : i ≤ e
  · rw [if_pos a, if_pos (by omega)]
  · rw [if_neg a, if_neg (by omega)]
theorem lAt_put (e : Int) (x y b : S37) (i : Int) (he : 0 < e) (h : (b = x ∧ i = 0) ∨ (b = y ∧ i = e)) : lAt e x y i ++ [b] = lAt e x y (i + 1) := by
  unfold lAt
  rcases h with ⟨rfl, rfl⟩ | ⟨rfl, rfl⟩
  · rw [if_pos (by omega), if_neg (by omega), if_pos (by omega)]; rfl
  · rw [if_neg (by omega), if_pos (by omega), if_neg (by omega), if_neg (by omega)]; rfl
theorem mAt_put (e : Int) (x y : S37) (i : Int) (he : 0 < e) (h : i = 0 ∨ i = e) : (i, some ((lAt e x y i).length : Int)) :: mAt e i = mAt e (i + 1) := by
  unfold lAt mAt
  rcases h with rfl | rfl
  · rw [if_pos (by omega), if_pos (by omega), if_neg (by omega), if_pos (by omega)]; rfl
  · rw [if_neg (by omega), if_pos (by omega), if_neg (by omega), if_pos (by omega), if_neg (by omega), if_neg (by omega)]; rfl
theorem lAt_len (e : Int) (x y : S37) (i : Int) : (lAt e x y i).length ≤ 2 := by
  unfold lAt
  split
  · simp
  · split <;> simp
theorem mAt_len (e : Int) (i : Int) : (mAt e i).length ≤ 2 := by
  unfold mAt
  split
  · simp
  · split <;> simp
theorem lAt_all (e : Int) (x y : S37) (i : Int) (he : 0 < e) (h : e < i) : lAt e x y i = [x, y] := by
  unfold lAt
  rw [if_neg (by omega), if_neg (by omega)]
theorem mAt_all (e : Int) (i : Int) (he : 0 < e) (h : e < i) : mAt e i = [(e, some 1), (0, some 0)] := by
  unfold mAt
  rw [if_neg (by omega), if_neg (by omega)]
theorem rd37_mem (bs : List S37) (i : Int) (h0 : 0 ≤ i) (h1 : i < bs.length) : rd_T37 bs i ∈ bs := by
  unfold rd_T37
  rw [List.getD_eq_getElem?_getD, List.getElem?_eq_getElem (by omega)]
  exact List.getElem_mem _
def l2 (x x' y : S37) (j : Int) : List S37 := if j ≤ 0 then [x, y] else [x', y]
theorem grown_set (W : World) (b o : Nat) (v : Value) : W.grownBy (W.setCell ⟨b, o, none⟩ v) (some b) :=
  ⟨rfl, rfl, rfl, by simp [World.setCell], fun k _ hne => Below.heap_setCell W ⟨b, o, none⟩ v k (fun h => hne (by rw [h]))⟩
theorem seenOf_length (n : Nat) (e : Int) : (seenOf n e).length = n := by simp [seenOf]
theorem UnOK.reach {bs : List S37} {e : Int} {x y : S37} (h : UnOK bs e x y) (hn : bs.length < 1000) (nm : ByteArray) (p q : Int) : sim_Graph.f (bs.length + 1) nm p q bs = some (bs.map rowOf) ∧ graph_Reach.f (3 * bs.length + 8) (bs.map rowOf) = some (seenOf bs.length e) := by
  refine ⟨graph_eval bs nm p q h.k2 hn _ (by omega), ?_⟩
  have h1 := h.e0
  have h2 := h.e1
  have hl : (bs.map rowOf).length = bs.length := by simp
  have hrow : ∀ i : Int, 0 ≤ i → i < bs.length → rd_L7 (bs.map rowOf) i = rowOf (rd_T37 bs i) := by
    intro i a b
    have hlt : i.toNat < bs.length := by omega
    simp [rd_L7, rd_T37, List.getD_eq_getElem?_getD, List.getElem?_eq_getElem hlt]
  have := Reach_eval (bs.map rowOf) e (by
    intro r hr
    obtain ⟨b, hb, rfl⟩ := List.mem_map.1 hr
    unfold rowOf
    by_cases hk : b.f1.f0 = 1
    · rw [if_pos hk]
      have := h.tt b hb hk
      exact Or.inr ⟨_, rfl, this.1, by have h9 := this.2; rw [← hl] at h9; exact h9⟩
    · rw [if_neg hk]
      exact Or.inl rfl) h1 (by omega) (by omega) (by rw [hrow 0 (by omega) (by omega), h.h0]; simp [rowOf, h.kx, h.tx]) (by rw [hrow e (by omega) h2, h.he]; simp [rowOf, h.ky])
  rwa [hl] at this
set_option maxHeartbeats 4000000 in
set_option maxRecDepth 100000 in
theorem Unreach_calls (A : Option Addr) (c : Nat) (bs : List S37) (nm : ByteArray) (p q e_ : Int) (x y : S37) (w : World) (hr : Kd.C k37 w A bs.length bs) (hc : bs.length ≤ c) (hk : NoK bs) (hu : UnOK bs e_ x y) :
    Calls Try.prog 11 #[.agg #[.string nm, .int .i64 p, .int .i64 q, .slice A bs.length c]] w (CopyOut nm p q [⟨x.f0, ⟨x.f1.f0, x.f1.f1, 1, x.f1.f3⟩⟩, y] w) := by
  have HR := Aside0.mk hr
  have HC := Aside0.mk hc
  have HK := Aside0.mk hk
  have HU := Aside0.mk hu
  obtain ⟨R, hRl, hG⟩ : ∃ R : List (List Int), R.length = bs.length ∧ sim_Graph.f (bs.length + 1) nm p q bs = some R ∧ graph_Reach.f (3 * bs.length + 8) R = some (seenOf bs.length e_) := ⟨bs.map rowOf, by simp, hu.reach hk.2.1 nm p q⟩
  have HG := Aside0.mk hG
  clear hRl hG
  clear hr hc hk hu
  have hu24 := Try.underlying24
  have hu37 := Try.underlying37
  have hu35 := Try.underlying35
  have hmm := @run_makeMap Try.prog
  have hmf : ∀ (fn : Fn) (first cap : Array Value) (w : World), (Instr.makeFunc fn first cap).run Try.prog w = .ok (.func fn first cap) w := fun _ _ _ _ => rfl
  go_enter Try.func11, Try.ntmps11
  go_upto_region 1 with (fail)
  refine rebase (P := fun W_ => Code.wp _ _ _ _ W_) (fun W_ => W_.heap[w.heap.size]? = some (.cells #[.string nm, .int .i64 p, .int .i64 q, .slice A bs.length c] 24 (0, 0)) ∧ W_.heap[w.heap.size + 1]? = some (.cells #[.string (⟨#[]⟩ : ByteArray), .int .i64 0, .int .i64 0, .slice none 0 0] 24 (0, 0)) ∧ Below w.heap.size w W_ ∧ W_.heap.size = w.heap.size + 2) ⟨new12 _ _ _, new2 _ _ _, below_alloc (below_alloc (Below.refl _ _) _) _, by rw [World.size_alloc, World.size_alloc]⟩ ?_
  rintro W1 ⟨h0, h1, hB, hs⟩
  have H0 := Aside0.mk h0
  have H1 := Aside0.mk h1
  have HB := Aside0.mk hB
  have HS := Aside0.mk hs
  obtain ⟨f0, f1, f2, f3⟩ := box4 h0
  clear h0 h1 hB hs
  go_upto_region 2 with (first | (go_at_call 14; refine (Copy_calls A c bs nm p q _ (Kd.C_below HR.out HB.out) HC.out HK.out).mono ?_; rintro e w2 ⟨A2, c2, rfl, hc2, hN, hB⟩; have H0b := Aside0.mk (blk_below H0.out hB); have H1b := Aside0.mk (blk_below H1.out hB); have HBb := Aside0.mk (below_step HB.out hB); have HNb := Aside0.mk hN; have HSb := Aside0.mk hB.size; clear hc2 hN hB f0 f1 f2 f3; obtain ⟨g, cap, hA2, hg1, hg2, _⟩ := Kd.N_form HNb.out (by have h1 := HU.out.e0; have h2 := HU.out.e1; omega); injection hA2 with hA2 _ _; subst hA2) | ((with_reducible refine gate_store (t := 24) (p := 1) (v := .tmp 12) rfl ?_); refine wpList_upd rfl 24 1 (.tmp 12) rfl rfl w.heap.size #[.string nm, .int .i64 p, .int .i64 q, .slice (some ⟨g, 0, none⟩) bs.length bs.length] rfl rfl 24 #[.string nm, .int .i64 p, .int .i64 q, .slice A bs.length c] H0b.out size24 rfl rfl ?_; intro W2 hV_; have hV := Aside0.mk hV_; clear hV_))
  refine rebase (P := fun W_ => Code.wp _ _ _ _ W_) (fun W_ => W_.heap[w.heap.size]? = some (.cells #[.string nm, .int .i64 p, .int .i64 q, .slice (some ⟨g, 0, none⟩) bs.length bs.length] 24 (0, 0)) ∧ W_.heap[w.heap.size + 1]? = some (.cells #[.string (⟨#[]⟩ : ByteArray), .int .i64 0, .int .i64 0, .slice none 0 0] 24 (0, 0)) ∧ Below w.heap.size w W_ ∧ Kd.N k37 37 W_ w.heap.size (fun k => w.heap.size + 2 ≤ k) (.slice (some ⟨g, 0, none⟩) bs.length c2) bs) ⟨hV.out.blk, hV.out.other H1b.out (by omega), hV.out.below HBb.out (Nat.le_refl _), Kd.N_lower (Kd.N_mono (Kd.N_keep HNb.out hV.out.keep (fun k hk => by have h1 := HS.out; omega)) (fun k hk => by have h1 := HS.out; omega)) (by have h1 := HS.out; omega)⟩ ?_
  clear hV H0b H1b HBb HNb HSb hg1 hg2 H0 H1 HB HS
  rintro W3 ⟨h0, h1, hB, hN⟩
  have H0 := Aside0.mk h0
  have H1 := Aside0.mk h1
  have HB := Aside0.mk hB
  have HN := Aside0.mk hN
  obtain ⟨f0, f1, f2, f3⟩ := box4 h0
  clear h0 h1 hB hN
  go_upto_region 3 with (first | (go_at_call 20; refine (sim_Graph.calls _ nm p q (some ⟨g, 0, none⟩) bs.length bs _ _ (Kd.N_reads' HN.out).2.2 (Nat.le_refl _) HG.out.1).mono ?_; rintro e w4 ⟨v4, rfl, ho, hb⟩; have H0b := Aside0.mk (blk_below H0.out hb); have H1b := Aside0.mk (blk_below H1.out hb); have HBb := Aside0.mk (below_step HB.out hb); have HNb := Aside0.mk (Kd.N_below HN.out hb); obtain ⟨A4, c4, rfl⟩ := Kd.S_slice ho; have HO4 := Aside0.mk ho; clear ho hb f0 f1 f2 f3) | (go_at_call 19; refine (graph_Reach.calls _ A4 c4 R _ _ (Kd.S_reads' HO4.out).2.2 (Kd.S_reads' HO4.out).2.1 HG.out.2).mono ?_; rintro e w5 ⟨v5, rfl, ho, hb⟩; have H0c := Aside0.mk (blk_below H0b.out hb); have H1c := Aside0.mk (blk_below H1b.out hb); have HBc := Aside0.mk (below_step HBb.out hb); have HNc := Aside0.mk (Kd.N_below HNb.out hb); have HIS := Aside0.mk ho; clear ho hb))
  obtain ⟨A5, c5, rfl⟩ := Kd.R_slice HIS.out
  have HSC := Aside0.mk (Kd.R_reads' HIS.out).2.2
  clear HIS HO4 H0 H1 HB HN H0b H1b HBb HNb
  obtain ⟨f0, f1, f2, f3⟩ := box4 H0c.out
  go_upto_region 5 with (fail)
  refine rebase (P := fun W_ => Code.wp _ _ _ _ W_) (fun W_ => W_.heap[w5.heap.size + 1]? = some (.cells #[.map (some w5.heap.size)] 54 (0, 0)) ∧ MapI W_ w5.heap.size [] ∧ Below w5.heap.size w5 W_ ∧ w5.heap.size + 2 ≤ W_.heap.size) ⟨new2 _ _ _, (MapI.made w5).below (below_alloc (Below.refl _ _) _), below_alloc (below_alloc (Below.refl _ _) _) _, by rw [World.size_alloc, World.size_alloc]; omega⟩ ?_
  rintro W6 ⟨h0, h1, h2, h3⟩
  have K0 := Aside0.mk h0
  have K1 := Aside0.mk h1
  have K2 := Aside0.mk h2
  have K3 := Aside0.mk h3
  replace f3 := (h2.cell (World.block_lt_of_cell? w5 _ f3)).trans f3
  clear f0 f1 f2 h0 h1 h2 h3
  go_wp2
  go_loopg [5, 20] bs.length (fun kq v5 v20 w' => ∃ i : Int, v20 = .int .i64 i ∧ Aside0 (0 ≤ i ∧ i + kq = bs.length) ∧ Aside0 (Below w5.heap.size w5 w') ∧ Aside0 (w'.heap[w5.heap.size + 1]? = some (.cells #[.map (some w5.heap.size)] 54 (0, 0))) ∧ Aside0 (MapI w' w5.heap.size (mAt e_ i)) ∧ Aside0 (w5.heap.size + 2 ≤ w'.heap.size) ∧ Aside0 (Kd.N k37 37 w' w5.heap.size (fun k => w.heap.size + 2 ≤ k ∧ k ≠ w5.heap.size ∧ k ≠ w5.heap.size + 1) v5 (lAt e_ x y i)))
  case atStart => exact ⟨0, rfl, ⟨by omega, by simp⟩, K2, K0, K1, K3, ⟨Kd.N_nil _ _ _ _ _⟩⟩
  case round =>
    obtain ⟨i, rfl, HI, HB, HMV, HM, HS, HL⟩ := hrel
    by_cases hi : i < (bs.length : Int)
    · have hib : decide (i < (bs.length : Int)) = true := decide_eq_true hi
      have hi0 := HI.out.1
      have hrow := row_at HNc.out i hi0 hi (l := (rd_T37 bs i).f0) (t := (rd_T37 bs i).f1) rfl
      have hkk : (rd_T37 bs i = x ∧ i = 0) ∨ (rd_T37 bs i = y ∧ i = e_) ∨ (i ≠ 0 ∧ i ≠ e_) := by
        by_cases a : i = 0
        · exact Or.inl ⟨by rw [a]; exact HU.out.h0, a⟩
        · by_cases a2 : i = e_
          · exact Or.inr (Or.inl ⟨by rw [a2]; exact HU.out.he, a2⟩)
          · exact Or.inr (Or.inr ⟨a, a2⟩)
      have hi5 : i < ((seenOf bs.length e_).length : Int) := by rw [seenOf_length]; exact hi
      obtain ⟨ad5, rfl, hy⟩ := Kd.at_bool HSC.out i hi0 hi5
      rw [seen_at _ _ _ hi0 hi HU.out.e0 HU.out.e1] at hy
      generalize rd_T37 bs i = b at hrow hkk
      obtain ⟨l, b0, b1, b2, b3⟩ := b
      dsimp only at hrow
      obtain ⟨A0, c0, hl0, hF0, hx0, hx1, hx2, hx3, hx4, _⟩ := hrow
      have HF0 := Aside0.mk (Kd.F_below (Kd.F_bound hF0) HB.out)
      have HL0 := Aside0.mk hl0
      have HKK := Aside0.mk hkk
      replace hx0 := (HB.out.cell (World.block_lt_of_cell? w5 _ hx0)).trans hx0
      replace hx1 := (HB.out.cell (World.block_lt_of_cell? w5 _ hx1)).trans hx1
      replace hx2 := (HB.out.cell (World.block_lt_of_cell? w5 _ hx2)).trans hx2
      replace hx3 := (HB.out.cell (World.block_lt_of_cell? w5 _ hx3)).trans hx3
      replace hx4 := (HB.out.cell (World.block_lt_of_cell? w5 _ hx4)).trans hx4
      have HY := Aside0.mk hy
      have hi0t := eq_true hi0
      have hi1t := eq_true hi
      have hi5t := eq_true hi5
      have HII := Aside0.mk hi
      have HW := Aside0.mk (wrapS hi0 hi (by have h1 := HK.out.2.1; omega))
      have HII0 := Aside0.mk hi0
      clear hi hi0 hi5 hkk hF0 hl0 hy
      go_upto_region 8 with (fail)
      refine rebase (P := fun W_ => Code.wp _ _ _ _ W_) (fun W_ => W_.heap[wr.heap.size]? = some (.cells #[.slice A0 l.length c0, .int .i64 b0, .int .i64 b1, .int .i64 b2, .int .i64 b3] 37 (0, 0)) ∧ Below w5.heap.size w5 W_ ∧ W_.heap[w5.heap.size + 1]? = some (.cells #[.map (some w5.heap.size)] 54 (0, 0)) ∧ MapI W_ w5.heap.size (mAt e_ i) ∧ w5.heap.size + 2 ≤ W_.heap.size ∧ Kd.N k37 37 W_ w5.heap.size (fun k => w.heap.size + 2 ≤ k ∧ k ≠ w5.heap.size ∧ k ≠ w5.heap.size + 1) u5 (lAt e_ x y i) ∧ Kd.F k32 W_ (fun k => (w.heap.size + 2 ≤ k ∧ k ≠ g) ∧ k < w5.heap.size) A0 l.length l ∧ wr.heap.size < W_.heap.size) ⟨new1 _ _, below_alloc HB.out _, blk_alloc HMV.out _, HM.out.below (below_alloc (Below.refl _ _) _), by rw [World.size_alloc]; exact Nat.le_succ_of_le HS.out, Kd.N_alloc HL.out _, Kd.F_alloc HF0.out _, by rw [World.size_alloc]; exact Nat.lt_succ_self _⟩ ?_
      clear HB HMV HM HL HF0 hx0 hx1 hx2 hx3 hx4
      rintro W8 ⟨h0, h1, h2, h3, h4, h5, h6, h7⟩
      have HBX := Aside0.mk h0
      have HB := Aside0.mk h1
      have HMV := Aside0.mk h2
      have HM := Aside0.mk h3
      have HS8 := Aside0.mk h4
      have HL := Aside0.mk h5
      have HF0 := Aside0.mk h6
      have HZ8 := Aside0.mk h7
      clear h0 h1 h2 h3 h4 h5 h6 h7
      have hy := (HB.out.cell (World.block_lt_of_cell? w5 _ HY.out)).trans HY.out
      by_cases hd : i = 0 ∨ i = e_
      · have hdd : decide (i = 0 ∨ i = e_) = true := decide_eq_true hd
        rw [hdd] at hy
        obtain ⟨A6, c6, rfl⟩ := Kd.N_slice HL.out
        go_upto_region 9 with (fail)
        obtain ⟨W9, hst, hm9, hg9⟩ := HM.out.store i ((lAt e_ x y i).length : Int) (wfI HII0.out (by have h1 := HII.out; have h2 := HK.out.2.1; omega)) (wfI (by omega) (by have h1 := lAt_len e_ x y i; omega)) (by have h1 := mAt_len e_ i; omega)
        have HM9 := Aside0.mk hm9
        have HBX9 := Aside0.mk (blk_grown HBX.out hg9 (fun he => by have h1 := HS.out; injection he with he; omega))
        have HB9 := Aside0.mk (HB.out.grown hg9 HB.out.size (fun k hk => by injection hk with hk; omega))
        have HMV9 := Aside0.mk (blk_grown HMV.out hg9 (fun he => by injection he with he; omega))
        have HS9 : Aside0 (w5.heap.size + 2 ≤ W9.heap.size) := Aside0.mk (Nat.le_trans HS8.out hg9.size)
        have HL9 := Aside0.mk (Kd.N_grown HL.out hg9 (fun k hk he => by injection he with he; exact hk.2.1 he))
        have HF9 := Aside0.mk (Kd.F_grown HF0.out hg9 (fun k hk he => by injection he with he; omega))
        have HLT : Aside0 (w.heap.size + 1 < w5.heap.size) := Aside0.mk (blk_lt H1c.out)
        have hmv := blk_cell HMV.out 0
        obtain ⟨z0, z1, z2, z3, z4⟩ := box5 HBX9.out
        clear hm9 hg9 hy
        go_wp2_with ((with_reducible refine gate_builtin (b := .append) (xs := #[.tmp 33, .tmp 35]) rfl ?_); at_builtin; refine Kd.N_append k37 (w0 := w5) w5.heap.size rfl (.tmp 33) (.tmp 35) 22 37 (.agg #[.slice none 0 0, .int .i64 0, .int .i64 0, .int .i64 0, .int .i64 0]) 56 rfl Try.underlying22 info37 rfl (by decide) (by omega) (.slice A6 (lAt e_ x y i).length c6) (lAt e_ x y i) (⟨l, ⟨b0, b1, b2, b3⟩⟩ : S37) [.slice A0 l.length c0, .int .i64 b0, .int .i64 b1, .int .i64 b2, .int .i64 b3] (fun k => w.heap.size + 2 ≤ k ∧ k ≠ w5.heap.size ∧ k ≠ w5.heap.size + 1) (fun k => (w.heap.size + 2 ≤ k ∧ k ≠ g) ∧ k < w5.heap.size) rfl rfl (k37_mkF _ _ _ HL0.out HF9.out) ?aP ?aF HL9.out HB9.out HB9.out.size ?aL ?_; (case aP => exact fun k hk => ⟨⟨hk.1.1, by omega, by omega⟩, fun he => by have h1 := Kd.N_base HL9.out k he.symm; omega⟩); (case aF => exact fun k hk => ⟨by have h1 := HS9.out; have h2 := HLT.out; omega, by have h1 := HS9.out; omega, by have h1 := HS9.out; omega⟩); (case aL => have h1 := lAt_len e_ x y i; omega); intro v1 W10 ho hb hg hat; have HMV10 := Aside0.mk (blk_grown HMV9.out hg (fun he => (HL9.out.1 _ he.symm).2.2 rfl)); have HM10 := Aside0.mk (HM9.out.kept hg (fun he => (HL9.out.1 _ he.symm).2.1 rfl)); have HB10 := Aside0.mk hb; have HL10 := Aside0.mk ho; have HS10 : Aside0 (w5.heap.size + 2 ≤ W10.heap.size) := Aside0.mk (Nat.le_trans HS9.out hg.size); clear ho hb hg hat)
        go_roundg (gk - 1)
        case measure => have h1 := HI.out; have h2 := HII.out; omega
        case rel =>
          have h2 := HI.out
          have h3 := HII.out
          have h0 := HII0.out
          have hb : ((⟨l, ⟨b0, b1, b2, b3⟩⟩ : S37) = x ∧ i = 0) ∨ ((⟨l, ⟨b0, b1, b2, b3⟩⟩ : S37) = y ∧ i = e_) := by
            rcases HKK.out with h | h | h
            · exact Or.inl h
            · exact Or.inr h
            · exact absurd hd (by omega)
          exact ⟨wrap64 (i + 1), rfl, ⟨by rw [HW.out]; omega, by rw [HW.out]; omega⟩, HB10, HMV10, ⟨by rw [HW.out, ← mAt_put e_ x y i HU.out.e0 hd]; exact HM10.out⟩, HS10, ⟨by rw [HW.out, ← lAt_put e_ x y _ i HU.out.e0 hb]; exact HL10.out⟩⟩
      · have hdd : decide (i = 0 ∨ i = e_) = false := decide_eq_false hd
        rw [hdd] at hy
        go_wp2
        go_roundg (gk - 1)
        case measure => have h1 := HI.out; have h2 := HII.out; omega
        case rel =>
          have h2 := HI.out
          have h3 := HII.out
          have h0 := HII0.out
          have hm1 := mAt_skip e_ i h0 (fun a => hd (Or.inl a)) (fun a => hd (Or.inr a))
          have hl1 := lAt_skip e_ x y i h0 (fun a => hd (Or.inl a)) (fun a => hd (Or.inr a))
          exact ⟨wrap64 (i + 1), rfl, ⟨by rw [HW.out]; omega, by rw [HW.out]; omega⟩, HB, HMV, ⟨by rw [HW.out, hm1]; exact HM.out⟩, HS8, ⟨by rw [HW.out, hl1]; exact HL.out⟩⟩
    · have hib : decide (i < (bs.length : Int)) = false := decide_eq_false hi
      have hen : e_ < i := by have h1 := HU.out.e1; omega
      have HL2 := HL.out
      rw [lAt_all e_ x y i HU.out.e0 hen] at HL2
      have HM2 := Aside0.mk (mAt_all e_ i HU.out.e0 hen ▸ HM.out : MapI wr w5.heap.size [(e_, some 1), (0, some 0)])
      obtain ⟨gl, cl, rfl, hgl, hgl2, _⟩ := Kd.N_form HL2 (by simp)
      have hgo := HL2.1 gl (by simp [Value.ownBlock])
      have HL3 : Aside0 (Kd.N k37 37 wr w5.heap.size (fun k => w.heap.size + 2 ≤ k ∧ k ≠ w5.heap.size ∧ k ≠ w5.heap.size + 1) (.slice (some ⟨gl, 0, none⟩) 2 cl) [x, y]) := ⟨HL2⟩
      have hcl : 2 ≤ cl := (Kd.N_reads' HL3.out).2.1
      have HCL := Aside0.mk hcl
      have GGL := Aside0.mk hgo
      have HGB := Aside0.mk hgl
      clear HL HM HL2 hgl hgl2 hgo hcl
      obtain ⟨wo, rfl⟩ : ∃ wo : World, wo = wr := ⟨_, rfl⟩
      obtain ⟨lx, x0, x1, x2, x3⟩ := x
      obtain ⟨ly, y0, y1, y2, y3⟩ := y
      have hx0 := HU.out.kx
      have hx2 := HU.out.tx
      have hy0 := HU.out.ky
      dsimp only at hx0 hx2 hy0
      subst hx0 hx2 hy0
      go_wp2
      go_loopg [41] 2 (fun kq v41 w' => ∃ j : Int, v41 = .int .i64 j ∧ Aside0 (0 ≤ j ∧ j + kq = 2) ∧ Aside0 (Below w5.heap.size w5 w') ∧ Aside0 (w'.heap[w5.heap.size + 1]? = some (.cells #[.map (some w5.heap.size)] 54 (0, 0))) ∧ Aside0 (MapI w' w5.heap.size [(x2, some 1), (0, some 0)]) ∧ Aside0 (Kd.N k37 37 w' w5.heap.size (fun k => w.heap.size + 2 ≤ k ∧ k ≠ w5.heap.size ∧ k ≠ w5.heap.size + 1) (.slice (some ⟨gl, 0, none⟩) 2 cl) (l2 ⟨lx, ⟨1, x1, x2, x3⟩⟩ ⟨lx, ⟨1, x1, 1, x3⟩⟩ ⟨ly, ⟨3, y1, y2, y3⟩⟩ j)))
      case atStart => exact ⟨0, rfl, ⟨by omega, by simp⟩, HB, HMV, HM2, HL3⟩
      case round =>
        clear HB HMV HM2 HL3
        obtain ⟨j, rfl, HJ, HB, HMV, HM, HL⟩ := hrel
        by_cases hj : j < 2
        · have hjb : decide (j < 2) = true := decide_eq_true hj
          have hj0 := HJ.out.1
          have hat : (l2 (⟨lx, ⟨1, x1, x2, x3⟩⟩ : S37) (⟨lx, ⟨1, x1, 1, x3⟩⟩ : S37) (⟨ly, ⟨3, y1, y2, y3⟩⟩ : S37) j).getD j.toNat z37 = if j = 0 then (⟨lx, ⟨1, x1, x2, x3⟩⟩ : S37) else (⟨ly, ⟨3, y1, y2, y3⟩⟩ : S37) := by
            by_cases a : j = 0
            · subst a; rfl
            · obtain rfl : j = 1 := by omega
              rfl
          have hi0t := eq_true hj0
          have hi1t := eq_true hj
          have HJJ := Aside0.mk hj
          have HW := Aside0.mk (wrapS (n := 2) hj0 hj (by omega))
          clear hj hj0
          by_cases a : j = 0
          · rw [if_pos a] at hat
            have hrow := row_at HL.out j (of_eq_true hi0t) (by simpa using of_eq_true hi1t) hat
            obtain ⟨A0, c0, _, _, hx0, hx1, hx2, hx3, hx4, hfr⟩ := hrow
            have hgl : gl < wr.heap.size := World.block_lt_of_cell? wr _ hx0
            have HGL := Aside0.mk hgl
            have HFR := Aside0.mk hfr
            have HAT := Aside0.mk hat
            dsimp only at hx1 hx2 hx3 hx4
            have hx3w := Aside0.mk hx3
            have hp := Aside0.mk (blk_cell HMV.out 0)
            have HA := Aside0.mk a
            clear hgl hfr hat a
            go_wp2_with (go_at_call 21; refine (Un1_calls x2 1 ⟨w5.heap.size + 1, 0, none⟩ w5.heap.size _ _ hp.out HM.out (wfI (Int.le_of_lt HU.out.e0) (by have h1 := HU.out.e1; have h2 := HK.out.2.1; omega)) (by simp [mval])).mono ?_; rintro e w7 ⟨rfl, hb⟩; have yf : w7.frozen? ⟨gl, j.toNat * 5 + 3, none⟩ = false := (hb.frozen (p := ⟨gl, j.toNat * 5 + 3, none⟩) HGL.out).trans (HFR.out 3); have cell3 := (hb.cell (World.block_lt_of_cell? wr _ hx3w.out)).trans hx3w.out; have HBc := Aside0.mk (below_step HB.out hb); have HMVc := Aside0.mk (blk_below HMV.out hb); have HMc := Aside0.mk (HM.out.below hb); have HLc := Aside0.mk (Kd.N_below HL.out hb); clear hb hx0 hx1 hx2 hx3 hx4)
            go_roundg (gk - 1)
            case measure => have h1 := HJ.out; have h2 := HJJ.out; omega
            case rel =>
              have h2 := HJ.out
              have h3 := HJJ.out
              have hb1 := Aside0.mk (blk_lt HMVc.out)
              have hne : w5.heap.size ≠ gl := fun h => GGL.out.2.1 h.symm
              have hne2 : w5.heap.size + 1 ≠ gl := fun h => GGL.out.2.2 h.symm
              have a := HA.out
              have hse : (l2 (⟨lx, ⟨1, x1, x2, x3⟩⟩ : S37) (⟨lx, ⟨1, x1, 1, x3⟩⟩ : S37) (⟨ly, ⟨3, y1, y2, y3⟩⟩ : S37) j).set j.toNat (⟨lx, ⟨1, x1, 1, x3⟩⟩ : S37) = l2 (⟨lx, ⟨1, x1, x2, x3⟩⟩ : S37) (⟨lx, ⟨1, x1, 1, x3⟩⟩ : S37) (⟨ly, ⟨3, y1, y2, y3⟩⟩ : S37) (j + 1) := by subst a; rfl
              exact ⟨wrap64 (j + 1), rfl, ⟨by rw [HW.out]; omega, by rw [HW.out]; omega⟩, ⟨below_set HBc.out HGB.out⟩, ⟨blk_far HMVc.out hne2 _⟩, ⟨HMc.out.kept (row := some gl) (grown_set _ _ _ _) (fun h => by injection h with h; exact hne h)⟩, ⟨by rw [HW.out, ← hse]; exact row_to HLc.out j (of_eq_true hi0t) (by simpa using of_eq_true hi1t) HAT.out 1⟩⟩
          · rw [if_neg a] at hat
            have hrow := row_at HL.out j (of_eq_true hi0t) (by simpa using of_eq_true hi1t) hat
            obtain ⟨A0, c0, _, _, hx0, hx1, hx2, hx3, hx4, _⟩ := hrow
            dsimp only at hx1 hx2 hx3 hx4
            clear hat
            go_wp2
            go_roundg (gk - 1)
            case measure => have h1 := HJ.out; have h2 := HJJ.out; omega
            case rel =>
              have h2 := HJ.out
              have h3 := HJJ.out
              have hse : l2 (⟨lx, ⟨1, x1, x2, x3⟩⟩ : S37) (⟨lx, ⟨1, x1, 1, x3⟩⟩ : S37) (⟨ly, ⟨3, y1, y2, y3⟩⟩ : S37) j = l2 (⟨lx, ⟨1, x1, x2, x3⟩⟩ : S37) (⟨lx, ⟨1, x1, 1, x3⟩⟩ : S37) (⟨ly, ⟨3, y1, y2, y3⟩⟩ : S37) (j + 1) := by unfold l2; rw [if_neg (by omega), if_neg (by omega)]
              exact ⟨wrap64 (j + 1), rfl, ⟨by rw [HW.out]; omega, by rw [HW.out]; omega⟩, HB, HMV, HM, ⟨by rw [HW.out, ← hse]; exact HL.out⟩⟩
        · have hjb : decide (j < 2) = false := decide_eq_false hj
          have hl2 : l2 (⟨lx, ⟨1, x1, x2, x3⟩⟩ : S37) (⟨lx, ⟨1, x1, 1, x3⟩⟩ : S37) (⟨ly, ⟨3, y1, y2, y3⟩⟩ : S37) j = [(⟨lx, ⟨1, x1, 1, x3⟩⟩ : S37), (⟨ly, ⟨3, y1, y2, y3⟩⟩ : S37)] := by unfold l2; rw [if_neg (by have h1 := HJ.out; omega)]
          have HL2 := HL.out
          rw [hl2] at HL2
          have HLw := Aside0.mk HL2
          have H0w := Aside0.mk (blk_below H0c.out HB.out)
          have H1w := Aside0.mk (blk_below H1c.out HB.out)
          have HBw := Aside0.mk (below_step HBc.out HB.out)
          have hmx : (⟨lx, ⟨1, x1, x2, x3⟩⟩ : S37) ∈ bs := HU.out.h0 ▸ rd37_mem bs 0 (by omega) (by have h1 := HU.out.e0; have h2 := HU.out.e1; omega)
          have hmy : (⟨ly, ⟨3, y1, y2, y3⟩⟩ : S37) ∈ bs := HU.out.he ▸ rd37_mem bs x2 (Int.le_of_lt HU.out.e0) HU.out.e1
          have HNK : Aside0 (NoK [(⟨lx, ⟨1, x1, 1, x3⟩⟩ : S37), (⟨ly, ⟨3, y1, y2, y3⟩⟩ : S37)]) := ⟨by
            refine ⟨fun b hb z hz => ?_, by simp, fun b hb => ?_⟩
            · simp only [List.mem_cons, List.not_mem_nil, or_false] at hb
              rcases hb with rfl | rfl
              · exact HK.out.1 (⟨lx, ⟨1, x1, x2, x3⟩⟩ : S37) hmx z hz
              · exact HK.out.1 _ hmy z hz
            · simp only [List.mem_cons, List.not_mem_nil, or_false] at hb
              rcases hb with rfl | rfl
              · exact HK.out.2.2 (⟨lx, ⟨1, x1, x2, x3⟩⟩ : S37) hmx
              · exact HK.out.2.2 _ hmy⟩
          clear HL2 hl2 hmx hmy
          go_wp2_with (first | ((with_reducible refine gate_store (t := 22) (p := 85) (v := (.tmp 84)) rfl ?_); refine wpList_seg rfl 22 85 (.tmp 84) rfl rfl w.heap.size 3 _ [.slice (some ⟨gl, 0, none⟩) 2 cl] rfl rfl rfl 24 #[.string nm, .int .i64 p, .int .i64 q, .slice (some ⟨g, 0, none⟩) bs.length bs.length] H0w.out size22 (Nat.le_of_ble_eq_true rfl) rfl ?_; intro W7 hU_; have hU : Aside0 (Upd _ W7 w.heap.size #[.string nm, .int .i64 p, .int .i64 q, .slice (some ⟨gl, 0, none⟩) 2 cl] 24) := Aside0.mk hU_; clear hU_; obtain ⟨z0, z1, z2, z3⟩ := box4 hU.out.blk; have H1v := Aside0.mk (hU.out.other H1w.out (by omega)); have HBv := Aside0.mk (hU.out.below HBw.out (Nat.le_refl _)); have HLv := Aside0.mk (Kd.N_keep HLw.out hU.out.keep (fun k hk => by have h1 := hk.1; omega))) | (go_at_call 14; refine (Copy_calls (some ⟨gl, 0, none⟩) cl [(⟨lx, ⟨1, x1, 1, x3⟩⟩ : S37), (⟨ly, ⟨3, y1, y2, y3⟩⟩ : S37)] nm p q _ (Kd.N_reads' HLv.out).2.2 HCL.out HNK.out).mono ?_; rintro e w8 ⟨A9, c9, rfl, hc9, hN, hB⟩; have H1x := Aside0.mk (blk_below H1v.out hB); have HBx := Aside0.mk (below_step HBv.out hB); have HN9 := Aside0.mk hN; have HZ9 := Aside0.mk hc9; have HSZ : Aside0 (w.heap.size + 2 ≤ W7.heap.size) := Aside0.mk (by have h1 := blk_lt H1v.out; omega); clear hc9 hN hB z0 z1 z2 z3) | ((with_reducible refine gate_store (t := 24) (p := 2) (v := .tmp 87) rfl ?_); refine wpList_upd rfl 24 2 (.tmp 87) rfl rfl (w.heap.size + 1) #[.string nm, .int .i64 p, .int .i64 q, .slice A9 2 2] rfl rfl 24 #[.string (⟨#[]⟩ : ByteArray), .int .i64 0, .int .i64 0, .slice none 0 0] H1x.out size24 rfl rfl ?_; intro W9 hV_; have hV := Aside0.mk hV_; clear hV_))
          refine bodyPost_ret (results_cell_row rfl _ _ (w.heap.size + 1) 24 _ (0, 0) _ rfl hV.out.blk Try.underlying24 rfl size24) rfl ?_
          refine ⟨A9, c9, rfl, HZ9.out, ?_, hV.out.below HBx.out (by omega)⟩
          exact Kd.N_lower (Kd.N_mono (Kd.N_keep HN9.out hV.out.keep (fun k hk => by have h1 := HSZ.out; omega)) (fun k hk => by have h1 := HSZ.out; omega)) (by have h1 := HSZ.out; omega)
end Go.Proofs.Ytdndnjpfpelimaa.PG
