/- The blocks of the chain and what the optimizer asks of them; what it leaves of them. -/
import Derived.Test.YtdndnjpfpelimaaGPure
import Derived.Test.YtdndnjpfpelimaaAwake
import Derived.Test.YtdndnjpfpelimaaRun
import Derived.Test.YtdndnjpfpelimaaPGx0
import Derived.Test.YtdndnjpfpelimaaU
namespace Go.Proofs.Ytdndnjpfpelimaa.PG
open Go.RowKit Go.Proofs.YtdndnjpfpelimaaW.PrintWords Go.Proofs.YtdndnjpfpelimaaW.PrintLast Go.Proofs.YtdndnjpfpelimaaW.PrintMore
attribute [local go_sem] max2_int min2_int max_two min_two max_three min_three max_four min_four   -- for this text's walks alone
set_option linter.unusedVariables false
set_option linter.unusedSimpArgs false
attribute [local go_sem] run_store_complex
/-! The chain's blocks, and what the optimizer asks of them. -/
def rout : S32 := ⟨6, 0, 0, 0, 0, 0, z29, 0⟩
def fst_ (k fr e : Int) : Int := if k = 0 then e else fr
def entB (n m : Int) : S37 := ⟨[rout], ⟨2, 0, fst_ n 1 (1 + n + m), fst_ m (1 + n) (1 + n + m)⟩⟩
def c1B (n m : Int) (i : Nat) : S37 := ⟨[], ⟨1, 0, if (i : Int) + 1 = n then 1 + n + m else 2 + i, 0⟩⟩
def c2B (n : Int) (i : Nat) : S37 := ⟨[], ⟨1, 0, 2 + n + i, 0⟩⟩
def lastB : S37 := ⟨[rout], ⟨3, 0, 0, 0⟩⟩
/-- The blocks behind i rounds of the first loop. -/
def ch1 (n m : Int) (i : Nat) : List S37 := entB n m :: (List.range i).map (c1B n m)
/-- The blocks behind j rounds of the second loop. -/
def ch2 (n m : Int) (j : Nat) : List S37 := ch1 n m n.toNat ++ (List.range j).map (c2B n)
def chain (n m : Int) : List S37 := ch2 n m m.toNat ++ [lastB]
theorem ch1_zero (n m : Int) : ch1 n m 0 = [entB n m] := rfl
theorem ch1_succ (n m : Int) (i : Nat) : ch1 n m (i + 1) = ch1 n m i ++ [c1B n m i] := by
  unfold ch1
  rw [List.range_succ, List.map_append]
  rfl
theorem ch2_zero (n m : Int) : ch2 n m 0 = ch1 n m n.toNat := by
  unfold ch2
  simp
theorem ch2_succ (n m : Int) (j : Nat) : ch2 n m (j + 1) = ch2 n m j ++ [c2B n j] := by
  unfold ch2
  rw [List.range_succ, List.map_append, ← List.append_assoc]
  rfl
theorem ch1_length (n m : Int) (i : Nat) : (ch1 n m i).length = i + 1 := by simp [ch1]
theorem ch2_length (n m : Int) (j : Nat) : (ch2 n m j).length = n.toNat + j + 1 := by simp [ch2, ch1_length]; omega
theorem chain_length (n m : Int) : (chain n m).length = n.toNat + m.toNat + 2 := by simp [chain, ch2_length]
/-- What is known of such blocks. -/
structure Good (bs : List S37) (e : Int) : Prop where
  len : (bs.length : Int) = e + 1
  lt : bs.length < 1000
  e0 : 0 < e
  z : ∃ k a b c, rd_T37 bs 0 = ⟨[rout], ⟨k, a, b, c⟩⟩ ∧ (k = 1 ∨ k = 2) ∧ 1 ≤ b ∧ b ≤ e ∧ (k = 2 → 1 ≤ c ∧ c ≤ e)
  mid : ∀ x : Int, 1 ≤ x → x < e → ∃ t, rd_T37 bs x = ⟨[], ⟨1, 0, t, 0⟩⟩ ∧ x < t ∧ t ≤ e
  last : rd_T37 bs e = lastB
theorem chain_good (n m : Int) (n1 : 0 ≤ n) (n2 : n < 40) (m1 : 0 ≤ m) (m2 : m < 40) : Good (chain n m) (1 + n + m) := by
  refine ⟨by rw [chain_length]; omega, by rw [chain_length]; omega, by omega, ⟨2, 0, fst_ n 1 (1 + n + m), fst_ m (1 + n) (1 + n + m), rfl, Or.inr rfl, ?_, ?_, fun _ => ⟨?_, ?_⟩⟩, ?_, ?_⟩
  · unfold fst_; split <;> omega
  · unfold fst_; split <;> omega
  · unfold fst_; split <;> omega
  · unfold fst_; split <;> omega
  · intro x h1 h2
    by_cases hx : x ≤ n
    · have hr : rd_T37 (chain n m) x = c1B n m (x - 1).toNat := by
        unfold rd_T37 chain ch2 ch1
        obtain ⟨j, hj⟩ : ∃ j : Nat, x.toNat = j + 1 := ⟨x.toNat - 1, by omega⟩
        have hj2 : (x - 1).toNat = j := by omega
        rw [hj2, hj, List.getD_eq_getElem?_getD, List.getElem?_append_left (by simp; omega), List.getElem?_append_left (by simp; omega), List.getElem?_cons_succ, List.getElem?_map, List.getElem?_range (by omega)]
        rfl
      rw [hr]
      refine ⟨_, rfl, ?_, ?_⟩
      · split <;> omega
      · split <;> omega
    · have hr : rd_T37 (chain n m) x = c2B n (x - 1 - n).toNat := by
        unfold rd_T37 chain ch2
        rw [List.getD_eq_getElem?_getD, List.getElem?_append_left (by simp [ch1_length]; omega), List.getElem?_append_right (by rw [ch1_length]; omega), ch1_length, List.getElem?_map, List.getElem?_range (by omega)]
        have hj : x.toNat - (n.toNat + 1) = (x - 1 - n).toNat := by omega
        rw [hj]
        rfl
      rw [hr]
      refine ⟨_, rfl, ?_, ?_⟩ <;> omega
  · unfold rd_T37 chain
    rw [List.getD_eq_getElem?_getD, List.getElem?_append_right (by rw [ch2_length]; omega), ch2_length, show (1 + n + m).toNat - (n.toNat + m.toNat + 1) = 0 by omega]
    rfl
theorem rd_map (f : S37 → S37) (bs : List S37) (x : Int) (h0 : 0 ≤ x) (h1 : x < bs.length) : rd_T37 (bs.map f) x = f (rd_T37 bs x) := by
  have h : x.toNat < bs.length := by omega
  unfold rd_T37
  rw [List.getD_eq_getElem?_getD, List.getD_eq_getElem?_getD, List.getElem?_map, List.getElem?_eq_getElem h]
  rfl
theorem rd_ext {as_ bs : List S37} (hl : as_.length = bs.length) (h : ∀ x : Int, 0 ≤ x → x < bs.length → rd_T37 as_ x = rd_T37 bs x) : as_ = bs := by
  refine List.ext_getElem hl fun i h1 h2 => ?_
  have := h i (by omega) (by omega)
  rwa [rd37_lt _ _ h1, rd37_lt _ _ h2] at this
theorem rd_of_mem {bs : List S37} {b : S37} (h : b ∈ bs) : ∃ x : Int, 0 ≤ x ∧ x < bs.length ∧ rd_T37 bs x = b := by
  obtain ⟨i, hi, rfl⟩ := List.mem_iff_getElem.1 h
  exact ⟨i, by omega, by omega, rd37_lt bs i hi⟩
theorem Good.cases {bs : List S37} {e : Int} (h : Good bs e) {x : Int} (h0 : 0 ≤ x) (h1 : x < bs.length) : x = 0 ∨ (1 ≤ x ∧ x < e) ∨ x = e := by have := h.len; omega
theorem Good.leads {bs : List S37} {e : Int} (h : Good bs e) : ∀ (d : Nat) (x : Int), 1 ≤ x → x ≤ e → e - x ≤ d → ∃ N, N ≤ d ∧ Leads bs N x e
  | 0, x, h1, h2, h3 => by
    obtain rfl : x = e := by omega
    exact ⟨0, Nat.le_refl _, rfl, by omega, by have := h.len; omega, Or.inl (by rw [h.last]; decide)⟩
  | d + 1, x, h1, h2, h3 => by
    rcases (show x = e ∨ x < e by omega) with rfl | hx
    · exact ⟨0, Nat.zero_le _, rfl, by omega, by have := h.len; omega, Or.inl (by rw [h.last]; decide)⟩
    · obtain ⟨t, hr, ht1, ht2⟩ := h.mid x h1 hx
      obtain ⟨N, hN, hL⟩ := Good.leads h d t (by omega) ht2 (by omega)
      exact ⟨N + 1, by omega, by omega, by have := h.len; omega, by rw [hr]; rfl, by rw [hr], by rw [hr]; exact ht1, by rw [hr]; exact hL⟩
theorem Good.ends {bs : List S37} {e : Int} (h : Good bs e) : EndsOK bs (fun _ => e) := by
  intro x h0 h1
  have hle := h.len
  have hlt := h.lt
  have hL : ∀ t : Int, 1 ≤ t → t ≤ e → ∃ N, N < 1000 ∧ Leads bs N t e := fun t ht1 ht2 => by
    obtain ⟨N, hN, hl⟩ := h.leads (e - t).toNat t ht1 ht2 (by omega)
    exact ⟨N, by omega, hl⟩
  rcases h.cases h0 h1 with rfl | ⟨h2, h3⟩ | rfl
  · obtain ⟨k, a, b, c, hr, hk, hb1, hb2, hc⟩ := h.z
    rw [hr]
    refine ⟨fun _ => hL b hb1 hb2, fun hk2 => ?_⟩
    obtain ⟨N, hN, hl⟩ := hL b hb1 hb2
    obtain ⟨N', hN', hl'⟩ := hL c (hc hk2).1 (hc hk2).2
    exact ⟨N, N', hN, hN', hl, hl'⟩
  · obtain ⟨t, hr, ht1, ht2⟩ := h.mid x h2 h3
    rw [hr]
    exact ⟨fun _ => hL t (by omega) ht2, fun hk => absurd (show (1 : Int) = 2 from hk) (by decide)⟩
  · rw [h.last]
    exact ⟨fun hk => absurd hk (by decide), fun hk => absurd hk (by decide)⟩
theorem Good.noK {bs : List S37} {e : Int} (h : Good bs e) : NoK bs := by
  have key : ∀ b ∈ bs, b.f0 = [] ∨ b.f0 = [rout] := by
    intro b hb
    obtain ⟨x, h0, h1, rfl⟩ := rd_of_mem hb
    rcases h.cases h0 h1 with rfl | ⟨h2, h3⟩ | rfl
    · obtain ⟨k, a, b, c, hr, _⟩ := h.z
      exact Or.inr (by rw [hr])
    · obtain ⟨t, hr, _⟩ := h.mid x h2 h3
      exact Or.inl (by rw [hr])
    · exact Or.inr (by rw [h.last]; rfl)
  refine ⟨fun b hb x hx => ?_, h.lt, fun b hb => ?_⟩
  · rcases key b hb with hk | hk
    · rw [hk] at hx; cases hx
    · rw [hk] at hx
      obtain rfl := List.mem_singleton.1 hx
      rfl
  · rcases key b hb with hk | hk <;> rw [hk] <;> decide
theorem endOf_idem (e : Int) (b : S37) : endOf (fun _ => e) (endOf (fun _ => e) b) = endOf (fun _ => e) b := by
  unfold endOf
  by_cases h1 : b.f1.f0 = 1
  · simp [h1]
  · by_cases h2 : b.f1.f0 = 2
    · simp [h2]
    · simp [h1, h2]
theorem Good.mapped {bs : List S37} {e : Int} (h : Good bs e) : Good (bs.map (endOf fun _ => e)) e := by
  have hle := h.len
  have he := h.e0
  refine ⟨by rw [List.length_map]; exact h.len, by rw [List.length_map]; exact h.lt, h.e0, ?_, fun x h1 h2 => ?_, ?_⟩
  · obtain ⟨k, a, b, c, hr, hk, hb1, hb2, hc⟩ := h.z
    rw [rd_map _ _ _ (by omega) (by omega), hr]
    rcases hk with rfl | rfl
    · exact ⟨1, a, e, c, rfl, Or.inl rfl, by omega, by omega, fun hh => absurd hh (by decide)⟩
    · exact ⟨1, 0, e, 0, rfl, Or.inl rfl, by omega, by omega, fun hh => absurd hh (by decide)⟩
  · obtain ⟨t, hr, _⟩ := h.mid x h1 h2
    rw [rd_map _ _ _ (by omega) (by omega), hr]
    exact ⟨e, rfl, h2, by omega⟩
  · rw [rd_map _ _ _ (by omega) (by omega), h.last]
    rfl
theorem chain_ent (n m : Int) : rd_T37 (chain n m) 0 = entB n m := rfl
/-- All that 'Run' asks of the chain. -/
theorem chain_un (n m : Int) (n1 : 0 ≤ n) (n2 : n < 40) (m1 : 0 ≤ m) (m2 : m < 40) : UnOK ((chain n m).map (endOf fun _ => 1 + n + m)) (1 + n + m) (⟨[rout], ⟨1, 0, 1 + n + m, 0⟩⟩ : S37) (⟨[rout], ⟨3, 0, 0, 0⟩⟩ : S37) := by
  have hg := chain_good n m n1 n2 m1 m2
  have hm := hg.mapped
  have hle := hm.len
  refine ⟨hg.e0, by omega, ?_, hm.last, rfl, rfl, rfl, fun b hb => ?_, fun b hb hk => ?_⟩
  · rw [rd_map _ _ _ (by omega) (by have := hg.len; omega), chain_ent]
    rfl
  · obtain ⟨c, _, rfl⟩ := List.mem_map.1 hb
    unfold endOf
    by_cases h1 : c.f1.f0 = 1
    · simp [h1]
    · by_cases h2 : c.f1.f0 = 2
      · simp [h2]
      · simp [h1, h2]
  · obtain ⟨c, _, rfl⟩ := List.mem_map.1 hb
    have : (endOf (fun _ => 1 + n + m) c).f1.f2 = 1 + n + m := by
      revert hk
      unfold endOf
      by_cases h1 : c.f1.f0 = 1
      · simp [h1]
      · by_cases h2 : c.f1.f0 = 2
        · simp [h2]
        · simp [h1, h2]
    rw [this]
    exact ⟨by omega, by omega⟩
theorem chain_ne (n m : Int) (n1 : 0 ≤ n) (m1 : 0 ≤ m) : (rd_T37 (chain n m) 0).f1 ≠ (rd_T37 ((chain n m).map (endOf fun _ => 1 + n + m)) 0).f1 := by
  rw [rd_map _ _ _ (by omega) (by rw [chain_length]; omega), chain_ent]
  intro h
  have h2 : (2 : Int) = 1 := congrArg S35.f0 h
  exact absurd h2 (by decide)
theorem small_noK (xs : List S37) (h1 : xs.length < 1000) (h2 : ∀ b ∈ xs, b.f0.length < 1000 ∧ ∀ x ∈ b.f0, x = rout) : NoK xs := ⟨fun b hb x hx => by rw [(h2 b hb).2 x hx]; rfl, h1, fun b hb => (h2 b hb).1⟩
theorem want_noK : NoK [(⟨[rout, rout], ⟨3, 0, 0, 0⟩⟩ : S37)] := small_noK _ (by decide) (by
  intro b hb
  obtain rfl := List.mem_singleton.1 hb
  exact ⟨by decide, fun x hx => by simpa using hx⟩)
theorem two_noK (e : Int) : NoK [(⟨[rout], ⟨1, 0, e, 0⟩⟩ : S37), (⟨[rout], ⟨3, 0, 0, 0⟩⟩ : S37)] := small_noK _ (Nat.le_of_ble_eq_true rfl) (by
  intro b hb
  simp only [List.mem_cons, List.not_mem_nil, or_false] at hb
  rcases hb with rfl | rfl
  · exact ⟨Nat.le_of_ble_eq_true rfl, fun x hx => by simpa using hx⟩
  · exact ⟨by decide, fun x hx => by simpa using hx⟩)
/-- The optimizer on the chain: one block is left. -/
theorem Run_chain (n m : Int) (n1 : 0 ≤ n) (n2 : n < 40) (m1 : 0 ≤ m) (m2 : m < 40) (A : Option Addr) (k : Nat) (hk : k = (chain n m).length) (c : Nat) (w : World) (hr : Kd.C k37 w A k (chain n m)) (hc : k ≤ c) :
    Calls Try.prog 5 #[.agg #[.string (⟨#[]⟩ : ByteArray), .int .i64 1, .int .i64 1, .slice A k c]] w (CopyOut (⟨#[]⟩ : ByteArray) 1 1 [(⟨[rout, rout], ⟨3, 0, 0, 0⟩⟩ : S37)] w) := by
  subst hk
  have hg := chain_good n m n1 n2 m1 m2
  exact Run_calls A c (chain n m) _ _ 1 1 (1 + n + m) (fun _ => 1 + n + m) (fun _ => 1 + n + m) [rout] [rout] 0 0 0 0 0 w hr hc hg.noK hg.mapped.noK hg.ends hg.mapped.ends (by rw [chain_length]; omega) rfl
    (by rw [List.map_map]; congr 1; funext b; exact endOf_idem _ b) (chain_ne n m n1 m1) (chain_un n m n1 n2 m1 m2) want_noK (two_noK 1)
end Go.Proofs.Ytdndnjpfpelimaa.PG
