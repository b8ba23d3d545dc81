/- A row of blocks: a part is written, an element is read. -/
import Derived.Test.YtdndnjpfpelimaaIns
import Derived.Test.YtdndnjpfpelimaaPGx0
import Derived.Test.YtdndnjpfpelimaaU
namespace Go.Proofs.Ytdndnjpfpelimaa.PG
open Go.RowKit Go.Proofs.YtdndnjpfpelimaaW.PrintWords Go.Proofs.YtdndnjpfpelimaaW.PrintLast Go.Proofs.YtdndnjpfpelimaaW.PrintMore
attribute [local go_sem] max2_int min2_int max_two min_two max_three min_three max_four min_four   -- for this text's walks alone
set_option linter.unusedVariables false
set_option linter.unusedSimpArgs false
attribute [local go_sem] run_store_complex
/-- A row of blocks: an end's part is written. -/
theorem row_seg {W : World} {base g n cap : Nat} {ok : Nat → Prop} {xs : List S37} (h : Kd.N k37 37 W base ok (.slice (some ⟨g, 0, none⟩) n cap) xs) (i : Int) (h0 : 0 ≤ i) (h1 : i < n) {l : List S32} {t : S35} (hx : xs.getD i.toNat z37 = ⟨l, t⟩) (j : Nat) (seg : List Value) (t' : S35)
    (hj : 1 ≤ j) (hj2 : j + seg.length ≤ 5) (hs : ∀ v : Value, ([v, .int .i64 t.f0, .int .i64 t.f1, .int .i64 t.f2, .int .i64 t.f3] : List Value).take j ++ seg ++ ([v, .int .i64 t.f0, .int .i64 t.f1, .int .i64 t.f2, .int .i64 t.f3] : List Value).drop (j + seg.length) = [v, .int .i64 t'.f0, .int .i64 t'.f1, .int .i64 t'.f2, .int .i64 t'.f3]) :
    Kd.N k37 37 (W.setCells g (i.toNat * 5 + j) seg) base ok (.slice (some ⟨g, 0, none⟩) n cap) (xs.set i.toNat ⟨l, t'⟩) := by
  obtain ⟨cc, hcl, hFK, hcells, hfr⟩ := Kd.N_elem h z37 i h0 h1
  rw [hx] at hFK
  obtain ⟨A0, c0, rfl, hl0, hF0⟩ := k37_openF hFK
  refine (Kd.N_seg h i h0 h1 (c := _) (seg := seg) (j := j) (x' := (⟨l, t'⟩ : S37)) (okp := fun k => ok k ∧ k ≠ g) hcl hcells hj2 ?_ (fun _ hk => hk)).1
  have e := hs (.slice A0 l.length c0)
  show Kd.FK k37 W _ _ (([.slice A0 l.length c0, .int .i64 t.f0, .int .i64 t.f1, .int .i64 t.f2, .int .i64 t.f3] : List Value).take j ++ seg ++ ([.slice A0 l.length c0, .int .i64 t.f0, .int .i64 t.f1, .int .i64 t.f2, .int .i64 t.f3] : List Value).drop (j + seg.length))
  rw [e]
  exact k37_mkF W _ _ hl0 hF0
theorem row_to {W : World} {base g n cap : Nat} {ok : Nat → Prop} {xs : List S37} (h : Kd.N k37 37 W base ok (.slice (some ⟨g, 0, none⟩) n cap) xs) (i : Int) (h0 : 0 ≤ i) (h1 : i < n) {l : List S32} {t : S35} (hx : xs.getD i.toNat z37 = ⟨l, t⟩) (v : Int) :
    Kd.N k37 37 (W.setCell ⟨g, i.toNat * 5 + 3, none⟩ (.int .i64 v)) base ok (.slice (some ⟨g, 0, none⟩) n cap) (xs.set i.toNat ⟨l, ⟨t.f0, t.f1, v, t.f3⟩⟩) :=
  row_seg h i h0 h1 hx 3 [.int .i64 v] ⟨t.f0, t.f1, v, t.f3⟩ (by decide) (Nat.le_of_ble_eq_true rfl) (fun _ => rfl)
theorem row_else {W : World} {base g n cap : Nat} {ok : Nat → Prop} {xs : List S37} (h : Kd.N k37 37 W base ok (.slice (some ⟨g, 0, none⟩) n cap) xs) (i : Int) (h0 : 0 ≤ i) (h1 : i < n) {l : List S32} {t : S35} (hx : xs.getD i.toNat z37 = ⟨l, t⟩) (v : Int) :
    Kd.N k37 37 (W.setCell ⟨g, i.toNat * 5 + 4, none⟩ (.int .i64 v)) base ok (.slice (some ⟨g, 0, none⟩) n cap) (xs.set i.toNat ⟨l, ⟨t.f0, t.f1, t.f2, v⟩⟩) :=
  row_seg h i h0 h1 hx 4 [.int .i64 v] ⟨t.f0, t.f1, t.f2, v⟩ (by decide) (Nat.le_of_ble_eq_true rfl) (fun _ => rfl)
theorem row_term {W : World} {base g n cap : Nat} {ok : Nat → Prop} {xs : List S37} (h : Kd.N k37 37 W base ok (.slice (some ⟨g, 0, none⟩) n cap) xs) (i : Int) (h0 : 0 ≤ i) (h1 : i < n) {l : List S32} {t : S35} (hx : xs.getD i.toNat z37 = ⟨l, t⟩) (t' : S35) :
    Kd.N k37 37 (W.setCells g (i.toNat * 5 + 1) [.int .i64 t'.f0, .int .i64 t'.f1, .int .i64 t'.f2, .int .i64 t'.f3]) base ok (.slice (some ⟨g, 0, none⟩) n cap) (xs.set i.toNat ⟨l, t'⟩) :=
  row_seg h i h0 h1 hx 1 [.int .i64 t'.f0, .int .i64 t'.f1, .int .i64 t'.f2, .int .i64 t'.f3] t' (by decide) (Nat.le_of_ble_eq_true rfl) (fun _ => rfl)
theorem row_length {W : World} {base n cap : Nat} {A : Option Addr} {ok : Nat → Prop} {xs : List S37} (h : Kd.N k37 37 W base ok (.slice A n cap) xs) : n = xs.length := (Kd.N_reads' h).1
/-- An element's cells, and that they may be written. -/
theorem row_at {W : World} {base g n cap : Nat} {ok : Nat → Prop} {xs : List S37} (h : Kd.N k37 37 W base ok (.slice (some ⟨g, 0, none⟩) n cap) xs) (i : Int) (h0 : 0 ≤ i) (h1 : i < n) {l : List S32} {t : S35} (hx : xs.getD i.toNat z37 = ⟨l, t⟩) :
    ∃ A0 c0, l.length ≤ c0 ∧ Kd.F k32 W (fun k => ok k ∧ k ≠ g) A0 l.length l ∧ W.cell? ⟨g, i.toNat * 5, none⟩ = some (.slice A0 l.length c0) ∧ W.cell? ⟨g, i.toNat * 5 + 1, none⟩ = some (.int .i64 t.f0) ∧ W.cell? ⟨g, i.toNat * 5 + 2, none⟩ = some (.int .i64 t.f1) ∧ W.cell? ⟨g, i.toNat * 5 + 3, none⟩ = some (.int .i64 t.f2) ∧ W.cell? ⟨g, i.toNat * 5 + 4, none⟩ = some (.int .i64 t.f3) ∧ ∀ j, W.frozen? ⟨g, i.toNat * 5 + j, none⟩ = false := by
  obtain ⟨cc, hcl, hFK, hcells, hfr⟩ := Kd.N_elem h z37 i h0 h1
  rw [hx] at hFK
  obtain ⟨A0, c0, rfl, hl0, hF0⟩ := k37_openF hFK
  exact ⟨A0, c0, hl0, hF0, hcells 0 _ rfl, hcells 1 _ rfl, hcells 2 _ rfl, hcells 3 _ rfl, hcells 4 _ rfl, hfr⟩
theorem row_typed {W : World} {base g n cap : Nat} {ok : Nat → Prop} {xs : List S37} (h : Kd.N k37 37 W base ok (.slice (some ⟨g, 0, none⟩) n cap) xs) (i : Int) (h0 : 0 ≤ i) (h1 : i < n) : ∃ old, W.heap[g]? = some (.cells old 37 (0, 0)) ∧ i.toNat * 5 + 5 ≤ old.size := by
  obtain ⟨old, ho⟩ := Kd.N_typed h g (by simp [Value.ownBlock])
  obtain ⟨A0, c0, _, _, _, _, _, _, h4, _⟩ := row_at h i h0 h1 (l := (xs.getD i.toNat z37).f0) (t := (xs.getD i.toNat z37).f1) rfl
  rw [blk_cell ho] at h4
  have := (Array.getElem?_eq_some_iff.1 h4).1
  exact ⟨old, ho, by omega⟩
theorem size35 : (Try.prog.info? 35).map (·.size) = some 4 := by kernel_rfl
end Go.Proofs.Ytdndnjpfpelimaa.PG
