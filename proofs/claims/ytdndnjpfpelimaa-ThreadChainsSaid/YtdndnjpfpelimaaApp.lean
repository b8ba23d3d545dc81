/- Instructions appended behind clipped instructions. -/
import Derived.Test.YtdndnjpfpelimaaKC
import Derived.Test.YtdndnjpfpelimaaRow
import Derived.Test.YtdndnjpfpelimaaPGx0
import Derived.Test.YtdndnjpfpelimaaU
namespace Go.Proofs.Ytdndnjpfpelimaa.PG
open Go.RowKit Go.Proofs.YtdndnjpfpelimaaW.PrintWords Go.Proofs.YtdndnjpfpelimaaW.PrintLast Go.Proofs.YtdndnjpfpelimaaW.PrintMore
attribute [local go_sem] max2_int min2_int max_two min_two max_three min_three max_four min_four   -- for this text's walks alone
set_option linter.unusedVariables false
set_option linter.unusedSimpArgs false
attribute [local go_sem] run_store_complex
theorem append_nothing (W : World) (ty : TypeId) (A : Option Addr) (n : Nat) (A' : Option Addr) (c' : Nat) : (Builtin.append_ #[33, 33] ty #[.slice A n n, .slice A' 0 c']).run Try.prog W = .ok (.slice A n n) W := by
  obtain ⟨i0, hi, _, hsz, _⟩ := info_parts info32
  cases A <;> cases A' <;> simp [Builtin.append_, run_underlying Try.underlying33, sizeOf, typeInfo, hi, hsz, Builtin.lenOf, Builtin.firstCells, loadCells, storeCells, loadCellsFrom]
theorem reps32 {w : World} {l : List S32} {cs : List Value} (h : Reps (k32.K w) k32.sz l cs) (w' : World) (base : Nat) (ok : Nat → Prop) : Reps (k32.M w' base ok) k32.sz l cs :=
  h.imp_ (fun x c hk => by obtain rfl := k32_open hk; exact k32_mkM w' base ok x)
theorem reps32_one {w : World} {l : List S32} {cs : List Value} (h : Reps (k32.K w) k32.sz l cs) : ∀ u ∈ cs, u.oneCell' = true := by
  intro u hu
  obtain ⟨j, hj, rfl⟩ := List.mem_iff_getElem.1 hu
  have hl : cs.length = l.length * 12 := h.1
  have hq : j / 12 < l.length := by omega
  have hr := k32.K_one (h.2 (j / 12) _ (List.getElem?_eq_getElem hq))
  refine hr _ ?_
  have e : ((cs.drop (j / 12 * k32.sz)).take k32.sz)[j % 12]? = some cs[j] := by
    have hs : k32.sz = 12 := rfl
    rw [hs, List.getElem?_take, if_pos (by omega), List.getElem?_drop, show j / 12 * 12 + j % 12 = j by omega, List.getElem?_eq_getElem hj]
  exact List.mem_of_getElem? e
/-- Instructions behind instructions that are clipped. -/
theorem append_ins {W : World} {ok : Nat → Prop} {A0 A1 : Option Addr} {l0 le : List S32} (c1 : Nat) (ty : TypeId) (h0 : Kd.F k32 W ok A0 l0.length l0) (h1 : Kd.F k32 W ok A1 le.length le) (hA : A0 = none → l0 = []) (hlen : l0.length + le.length < 1000) :
    ∃ A' c' W', (l0 ++ le).length ≤ c' ∧ (Builtin.append_ #[33, 33] ty #[.slice A0 l0.length l0.length, .slice A1 le.length c1]).run Try.prog W = .ok (.slice A' (l0 ++ le).length c') W' ∧ W.grownBy W' none ∧ Kd.F k32 W' (fun k => ok k ∨ W.heap.size ≤ k) A' (l0 ++ le).length (l0 ++ le) := by
  rcases Nat.eq_zero_or_pos le.length with he | he
  · obtain rfl := List.eq_nil_of_length_eq_zero he
    refine ⟨A0, l0.length, W, by simp, ?_, World.grownBy.refl _ _, ?_⟩
    · simpa using append_nothing W ty A0 l0.length A1 c1
    · rw [List.append_nil]
      exact Kd.F_mono h0 (fun _ hk => Or.inl hk)
  · obtain ⟨ad1, rfl, _⟩ := (Kd.F_now h1).2.2 he
    obtain ⟨in1, hr1, hc1⟩ := ReadsRow.inner_ (Kd.F_now h1)
    obtain ⟨i0, hi, hz, hsz, hby⟩ := info_parts info32
    have hl1 : in1.length = le.length * 12 := hr1.1
    have key : ∃ in0 v' W', Reps (k32.K W) k32.sz l0 in0 ∧ (Builtin.append_ #[33, 33] ty #[.slice A0 l0.length l0.length, .slice (some ad1) le.length c1]).run Try.prog W = .ok v' W' ∧ W'.ownsRow W.heap.size 32 12 v' (l0.length + le.length) (in0 ++ in1) ∧ W.grownBy W' none := by
      cases A0 with
      | none =>
        obtain rfl := hA rfl
        obtain ⟨v', w', hrun, r1, r2, _⟩ := run_append_own (P := Try.prog) W W.heap.size 33 ty 32 i0 _ 12 144 Try.underlying33 hi hz hsz hby rfl (by decide) (.slice none 0 0) 0 [] (World.ownsRow_nil W _ 32 12) ad1 le.length c1 in1 hl1 hc1 (reps32_one hr1) (by simp only [List.length_nil, maxLen] at hlen ⊢; omega) (by simp at hlen ⊢; omega) (Nat.le_refl _)
        exact ⟨[], v', w', Reps.none _ _, hrun, by simpa using r1, r2⟩
      | some ad0 =>
        obtain ⟨in0, hr0, hc0⟩ := ReadsRow.inner_ (Kd.F_now h0)
        obtain ⟨v', w', hrun, r1, r2⟩ := run_append_arg_grows (P := Try.prog) W 33 ty 32 i0 _ 12 144 Try.underlying33 hi hz hsz hby rfl (by decide) ad0 l0.length l0.length in0 hr0.1 hc0 ad1 le.length c1 in1 hl1 hc1 (by omega) (by simp only [maxLen]; omega) (by omega)
        exact ⟨in0, v', w', hr0, hrun, r1, r2⟩
    obtain ⟨in0, v', W', hr0, hrun, ho, hg⟩ := key
    have hR : k32.R 32 W' W.heap.size (fun k => W.heap.size ≤ k) v' (l0 ++ le) := by
      refine ⟨fun k hk => own_base ho k hk, in0 ++ in1, ?_, Kd.reps_append (reps32 hr0 _ _ _) (reps32 hr1 _ _ _)⟩
      rw [List.length_append]
      exact ho
    obtain ⟨A', c', rfl⟩ := Kd.R_slice hR
    exact ⟨A', c', W', (Kd.R_reads' hR).2.1, hrun, hg, Kd.F_mono (Kd.R_F hR) (fun _ hk => Or.inr hk)⟩
/-- An element's cells, its instructions clipped. -/
theorem row_at_c {W : World} {base g n cap : Nat} {ok : Nat → Prop} {xs : List S37} (h : Kd.N k37c 37 W base ok (.slice (some ⟨g, 0, none⟩) n cap) xs) (i : Int) (h0 : 0 ≤ i) (h1 : i < n) {l : List S32} {t : S35} (hx : xs.getD i.toNat z37 = ⟨l, t⟩) :
    ∃ A0, Kd.F k32 W (fun k => ok k ∧ k ≠ g) A0 l.length l ∧ (A0 = none → l = []) ∧ W.cell? ⟨g, i.toNat * 5, none⟩ = some (.slice A0 l.length l.length) ∧ W.cell? ⟨g, i.toNat * 5 + 1, none⟩ = some (.int .i64 t.f0) ∧ W.cell? ⟨g, i.toNat * 5 + 2, none⟩ = some (.int .i64 t.f1) ∧ W.cell? ⟨g, i.toNat * 5 + 3, none⟩ = some (.int .i64 t.f2) ∧ W.cell? ⟨g, i.toNat * 5 + 4, none⟩ = some (.int .i64 t.f3) ∧ ∀ j, W.frozen? ⟨g, i.toNat * 5 + j, none⟩ = false := by
  obtain ⟨cc, hcl, hFK, hcells, hfr⟩ := Kd.N_elem h z37 i h0 h1
  rw [hx] at hFK
  obtain ⟨A0, rfl, hF0⟩ := k37c_openF hFK
  refine ⟨A0, hF0, fun hA => ?_, hcells 0 _ rfl, hcells 1 _ rfl, hcells 2 _ rfl, hcells 3 _ rfl, hcells 4 _ rfl, hfr⟩
  rcases Nat.eq_zero_or_pos l.length with hl | hl
  · exact List.eq_nil_of_length_eq_zero hl
  · obtain ⟨ad, he, _⟩ := (Kd.F_now hF0).2.2 hl
    rw [hA] at he
    cases he
/-- A block's instructions are written. -/
theorem row_ins {W : World} {base g n cap : Nat} {ok okp : Nat → Prop} {xs : List S37} (h : Kd.N k37 37 W base ok (.slice (some ⟨g, 0, none⟩) n cap) xs) (i : Int) (h0 : 0 ≤ i) (h1 : i < n) {l l' : List S32} {t : S35} (hx : xs.getD i.toNat z37 = ⟨l, t⟩) {A' : Option Addr} {c' : Nat} (hl : l'.length ≤ c') (hF : Kd.F k32 W okp A' l'.length l') (hok : ∀ k, okp k → ok k ∧ k ≠ g) :
    Kd.N k37 37 (W.setCell ⟨g, i.toNat * 5, none⟩ (.slice A' l'.length c')) base ok (.slice (some ⟨g, 0, none⟩) n cap) (xs.set i.toNat ⟨l', t⟩) := by
  obtain ⟨cc, hcl, hFK, hcells, hfr⟩ := Kd.N_elem h z37 i h0 h1
  rw [hx] at hFK
  obtain ⟨A0, c0, rfl, hl0, hF0⟩ := k37_openF hFK
  exact (Kd.N_seg h i h0 h1 (c := _) (seg := [.slice A' l'.length c']) (j := 0) (x' := (⟨l', t⟩ : S37)) (okp := okp) hcl hcells (Nat.le_of_ble_eq_true rfl) (k37_mkF W _ ⟨l', t⟩ hl hF) hok).1
theorem append_ev {P : Program} {o : Oper} {a : Act} {W W' : World} {v vs vx : Value} (s x : Operand) (t u : TypeId) (ho : o.op = .call { callee := .builtin .append, args := #[s, x], argTypes := #[t, u] }) (hs : a.eval s = vs) (hx : a.eval x = vx) (h : (Builtin.append_ #[t, u] o.type #[vs, vx]).run P W = .ok v W') :
    (execOp a.eval o).run P W = .ok (.value v) W' := by
  simp [execOp, ho, resolve, invoke, builtin, hs, hx, h, Result.andThen]
end Go.Proofs.Ytdndnjpfpelimaa.PG
