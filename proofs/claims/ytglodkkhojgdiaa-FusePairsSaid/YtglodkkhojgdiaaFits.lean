/- fuse.fits: whether all numbers of a list lie between nought and one, walked by hand through slices.ContainsFunc. -/
import Derived.Test.YtglodkkhojgdiaaPGx0
import Derived.ChangeKeysEq
namespace Go.Proofs.Ytglodkkhojgdiaa.PG
open Go.RowKit Go.Proofs.YtglodkkhojgdiaaW.PrintWords Go.Proofs.YtglodkkhojgdiaaW.PrintLast Go.Proofs.YtglodkkhojgdiaaW.PrintMore
set_option linter.unusedVariables false
set_option linter.unusedSimpArgs false
theorem rebase {P : World → Prop} {W : World} (F : World → Prop) (hF : F W) (h : ∀ w, F w → P w) : P W := h W hF
def outB (most n : Int) : Bool := decide (n < 0) || decide (n > most)
set_option maxHeartbeats 8000000 in
set_option maxRecDepth 100000 in
theorem pred_calls (n most : Int) (P0 : Addr) (w : World) (hp : w.cell? P0 = some (.int .i64 most)) :
    Calls Try.prog 14 #[.int .i64 n, .pointer (some P0)] w fun e w' => e = .returned (.bool (outB most n)) ∧ Below w.heap.size w w' := by
  go_enter Try.func14, Try.ntmps14
  by_cases c1 : n < 0
  · have c1b : decide (n < 0) = true := decide_eq_true c1
    go_wp2
    go_ret
    exact ⟨by simp [outB, c1], Below.refl _ _⟩
  · have c1b : decide (n < 0) = false := decide_eq_false c1
    by_cases c2 : n > most
    · have c2b : decide (n > most) = true := decide_eq_true c2
      go_wp2
      go_ret
      exact ⟨by simp [outB, c1, c2], Below.refl _ _⟩
    · have c2b : decide (n > most) = false := decide_eq_false c2
      go_wp2
      go_ret
      exact ⟨by simp [outB, c1, c2], Below.refl _ _⟩
/-- The first that is out, from a place on; -1: none. -/
def ixF (most : Int) : List Int → Nat → Int
  | [], _ => -1
  | n :: l, i => if outB most n = true then (i : Int) else ixF most l (i + 1)
theorem ixF_ge (most : Int) : ∀ (l : List Int) (i : Nat), (decide (ixF most l i ≥ 0)) = l.any (outB most)
  | [], i => by simp [ixF]
  | n :: l, i => by
    rw [ixF]
    split
    · rename_i h
      simp [h]
    · rename_i h
      rw [ixF_ge most l (i + 1)]
      simp at h
      simp [h]
set_option maxHeartbeats 8000000 in
set_option maxRecDepth 100000 in
theorem ix_calls (A0 : Option Addr) (c0 : Nat) (l0 : List Int) (most : Int) (P0 : Addr) (w : World) (hr0 : Kd.C (Kd.int .i64) w A0 l0.length l0) (hc0 : l0.length ≤ c0) (hp : w.cell? P0 = some (.int .i64 most)) (hl : l0.length < 1000000) :
    Calls Try.prog 21 #[.slice A0 l0.length c0, .func (.func 14) #[] #[.pointer (some P0)]] w fun e w' => e = .returned (.int .i64 (ixF most l0 0)) ∧ Below w.heap.size w w' := by
  have HR0 := Aside0.mk hr0
  have HC0 := Aside0.mk hc0
  have HP := Aside0.mk hp
  have HL := Aside0.mk hl
  clear hr0 hc0 hp hl
  go_enter Try.func21, Try.ntmps21
  go_wp2
  go_loopg [8] (l0.length + 1) (fun kq v8 w' => ∃ (i : Nat), v8 = .int .i64 (i : Int) ∧ Aside0 (i + kq = l0.length + 1) ∧ Aside0 (ixF most (l0.drop i) i = ixF most l0 0) ∧ Aside0 (Below w.heap.size w w'))
  case atStart => exact ⟨0, rfl, ⟨by omega⟩, ⟨rfl⟩, ⟨Below.refl _ _⟩⟩
  case round =>
    obtain ⟨i, rfl, HK1, HX, HB⟩ := hrel
    have hk1 := HK1.out
    have hll := HL.out
    by_cases c1 : (i : Int) < (l0.length : Int)
    · have c1b : decide ((i : Int) < (l0.length : Int)) = true := decide_eq_true c1
      have c2 : 0 ≤ (i : Int) := by omega
      have c2b : decide (0 ≤ (i : Int)) = true := decide_eq_true c2
      have hdr : l0.drop i = rd l0 (i : Int) :: l0.drop (i + 1) := by
        have hi : i < l0.length := by omega
        rw [List.drop_eq_getElem_cons hi]
        simp [rd, List.getD_eq_getElem?_getD, List.getElem?_eq_getElem hi]
      obtain ⟨k1, rfl⟩ : ∃ k1, gk = k1 + 1 := ⟨gk - 1, by omega⟩
      have hx := HX.out
      rw [hdr, ixF] at hx
      obtain ⟨ad, cs_, e0, hcl_, hK_, hcell_⟩ := Kd.C_get HR0.out 0 (i : Int) c2 c1
      cases e0
      have hcs : cs_ = [.int .i64 (rd l0 (i : Int))] := hK_
      subst hcs
      have hx0 : w.cell? (ad.add i) = some (.int .i64 (rd l0 (i : Int))) := by
        have h0 := hcell_ 0 _ rfl
        rwa [show (i : Int).toNat * (Kd.int IntKind.i64).sz + 0 = i from by show (i : Int).toNat * 1 + 0 = i; omega] at h0
      replace hx0 := (HB.out.cell (World.block_lt_of_cell? w _ hx0)).trans hx0
      have hpp := (HB.out.cell (World.block_lt_of_cell? w _ HP.out)).trans HP.out
      replace c1 := eq_true c1
      replace c2 := eq_true c2
      by_cases c3 : outB most (rd l0 (i : Int)) = true
      · rw [if_pos c3] at hx
        have HX2 := Aside0.mk hx
        clear hx
        go_wp2_with (go_at_call 14; refine (pred_calls (rd l0 (i : Int)) most P0 _ hpp).mono ?_; rw [c3]; rintro e w' ⟨rfl, hb⟩)
        go_ret
        exact ⟨by rw [← HX2.out]; try rfl, below_step HB.out hb⟩
      · rw [if_neg c3] at hx
        have HX2 := Aside0.mk hx
        clear hx
        have c3b : outB most (rd l0 (i : Int)) = false := by simpa using c3
        go_wp2_with (go_at_call 14; refine (pred_calls (rd l0 (i : Int)) most P0 _ hpp).mono ?_; rw [c3b]; rintro e w' ⟨rfl, hb⟩)
        go_roundg k1
        case measure => omega
        case rel =>
          refine ⟨i + 1, ?_, ⟨by omega⟩, HX2, ⟨below_step HB.out hb⟩⟩
          have : wrap64 ((i : Int) + 1) = ((i + 1 : Nat) : Int) := by unfold wrap64; omega
          first | rfl | rw [this] | (simp only [i64_w]; rw [this])
    · have c1b : decide ((i : Int) < (l0.length : Int)) = false := decide_eq_false c1
      have hx := HX.out
      rw [List.drop_eq_nil_of_le (by omega), ixF] at hx
      have HX2 := Aside0.mk hx
      clear hx
      go_wp2
      go_ret
      exact ⟨by rw [← HX2.out]; try rfl, HB.out⟩
set_option maxHeartbeats 8000000 in
set_option maxRecDepth 100000 in
theorem cont_calls (A0 : Option Addr) (c0 : Nat) (l0 : List Int) (most : Int) (P0 : Addr) (w : World) (hr0 : Kd.C (Kd.int .i64) w A0 l0.length l0) (hc0 : l0.length ≤ c0) (hp : w.cell? P0 = some (.int .i64 most)) (hl : l0.length < 1000000) :
    Calls Try.prog 13 #[.slice A0 l0.length c0, .func (.func 14) #[] #[.pointer (some P0)]] w fun e w' => e = .returned (.bool (l0.any (outB most))) ∧ Below w.heap.size w w' := by
  go_enter Try.func13, Try.ntmps13
  go_wp2_with (go_at_call 21; refine (ix_calls _ _ l0 most P0 _ hr0 hc0 hp hl).mono ?_; rintro e w' ⟨rfl, hb⟩)
  go_ret
  exact ⟨by rw [← ixF_ge most l0 0]; rfl, hb⟩
def fuse_fits.f (k : Nat) (a0 : Int) (l1 : List Int) : Option Bool := if l1.length < 1000000 then some (!l1.any (outB a0)) else none
theorem fuse_fits.mono : ∀ a0 a1 k, LeO (fuse_fits.f k a0 a1) (fuse_fits.f (k + 1) a0 a1) := fun a0 a1 k => LeO.refl _
set_option maxHeartbeats 8000000 in
set_option maxRecDepth 100000 in
theorem fuse_fits.calls (k : Nat) (a0 : Int) (A1 : Option Addr) (c1 : Nat) (l1 : List Int) (r : Bool) (w : World) (hr1 : Kd.C (Kd.int .i64) w A1 l1.length l1) (hc1 : l1.length ≤ c1) (h : fuse_fits.f k a0 l1 = some r) :
    Calls Try.prog 9 #[.int .i64 a0, .slice A1 l1.length c1] w fun e w' => e = .returned (.bool r) ∧ Below w.heap.size w w' := by
  have HR := Aside0.mk hr1
  have HC := Aside0.mk hc1
  clear hr1 hc1
  unfold fuse_fits.f at h
  by_cases cl : l1.length < 1000000
  · rw [if_pos cl] at h
    obtain rfl := Option.some.inj h
    have HL := Aside0.mk cl
    clear cl h
    go_enter Try.func9, Try.ntmps9
    go_upto_region 1 with (fail)
    refine rebase (P := fun W_ => Code.wp _ _ _ _ W_) (fun W_ => W_.cell? ⟨w.heap.size, 0, none⟩ = some (.int .i64 a0) ∧ Kd.C (Kd.int .i64) W_ A1 l1.length l1 ∧ Below w.heap.size w W_) ⟨(blk_cell (blk_new w _) 0).trans rfl, Kd.C_below HR.out (below_alloc (Below.refl w.heap.size w) _), below_alloc (Below.refl _ _) _⟩ ?_
    rintro W ⟨h0, hr, hB⟩
    go_wp2_with (go_at_call 13; refine (cont_calls A1 c1 l1 a0 ⟨w.heap.size, 0, none⟩ _ hr HC.out h0 HL.out).mono ?_; rintro e w' ⟨rfl, hb⟩)
    go_ret
    exact ⟨rfl, below_step hB hb⟩
  · rw [if_neg cl] at h
    cases h
theorem pl3 : Try.prog.plainKey 3 = true := by kernel_rfl
theorem ce3 : Try.prog.cellsOf 3 = 1 := by kernel_rfl
theorem eqd34 (W : World) (x y a b : Int) (d : Nat) : (Op.equalIn (d + 2) 34 (.agg #[.int .i64 x, .int .i64 y]) (.agg #[.int .i64 a, .int .i64 b])).run Try.prog W = .ok (x == a && y == b) W := by
  obtain ⟨i, hi, _⟩ := Option.map_eq_some_iff.mp info3
  rw [run_equalIn_array W (d + 1) _ _ Try.underlying34 hi, ce3, show List.range 2 = [0, 1] from rfl]
  have p0 : ∀ u v : Int, (part 3 #[Value.int .i64 u, Value.int .i64 v] 0).run Try.prog W = .ok (.int .i64 u) W := fun u v => run_part_plain W pl3 rfl
  have p1 : ∀ u v : Int, (part 3 #[Value.int .i64 u, Value.int .i64 v] 1).run Try.prog W = .ok (.int .i64 v) W := fun u v => run_part_plain W pl3 rfl
  have q : ∀ u v : Int, (Op.equalIn (d + 1) 3 (.int .i64 u) (.int .i64 v)).run Try.prog W = .ok (u == v) W := fun u v => run_equalIn_int W d 3 .i64 .i64 u v Try.underlying3
  simp only [Op.eqItems, Sem.run_bind, Nat.zero_mul, Nat.one_mul, p0, p1, q, Result.andThen_ok]
  cases h1 : x == a <;> cases h2 : y == b <;> simp [p1, q, h2]
theorem eq34 (W : World) (x y a b : Int) : (binOp .eql 34 (.agg #[.int .i64 x, .int .i64 y]) (.agg #[.int .i64 a, .int .i64 b])).run Try.prog W = .ok (.bool (x == a && y == b)) W := by
  rw [run_eql_struct, eqd34]
  rfl
end Go.Proofs.Ytglodkkhojgdiaa.PG
