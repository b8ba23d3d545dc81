/- Plain law: what GraphLines' code computes is true at every length and any two points. -/
import Derived.Test.YtjflddnmkajleaaHq
import Derived.Test.YtjflddnmkajleaaPGx44
namespace Go.Proofs.Ytjflddnmkajleaa.Pure
set_option linter.unusedVariables false
set_option linter.unusedSimpArgs false
open Go.RowKit Go.Proofs.Ytjflddnmkajleaa.PG Go.Proofs.YtjflddnmkajleaaW.PrintWords Go.Proofs.YtjflddnmkajleaaW.PrintLast Go.Proofs.Ytjflddnmkajleaa.Norm Go.Proofs.Ytjflddnmkajleaa.Dm

theorem awakeIs : Ev (fun k => ratlinelaw10_awake.f k) true :=
  Ev.of (fun k => ratlinelaw10_awake.mono k) (k := 100) (by decide +kernel)
def lrow (n a b i : Nat) : List Int := (if i + 1 < n then [((i + 1 : Nat) : Int)] else []) ++ (if i = a then [(b : Int)] else [])
def lineG (n a b j : Nat) : List (List Int) := (List.range j).map (lrow n a b)
theorem lineG_succ (n a b j : Nat) : lineG n a b (j + 1) = lineG n a b j ++ [lrow n a b j] := by simp [lineG, List.range_succ]
theorem lineG_len (n a b j : Nat) : (lineG n a b j).length = j := by simp [lineG]
theorem lrow_len (n a b i : Nat) : (lrow n a b i).length ≤ 2 := by
  unfold lrow
  split <;> split <;> simp
theorem lineG_small (n a b : Nat) (hn : n ≤ 60) : Small (lineG n a b n) := by
  refine ⟨by rw [lineG_len]; omega, ?_⟩
  intro l hl
  obtain ⟨i, _, rfl⟩ := List.mem_map.mp hl
  have := lrow_len n a b i
  omega
theorem lineG_line (n a b : Nat) (ha : a < n) (hb : b < n) : Line (lineG n a b n).length a b (Eg (norm (lineG n a b n))) := by
  rw [lineG_len]
  refine ⟨ha, hb, fun u v => ?_⟩
  rw [eg_norm, lineG_len, rdLNat]
  by_cases hu : u < n
  · have e : (lineG n a b n).getD u [] = lrow n a b u := by simp [lineG, hu]
    rw [e]
    unfold lrow
    rw [List.mem_append]
    constructor
    · rintro ⟨h | h, h2⟩
      · split at h
        · simp at h; exact ⟨hu, .inl ⟨by omega, by omega⟩⟩
        · cases h
      · split at h
        · simp at h; exact ⟨hu, .inr ⟨by omega, by omega⟩⟩
        · cases h
    · rintro ⟨_, ⟨h, h2⟩ | ⟨h, h2⟩⟩
      · refine ⟨.inl ?_, h2⟩
        rw [if_pos (by omega)]
        simp; omega
      · refine ⟨.inr ?_, by omega⟩
        rw [if_pos h]
        simp; omega
  · have e : (lineG n a b n).getD u [] = [] := by simp [lineG, hu]
    rw [e]
    simp [hu]
theorem build (n a b : Nat) (hn : n ≤ 60) (ha : a < n) (hb : b < n) (r : Bool) (hk : Ev (fun k => (graph_Doms.f k (lineG n a b n)).bind fun t677 => ((graph_Loops.f k (lineG n a b n)).bind fun t680 => (if (t677.length : Int) = (n : Int) then ((graph_Order.f k (lineG n a b n)).bind fun t683 => (ratlinelaw10_GraphLines.j1 k n a b (lineG n a b n) t677 t680 ((t683.length : Int) != (n : Int)))) else (ratlinelaw10_GraphLines.j1 k n a b (lineG n a b n) t677 t680 true)))) r) :
    ∀ (m j : Nat), j + m = n → Ev (fun k => ratlinelaw10_GraphLines.l0 k n a b (lineG n a b j) (j : Int)) r
  | 0, j, h => by
    have : j = n := by omega
    subst this
    refine Ev.step (fun k => ?_) hk
    rw [ratlinelaw10_GraphLines.l0, if_neg (by omega)]
  | m + 1, j, h => by
    have ih := build n a b hn ha hb r hk m (j + 1) (by omega)
    have hl := lineG_len n a b j
    refine Ev.step (fun k => ?_) ih
    rw [ratlinelaw10_GraphLines.l0, if_pos (by omega), w1 (by omega), lineG_succ]
    unfold lrow
    by_cases c1 : j + 1 < n
    · rw [if_pos (by omega), if_pos c1, if_pos (by simp)]
      simp only [Option.bind_some, List.nil_append]
      by_cases c2 : j = a
      · rw [if_pos (by omega), if_pos (by simp), if_pos (by omega), if_pos c2]
      · rw [if_neg (by omega), if_pos (by omega), if_neg c2]
        simp
    · rw [if_neg (by omega), if_neg c1]
      by_cases c2 : j = a
      · rw [if_pos (by omega), if_pos (by simp), if_pos (by omega), if_pos c2]
      · rw [if_neg (by omega), if_pos (by omega), if_neg c2]
        simp
theorem body_at {n a b : Nat} (ha : a < n) (hba : b ≤ a) : (bodyTo b a n).length = a - b + 1 ∧ rd (bodyTo b a n) 0 = (b : Int) ∧ rd (bodyTo b a n) ((a - b : Nat) : Int) = (a : Int) := by
  have e : min n (a + 1) - b = a - b + 1 := by omega
  unfold bodyTo
  rw [e]
  refine ⟨by simp, by simp [rd, List.range'_succ], ?_⟩
  rw [rdNat, List.getD_eq_getElem?_getD]
  simp
  omega
section
variable {n a b : Nat}
/-- Behind the loop over the dominators. -/
def tail (k : Nat) (n a b : Nat) (g : List (List Int)) (x11 : List S37) : Option Bool := if (b : Int) > (a : Int) then (if (x11.length : Int) = 0 then ((graph_Cyclic.f k g ([] : List Bool)).bind fun t688 => (if t688 = true then (some false) else ((ratlinelaw10_awake.f k).bind fun t689 => (some t689)))) else (some false)) else (if (x11.length : Int) = 1 then (if 0 < (x11.length : Int) then (if ((rd_T37 x11 0).f0) = (b : Int) then (if (((rd_T37 x11 0).f1).length : Int) = (wrap64 ((wrap64 ((a : Int) - (b : Int))) + 1)) then (if ((rd_T37 x11 0).f2) = (-1) then ((graph_Cyclic.f k g ([] : List Bool)).bind fun t693 => (ratlinelaw10_GraphLines.j4 k n a b g x11 (!t693))) else (ratlinelaw10_GraphLines.j4 k n a b g x11 true)) else (ratlinelaw10_GraphLines.j4 k n a b g x11 true)) else (ratlinelaw10_GraphLines.j4 k n a b g x11 true)) else (none)) else (ratlinelaw10_GraphLines.j4 k n a b g x11 true))
theorem over (hn : n ≤ 60) (g : List (List Int)) (Y : List Int) (hY : Y.length = n) (hw : ∀ v : Nat, v < n → rd Y (v : Int) = want a b v) (x11 : List S37) (r : Bool) (hk : Ev (fun k => tail k n a b g x11) r) :
    ∀ (m j : Nat), j + m = n → Ev (fun k => ratlinelaw10_GraphLines.l1 k n a b g Y x11 (decide (a + 1 < b)) (j : Int)) r
  | 0, j, h => by
    have : j = n := by omega
    subst this
    refine Ev.step (fun k => ?_) hk
    rw [ratlinelaw10_GraphLines.l1, if_neg (by omega)]
    rfl
  | m + 1, j, h => by
    have ih := over hn g Y hY hw x11 r hk m (j + 1) (by omega)
    have hwj := hw j (by omega)
    have key : Ev (fun k => ratlinelaw10_GraphLines.j3 k n a b g Y x11 (decide (a + 1 < b)) (j : Int) (wrap64 ((j : Int) - 1)) (decide (a + 1 < b ∧ j = b))) r := by
      refine Ev.step (fun k => ?_) ih
      rw [ratlinelaw10_GraphLines.j3]
      by_cases c : a + 1 < b ∧ j = b
      · have e : want a b j = (a : Int) := by unfold want; rw [if_neg (by omega), if_pos c]
        rw [if_pos (by simpa using c), if_pos (by omega), if_pos (by omega), if_pos (by rw [hwj, e]), w1 (by omega)]
      · have e : want a b j = wrap64 ((j : Int) - 1) := by
          unfold want
          by_cases h0 : j = 0
          · subst h0; rw [if_pos rfl]; unfold wrap64; omega
          · rw [if_neg h0, if_neg c]
            unfold wrap64
            omega
        rw [if_neg (by simpa using c), if_pos (by omega), if_pos (by omega), if_pos (by rw [hwj, e]), w1 (by omega)]
    refine Ev.step (fun k => ?_) key
    rw [ratlinelaw10_GraphLines.l1, if_pos (by omega)]
    by_cases c : a + 1 < b
    · have e : decide (a + 1 < b) = true := by simpa using c
      rw [if_pos e]
      congr 1
      by_cases c2 : j = b
      · simp [c, c2]
      · have : ¬ (j : Int) = (b : Int) := by omega
        simp [c, c2, this]
    · have e : ¬ decide (a + 1 < b) = true := by simpa using c
      rw [if_neg e]
      congr 1
      simp [c]
end
theorem lines (n a b : Nat) (hn : n ≤ 60) (ha : a < n) (hb : b < n) : Ev (fun k => ratlinelaw10_GraphLines.l0 k n a b [] 0) true := by
  have hg := lineG_small n a b hn
  have L := lineG_line n a b ha hb
  have hl := lineG_len n a b n
  have h0 : 0 < (lineG n a b n).length := by omega
  obtain ⟨Y, y1, y2, y3⟩ := line_doms hg h0 L
  obtain ⟨o, o1, o2⟩ := line_order hg h0 L
  have ew : Ev (fun k => (ratlinelaw10_awake.f k).bind fun t462 => some t462) true := Ev.bind (f := fun _ u => some u) awakeIs (Ev.now _)
  have main : ∀ Lp : List S37, Ev (fun k => graph_Loops.f k (lineG n a b n)) Lp → Ev (fun k => tail k n a b (lineG n a b n) Lp) true → Ev (fun k => ratlinelaw10_GraphLines.l0 k n a b [] 0) true := by
    intro Lp hLp ht
    have e1 := over (a := a) (b := b) hn (lineG n a b n) Y (by omega) (by rw [hl] at y3; exact y3) Lp true ht n 0 (by omega)
    have e2 : Ev (fun k => ratlinelaw10_GraphLines.j1 k n a b (lineG n a b n) Y Lp ((o.length : Int) != (n : Int))) true := by
      refine Ev.step (fun k => ?_) e1
      rw [ratlinelaw10_GraphLines.j1, if_neg (by simp; omega)]
      have : wrap64 ((a : Int) + 1) = ((a + 1 : Nat) : Int) := w1 (by omega)
      rw [this]
      congr 1
      rw [Bool.eq_iff_iff, decide_eq_true_iff, decide_eq_true_iff]
      omega
    refine build n a b hn ha hb true ?_ n 0 (by omega)
    refine Ev.bind (f := fun k t677 => ((graph_Loops.f k (lineG n a b n)).bind fun t680 => (if (t677.length : Int) = (n : Int) then ((graph_Order.f k (lineG n a b n)).bind fun t683 => (ratlinelaw10_GraphLines.j1 k n a b (lineG n a b n) t677 t680 ((t683.length : Int) != (n : Int)))) else (ratlinelaw10_GraphLines.j1 k n a b (lineG n a b n) t677 t680 true)))) y2 ?_
    refine Ev.bind (f := fun k t680 => (if (Y.length : Int) = (n : Int) then ((graph_Order.f k (lineG n a b n)).bind fun t683 => (ratlinelaw10_GraphLines.j1 k n a b (lineG n a b n) Y t680 ((t683.length : Int) != (n : Int)))) else (ratlinelaw10_GraphLines.j1 k n a b (lineG n a b n) Y t680 true))) hLp ?_
    refine Ev.congr (fun k => ?_) (Ev.bind (f := fun k t683 => ratlinelaw10_GraphLines.j1 k n a b (lineG n a b n) Y Lp (((t683 : List Int).length : Int) != (n : Int))) o2 e2)
    rw [if_pos (by omega)]
  by_cases c : a < b
  · refine main [] (line_loops_none hg h0 L c) ?_
    have ec := line_cyc hg h0 L [] false (fun R _ _ => by
      constructor
      · intro h; cases h
      · intro h; exact absurd h (no_circ L _ (.inl c)))
    have e := Ev.bind (f := fun k t688 => (if t688 = true then (some false) else ((ratlinelaw10_awake.f k).bind fun t689 => (some t689)))) ec (by simpa using ew)
    refine Ev.congr (fun k => ?_) e
    unfold tail
    rw [if_pos (by omega), if_pos (by simp)]
  · have hba : b ≤ a := by omega
    have hlo := line_loops_one hg h0 L hba
    rw [hl] at hlo
    obtain ⟨b1, b2, b3⟩ := body_at (n := n) ha hba
    refine main _ hlo ?_
    have ec := line_cyc hg h0 L [] true (fun R hR hall => by
      refine ⟨fun _ => line_circ L hba _ ?_, fun _ => rfl⟩
      intro q q0 q1
      unfold onb okb
      rw [hall q q0 q1]
      simp
      omega)
    have ep := line_cyc hg h0 L ((List.replicate n false).set a true) false (fun R hR hall => by
      constructor
      · intro h; cases h
      · intro h
        refine absurd h (no_circ L _ (.inr ?_))
        unfold onb okb
        rw [hall (a : Int) (by omega) (by omega)]
        simp [rdOf, ha])
    have e4 : Ev (fun k => ratlinelaw10_GraphLines.j4 k n a b (lineG n a b n) [(⟨(b : Int), bodyTo b a n, (-1)⟩ : S37)] (!true)) true := by
      have e := Ev.bind (f := fun k t703 => (if t703 = true then (some false) else ((ratlinelaw10_awake.f k).bind fun t704 => (some t704)))) ep (by simpa using ew)
      refine Ev.step (fun k => ?_) e
      have hw : wrap64 (((a - b + 1 : Nat) : Int) - 1) = ((a - b : Nat) : Int) := wl (by omega)
      rw [ratlinelaw10_GraphLines.j4, if_neg (by simp), if_pos (by omega), if_pos (by omega)]
      simp only [Option.bind_some, Int.toNat_natCast]
      rw [if_pos (by omega), if_pos (by simp; omega), if_pos (by simp)]
      show (if 0 < ((bodyTo b a n).length : Int) then _ else _) = _
      rw [if_pos (by omega)]
      show (if rd (bodyTo b a n) 0 = (b : Int) then _ else _) = _
      rw [if_pos b2]
      show (if 0 ≤ wrap64 (((bodyTo b a n).length : Int) - 1) then (if wrap64 (((bodyTo b a n).length : Int) - 1) < ((bodyTo b a n).length : Int) then (if rd (bodyTo b a n) (wrap64 (((bodyTo b a n).length : Int) - 1)) = (a : Int) then _ else _) else _) else _) = _
      rw [b1, hw, if_pos (by omega), if_pos (by omega), if_pos b3]
    have e := Ev.bind (f := fun k t693 => ratlinelaw10_GraphLines.j4 k n a b (lineG n a b n) [(⟨(b : Int), bodyTo b a n, (-1)⟩ : S37)] (!t693)) ec e4
    refine Ev.congr (fun k => ?_) e
    unfold tail
    have hw2 : wrap64 (wrap64 ((a : Int) - (b : Int)) + 1) = ((a - b + 1 : Nat) : Int) := by unfold wrap64; omega
    rw [if_neg (by omega), if_pos (by simp), if_pos (by simp)]
    show (if (b : Int) = (b : Int) then (if ((bodyTo b a n).length : Int) = (wrap64 ((wrap64 ((a : Int) - (b : Int))) + 1)) then (if (-1 : Int) = (-1) then _ else _) else _) else _) = _
    rw [if_pos rfl, if_pos (by rw [b1, hw2]), if_pos rfl]
/-- A mask by 65535 lies between nought and 65535. -/
theorem andLt (a : Int) : 0 ≤ Go.bits .and .i64 a 65535 ∧ Go.bits .and .i64 a 65535 ≤ 65535 := by
  have h : (BitVec.ofInt 64 a &&& BitVec.ofInt 64 65535).toNat ≤ 65535 := by
    rw [BitVec.toNat_and]
    exact Nat.le_trans Nat.and_le_right (by decide)
  show 0 ≤ IntKind.i64.wrap ((BitVec.ofInt 64 a &&& BitVec.ofInt 64 65535).toNat : Int) ∧ IntKind.i64.wrap ((BitVec.ofInt 64 a &&& BitVec.ofInt 64 65535).toNat : Int) ≤ 65535
  rw [IntKind.wrap_i64]
  omega
theorem GraphLines : ratlinelaw10_GraphLines.Pure := by
  intro a0 a1 a2 _ _ _
  refine Ev.rounds (g := fun k => ratlinelaw10_GraphLines.f k a0 a1 a2) ?_
  obtain ⟨h0, _⟩ := andLt a0
  obtain ⟨h1, _⟩ := andLt a1
  obtain ⟨h2, _⟩ := andLt a2
  simp only [ratlinelaw10_GraphLines.f]
  generalize Go.bits .and .i64 a0 65535 = c0 at h0 ⊢
  generalize Go.bits .and .i64 a1 65535 = c1 at h1 ⊢
  generalize Go.bits .and .i64 a2 65535 = c2 at h2 ⊢
  have e0 : Int.tmod c0 60 = c0 % 60 := Int.tmod_eq_emod_of_nonneg h0
  rw [e0]
  obtain ⟨n, hn⟩ : ∃ n : Nat, wrap64 (c0 % 60 + 1) = (n : Int) ∧ 1 ≤ n ∧ n ≤ 60 := ⟨(c0 % 60).toNat + 1, by unfold wrap64; omega, by omega, by omega⟩
  rw [hn.1]
  have e1 : Int.tmod c1 n = c1 % n := Int.tmod_eq_emod_of_nonneg h1
  have e2 : Int.tmod c2 n = c2 % n := Int.tmod_eq_emod_of_nonneg h2
  rw [e1, e2]
  have m1 := Int.emod_nonneg c1 (b := (n : Int)) (by omega)
  have m2 := Int.emod_nonneg c2 (b := (n : Int)) (by omega)
  have l1 := Int.emod_lt_of_pos c1 (b := (n : Int)) (by omega)
  have l2 := Int.emod_lt_of_pos c2 (b := (n : Int)) (by omega)
  have key := lines n (c1 % n).toNat (c2 % n).toNat hn.2.2 (by omega) (by omega)
  rw [Int.toNat_of_nonneg m1, Int.toNat_of_nonneg m2] at key
  refine Ev.congr (fun k => ?_) key
  rw [if_neg (by omega)]
end Go.Proofs.Ytjflddnmkajleaa.Pure
