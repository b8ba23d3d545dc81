-- By the session's own program out of the kit's print, with texts of the session's own for the functions that the print does not take.
import Derived.Test.YtjflddnmkajleaaPGx0
import Derived.Test.YtjflddnmkajleaaPGx7
import Derived.Test.YtjflddnmkajleaaPGx10
import Derived.Test.YtjflddnmkajleaaPGx38
namespace Go.Proofs.Ytjflddnmkajleaa.PG
open Go.RowKit Go.Proofs.YtjflddnmkajleaaW.PrintWords Go.Proofs.YtjflddnmkajleaaW.PrintLast Go.Proofs.YtjflddnmkajleaaW.PrintMore
attribute [local go_sem] max2_int min2_int max_two min_two max_three min_three max_four min_four   -- for this text's walks alone
set_option linter.unusedVariables false
set_option linter.unusedSimpArgs false

/-! ### graph_Cyclic: function 24 -/
mutual
def graph_Cyclic.l0 : Nat → List (List Int) → List Bool → List Bool → List Int → Int → List (List Int) → Int → Int → Option (Bool)
  | 0, _, _, _, _, _, _, _, _ => none
  | k + 1, x0, x1, x2, x6, x8, x26, x27, x28 => if x28 < x27 then (if 0 ≤ x28 then (if x28 < (x26.length : Int) then ((graph_Cyclic_1.f x2 x1 x28).bind fun t346 => (if t346 = true then (graph_Cyclic.l1 k x0 x1 x2 x6 (wrap64 (x8 + 1)) x26 x27 x28 (rd_L1 x26 x28) ((rd_L1 x26 x28).length : Int) 0) else (graph_Cyclic.l0 k x0 x1 x2 x6 x8 x26 x27 (wrap64 (x28 + 1))))) else (none)) else (none)) else (graph_Cyclic.l2 k x0 x1 x2 x6 x8 ([] : List Int) (x0.length : Int) 0)
def graph_Cyclic.l1 : Nat → List (List Int) → List Bool → List Bool → List Int → Int → List (List Int) → Int → Int → List Int → Int → Int → Option (Bool)
  | 0, _, _, _, _, _, _, _, _, _, _, _ => none
  | k + 1, x0, x1, x2, x6, x8, x26, x27, x28, x39, x40, x41 => if x41 < x40 then (if 0 ≤ x41 then (if x41 < (x39.length : Int) then ((graph_Cyclic_1.f x2 x1 (rd x39 x41)).bind fun t348 => (if t348 = true then (if 0 ≤ (rd x39 x41) then (if (rd x39 x41) < (x6.length : Int) then (graph_Cyclic.l1 k x0 x1 x2 (x6.set ((rd x39 x41) : Int).toNat (wrap64 ((rd x6 (rd x39 x41)) + 1))) x8 x26 x27 x28 x39 x40 (wrap64 (x41 + 1))) else (none)) else (none)) else (graph_Cyclic.l1 k x0 x1 x2 x6 x8 x26 x27 x28 x39 x40 (wrap64 (x41 + 1))))) else (none)) else (none)) else (graph_Cyclic.l0 k x0 x1 x2 x6 x8 x26 x27 (wrap64 (x28 + 1)))
def graph_Cyclic.l2 : Nat → List (List Int) → List Bool → List Bool → List Int → Int → List Int → Int → Int → Option (Bool)
  | 0, _, _, _, _, _, _, _, _ => none
  | k + 1, x0, x1, x2, x6, x8, x13, x57, x58 => if x58 < x57 then ((graph_Cyclic_1.f x2 x1 x58).bind fun t351 => (if t351 = true then (if 0 ≤ x58 then (if x58 < (x6.length : Int) then (if (rd x6 x58) = 0 then (if x13.length < 17592186044416 then (graph_Cyclic.l2 k x0 x1 x2 x6 x8 (x13 ++ [x58]) x57 (wrap64 (x58 + 1))) else (none)) else (graph_Cyclic.l2 k x0 x1 x2 x6 x8 x13 x57 (wrap64 (x58 + 1)))) else (none)) else (none)) else (graph_Cyclic.l2 k x0 x1 x2 x6 x8 x13 x57 (wrap64 (x58 + 1))))) else (graph_Cyclic.l3 k x0 x1 x2 x6 x8 x13)
def graph_Cyclic.l3 : Nat → List (List Int) → List Bool → List Bool → List Int → Int → List Int → Option (Bool)
  | 0, _, _, _, _, _, _ => none
  | k + 1, x0, x1, x2, x6, x8, x13 => if (x13.length : Int) > 0 then (if 0 ≤ (wrap64 ((x13.length : Int) - 1)) then (if (wrap64 ((x13.length : Int) - 1)) < (x13.length : Int) then (if (wrap64 ((x13.length : Int) - 1)) ≤ (x13.length : Int) then (if 0 ≤ (rd x13 (wrap64 ((x13.length : Int) - 1))) then (if (rd x13 (wrap64 ((x13.length : Int) - 1))) < (x0.length : Int) then (graph_Cyclic.l4 k x0 x1 x2 x6 (wrap64 (x8 - 1)) (x13.take ((wrap64 ((x13.length : Int) - 1)) : Int).toNat) (rd_L1 x0 (rd x13 (wrap64 ((x13.length : Int) - 1)))) ((rd_L1 x0 (rd x13 (wrap64 ((x13.length : Int) - 1)))).length : Int) 0) else (none)) else (none)) else (none)) else (none)) else (none)) else (some (decide (x8 > 0)))
def graph_Cyclic.l4 : Nat → List (List Int) → List Bool → List Bool → List Int → Int → List Int → List Int → Int → Int → Option (Bool)
  | 0, _, _, _, _, _, _, _, _, _ => none
  | k + 1, x0, x1, x2, x6, x8, x13, x95, x96, x97 => if x97 < x96 then (if 0 ≤ x97 then (if x97 < (x95.length : Int) then ((graph_Cyclic_1.f x2 x1 (rd x95 x97)).bind fun t362 => (if t362 = true then (if 0 ≤ (rd x95 x97) then (if (rd x95 x97) < (x6.length : Int) then ((some (x6.set ((rd x95 x97) : Int).toNat (wrap64 ((rd x6 (rd x95 x97)) - 1)) : List Int)).bind fun y364 => (if (rd y364 (rd x95 x97)) = 0 then (if x13.length < 17592186044416 then (graph_Cyclic.l4 k x0 x1 x2 y364 x8 (x13 ++ [rd x95 x97]) x95 x96 (wrap64 (x97 + 1))) else (none)) else (graph_Cyclic.l4 k x0 x1 x2 y364 x8 x13 x95 x96 (wrap64 (x97 + 1))))) else (none)) else (none)) else (graph_Cyclic.l4 k x0 x1 x2 x6 x8 x13 x95 x96 (wrap64 (x97 + 1))))) else (none)) else (none)) else (graph_Cyclic.l3 k x0 x1 x2 x6 x8 x13)
end
def graph_Cyclic.g (k : Nat) (l0 : List (List Int)) (l1 : List Bool) (l2 : List Bool) : Option (Bool) := if 0 ≤ (l0.length : Int) then (if ((l0.length : Int) : Int).toNat ≤ 35184372088832 then (graph_Cyclic.l0 k l0 l1 l2 (List.replicate ((l0.length : Int) : Int).toNat 0) 0 l0 (l0.length : Int) 0) else (none)) else (none)
theorem graph_Cyclic.mono_l : ∀ k, (∀ y0 y1 y2 y3 y4 y5 y6 y7, LeO (graph_Cyclic.l0 k y0 y1 y2 y3 y4 y5 y6 y7) (graph_Cyclic.l0 (k + 1) y0 y1 y2 y3 y4 y5 y6 y7)) ∧ (∀ y0 y1 y2 y3 y4 y5 y6 y7 y8 y9 y10, LeO (graph_Cyclic.l1 k y0 y1 y2 y3 y4 y5 y6 y7 y8 y9 y10) (graph_Cyclic.l1 (k + 1) y0 y1 y2 y3 y4 y5 y6 y7 y8 y9 y10)) ∧ (∀ y0 y1 y2 y3 y4 y5 y6 y7, LeO (graph_Cyclic.l2 k y0 y1 y2 y3 y4 y5 y6 y7) (graph_Cyclic.l2 (k + 1) y0 y1 y2 y3 y4 y5 y6 y7)) ∧ (∀ y0 y1 y2 y3 y4 y5, LeO (graph_Cyclic.l3 k y0 y1 y2 y3 y4 y5) (graph_Cyclic.l3 (k + 1) y0 y1 y2 y3 y4 y5)) ∧ (∀ y0 y1 y2 y3 y4 y5 y6 y7 y8, LeO (graph_Cyclic.l4 k y0 y1 y2 y3 y4 y5 y6 y7 y8) (graph_Cyclic.l4 (k + 1) y0 y1 y2 y3 y4 y5 y6 y7 y8))
  | 0 => ⟨fun _ _ _ _ _ _ _ _ r h => by simp [graph_Cyclic.l0] at h, fun _ _ _ _ _ _ _ _ _ _ _ r h => by simp [graph_Cyclic.l1] at h, fun _ _ _ _ _ _ _ _ r h => by simp [graph_Cyclic.l2] at h, fun _ _ _ _ _ _ r h => by simp [graph_Cyclic.l3] at h, fun _ _ _ _ _ _ _ _ _ r h => by simp [graph_Cyclic.l4] at h⟩
  | k + 1 => by
    obtain ⟨ih0, ih1, ih2, ih3, ih4⟩ := graph_Cyclic.mono_l k
    refine ⟨?_, ?_, ?_, ?_, ?_⟩
    · intro y0 y1 y2 y3 y4 y5 y6 y7
      unfold graph_Cyclic.l0
      repeat' first
      | (with_reducible exact ih0 _ _ _ _ _ _ _ _)
      | (with_reducible exact ih1 _ _ _ _ _ _ _ _ _ _ _)
      | (with_reducible exact ih2 _ _ _ _ _ _ _ _)
      | (with_reducible exact ih3 _ _ _ _ _ _)
      | (with_reducible exact ih4 _ _ _ _ _ _ _ _ _)
      | (with_reducible exact LeO.refl _)
      | (with_reducible exact LeO.none _)
      | (with_reducible refine LeO.ite ?_ ?_)
      | (with_reducible refine LeO.bind ?_ (fun _ => ?_))
      | exact ih0 _ _ _ _ _ _ _ _
      | exact ih1 _ _ _ _ _ _ _ _ _ _ _
      | exact ih2 _ _ _ _ _ _ _ _
      | exact ih3 _ _ _ _ _ _
      | exact ih4 _ _ _ _ _ _ _ _ _
      | exact LeO.none _
      | refine LeO.ite ?_ ?_
      | refine LeO.bind ?_ (fun _ => ?_)
    · intro y0 y1 y2 y3 y4 y5 y6 y7 y8 y9 y10
      unfold graph_Cyclic.l1
      repeat' first
      | (with_reducible exact ih0 _ _ _ _ _ _ _ _)
      | (with_reducible exact ih1 _ _ _ _ _ _ _ _ _ _ _)
      | (with_reducible exact ih2 _ _ _ _ _ _ _ _)
      | (with_reducible exact ih3 _ _ _ _ _ _)
      | (with_reducible exact ih4 _ _ _ _ _ _ _ _ _)
      | (with_reducible exact LeO.refl _)
      | (with_reducible exact LeO.none _)
      | (with_reducible refine LeO.ite ?_ ?_)
      | (with_reducible refine LeO.bind ?_ (fun _ => ?_))
      | exact ih0 _ _ _ _ _ _ _ _
      | exact ih1 _ _ _ _ _ _ _ _ _ _ _
      | exact ih2 _ _ _ _ _ _ _ _
      | exact ih3 _ _ _ _ _ _
      | exact ih4 _ _ _ _ _ _ _ _ _
      | exact LeO.none _
      | refine LeO.ite ?_ ?_
      | refine LeO.bind ?_ (fun _ => ?_)
    · intro y0 y1 y2 y3 y4 y5 y6 y7
      unfold graph_Cyclic.l2
      repeat' first
      | (with_reducible exact ih0 _ _ _ _ _ _ _ _)
      | (with_reducible exact ih1 _ _ _ _ _ _ _ _ _ _ _)
      | (with_reducible exact ih2 _ _ _ _ _ _ _ _)
      | (with_reducible exact ih3 _ _ _ _ _ _)
      | (with_reducible exact ih4 _ _ _ _ _ _ _ _ _)
      | (with_reducible exact LeO.refl _)
      | (with_reducible exact LeO.none _)
      | (with_reducible refine LeO.ite ?_ ?_)
      | (with_reducible refine LeO.bind ?_ (fun _ => ?_))
      | exact ih0 _ _ _ _ _ _ _ _
      | exact ih1 _ _ _ _ _ _ _ _ _ _ _
      | exact ih2 _ _ _ _ _ _ _ _
      | exact ih3 _ _ _ _ _ _
      | exact ih4 _ _ _ _ _ _ _ _ _
      | exact LeO.none _
      | refine LeO.ite ?_ ?_
      | refine LeO.bind ?_ (fun _ => ?_)
    · intro y0 y1 y2 y3 y4 y5
      unfold graph_Cyclic.l3
      repeat' first
      | (with_reducible exact ih0 _ _ _ _ _ _ _ _)
      | (with_reducible exact ih1 _ _ _ _ _ _ _ _ _ _ _)
      | (with_reducible exact ih2 _ _ _ _ _ _ _ _)
      | (with_reducible exact ih3 _ _ _ _ _ _)
      | (with_reducible exact ih4 _ _ _ _ _ _ _ _ _)
      | (with_reducible exact LeO.refl _)
      | (with_reducible exact LeO.none _)
      | (with_reducible refine LeO.ite ?_ ?_)
      | (with_reducible refine LeO.bind ?_ (fun _ => ?_))
      | exact ih0 _ _ _ _ _ _ _ _
      | exact ih1 _ _ _ _ _ _ _ _ _ _ _
      | exact ih2 _ _ _ _ _ _ _ _
      | exact ih3 _ _ _ _ _ _
      | exact ih4 _ _ _ _ _ _ _ _ _
      | exact LeO.none _
      | refine LeO.ite ?_ ?_
      | refine LeO.bind ?_ (fun _ => ?_)
    · intro y0 y1 y2 y3 y4 y5 y6 y7 y8
      unfold graph_Cyclic.l4
      repeat' first
      | (with_reducible exact ih0 _ _ _ _ _ _ _ _)
      | (with_reducible exact ih1 _ _ _ _ _ _ _ _ _ _ _)
      | (with_reducible exact ih2 _ _ _ _ _ _ _ _)
      | (with_reducible exact ih3 _ _ _ _ _ _)
      | (with_reducible exact ih4 _ _ _ _ _ _ _ _ _)
      | (with_reducible exact LeO.refl _)
      | (with_reducible exact LeO.none _)
      | (with_reducible refine LeO.ite ?_ ?_)
      | (with_reducible refine LeO.bind ?_ (fun _ => ?_))
      | exact ih0 _ _ _ _ _ _ _ _
      | exact ih1 _ _ _ _ _ _ _ _ _ _ _
      | exact ih2 _ _ _ _ _ _ _ _
      | exact ih3 _ _ _ _ _ _
      | exact ih4 _ _ _ _ _ _ _ _ _
      | exact LeO.none _
      | refine LeO.ite ?_ ?_
      | refine LeO.bind ?_ (fun _ => ?_)
def graph_Cyclic.f (k : Nat) (l0 : List (List Int)) (l1 : List Bool) : Option (Bool) := (graph_clean.f k l0).bind fun t1 => (graph_reach.f k t1 0 (-1)).bind fun t2 => graph_Cyclic.g k t1 l1 t2
theorem graph_Cyclic.mono : ∀ a0 a1 k, LeO (graph_Cyclic.f k a0 a1) (graph_Cyclic.f (k + 1) a0 a1) := by
  intro a0 a1 k
  obtain ⟨ih0, ih1, ih2, ih3, ih4⟩ := graph_Cyclic.mono_l k
  unfold graph_Cyclic.f graph_Cyclic.g
  repeat' first
      | (with_reducible exact ih0 _ _ _ _ _ _ _ _)
      | (with_reducible exact ih1 _ _ _ _ _ _ _ _ _ _ _)
      | (with_reducible exact ih2 _ _ _ _ _ _ _ _)
      | (with_reducible exact ih3 _ _ _ _ _ _)
      | (with_reducible exact ih4 _ _ _ _ _ _ _ _ _)
      | (with_reducible exact graph_clean.mono _ _)
      | (with_reducible exact graph_reach.mono _ _ _ _)
      | (with_reducible exact LeO.refl _)
      | (with_reducible exact LeO.none _)
      | (with_reducible refine LeO.ite ?_ ?_)
      | (with_reducible refine LeO.bind ?_ (fun _ => ?_))
      | exact ih0 _ _ _ _ _ _ _ _
      | exact ih1 _ _ _ _ _ _ _ _ _ _ _
      | exact ih2 _ _ _ _ _ _ _ _
      | exact ih3 _ _ _ _ _ _
      | exact ih4 _ _ _ _ _ _ _ _ _
      | exact LeO.none _
      | refine LeO.ite ?_ ?_
      | refine LeO.bind ?_ (fun _ => ?_)
theorem gate_fn {P : Program} {ops : Array Oper} {Q : Exit → Act → World → Prop} {rest : List Oper} {o : Oper} {a : Act} {W : World} {n : Nat} {xs_ : Array Operand} {ts : Array TypeId} (_ho : o.op = .call { callee := .value (.tmp n), args := xs_, argTypes := ts }) (h : wpList P ops Q (o :: rest) a W) : wpList P ops Q (o :: rest) a W := h
/-- A call through a function value. -/
theorem goesC_ {P : Program} {ops : Array Oper} {Q : Exit → Act → World → Prop} {rest : List Oper} {oi : Oper} {a : Act} {w : World} (N : Option Tmp) (hd : oi.dst = N) (hg : oi.guard = none) {f : FuncId} {fn : Func} {c : Operand} {xs_ : Array Operand} {ts : Array TypeId} (hf : P.funcs[f]? = some fn) (hname : (fn.name == "runtime.NumGoroutine") = false) (hb : fn.body.isSome = true) (args cap all : Array Value)
    (hop : oi.op = .call { callee := .value c, args := xs_, argTypes := ts }) (hc : a.eval c = .func (.func f) #[] cap) (hargs : xs_.map a.eval = args) (hall : args ++ cap = all)
    (h : Calls P f all w fun e w' => ∃ v, e = .returned v ∧ wpList P ops Q rest (a.put N v) w') : wpList P ops Q (oi :: rest) a w := by
  refine wpList_plain hg fun K hK => ?_
  have he := enters_ hf hname hb all w
  have hrun : (execOp a.eval oi).run P w = .ok (.enter f all) w := by
    unfold execOp
    simp [hop, resolve, Deferred.ofValue, invoke, hc, hargs, hall, he]
  unfold Oper.wp
  rw [hrun, Oper.upon_enter]
  refine h.mono fun e w'' hh => ?_
  obtain ⟨v, rfl, hk⟩ := hh
  subst hd
  exact hK _ _ hk
theorem size_alloc_lt (w : World) (o : Obj) : w.heap.size < (w.alloc o).heap.size := by
  first | exact Nat.lt_succ_self _ | (rw [World.alloc_eq]; simp) | simp
theorem rebase {P : World → Prop} {W : World} (F : World → Prop) (hF : F W) (h : ∀ w, F w → P w) : P W := h W hF
set_option maxHeartbeats 8000000 in
set_option maxRecDepth 100000 in
theorem graph_Cyclic.calls (k : Nat) (Aq : Option Addr) (cq : Nat) (lq : List (List Int)) (A1 : Option Addr) (c1 : Nat) (l1 : List Bool) (r : Bool) (wq : World) (hr0 : Kd.C (Kd.slice 3 (Kd.int .i64)) wq Aq lq.length lq) (hc0 : lq.length ≤ cq) (hr1 : Kd.C Kd.bool wq A1 l1.length l1) (hc1 : l1.length ≤ c1) (h : graph_Cyclic.f k lq l1 = some r) :
    Calls Try.prog 24 #[.slice Aq lq.length cq, .slice A1 l1.length c1] wq fun e w' => e = .returned (.bool r) ∧ Below wq.heap.size wq w' := by
  have hmf : ∀ (fn : Fn) (first cap : Array Value) (w : World), (Instr.makeFunc fn first cap).run Try.prog w = .ok (.func fn first cap) w := fun _ _ _ _ => rfl
  have HRq := Aside0.mk hr0
  have HCq := Aside0.mk hc0
  have HS1 := Aside0.mk hr1
  have HC1 := Aside0.mk hc1
  clear hr0 hc0 hr1 hc1
  have HBq := Aside0.mk (Below.refl wq.heap.size wq)
  replace h := Option.bind_eq_some_iff.mp h
  obtain ⟨l0, A20, h⟩ := h
  replace h := Option.bind_eq_some_iff.mp h
  obtain ⟨l2, A30, h⟩ := h
  have AQ2 := Aside0.mk A20
  have AQ3 := Aside0.mk A30
  clear A20 A30
  have H : (if 0 ≤ (l0.length : Int) then (if ((l0.length : Int) : Int).toNat ≤ 35184372088832 then (graph_Cyclic.l0 k l0 l1 l2 (List.replicate ((l0.length : Int) : Int).toNat 0) 0 l0 (l0.length : Int) 0) else (none)) else (none)) = some r := h
  clear h
  by_cases c4 : 0 ≤ (l0.length : Int)
  · rw [if_pos c4] at H
    have c4b0 := eq_true c4
    have c4b1 : decide (0 ≤ (l0.length : Int)) = true := decide_eq_true c4
    clear c4
    by_cases c5 : ((l0.length : Int) : Int).toNat ≤ 35184372088832
    · rw [if_pos c5] at H
      have c5b0 := eq_true c5
      have c5b1 : decide (((l0.length : Int) : Int).toNat ≤ 35184372088832) = true := decide_eq_true c5
      clear c5
      obtain ⟨y342, hy342⟩ : ∃ y_ : List Int, y_ = (List.replicate ((l0.length : Int) : Int).toNat 0) := ⟨_, rfl⟩
      replace H : (graph_Cyclic.l0 k l0 l1 l2 y342 0 l0 (l0.length : Int) 0) = some r := by first | (rw [hy342]; with_reducible exact H) | (have H2_ := (Option.bind_some _ _).symm.trans H; rw [hy342]; with_reducible exact H2_) | (have H2_ := (Option.bind_some _ _).symm.trans H; with_reducible exact H2_) | with_reducible exact H | (rw [hy342]; exact H) | exact H
      have Ny342 := Aside0.mk hy342
      clear hy342
      have H' := Aside0.mk H
      clear H
      go_enter Try.func24, Try.ntmps24
      go_wp2_with (first | ((with_reducible refine gate_callee (f := 27) rfl ?_); refine goesL_ (some 19) rfl rfl Try.func27 (by kernel_rfl) rfl #[.slice Aq lq.length cq] rfl (by (try simp only [List.map_toArray, List.map_cons, List.map_nil]); first | done | rfl | (simp only [List.length_drop, List.length_take]; rfl)) ?_; (with_reducible refine (graph_clean.calls k _ _ lq l0 _ ?side1 ?side2 AQ2.out).mono ?_); (case side1 => repeat (first | exact HRq.out | (with_reducible refine Kd.C_alloc ?_ _) | (with_reducible refine Kd.C_drewN ?_ _) | (with_reducible refine Kd.C_drew ?_))); (case side2 => exact HCq.out); rintro e w4 ⟨v382, rfl, ho0, hb⟩; refine ⟨_, rfl, ?_⟩; have n1_ := Aside0.mk (below_step (by repeat (first | (with_reducible first | exact HBq.out | apply below_alloc | apply pw_below_drewN | apply below_drew1) | exact HBq.out)) hb); have HX1 : Aside0 (w4.cell? ⟨wq.heap.size, 0, none⟩ = some (.slice A1 l1.length c1)) := ⟨(hb.cell (by first | (show wq.heap.size < _; exact size_alloc_lt _ _))).trans (by first | exact World.cell?_alloc_at _ _ _ _ rfl | (refine (World.cell?_alloc_at _ _ _ _ rfl).trans ?_; rfl))⟩; clear HBq; have HBq := n1_; clear n1_; obtain ⟨A0, c0, eo5⟩ := Kd.S_slice ho0; subst eo5; have HR0 := Aside0.mk ((Kd.S_reads' ho0).2.2); have HC0 := Aside0.mk ((Kd.S_reads' ho0).2.1); clear hb ho0 HRq HCq) | ((with_reducible refine gate_callee (f := 30) rfl ?_); refine goesL_ (some 21) rfl rfl Try.func30 (by kernel_rfl) rfl #[.slice A0 l0.length c0, .int .i64 0, .int .i64 (-1)] rfl (by (try simp only [List.map_toArray, List.map_cons, List.map_nil]); first | done | rfl | (simp only [List.length_drop, List.length_take]; rfl)) ?_; (with_reducible refine (graph_reach.calls k _ _ l0 0 (-1) l2 _ ?side1 ?side2 AQ3.out).mono ?_); (case side1 => repeat (first | exact HR0.out | (with_reducible refine Kd.C_alloc ?_ _) | (with_reducible refine Kd.C_drewN ?_ _) | (with_reducible refine Kd.C_drew ?_))); (case side2 => exact HC0.out); rintro e w5 ⟨v383, rfl, ho0, hb⟩; refine ⟨_, rfl, ?_⟩; have n1_ := Aside0.mk (below_step HBq.out hb); have n2_ := Aside0.mk ((hb.cell (World.block_lt_of_cell? w4 _ HX1.out)).trans HX1.out); have n3_ := Aside0.mk (Kd.C_below HR0.out hb); obtain ⟨A2, c2, eo6⟩ := Kd.R_slice ho0; subst eo6; have HR2 := Aside0.mk ((Kd.R_reads' ho0).2.2); have HC2 := Aside0.mk ((Kd.R_reads' ho0).2.1); clear HBq HX1 HR0; have HBq := n1_; have HX1 := n2_; have HR0 := n3_; clear n1_ n2_ n3_; have HS5 := Aside0.mk (Kd.C_below HS1.out HBq.out); clear hb ho0) | ((with_reducible refine gate_dst (N := 24) rfl ?_); refine rebase (P := fun W_ => wpList _ _ _ _ _ W_) (fun W_ => W_.cell? ⟨w5.heap.size, 0, none⟩ = some (.slice A2 l2.length c2) ∧ Below w5.heap.size w5 W_) ⟨(by first | exact World.cell?_alloc_at _ _ _ _ rfl | (refine World.cell?_setCell_same _ _ _ (World.cell?_alloc_at _ _ _ _ rfl); done)), (by repeat (first | exact Below.refl _ _ | apply below_alloc | refine below_set ?_ (Nat.le_refl _) | apply pw_below_drewN | apply below_drew1))⟩ ?_; rintro w ⟨hx0_, hbw_⟩; have HX0 := Aside0.mk hx0_; have n1_ := Aside0.mk (below_step HBq.out hbw_); have n2_ := Aside0.mk ((hbw_.cell (World.block_lt_of_cell? w5 _ HX1.out)).trans HX1.out); have n3_ := Aside0.mk (Kd.C_below HR0.out hbw_); have n4_ := Aside0.mk (Kd.C_below HR2.out hbw_); have n5_ := Aside0.mk (Kd.C_below HS5.out hbw_); clear HBq HX1 HR0 HR2 HS5 hx0_ hbw_; have HBq := n1_; have HX1 := n2_; have HR0 := n3_; have HR2 := n4_; have HR1 := n5_; clear n1_ n2_ n3_ n4_ n5_; have HB := Aside0.mk (Below.refl w.heap.size w); refine Kd.R_make (Kd.int .i64) _ 3 rfl (N := 24) rfl 25 _ _ rfl (l0.length : Int) rfl rfl Try.underlying25 (.int .i64 0) 8 info3 rfl (by decide) (by omega) 0 (ok := fun _ => True) (okp := fun _ => True) rfl (fun _ hk => hk) trivial (of_decide_eq_true (by first | (with_reducible assumption) | assumption)) (Nat.le_trans (Nat.mul_le_mul_right _ (of_decide_eq_true (by first | (with_reducible assumption) | assumption) : (l0.length : Int).toNat ≤ 35184372088832)) (by omega)) (Below.refl _ _) (Nat.le_refl _) ?_; intro v343 w6 ho7 hb hg_ hnew_; clear hg_ hnew_; (first | rw [← Ny342.out] at ho7 | (simp only [Int.reduceToNat] at ho7; rw [← Ny342.out] at ho7)); have n0_ := Aside0.mk (Kd.R_lower ho7 (below_size (by repeat (first | (with_reducible first | exact HB.out | apply below_alloc | apply pw_below_drewN | apply below_drew1) | exact HB.out)))); have n1_ := Aside0.mk (below_step (by repeat (first | (with_reducible first | exact HB.out | apply below_alloc | apply pw_below_drewN | apply below_drew1) | exact HB.out)) hb); clear HB; have HO344 := n0_; have HB := n1_; clear n0_ n1_; clear hb ho7))
      go_loopg [8, 28] k (fun kq v8 v28 w' => ∃ (x6_1 : List Int) (x8_1 : Int) (x28_1 : Int), v8 = .int .i64 x8_1 ∧ v28 = .int .i64 x28_1 ∧ Aside0 (graph_Cyclic.l0 kq l0 l1 l2 x6_1 x8_1 l0 (l0.length : Int) x28_1 = some r) ∧ Aside0 (kq ≤ k) ∧ Aside0 (Kd.R (Kd.int .i64) 3 w' w.heap.size (fun _ => True) v343 x6_1) ∧ Aside0 (Below w.heap.size w w'))
      case atStart => exact ⟨(y342), (0), (0), (by first | rfl | (simp; done) | (simp [*]; done)), (by first | rfl | (simp; done) | (simp [*]; done)), H', ⟨Nat.le_refl _⟩, ⟨by (with_reducible repeat (first | apply Kd.R_alloc | apply Kd.R_drewN | apply Kd.R_drew)); exact HO344.out⟩, ⟨by repeat (first | (with_reducible first | exact HB.out | apply below_alloc | apply pw_below_drewN | apply below_drew1) | exact HB.out)⟩⟩
      case round =>
        clear H'
        try clear c1
        try clear c2
        try clear p2
        try clear c4
        try clear c4b0
        try clear c4b1
        try clear c5
        try clear c5b0
        try clear c5b1
        obtain ⟨x6_1, x8_1, x28_1, rfl, rfl, HA, HK1, HO_6, HB⟩ := hrel
        cases gk with
        | zero => exact absurd HA.out (by simp [graph_Cyclic.l0])
        | succ k1 =>
          have H := HA.out
          clear HA
          simp only [graph_Cyclic.l0] at H
          by_cases c8 : x28_1 < (l0.length : Int)
          · rw [if_pos c8] at H
            have c8b0 : decide (x28_1 < (l0.length : Int)) = true := decide_eq_true c8
            clear c8
            by_cases c9 : 0 ≤ x28_1
            · rw [if_pos c9] at H
              have c9b0 : decide (0 ≤ x28_1) = true := decide_eq_true c9
              clear c9
              by_cases c10 : x28_1 < (l0.length : Int)
              · rw [if_pos c10] at H
                have c10b0 : decide (x28_1 < (l0.length : Int)) = true := decide_eq_true c10
                clear c10
                replace H := Option.bind_eq_some_iff.mp H
                obtain ⟨t346, A110, H⟩ := H
                replace H : (if t346 = true then (graph_Cyclic.l1 k1 l0 l1 l2 x6_1 (wrap64 (x8_1 + 1)) l0 (l0.length : Int) x28_1 (rd_L1 l0 x28_1) ((rd_L1 l0 x28_1).length : Int) 0) else (graph_Cyclic.l0 k1 l0 l1 l2 x6_1 x8_1 l0 (l0.length : Int) (wrap64 (x28_1 + 1)))) = some r := H
                have A11 := Aside0.mk A110
                clear A110
                by_cases c12 : t346 = true
                · subst c12
                  have H1 : (graph_Cyclic.l1 k1 l0 l1 l2 x6_1 (wrap64 (x8_1 + 1)) l0 (l0.length : Int) x28_1 (rd_L1 l0 x28_1) ((rd_L1 l0 x28_1).length : Int) 0) = some r := by rw [if_pos rfl] at H; exact H
                  clear H
                  have H := H1
                  clear H1
                  have H' := Aside0.mk H
                  clear H
                  have p345 : 0 ≤ (x28_1 : Int) := of_decide_eq_true (by first | (with_reducible assumption) | assumption)
                  have q345 : x28_1 < (l0.length : Int) := of_decide_eq_true (by first | (with_reducible assumption) | assumption)
                  obtain ⟨ad345, A345_0, c345_0, e345, hx345_0, hl345_0, hi345_0⟩ := at_L1 HR0.out x28_1 p345 q345
                  cases e345
                  replace hx345_0 := (HB.out.cell (World.block_lt_of_cell? w _ hx345_0)).trans hx345_0
                  have HR345_0 := Aside0.mk hi345_0
                  have HC345_0 := Aside0.mk hl345_0
                  clear hi345_0 hl345_0
                  replace p345 := eq_true p345
                  replace q345 := eq_true q345
                  go_wp2_with (first | (go_at_call 38; (with_reducible refine (graph_Cyclic_1.calls A2 c2 l2 A1 c1 l1 x28_1 ⟨w5.heap.size, 0, none⟩ ⟨wq.heap.size, 0, none⟩ true _ ?sideP ?sideQ ?side1 ?side2 ?side3 ?side4 A11.out).mono ?_); (case sideP => exact ((show Below w.heap.size w _ from by repeat (first | (with_reducible first | exact HB.out | apply below_alloc | apply pw_below_drewN | apply below_drew1) | exact HB.out)).cell (World.block_lt_of_cell? w _ HX0.out)).trans HX0.out); (case sideQ => exact ((show Below w.heap.size w _ from by repeat (first | (with_reducible first | exact HB.out | apply below_alloc | apply pw_below_drewN | apply below_drew1) | exact HB.out)).cell (World.block_lt_of_cell? w _ HX1.out)).trans HX1.out); (case side1 => repeat (first | exact (Kd.C_below HR2.out HB.out) | (with_reducible refine Kd.C_alloc ?_ _) | (with_reducible refine Kd.C_drewN ?_ _) | (with_reducible refine Kd.C_drew ?_))); (case side2 => exact HC2.out); (case side3 => repeat (first | exact (Kd.C_below HR1.out HB.out) | (with_reducible refine Kd.C_alloc ?_ _) | (with_reducible refine Kd.C_drewN ?_ _) | (with_reducible refine Kd.C_drew ?_))); (case side4 => exact HC1.out); rintro e w' ⟨rfl, ⟨nd, rfl⟩⟩))
                  go_loopg [41] k1 (fun kq v41 w' => ∃ (x6_2 : List Int) (x41_2 : Int), v41 = .int .i64 x41_2 ∧ Aside0 (graph_Cyclic.l1 kq l0 l1 l2 x6_2 (wrap64 (x8_1 + 1)) l0 (l0.length : Int) x28_1 (rd_L1 l0 x28_1) ((rd_L1 l0 x28_1).length : Int) x41_2 = some r) ∧ Aside0 (kq ≤ k1) ∧ Aside0 (Kd.R (Kd.int .i64) 3 w' w.heap.size (fun _ => True) v343 x6_2) ∧ Aside0 (Below w.heap.size w w'))
                  case atStart => exact ⟨(x6_1), (0), (by first | rfl | (simp; done) | (simp [*]; done)), H', ⟨Nat.le_refl _⟩, ⟨by (with_reducible repeat (first | apply Kd.R_alloc | apply Kd.R_drewN | apply Kd.R_drew)); exact HO_6.out⟩, ⟨by repeat (first | (with_reducible first | exact HB.out | apply below_alloc | apply pw_below_drewN | apply below_drew1) | exact HB.out)⟩⟩
                  case round =>
                    clear H'
                    try clear c1
                    try clear c2
                    try clear p2
                    try clear c3
                    try clear p3
                    try clear q3
                    try clear hx3
                    try clear c4
                    try clear c4b0
                    try clear c4b1
                    try clear c5
                    try clear c5b0
                    try clear c5b1
                    try clear p6
                    try clear c8
                    try clear c8b0
                    try clear c9
                    try clear c9b0
                    try clear c10
                    try clear c10b0
                    try clear c12
                    try clear hx345_0
                    try clear p2
                    try clear p345
                    try clear q345
                    obtain ⟨x6_2, x41_2, rfl, HA, HK2, HO_6, HB⟩ := hrel
                    cases gk with
                    | zero => exact absurd HA.out (by simp [graph_Cyclic.l1])
                    | succ k2 =>
                      have H := HA.out
                      clear HA
                      simp only [graph_Cyclic.l1] at H
                      by_cases c13 : x41_2 < ((rd_L1 l0 x28_1).length : Int)
                      · rw [if_pos c13] at H
                        have c13b0 : decide (x41_2 < ((rd_L1 l0 x28_1).length : Int)) = true := decide_eq_true c13
                        clear c13
                        by_cases c14 : 0 ≤ x41_2
                        · rw [if_pos c14] at H
                          have c14b0 : decide (0 ≤ x41_2) = true := decide_eq_true c14
                          clear c14
                          by_cases c15 : x41_2 < ((rd_L1 l0 x28_1).length : Int)
                          · rw [if_pos c15] at H
                            have c15b0 : decide (x41_2 < ((rd_L1 l0 x28_1).length : Int)) = true := decide_eq_true c15
                            clear c15
                            replace H := Option.bind_eq_some_iff.mp H
                            obtain ⟨t348, A160, H⟩ := H
                            replace H : (if t348 = true then (if 0 ≤ (rd (rd_L1 l0 x28_1) x41_2) then (if (rd (rd_L1 l0 x28_1) x41_2) < (x6_2.length : Int) then (graph_Cyclic.l1 k2 l0 l1 l2 (x6_2.set ((rd (rd_L1 l0 x28_1) x41_2) : Int).toNat (wrap64 ((rd x6_2 (rd (rd_L1 l0 x28_1) x41_2)) + 1))) (wrap64 (x8_1 + 1)) l0 (l0.length : Int) x28_1 (rd_L1 l0 x28_1) ((rd_L1 l0 x28_1).length : Int) (wrap64 (x41_2 + 1))) else (none)) else (none)) else (graph_Cyclic.l1 k2 l0 l1 l2 x6_2 (wrap64 (x8_1 + 1)) l0 (l0.length : Int) x28_1 (rd_L1 l0 x28_1) ((rd_L1 l0 x28_1).length : Int) (wrap64 (x41_2 + 1)))) = some r := H
                            have A16 := Aside0.mk A160
                            clear A160
                            by_cases c17 : t348 = true
                            · subst c17
                              have H1 : (if 0 ≤ (rd (rd_L1 l0 x28_1) x41_2) then (if (rd (rd_L1 l0 x28_1) x41_2) < (x6_2.length : Int) then (graph_Cyclic.l1 k2 l0 l1 l2 (x6_2.set ((rd (rd_L1 l0 x28_1) x41_2) : Int).toNat (wrap64 ((rd x6_2 (rd (rd_L1 l0 x28_1) x41_2)) + 1))) (wrap64 (x8_1 + 1)) l0 (l0.length : Int) x28_1 (rd_L1 l0 x28_1) ((rd_L1 l0 x28_1).length : Int) (wrap64 (x41_2 + 1))) else (none)) else (none)) = some r := by rw [if_pos rfl] at H; exact H
                              clear H
                              have H := H1
                              clear H1
                              by_cases c18 : 0 ≤ (rd (rd_L1 l0 x28_1) x41_2)
                              · rw [if_pos c18] at H
                                have c18b0 : decide (0 ≤ (rd (rd_L1 l0 x28_1) x41_2)) = true := decide_eq_true c18
                                clear c18
                                by_cases c19 : (rd (rd_L1 l0 x28_1) x41_2) < (x6_2.length : Int)
                                · rw [if_pos c19] at H
                                  have c19b0 : decide ((rd (rd_L1 l0 x28_1) x41_2) < (x6_2.length : Int)) = true := decide_eq_true c19
                                  clear c19
                                  obtain ⟨y350, hy350⟩ : ∃ y_ : List Int, y_ = (x6_2.set ((rd (rd_L1 l0 x28_1) x41_2) : Int).toNat (wrap64 ((rd x6_2 (rd (rd_L1 l0 x28_1) x41_2)) + 1))) := ⟨_, rfl⟩
                                  replace H : (graph_Cyclic.l1 k2 l0 l1 l2 y350 (wrap64 (x8_1 + 1)) l0 (l0.length : Int) x28_1 (rd_L1 l0 x28_1) ((rd_L1 l0 x28_1).length : Int) (wrap64 (x41_2 + 1))) = some r := by first | (rw [hy350]; with_reducible exact H) | (have H2_ := (Option.bind_some _ _).symm.trans H; rw [hy350]; with_reducible exact H2_) | (have H2_ := (Option.bind_some _ _).symm.trans H; with_reducible exact H2_) | with_reducible exact H | (rw [hy350]; exact H) | exact H
                                  have Ny350 := Aside0.mk hy350
                                  clear hy350
                                  have H' := Aside0.mk H
                                  clear H
                                  have p347 : 0 ≤ (x41_2 : Int) := of_decide_eq_true (by first | (with_reducible assumption) | assumption)
                                  have q347 : x41_2 < ((rd_L1 l0 x28_1).length : Int) := of_decide_eq_true (by first | (with_reducible assumption) | assumption)
                                  obtain ⟨ad347, e347, hx347_0⟩ := Kd.at_int HR345_0.out x41_2 p347 q347
                                  cases e347
                                  replace hx347_0 := (HB.out.cell (World.block_lt_of_cell? w _ hx347_0)).trans hx347_0
                                  replace p347 := eq_true p347
                                  replace q347 := eq_true q347
                                  go_wp2_with (first | (go_at_call 38; (with_reducible refine (graph_Cyclic_1.calls A2 c2 l2 A1 c1 l1 (rd (rd_L1 l0 x28_1) x41_2) ⟨w5.heap.size, 0, none⟩ ⟨wq.heap.size, 0, none⟩ true _ ?sideP ?sideQ ?side1 ?side2 ?side3 ?side4 A16.out).mono ?_); (case sideP => exact ((show Below w.heap.size w _ from by repeat (first | (with_reducible first | exact HB.out | apply below_alloc | apply pw_below_drewN | apply below_drew1) | exact HB.out)).cell (World.block_lt_of_cell? w _ HX0.out)).trans HX0.out); (case sideQ => exact ((show Below w.heap.size w _ from by repeat (first | (with_reducible first | exact HB.out | apply below_alloc | apply pw_below_drewN | apply below_drew1) | exact HB.out)).cell (World.block_lt_of_cell? w _ HX1.out)).trans HX1.out); (case side1 => repeat (first | exact (Kd.C_below HR2.out HB.out) | (with_reducible refine Kd.C_alloc ?_ _) | (with_reducible refine Kd.C_drewN ?_ _) | (with_reducible refine Kd.C_drew ?_))); (case side2 => exact HC2.out); (case side3 => repeat (first | exact (Kd.C_below HR1.out HB.out) | (with_reducible refine Kd.C_alloc ?_ _) | (with_reducible refine Kd.C_drewN ?_ _) | (with_reducible refine Kd.C_drew ?_))); (case side4 => exact HC1.out); rintro e w' ⟨rfl, ⟨nd, rfl⟩⟩; (try (rw [drewN_self wr]; generalize hq_ : World.drewN wr _ = wr; have n0_ : Aside0 (Kd.R (Kd.int .i64) 3 wr w.heap.size (fun _ => True) v343 x6_2) := ⟨by rw [← hq_]; exact (by (with_reducible repeat (first | apply Kd.R_alloc | apply Kd.R_drewN | apply Kd.R_drew)); exact HO_6.out)⟩; have n1_ : Aside0 (Below w.heap.size w wr) := ⟨by rw [← hq_]; exact (by repeat (first | (with_reducible first | exact HB.out | apply below_alloc | apply pw_below_drewN | apply below_drew1) | exact HB.out))⟩; clear HO_6 HB hq_; have HO_6 := n0_; have HB := n1_; clear n0_ n1_)); obtain ⟨Ao21, co21, eo21⟩ := Kd.R_slice HO_6.out; subst eo21; have p349 : 0 ≤ ((rd (rd_L1 l0 x28_1) x41_2) : Int) := of_decide_eq_true (by first | (with_reducible assumption) | assumption); have q349 : (rd (rd_L1 l0 x28_1) x41_2) < (x6_2.length : Int) := of_decide_eq_true (by first | (with_reducible assumption) | assumption); obtain ⟨ad349, e349, hx349_0⟩ := Kd.at_int (Kd.R_reads' HO_6.out).2.2 (rd (rd_L1 l0 x28_1) x41_2) p349 q349; cases e349; replace p349 := eq_true p349; replace q349 := eq_true q349; have p20 : 0 ≤ ((rd (rd_L1 l0 x28_1) x41_2) : Int) := of_decide_eq_true (by first | (with_reducible assumption) | assumption); have q20 : ((rd (rd_L1 l0 x28_1) x41_2) : Int) < ((x6_2.length : Int) : Int) := of_decide_eq_true (by first | (with_reducible assumption) | assumption); obtain ⟨go20, co20, eo20, gb20, gl20, cl20, HG20⟩ := Kd.R_form HO_6.out (by omega); (first | cases eo20 | (injection eo20 with ea_ en_ ec_; (first | subst ea_ | (injection ea_ with ea_; subst ea_)); subst ec_; clear en_)); have GB20 := Aside0.mk gb20; have GG20 := Aside0.mk HG20; clear gb20 gl20 HG20; (first | simp only [add_plain] at hx349_0 | skip); obtain ⟨hx20_0, hf20_0⟩ := Kd.R_celln 0 HO_6.out ((rd (rd_L1 l0 x28_1) x41_2) : Int) p20 q20; replace p20 := eq_true p20; replace q20 := eq_true q20; obtain ⟨hy22_, hz22_⟩ := Kd.R_celln 0 HO_6.out ((rd (rd_L1 l0 x28_1) x41_2) : Int) (of_decide_eq_true (by first | (with_reducible assumption) | assumption)) (of_decide_eq_true (by first | (with_reducible assumption) | assumption)); have HP22 := Kd.R_putg HO_6.out ((rd (rd_L1 l0 x28_1) x41_2) : Int) (wrap64 ((rd x6_2 (rd (rd_L1 l0 x28_1) x41_2)) + 1))) | ((with_reducible refine gate_store (t := 3) (p := 53) rfl ?_); refine store_event (t := 3) (p := 53) (v := ?vo_w23) (w1 := (wr.setCell ⟨go20, ((rd (rd_L1 l0 x28_1) x41_2) : Int).toNat, none⟩ (.int .i64 (wrap64 ((rd x6_2 (rd (rd_L1 l0 x28_1) x41_2)) + 1))))) ?hg ?ho ?hn ?hr ?_; (case ho => rfl); (case hg => rfl); (case hn => rfl); (case hr => first | (go_simp; done) | (go_simp; rfl)); intro w23 hw; have hg : wr.grownBy w23 (some go20) := (by rw [hw]; exact HP22.2); have hp_ : Kd.R (Kd.int .i64) 3 w23 w.heap.size (fun _ => True) (.slice (some ⟨go20, 0, none⟩) x6_2.length co21) y350 := (by rw [hw, Ny350.out]; exact HP22.1); clear HP22; have n0_ := Aside0.mk (hp_); have n1_ := Aside0.mk ((by rw [hw]; exact below_set (HB.out) GB20.out : Below w.heap.size w w23)); clear HO_6; clear HB; have HO_6 := n0_; have HB := n1_; clear n0_ n1_; clear hg hw hp_))
                                  go_roundg k2
                                  case measure => have := HK1.out; have := HK2.out; omega
                                  case rel => exact ⟨(y350), (wrap64 (x41_2 + 1)), (by first | rfl | (simp; done) | (simp [*]; done)), H', ⟨by have := HK1.out; have := HK2.out; omega⟩, ⟨by (with_reducible repeat (first | apply Kd.R_alloc | apply Kd.R_drewN | apply Kd.R_drew)); exact HO_6.out⟩, ⟨by repeat (first | (with_reducible first | exact HB.out | apply below_alloc | apply pw_below_drewN | apply below_drew1) | exact HB.out)⟩⟩
                                · rw [if_neg c19] at H
                                  exact absurd H (by simp)
                              · rw [if_neg c18] at H
                                exact absurd H (by simp)
                            · replace c17 := Bool.eq_false_iff.mpr c17
                              subst c17
                              have H1 : (graph_Cyclic.l1 k2 l0 l1 l2 x6_2 (wrap64 (x8_1 + 1)) l0 (l0.length : Int) x28_1 (rd_L1 l0 x28_1) ((rd_L1 l0 x28_1).length : Int) (wrap64 (x41_2 + 1))) = some r := by rw [if_neg (show ¬ (false = true) by decide)] at H; exact H
                              clear H
                              have H := H1
                              clear H1
                              have H' := Aside0.mk H
                              clear H
                              have p347 : 0 ≤ (x41_2 : Int) := of_decide_eq_true (by first | (with_reducible assumption) | assumption)
                              have q347 : x41_2 < ((rd_L1 l0 x28_1).length : Int) := of_decide_eq_true (by first | (with_reducible assumption) | assumption)
                              obtain ⟨ad347, e347, hx347_0⟩ := Kd.at_int HR345_0.out x41_2 p347 q347
                              cases e347
                              replace hx347_0 := (HB.out.cell (World.block_lt_of_cell? w _ hx347_0)).trans hx347_0
                              replace p347 := eq_true p347
                              replace q347 := eq_true q347
                              go_wp2_with (first | (go_at_call 38; (with_reducible refine (graph_Cyclic_1.calls A2 c2 l2 A1 c1 l1 (rd (rd_L1 l0 x28_1) x41_2) ⟨w5.heap.size, 0, none⟩ ⟨wq.heap.size, 0, none⟩ false _ ?sideP ?sideQ ?side1 ?side2 ?side3 ?side4 A16.out).mono ?_); (case sideP => exact ((show Below w.heap.size w _ from by repeat (first | (with_reducible first | exact HB.out | apply below_alloc | apply pw_below_drewN | apply below_drew1) | exact HB.out)).cell (World.block_lt_of_cell? w _ HX0.out)).trans HX0.out); (case sideQ => exact ((show Below w.heap.size w _ from by repeat (first | (with_reducible first | exact HB.out | apply below_alloc | apply pw_below_drewN | apply below_drew1) | exact HB.out)).cell (World.block_lt_of_cell? w _ HX1.out)).trans HX1.out); (case side1 => repeat (first | exact (Kd.C_below HR2.out HB.out) | (with_reducible refine Kd.C_alloc ?_ _) | (with_reducible refine Kd.C_drewN ?_ _) | (with_reducible refine Kd.C_drew ?_))); (case side2 => exact HC2.out); (case side3 => repeat (first | exact (Kd.C_below HR1.out HB.out) | (with_reducible refine Kd.C_alloc ?_ _) | (with_reducible refine Kd.C_drewN ?_ _) | (with_reducible refine Kd.C_drew ?_))); (case side4 => exact HC1.out); rintro e w' ⟨rfl, ⟨nd, rfl⟩⟩))
                              go_roundg k2
                              case measure => have := HK1.out; have := HK2.out; omega
                              case rel => exact ⟨(x6_2), (wrap64 (x41_2 + 1)), (by first | rfl | (simp; done) | (simp [*]; done)), H', ⟨by have := HK1.out; have := HK2.out; omega⟩, ⟨by (with_reducible repeat (first | apply Kd.R_alloc | apply Kd.R_drewN | apply Kd.R_drew)); exact HO_6.out⟩, ⟨by repeat (first | (with_reducible first | exact HB.out | apply below_alloc | apply pw_below_drewN | apply below_drew1) | exact HB.out)⟩⟩
                          · rw [if_neg c15] at H
                            exact absurd H (by simp)
                        · rw [if_neg c14] at H
                          exact absurd H (by simp)
                      · rw [if_neg c13] at H
                        have c13b0 : decide (x41_2 < ((rd_L1 l0 x28_1).length : Int)) = false := decide_eq_false c13
                        clear c13
                        have H' := Aside0.mk H
                        clear H
                        go_wp2
                        go_roundg k2
                        case measure => have := HK1.out; have := HK2.out; omega
                        case rel => exact ⟨(x6_2), ((wrap64 (x8_1 + 1))), (wrap64 (x28_1 + 1)), (by first | rfl | (simp; done) | (simp [*]; done)), (by first | rfl | (simp; done) | (simp [*]; done)), H', ⟨by have := HK1.out; have := HK2.out; omega⟩, ⟨by (with_reducible repeat (first | apply Kd.R_alloc | apply Kd.R_drewN | apply Kd.R_drew)); exact HO_6.out⟩, ⟨by repeat (first | (with_reducible first | exact HB.out | apply below_alloc | apply pw_below_drewN | apply below_drew1) | exact HB.out)⟩⟩
                · replace c12 := Bool.eq_false_iff.mpr c12
                  subst c12
                  have H1 : (graph_Cyclic.l0 k1 l0 l1 l2 x6_1 x8_1 l0 (l0.length : Int) (wrap64 (x28_1 + 1))) = some r := by rw [if_neg (show ¬ (false = true) by decide)] at H; exact H
                  clear H
                  have H := H1
                  clear H1
                  have H' := Aside0.mk H
                  clear H
                  have p345 : 0 ≤ (x28_1 : Int) := of_decide_eq_true (by first | (with_reducible assumption) | assumption)
                  have q345 : x28_1 < (l0.length : Int) := of_decide_eq_true (by first | (with_reducible assumption) | assumption)
                  obtain ⟨ad345, A345_0, c345_0, e345, hx345_0, hl345_0, hi345_0⟩ := at_L1 HR0.out x28_1 p345 q345
                  cases e345
                  replace hx345_0 := (HB.out.cell (World.block_lt_of_cell? w _ hx345_0)).trans hx345_0
                  have HR345_0 := Aside0.mk hi345_0
                  have HC345_0 := Aside0.mk hl345_0
                  clear hi345_0 hl345_0
                  replace p345 := eq_true p345
                  replace q345 := eq_true q345
                  go_wp2_with (first | (go_at_call 38; (with_reducible refine (graph_Cyclic_1.calls A2 c2 l2 A1 c1 l1 x28_1 ⟨w5.heap.size, 0, none⟩ ⟨wq.heap.size, 0, none⟩ false _ ?sideP ?sideQ ?side1 ?side2 ?side3 ?side4 A11.out).mono ?_); (case sideP => exact ((show Below w.heap.size w _ from by repeat (first | (with_reducible first | exact HB.out | apply below_alloc | apply pw_below_drewN | apply below_drew1) | exact HB.out)).cell (World.block_lt_of_cell? w _ HX0.out)).trans HX0.out); (case sideQ => exact ((show Below w.heap.size w _ from by repeat (first | (with_reducible first | exact HB.out | apply below_alloc | apply pw_below_drewN | apply below_drew1) | exact HB.out)).cell (World.block_lt_of_cell? w _ HX1.out)).trans HX1.out); (case side1 => repeat (first | exact (Kd.C_below HR2.out HB.out) | (with_reducible refine Kd.C_alloc ?_ _) | (with_reducible refine Kd.C_drewN ?_ _) | (with_reducible refine Kd.C_drew ?_))); (case side2 => exact HC2.out); (case side3 => repeat (first | exact (Kd.C_below HR1.out HB.out) | (with_reducible refine Kd.C_alloc ?_ _) | (with_reducible refine Kd.C_drewN ?_ _) | (with_reducible refine Kd.C_drew ?_))); (case side4 => exact HC1.out); rintro e w' ⟨rfl, ⟨nd, rfl⟩⟩))
                  go_roundg k1
                  case measure => have := HK1.out; omega
                  case rel => exact ⟨(x6_1), (x8_1), (wrap64 (x28_1 + 1)), (by first | rfl | (simp; done) | (simp [*]; done)), (by first | rfl | (simp; done) | (simp [*]; done)), H', ⟨by have := HK1.out; omega⟩, ⟨by (with_reducible repeat (first | apply Kd.R_alloc | apply Kd.R_drewN | apply Kd.R_drew)); exact HO_6.out⟩, ⟨by repeat (first | (with_reducible first | exact HB.out | apply below_alloc | apply pw_below_drewN | apply below_drew1) | exact HB.out)⟩⟩
              · rw [if_neg c10] at H
                exact absurd H (by simp)
            · rw [if_neg c9] at H
              exact absurd H (by simp)
          · rw [if_neg c8] at H
            have c8b0 : decide (x28_1 < (l0.length : Int)) = false := decide_eq_false c8
            clear c8
            have H' := Aside0.mk H
            clear H
            go_wp2
            go_loopg [13, 58] k1 (fun kq v13 v58 w' => ∃ (x13_2 : List Int) (x58_2 : Int), v58 = .int .i64 x58_2 ∧ Aside0 (graph_Cyclic.l2 kq l0 l1 l2 x6_1 x8_1 x13_2 (l0.length : Int) x58_2 = some r) ∧ Aside0 (kq ≤ k1) ∧ Aside0 (Kd.R (Kd.int .i64) 3 w' w.heap.size (fun k_ => some k_ ≠ (v13 : Value).ownBlock) v343 x6_1) ∧ Aside0 (Kd.R (Kd.int .i64) 3 w' w.heap.size (fun k_ => some k_ ≠ (v343 : Value).ownBlock) v13 x13_2) ∧ Aside0 (Below w.heap.size w w'))
            case atStart => exact ⟨(([] : List Int)), (0), (by first | rfl | (simp; done) | (simp [*]; done)), H', ⟨Nat.le_refl _⟩, ⟨by (with_reducible repeat (first | apply Kd.R_alloc | apply Kd.R_drewN | apply Kd.R_drew)); exact Kd.R_mono HO_6.out (fun _ hk => (by simp [Value.ownBlock]))⟩, ⟨by first | exact Kd.R_nil _ _ _ _ _ | exact Kd.N_nil _ _ _ _ _ | exact Kd.V_nil _ _ _ _ _ | exact Kd.Q_nil _ _ _ _ _ | exact Kd.S_nil _ _ _ _ _⟩, ⟨by repeat (first | (with_reducible first | exact HB.out | apply below_alloc | apply pw_below_drewN | apply below_drew1) | exact HB.out)⟩⟩
            case round =>
              clear H'
              try clear c1
              try clear c2
              try clear p2
              try clear q2
              try clear hx2
              try clear c3
              try clear p3
              try clear q3
              try clear hx3
              try clear c4
              try clear c4b0
              try clear c4b1
              try clear c5
              try clear c5b0
              try clear c5b1
              try clear p6
              try clear c8
              try clear c8b0
              try clear c9
              try clear c9b0
              try clear c10
              try clear c10b0
              try clear c12
              try clear c13
              try clear c13b0
              try clear c14
              try clear c14b0
              try clear c15
              try clear c15b0
              try clear c17
              try clear c18
              try clear c18b0
              try clear c19
              try clear c19b0
              try clear p20
              try clear q20
              try clear hx20
              try clear hf20
              try clear hx20_0
              try clear hx345_0
              try clear hx347_0
              try clear hx349_0
              try clear p2
              try clear p20
              try clear p3
              try clear p345
              try clear p347
              try clear p349
              try clear p6
              try clear q20
              try clear q3
              try clear q345
              try clear q347
              try clear q349
              obtain ⟨x13_2, x58_2, rfl, HA, HK2, HO_6, HO_13, HB⟩ := hrel
              cases gk with
              | zero => exact absurd HA.out (by simp [graph_Cyclic.l2])
              | succ k2 =>
                have H := HA.out
                clear HA
                simp only [graph_Cyclic.l2] at H
                by_cases c24 : x58_2 < (l0.length : Int)
                · rw [if_pos c24] at H
                  have c24b0 : decide (x58_2 < (l0.length : Int)) = true := decide_eq_true c24
                  clear c24
                  replace H := Option.bind_eq_some_iff.mp H
                  obtain ⟨t351, A250, H⟩ := H
                  replace H : (if t351 = true then (if 0 ≤ x58_2 then (if x58_2 < (x6_1.length : Int) then (if (rd x6_1 x58_2) = 0 then (if x13_2.length < 17592186044416 then (graph_Cyclic.l2 k2 l0 l1 l2 x6_1 x8_1 (x13_2 ++ [x58_2]) (l0.length : Int) (wrap64 (x58_2 + 1))) else (none)) else (graph_Cyclic.l2 k2 l0 l1 l2 x6_1 x8_1 x13_2 (l0.length : Int) (wrap64 (x58_2 + 1)))) else (none)) else (none)) else (graph_Cyclic.l2 k2 l0 l1 l2 x6_1 x8_1 x13_2 (l0.length : Int) (wrap64 (x58_2 + 1)))) = some r := H
                  have A25 := Aside0.mk A250
                  clear A250
                  by_cases c26 : t351 = true
                  · subst c26
                    have H1 : (if 0 ≤ x58_2 then (if x58_2 < (x6_1.length : Int) then (if (rd x6_1 x58_2) = 0 then (if x13_2.length < 17592186044416 then (graph_Cyclic.l2 k2 l0 l1 l2 x6_1 x8_1 (x13_2 ++ [x58_2]) (l0.length : Int) (wrap64 (x58_2 + 1))) else (none)) else (graph_Cyclic.l2 k2 l0 l1 l2 x6_1 x8_1 x13_2 (l0.length : Int) (wrap64 (x58_2 + 1)))) else (none)) else (none)) = some r := by rw [if_pos rfl] at H; exact H
                    clear H
                    have H := H1
                    clear H1
                    by_cases c27 : 0 ≤ x58_2
                    · rw [if_pos c27] at H
                      have c27b0 : decide (0 ≤ x58_2) = true := decide_eq_true c27
                      clear c27
                      by_cases c28 : x58_2 < (x6_1.length : Int)
                      · rw [if_pos c28] at H
                        have c28b0 : decide (x58_2 < (x6_1.length : Int)) = true := decide_eq_true c28
                        clear c28
                        by_cases c29 : (rd x6_1 x58_2) = 0
                        · rw [if_pos c29] at H
                          have c29b0 : ((rd x6_1 x58_2) == 0) = true := beq_iff_eq.mpr c29
                          have c29b1 : ((rd x6_1 x58_2) != 0) = false := bne_eq_false_iff_eq.mpr c29
                          clear c29
                          by_cases c30 : x13_2.length < 17592186044416
                          · rw [if_pos c30] at H
                            have LMc30 := Aside0.mk c30
                            clear c30
                            obtain ⟨y353, hy353⟩ : ∃ y_ : List Int, y_ = (x13_2 ++ [x58_2]) := ⟨_, rfl⟩
                            replace H : (graph_Cyclic.l2 k2 l0 l1 l2 x6_1 x8_1 y353 (l0.length : Int) (wrap64 (x58_2 + 1))) = some r := by first | (rw [hy353]; with_reducible exact H) | (have H2_ := (Option.bind_some _ _).symm.trans H; rw [hy353]; with_reducible exact H2_) | (have H2_ := (Option.bind_some _ _).symm.trans H; with_reducible exact H2_) | with_reducible exact H | (rw [hy353]; exact H) | exact H
                            have Ny353 := Aside0.mk hy353
                            clear hy353
                            have H' := Aside0.mk H
                            clear H
                            go_wp2_with (first | (go_at_call 38; (with_reducible refine (graph_Cyclic_1.calls A2 c2 l2 A1 c1 l1 x58_2 ⟨w5.heap.size, 0, none⟩ ⟨wq.heap.size, 0, none⟩ true _ ?sideP ?sideQ ?side1 ?side2 ?side3 ?side4 A25.out).mono ?_); (case sideP => exact ((show Below w.heap.size w _ from by repeat (first | (with_reducible first | exact HB.out | apply below_alloc | apply pw_below_drewN | apply below_drew1) | exact HB.out)).cell (World.block_lt_of_cell? w _ HX0.out)).trans HX0.out); (case sideQ => exact ((show Below w.heap.size w _ from by repeat (first | (with_reducible first | exact HB.out | apply below_alloc | apply pw_below_drewN | apply below_drew1) | exact HB.out)).cell (World.block_lt_of_cell? w _ HX1.out)).trans HX1.out); (case side1 => repeat (first | exact (Kd.C_below HR2.out HB.out) | (with_reducible refine Kd.C_alloc ?_ _) | (with_reducible refine Kd.C_drewN ?_ _) | (with_reducible refine Kd.C_drew ?_))); (case side2 => exact HC2.out); (case side3 => repeat (first | exact (Kd.C_below HR1.out HB.out) | (with_reducible refine Kd.C_alloc ?_ _) | (with_reducible refine Kd.C_drewN ?_ _) | (with_reducible refine Kd.C_drew ?_))); (case side4 => exact HC1.out); rintro e w' ⟨rfl, ⟨nd, rfl⟩⟩; obtain ⟨Ao31, co31, eo31⟩ := Kd.R_slice HO_6.out; subst eo31; have p352 : 0 ≤ (x58_2 : Int) := of_decide_eq_true (by first | (with_reducible assumption) | assumption); have q352 : x58_2 < (x6_1.length : Int) := of_decide_eq_true (by first | (with_reducible assumption) | assumption); obtain ⟨ad352, e352, hx352_0⟩ := Kd.at_int (Kd.R_reads' HO_6.out).2.2 x58_2 p352 q352; cases e352; replace p352 := eq_true p352; replace q352 := eq_true q352) | ((with_reducible refine gate_builtin (b := .append) (xs := #[.tmp 71, .tmp 73]) rfl ?_); at_builtin; refine Kd.R_append (Kd.int .i64) (w0 := w) w.heap.size rfl (.tmp 71) (.tmp 73) 25 3 (.int .i64 0) 8 rfl Try.underlying25 info3 rfl (by decide) (by omega) u13 x13_2 x58_2 [.int .i64 x58_2] (fun k_ => some k_ ≠ (.slice (some ad352) x6_1.length co31 : Value).ownBlock) (fun _ => False) rfl rfl ?aP (fun _ hk => hk.elim) ?aF ?aO ?aB ?aS ?aL ?_; (case aP => exact rfl); (case aB => exact (by repeat (first | (with_reducible first | exact HB.out | apply below_alloc | apply pw_below_drewN | apply below_drew1) | exact HB.out))); (case aF => exact (fun k_ hk => Kd.fresh' (Kd.R_lt (by (with_reducible repeat (first | apply Kd.R_alloc | apply Kd.R_drewN | apply Kd.R_drew)); exact HO_6.out)) k_ hk)); (case aO => exact (by (with_reducible repeat (first | apply Kd.R_alloc | apply Kd.R_drewN | apply Kd.R_drew)); exact HO_13.out)); (case aS => exact (below_size (by repeat (first | (with_reducible first | exact HB.out | apply below_alloc | apply pw_below_drewN | apply below_drew1) | exact HB.out)))); (case aL => have := LMc30.out; omega); intro v354 w32 ho hb hg hat; rw [← Ny353.out] at ho; have n0_ := Aside0.mk (Kd.R_after (ok := (fun _ => True)) (by (with_reducible repeat (first | apply Kd.R_alloc | apply Kd.R_drewN | apply Kd.R_drew)); exact Kd.R_mono HO_6.out (fun _ hk => ⟨trivial, hk⟩)) hg hat); have n1_ := Aside0.mk (hb); have n2_ := Aside0.mk (ho); clear HO_6; clear HB; clear HO_13; have HO_6 := n0_; have HB := n1_; have HO355 := n2_; clear n0_ n1_ n2_; clear ho hb hg hat))
                            go_roundg k2
                            case measure => have := HK1.out; have := HK2.out; omega
                            case rel => exact ⟨(y353), (wrap64 (x58_2 + 1)), (by first | rfl | (simp; done) | (simp [*]; done)), H', ⟨by have := HK1.out; have := HK2.out; omega⟩, ⟨by (with_reducible repeat (first | apply Kd.R_alloc | apply Kd.R_drewN | apply Kd.R_drew)); exact Kd.R_mono HO_6.out (fun _ hk => hk.2)⟩, ⟨by (with_reducible repeat (first | apply Kd.R_alloc | apply Kd.R_drewN | apply Kd.R_drew)); exact HO355.out⟩, ⟨by repeat (first | (with_reducible first | exact HB.out | apply below_alloc | apply pw_below_drewN | apply below_drew1) | exact HB.out)⟩⟩
                          · rw [if_neg c30] at H
                            exact absurd H (by simp)
                        · rw [if_neg c29] at H
                          have c29b0 : ((rd x6_1 x58_2) == 0) = false := beq_eq_false_iff_ne.mpr c29
                          have c29b1 : ((rd x6_1 x58_2) != 0) = true := bne_iff_ne.mpr c29
                          have H' := Aside0.mk H
                          clear H
                          go_wp2_with (first | (go_at_call 38; (with_reducible refine (graph_Cyclic_1.calls A2 c2 l2 A1 c1 l1 x58_2 ⟨w5.heap.size, 0, none⟩ ⟨wq.heap.size, 0, none⟩ true _ ?sideP ?sideQ ?side1 ?side2 ?side3 ?side4 A25.out).mono ?_); (case sideP => exact ((show Below w.heap.size w _ from by repeat (first | (with_reducible first | exact HB.out | apply below_alloc | apply pw_below_drewN | apply below_drew1) | exact HB.out)).cell (World.block_lt_of_cell? w _ HX0.out)).trans HX0.out); (case sideQ => exact ((show Below w.heap.size w _ from by repeat (first | (with_reducible first | exact HB.out | apply below_alloc | apply pw_below_drewN | apply below_drew1) | exact HB.out)).cell (World.block_lt_of_cell? w _ HX1.out)).trans HX1.out); (case side1 => repeat (first | exact (Kd.C_below HR2.out HB.out) | (with_reducible refine Kd.C_alloc ?_ _) | (with_reducible refine Kd.C_drewN ?_ _) | (with_reducible refine Kd.C_drew ?_))); (case side2 => exact HC2.out); (case side3 => repeat (first | exact (Kd.C_below HR1.out HB.out) | (with_reducible refine Kd.C_alloc ?_ _) | (with_reducible refine Kd.C_drewN ?_ _) | (with_reducible refine Kd.C_drew ?_))); (case side4 => exact HC1.out); rintro e w' ⟨rfl, ⟨nd, rfl⟩⟩; obtain ⟨Ao33, co33, eo33⟩ := Kd.R_slice HO_6.out; subst eo33; have p352 : 0 ≤ (x58_2 : Int) := of_decide_eq_true (by first | (with_reducible assumption) | assumption); have q352 : x58_2 < (x6_1.length : Int) := of_decide_eq_true (by first | (with_reducible assumption) | assumption); obtain ⟨ad352, e352, hx352_0⟩ := Kd.at_int (Kd.R_reads' HO_6.out).2.2 x58_2 p352 q352; cases e352; replace p352 := eq_true p352; replace q352 := eq_true q352))
                          go_roundg k2
                          case measure => have := HK1.out; have := HK2.out; omega
                          case rel => exact ⟨(x13_2), (wrap64 (x58_2 + 1)), (by first | rfl | (simp; done) | (simp [*]; done)), H', ⟨by have := HK1.out; have := HK2.out; omega⟩, ⟨by (with_reducible repeat (first | apply Kd.R_alloc | apply Kd.R_drewN | apply Kd.R_drew)); exact HO_6.out⟩, ⟨by (with_reducible repeat (first | apply Kd.R_alloc | apply Kd.R_drewN | apply Kd.R_drew)); exact HO_13.out⟩, ⟨by repeat (first | (with_reducible first | exact HB.out | apply below_alloc | apply pw_below_drewN | apply below_drew1) | exact HB.out)⟩⟩
                      · rw [if_neg c28] at H
                        exact absurd H (by simp)
                    · rw [if_neg c27] at H
                      exact absurd H (by simp)
                  · replace c26 := Bool.eq_false_iff.mpr c26
                    subst c26
                    have H1 : (graph_Cyclic.l2 k2 l0 l1 l2 x6_1 x8_1 x13_2 (l0.length : Int) (wrap64 (x58_2 + 1))) = some r := by rw [if_neg (show ¬ (false = true) by decide)] at H; exact H
                    clear H
                    have H := H1
                    clear H1
                    have H' := Aside0.mk H
                    clear H
                    go_wp2_with (first | (go_at_call 38; (with_reducible refine (graph_Cyclic_1.calls A2 c2 l2 A1 c1 l1 x58_2 ⟨w5.heap.size, 0, none⟩ ⟨wq.heap.size, 0, none⟩ false _ ?sideP ?sideQ ?side1 ?side2 ?side3 ?side4 A25.out).mono ?_); (case sideP => exact ((show Below w.heap.size w _ from by repeat (first | (with_reducible first | exact HB.out | apply below_alloc | apply pw_below_drewN | apply below_drew1) | exact HB.out)).cell (World.block_lt_of_cell? w _ HX0.out)).trans HX0.out); (case sideQ => exact ((show Below w.heap.size w _ from by repeat (first | (with_reducible first | exact HB.out | apply below_alloc | apply pw_below_drewN | apply below_drew1) | exact HB.out)).cell (World.block_lt_of_cell? w _ HX1.out)).trans HX1.out); (case side1 => repeat (first | exact (Kd.C_below HR2.out HB.out) | (with_reducible refine Kd.C_alloc ?_ _) | (with_reducible refine Kd.C_drewN ?_ _) | (with_reducible refine Kd.C_drew ?_))); (case side2 => exact HC2.out); (case side3 => repeat (first | exact (Kd.C_below HR1.out HB.out) | (with_reducible refine Kd.C_alloc ?_ _) | (with_reducible refine Kd.C_drewN ?_ _) | (with_reducible refine Kd.C_drew ?_))); (case side4 => exact HC1.out); rintro e w' ⟨rfl, ⟨nd, rfl⟩⟩))
                    go_roundg k2
                    case measure => have := HK1.out; have := HK2.out; omega
                    case rel => exact ⟨(x13_2), (wrap64 (x58_2 + 1)), (by first | rfl | (simp; done) | (simp [*]; done)), H', ⟨by have := HK1.out; have := HK2.out; omega⟩, ⟨by (with_reducible repeat (first | apply Kd.R_alloc | apply Kd.R_drewN | apply Kd.R_drew)); exact HO_6.out⟩, ⟨by (with_reducible repeat (first | apply Kd.R_alloc | apply Kd.R_drewN | apply Kd.R_drew)); exact HO_13.out⟩, ⟨by repeat (first | (with_reducible first | exact HB.out | apply below_alloc | apply pw_below_drewN | apply below_drew1) | exact HB.out)⟩⟩
                · rw [if_neg c24] at H
                  have c24b0 : decide (x58_2 < (l0.length : Int)) = false := decide_eq_false c24
                  clear c24
                  have H' := Aside0.mk H
                  clear H
                  go_wp2
                  go_loopg [8, 13] k2 (fun kq v8 v13 w' => ∃ (x6_3 : List Int) (x8_3 : Int) (x13_3 : List Int), v8 = .int .i64 x8_3 ∧ Aside0 (graph_Cyclic.l3 kq l0 l1 l2 x6_3 x8_3 x13_3 = some r) ∧ Aside0 (kq ≤ k2) ∧ Aside0 (Kd.R (Kd.int .i64) 3 w' w.heap.size (fun k_ => some k_ ≠ (v13 : Value).ownBlock) v343 x6_3) ∧ Aside0 (Kd.R (Kd.int .i64) 3 w' w.heap.size (fun k_ => some k_ ≠ (v343 : Value).ownBlock) v13 x13_3) ∧ Aside0 (Below w.heap.size w w'))
                  case atStart => exact ⟨(x6_1), (x8_1), (x13_2), (by first | rfl | (simp; done) | (simp [*]; done)), H', ⟨Nat.le_refl _⟩, ⟨by (with_reducible repeat (first | apply Kd.R_alloc | apply Kd.R_drewN | apply Kd.R_drew)); exact HO_6.out⟩, ⟨by (with_reducible repeat (first | apply Kd.R_alloc | apply Kd.R_drewN | apply Kd.R_drew)); exact HO_13.out⟩, ⟨by repeat (first | (with_reducible first | exact HB.out | apply below_alloc | apply pw_below_drewN | apply below_drew1) | exact HB.out)⟩⟩
                  case round =>
                    clear H'
                    try clear c1
                    try clear c2
                    try clear p2
                    try clear q2
                    try clear hx2
                    try clear c3
                    try clear p3
                    try clear q3
                    try clear hx3
                    try clear c4
                    try clear c4b0
                    try clear c4b1
                    try clear c5
                    try clear c5b0
                    try clear c5b1
                    try clear p6
                    try clear c8
                    try clear c8b0
                    try clear c9
                    try clear c9b0
                    try clear c10
                    try clear c10b0
                    try clear c12
                    try clear c13
                    try clear c13b0
                    try clear c14
                    try clear c14b0
                    try clear c15
                    try clear c15b0
                    try clear c17
                    try clear c18
                    try clear c18b0
                    try clear c19
                    try clear c19b0
                    try clear p20
                    try clear q20
                    try clear hx20
                    try clear hf20
                    try clear c24
                    try clear c24b0
                    try clear c26
                    try clear c27
                    try clear c27b0
                    try clear c28
                    try clear c28b0
                    try clear c29
                    try clear c29b0
                    try clear c29b1
                    try clear c30
                    try clear hx20_0
                    try clear hx345_0
                    try clear hx347_0
                    try clear hx349_0
                    try clear hx352_0
                    try clear p2
                    try clear p20
                    try clear p3
                    try clear p345
                    try clear p347
                    try clear p349
                    try clear p352
                    try clear p6
                    try clear q2
                    try clear q20
                    try clear q3
                    try clear q345
                    try clear q347
                    try clear q349
                    try clear q352
                    obtain ⟨x6_3, x8_3, x13_3, rfl, HA, HK3, HO_6, HO_13, HB⟩ := hrel
                    cases gk with
                    | zero => exact absurd HA.out (by simp [graph_Cyclic.l3])
                    | succ k3 =>
                      have H := HA.out
                      clear HA
                      simp only [graph_Cyclic.l3] at H
                      by_cases c34 : (x13_3.length : Int) > 0
                      · rw [if_pos c34] at H
                        have c34b0 : decide (0 < (x13_3.length : Int)) = true := decide_eq_true c34
                        have c34b1 : decide (0 < x13_3.length) = true := decide_eq_true (by omega)
                        clear c34
                        obtain ⟨ji35, hji35⟩ : ∃ j_ : Int, (wrap64 ((x13_3.length : Int) - 1)) = j_ := ⟨_, rfl⟩
                        replace H : (if 0 ≤ (ji35) then (if (ji35) < (x13_3.length : Int) then (if (ji35) ≤ (x13_3.length : Int) then (if 0 ≤ (rd x13_3 (ji35)) then (if (rd x13_3 (ji35)) < (l0.length : Int) then (graph_Cyclic.l4 k3 l0 l1 l2 x6_3 (wrap64 (x8_3 - 1)) (x13_3.take ((ji35) : Int).toNat) (rd_L1 l0 (rd x13_3 (ji35))) ((rd_L1 l0 (rd x13_3 (ji35))).length : Int) 0) else (none)) else (none)) else (none)) else (none)) else (none)) = some r := by first | (rw [hji35] at H; exact H) | (simp only [hji35] at H ⊢; exact H)
                        have hji35w : (IntKind.i64.wrap ((x13_3.length : Int) - 1)) = ji35 := (i64_w _).trans hji35
                        by_cases c36 : 0 ≤ (ji35)
                        · rw [if_pos c36] at H
                          have c36b0 : decide (0 ≤ (ji35)) = true := decide_eq_true c36
                          clear c36
                          by_cases c37 : (ji35) < (x13_3.length : Int)
                          · rw [if_pos c37] at H
                            have c37b0 : decide ((ji35) < (x13_3.length : Int)) = true := decide_eq_true c37
                            clear c37
                            by_cases c38 : (ji35) ≤ (x13_3.length : Int)
                            · rw [if_pos c38] at H
                              have c38b0 := eq_true c38
                              have c38b1 : decide ((ji35) ≤ (x13_3.length : Int)) = true := decide_eq_true c38
                              clear c38
                              obtain ⟨y357, hy357⟩ : ∃ y_ : List Int, y_ = (x13_3.take ((ji35) : Int).toNat) := ⟨_, rfl⟩
                              replace H : (if 0 ≤ (rd x13_3 (ji35)) then (if (rd x13_3 (ji35)) < (l0.length : Int) then (graph_Cyclic.l4 k3 l0 l1 l2 x6_3 (wrap64 (x8_3 - 1)) y357 (rd_L1 l0 (rd x13_3 (ji35))) ((rd_L1 l0 (rd x13_3 (ji35))).length : Int) 0) else (none)) else (none)) = some r := by first | (rw [hy357]; with_reducible exact H) | (have H2_ := (Option.bind_some _ _).symm.trans H; rw [hy357]; with_reducible exact H2_) | (have H2_ := (Option.bind_some _ _).symm.trans H; with_reducible exact H2_) | with_reducible exact H | (rw [hy357]; exact H) | exact H
                              have Ny357 := Aside0.mk hy357
                              clear hy357
                              by_cases c39 : 0 ≤ (rd x13_3 (ji35))
                              · rw [if_pos c39] at H
                                have c39b0 : decide (0 ≤ (rd x13_3 (ji35))) = true := decide_eq_true c39
                                clear c39
                                by_cases c40 : (rd x13_3 (ji35)) < (l0.length : Int)
                                · rw [if_pos c40] at H
                                  have c40b0 : decide ((rd x13_3 (ji35)) < (l0.length : Int)) = true := decide_eq_true c40
                                  clear c40
                                  have H' := Aside0.mk H
                                  clear H
                                  obtain ⟨Ao41, co41, eo41⟩ := Kd.R_slice HO_13.out
                                  subst eo41
                                  have p356 : 0 ≤ ((ji35) : Int) := of_decide_eq_true (by first | (with_reducible assumption) | assumption)
                                  have q356 : (ji35) < (x13_3.length : Int) := of_decide_eq_true (by first | (with_reducible assumption) | assumption)
                                  obtain ⟨ad356, e356, hx356_0⟩ := Kd.at_int (Kd.R_reads' HO_13.out).2.2 (ji35) p356 q356
                                  cases e356
                                  replace p356 := eq_true p356
                                  replace q356 := eq_true q356
                                  have q42 : ((ji35) : Int) ≤ ((x13_3.length : Int) : Int) := of_decide_eq_true (by first | (with_reducible assumption) | assumption)
                                  obtain ⟨i042, hi042, _, hsz42, _⟩ := info_parts info3
                                  have hcut42 := cut_to (P := Try.prog) 25 3 .i64 Try.underlying25 hi042 (some ad356) x13_3.length co41 (ji35) (of_decide_eq_true (by first | (with_reducible assumption) | assumption)) q42 (Kd.R_reads' HO_13.out).2.1
                                  have hr42 := Kd.R_take (m := ((ji35) : Int).toNat) HO_13.out (by omega)
                                  have hy42 : y357.length = ((ji35) : Int).toNat := (by rw [Ny357.out, List.length_take]; omega)
                                  rw [← Ny357.out] at hr42
                                  rw [← hy42] at hr42 hcut42
                                  clear hy42 hi042 hsz42 HO_13
                                  have HO359 := Aside0.mk hr42
                                  clear hr42
                                  replace q42 := eq_true q42
                                  have p360 : 0 ≤ ((rd x13_3 (ji35)) : Int) := of_decide_eq_true (by first | (with_reducible assumption) | assumption)
                                  have q360 : (rd x13_3 (ji35)) < (l0.length : Int) := of_decide_eq_true (by first | (with_reducible assumption) | assumption)
                                  obtain ⟨ad360, A360_0, c360_0, e360, hx360_0, hl360_0, hi360_0⟩ := at_L1 HR0.out (rd x13_3 (ji35)) p360 q360
                                  cases e360
                                  replace hx360_0 := (HB.out.cell (World.block_lt_of_cell? w _ hx360_0)).trans hx360_0
                                  have HR360_0 := Aside0.mk hi360_0
                                  have HC360_0 := Aside0.mk hl360_0
                                  clear hi360_0 hl360_0
                                  replace p360 := eq_true p360
                                  replace q360 := eq_true q360
                                  go_wp2
                                  go_loopg [13, 97] k3 (fun kq v13 v97 w' => ∃ (x6_4 : List Int) (x13_4 : List Int) (x97_4 : Int), v97 = .int .i64 x97_4 ∧ Aside0 (graph_Cyclic.l4 kq l0 l1 l2 x6_4 (wrap64 (x8_3 - 1)) x13_4 (rd_L1 l0 (rd x13_3 (ji35))) ((rd_L1 l0 (rd x13_3 (ji35))).length : Int) x97_4 = some r) ∧ Aside0 (kq ≤ k3) ∧ Aside0 (Kd.R (Kd.int .i64) 3 w' w.heap.size (fun k_ => some k_ ≠ (v13 : Value).ownBlock) v343 x6_4) ∧ Aside0 (Kd.R (Kd.int .i64) 3 w' w.heap.size (fun k_ => some k_ ≠ (v343 : Value).ownBlock) v13 x13_4) ∧ Aside0 (Below w.heap.size w w'))
                                  case atStart => exact ⟨(x6_3), (y357), (0), (by first | rfl | (simp; done) | (simp [*]; done)), H', ⟨Nat.le_refl _⟩, ⟨by (with_reducible repeat (first | apply Kd.R_alloc | apply Kd.R_drewN | apply Kd.R_drew)); exact HO_6.out⟩, ⟨by (with_reducible repeat (first | apply Kd.R_alloc | apply Kd.R_drewN | apply Kd.R_drew)); exact HO359.out⟩, ⟨by repeat (first | (with_reducible first | exact HB.out | apply below_alloc | apply pw_below_drewN | apply below_drew1) | exact HB.out)⟩⟩
                                  case round =>
                                    clear H'
                                    try clear c1
                                    try clear c2
                                    try clear p2
                                    try clear q2
                                    try clear hx2
                                    try clear c3
                                    try clear p3
                                    try clear q3
                                    try clear hx3
                                    try clear c4
                                    try clear c4b0
                                    try clear c4b1
                                    try clear q4
                                    try clear c5
                                    try clear c5b0
                                    try clear c5b1
                                    try clear p6
                                    try clear c8
                                    try clear c8b0
                                    try clear c9
                                    try clear c9b0
                                    try clear c10
                                    try clear c10b0
                                    try clear c12
                                    try clear c13
                                    try clear c13b0
                                    try clear c14
                                    try clear c14b0
                                    try clear c15
                                    try clear c15b0
                                    try clear c17
                                    try clear c18
                                    try clear c18b0
                                    try clear c19
                                    try clear c19b0
                                    try clear p20
                                    try clear q20
                                    try clear hx20
                                    try clear hf20
                                    try clear c24
                                    try clear c24b0
                                    try clear c26
                                    try clear c27
                                    try clear c27b0
                                    try clear c28
                                    try clear c28b0
                                    try clear c29
                                    try clear c29b0
                                    try clear c29b1
                                    try clear c30
                                    try clear c34
                                    try clear c34b0
                                    try clear c34b1
                                    try clear p34
                                    try clear q34
                                    try clear hx34
                                    try clear p35
                                    try clear q35
                                    try clear hx35
                                    try clear c36
                                    try clear c36b0
                                    try clear p36
                                    try clear q36
                                    try clear hx36
                                    try clear c37
                                    try clear c37b0
                                    try clear c38
                                    try clear c38b0
                                    try clear c38b1
                                    try clear c39
                                    try clear c39b0
                                    try clear c40
                                    try clear c40b0
                                    try clear q42
                                    try clear hx20_0
                                    try clear hx345_0
                                    try clear hx347_0
                                    try clear hx349_0
                                    try clear hx352_0
                                    try clear hx356_0
                                    try clear hx360_0
                                    try clear p2
                                    try clear p20
                                    try clear p3
                                    try clear p345
                                    try clear p347
                                    try clear p349
                                    try clear p352
                                    try clear p356
                                    try clear p360
                                    try clear p6
                                    try clear q2
                                    try clear q20
                                    try clear q3
                                    try clear q345
                                    try clear q347
                                    try clear q349
                                    try clear q352
                                    try clear q356
                                    try clear q360
                                    try clear q42
                                    obtain ⟨x6_4, x13_4, x97_4, rfl, HA, HK4, HO_6, HO_13, HB⟩ := hrel
                                    cases gk with
                                    | zero => exact absurd HA.out (by simp [graph_Cyclic.l4])
                                    | succ k4 =>
                                      have H := HA.out
                                      clear HA
                                      simp only [graph_Cyclic.l4] at H
                                      by_cases c43 : x97_4 < ((rd_L1 l0 (rd x13_3 (ji35))).length : Int)
                                      · rw [if_pos c43] at H
                                        have c43b0 : decide (x97_4 < ((rd_L1 l0 (rd x13_3 (ji35))).length : Int)) = true := decide_eq_true c43
                                        clear c43
                                        by_cases c44 : 0 ≤ x97_4
                                        · rw [if_pos c44] at H
                                          have c44b0 : decide (0 ≤ x97_4) = true := decide_eq_true c44
                                          clear c44
                                          by_cases c45 : x97_4 < ((rd_L1 l0 (rd x13_3 (ji35))).length : Int)
                                          · rw [if_pos c45] at H
                                            have c45b0 : decide (x97_4 < ((rd_L1 l0 (rd x13_3 (ji35))).length : Int)) = true := decide_eq_true c45
                                            clear c45
                                            replace H := Option.bind_eq_some_iff.mp H
                                            obtain ⟨t362, A460, H⟩ := H
                                            replace H : (if t362 = true then (if 0 ≤ (rd (rd_L1 l0 (rd x13_3 (ji35))) x97_4) then (if (rd (rd_L1 l0 (rd x13_3 (ji35))) x97_4) < (x6_4.length : Int) then ((some (x6_4.set ((rd (rd_L1 l0 (rd x13_3 (ji35))) x97_4) : Int).toNat (wrap64 ((rd x6_4 (rd (rd_L1 l0 (rd x13_3 (ji35))) x97_4)) - 1)) : List Int)).bind fun y364 => (if (rd y364 (rd (rd_L1 l0 (rd x13_3 (ji35))) x97_4)) = 0 then (if x13_4.length < 17592186044416 then (graph_Cyclic.l4 k4 l0 l1 l2 y364 (wrap64 (x8_3 - 1)) (x13_4 ++ [rd (rd_L1 l0 (rd x13_3 (ji35))) x97_4]) (rd_L1 l0 (rd x13_3 (ji35))) ((rd_L1 l0 (rd x13_3 (ji35))).length : Int) (wrap64 (x97_4 + 1))) else (none)) else (graph_Cyclic.l4 k4 l0 l1 l2 y364 (wrap64 (x8_3 - 1)) x13_4 (rd_L1 l0 (rd x13_3 (ji35))) ((rd_L1 l0 (rd x13_3 (ji35))).length : Int) (wrap64 (x97_4 + 1))))) else (none)) else (none)) else (graph_Cyclic.l4 k4 l0 l1 l2 x6_4 (wrap64 (x8_3 - 1)) x13_4 (rd_L1 l0 (rd x13_3 (ji35))) ((rd_L1 l0 (rd x13_3 (ji35))).length : Int) (wrap64 (x97_4 + 1)))) = some r := H
                                            have A46 := Aside0.mk A460
                                            clear A460
                                            by_cases c47 : t362 = true
                                            · subst c47
                                              have H1 : (if 0 ≤ (rd (rd_L1 l0 (rd x13_3 (ji35))) x97_4) then (if (rd (rd_L1 l0 (rd x13_3 (ji35))) x97_4) < (x6_4.length : Int) then ((some (x6_4.set ((rd (rd_L1 l0 (rd x13_3 (ji35))) x97_4) : Int).toNat (wrap64 ((rd x6_4 (rd (rd_L1 l0 (rd x13_3 (ji35))) x97_4)) - 1)) : List Int)).bind fun y364 => (if (rd y364 (rd (rd_L1 l0 (rd x13_3 (ji35))) x97_4)) = 0 then (if x13_4.length < 17592186044416 then (graph_Cyclic.l4 k4 l0 l1 l2 y364 (wrap64 (x8_3 - 1)) (x13_4 ++ [rd (rd_L1 l0 (rd x13_3 (ji35))) x97_4]) (rd_L1 l0 (rd x13_3 (ji35))) ((rd_L1 l0 (rd x13_3 (ji35))).length : Int) (wrap64 (x97_4 + 1))) else (none)) else (graph_Cyclic.l4 k4 l0 l1 l2 y364 (wrap64 (x8_3 - 1)) x13_4 (rd_L1 l0 (rd x13_3 (ji35))) ((rd_L1 l0 (rd x13_3 (ji35))).length : Int) (wrap64 (x97_4 + 1))))) else (none)) else (none)) = some r := by rw [if_pos rfl] at H; exact H
                                              clear H
                                              have H := H1
                                              clear H1
                                              by_cases c48 : 0 ≤ (rd (rd_L1 l0 (rd x13_3 (ji35))) x97_4)
                                              · rw [if_pos c48] at H
                                                have c48b0 : decide (0 ≤ (rd (rd_L1 l0 (rd x13_3 (ji35))) x97_4)) = true := decide_eq_true c48
                                                clear c48
                                                by_cases c49 : (rd (rd_L1 l0 (rd x13_3 (ji35))) x97_4) < (x6_4.length : Int)
                                                · rw [if_pos c49] at H
                                                  have c49b0 : decide ((rd (rd_L1 l0 (rd x13_3 (ji35))) x97_4) < (x6_4.length : Int)) = true := decide_eq_true c49
                                                  clear c49
                                                  obtain ⟨y364, hy364⟩ : ∃ y_ : List Int, y_ = (x6_4.set ((rd (rd_L1 l0 (rd x13_3 (ji35))) x97_4) : Int).toNat (wrap64 ((rd x6_4 (rd (rd_L1 l0 (rd x13_3 (ji35))) x97_4)) - 1))) := ⟨_, rfl⟩
                                                  replace H : (if (rd y364 (rd (rd_L1 l0 (rd x13_3 (ji35))) x97_4)) = 0 then (if x13_4.length < 17592186044416 then (graph_Cyclic.l4 k4 l0 l1 l2 y364 (wrap64 (x8_3 - 1)) (x13_4 ++ [rd (rd_L1 l0 (rd x13_3 (ji35))) x97_4]) (rd_L1 l0 (rd x13_3 (ji35))) ((rd_L1 l0 (rd x13_3 (ji35))).length : Int) (wrap64 (x97_4 + 1))) else (none)) else (graph_Cyclic.l4 k4 l0 l1 l2 y364 (wrap64 (x8_3 - 1)) x13_4 (rd_L1 l0 (rd x13_3 (ji35))) ((rd_L1 l0 (rd x13_3 (ji35))).length : Int) (wrap64 (x97_4 + 1)))) = some r := by first | (rw [hy364]; with_reducible exact H) | (have H2_ := (Option.bind_some _ _).symm.trans H; rw [hy364]; with_reducible exact H2_) | (have H2_ := (Option.bind_some _ _).symm.trans H; with_reducible exact H2_) | with_reducible exact H | (rw [hy364]; exact H) | exact H
                                                  have Ny364 := Aside0.mk hy364
                                                  clear hy364
                                                  by_cases c51 : (rd y364 (rd (rd_L1 l0 (rd x13_3 (ji35))) x97_4)) = 0
                                                  · rw [if_pos c51] at H
                                                    have c51b0 : ((rd y364 (rd (rd_L1 l0 (rd x13_3 (ji35))) x97_4)) == 0) = true := beq_iff_eq.mpr c51
                                                    have c51b1 : ((rd y364 (rd (rd_L1 l0 (rd x13_3 (ji35))) x97_4)) != 0) = false := bne_eq_false_iff_eq.mpr c51
                                                    clear c51
                                                    by_cases c52 : x13_4.length < 17592186044416
                                                    · rw [if_pos c52] at H
                                                      have LMc52 := Aside0.mk c52
                                                      clear c52
                                                      obtain ⟨y366, hy366⟩ : ∃ y_ : List Int, y_ = (x13_4 ++ [rd (rd_L1 l0 (rd x13_3 (ji35))) x97_4]) := ⟨_, rfl⟩
                                                      replace H : (graph_Cyclic.l4 k4 l0 l1 l2 y364 (wrap64 (x8_3 - 1)) y366 (rd_L1 l0 (rd x13_3 (ji35))) ((rd_L1 l0 (rd x13_3 (ji35))).length : Int) (wrap64 (x97_4 + 1))) = some r := by first | (rw [hy366]; with_reducible exact H) | (have H2_ := (Option.bind_some _ _).symm.trans H; rw [hy366]; with_reducible exact H2_) | (have H2_ := (Option.bind_some _ _).symm.trans H; with_reducible exact H2_) | with_reducible exact H | (rw [hy366]; exact H) | exact H
                                                      have Ny366 := Aside0.mk hy366
                                                      clear hy366
                                                      have H' := Aside0.mk H
                                                      clear H
                                                      have p361 : 0 ≤ (x97_4 : Int) := of_decide_eq_true (by first | (with_reducible assumption) | assumption)
                                                      have q361 : x97_4 < ((rd_L1 l0 (rd x13_3 (ji35))).length : Int) := of_decide_eq_true (by first | (with_reducible assumption) | assumption)
                                                      obtain ⟨ad361, e361, hx361_0⟩ := Kd.at_int HR360_0.out x97_4 p361 q361
                                                      cases e361
                                                      replace hx361_0 := (HB.out.cell (World.block_lt_of_cell? w _ hx361_0)).trans hx361_0
                                                      replace p361 := eq_true p361
                                                      replace q361 := eq_true q361
                                                      go_wp2_with (first | (go_at_call 38; (with_reducible refine (graph_Cyclic_1.calls A2 c2 l2 A1 c1 l1 (rd (rd_L1 l0 (rd x13_3 (ji35))) x97_4) ⟨w5.heap.size, 0, none⟩ ⟨wq.heap.size, 0, none⟩ true _ ?sideP ?sideQ ?side1 ?side2 ?side3 ?side4 A46.out).mono ?_); (case sideP => exact ((show Below w.heap.size w _ from by repeat (first | (with_reducible first | exact HB.out | apply below_alloc | apply pw_below_drewN | apply below_drew1) | exact HB.out)).cell (World.block_lt_of_cell? w _ HX0.out)).trans HX0.out); (case sideQ => exact ((show Below w.heap.size w _ from by repeat (first | (with_reducible first | exact HB.out | apply below_alloc | apply pw_below_drewN | apply below_drew1) | exact HB.out)).cell (World.block_lt_of_cell? w _ HX1.out)).trans HX1.out); (case side1 => repeat (first | exact (Kd.C_below HR2.out HB.out) | (with_reducible refine Kd.C_alloc ?_ _) | (with_reducible refine Kd.C_drewN ?_ _) | (with_reducible refine Kd.C_drew ?_))); (case side2 => exact HC2.out); (case side3 => repeat (first | exact (Kd.C_below HR1.out HB.out) | (with_reducible refine Kd.C_alloc ?_ _) | (with_reducible refine Kd.C_drewN ?_ _) | (with_reducible refine Kd.C_drew ?_))); (case side4 => exact HC1.out); rintro e w' ⟨rfl, ⟨nd, rfl⟩⟩; (try (rw [drewN_self wr]; generalize hq_ : World.drewN wr _ = wr; have n0_ : Aside0 (Kd.R (Kd.int .i64) 3 wr w.heap.size (fun k_ => some k_ ≠ (v343 : Value).ownBlock) u13 x13_4) := ⟨by rw [← hq_]; exact (by (with_reducible repeat (first | apply Kd.R_alloc | apply Kd.R_drewN | apply Kd.R_drew)); exact HO_13.out)⟩; have n1_ : Aside0 (Kd.R (Kd.int .i64) 3 wr w.heap.size (fun k_ => some k_ ≠ (u13 : Value).ownBlock) v343 x6_4) := ⟨by rw [← hq_]; exact (by (with_reducible repeat (first | apply Kd.R_alloc | apply Kd.R_drewN | apply Kd.R_drew)); exact HO_6.out)⟩; have n2_ : Aside0 (Below w.heap.size w wr) := ⟨by rw [← hq_]; exact (by repeat (first | (with_reducible first | exact HB.out | apply below_alloc | apply pw_below_drewN | apply below_drew1) | exact HB.out))⟩; clear HO_13 HO_6 HB hq_; have HO_13 := n0_; have HO_6 := n1_; have HB := n2_; clear n0_ n1_ n2_)); obtain ⟨Ao53, co53, eo53⟩ := Kd.R_slice HO_6.out; subst eo53; have p363 : 0 ≤ ((rd (rd_L1 l0 (rd x13_3 (ji35))) x97_4) : Int) := of_decide_eq_true (by first | (with_reducible assumption) | assumption); have q363 : (rd (rd_L1 l0 (rd x13_3 (ji35))) x97_4) < (x6_4.length : Int) := of_decide_eq_true (by first | (with_reducible assumption) | assumption); obtain ⟨ad363, e363, hx363_0⟩ := Kd.at_int (Kd.R_reads' HO_6.out).2.2 (rd (rd_L1 l0 (rd x13_3 (ji35))) x97_4) p363 q363; cases e363; replace p363 := eq_true p363; replace q363 := eq_true q363; have p50 : 0 ≤ ((rd (rd_L1 l0 (rd x13_3 (ji35))) x97_4) : Int) := of_decide_eq_true (by first | (with_reducible assumption) | assumption); have q50 : ((rd (rd_L1 l0 (rd x13_3 (ji35))) x97_4) : Int) < ((x6_4.length : Int) : Int) := of_decide_eq_true (by first | (with_reducible assumption) | assumption); obtain ⟨go50, co50, eo50, gb50, gl50, cl50, HG50⟩ := Kd.R_form HO_6.out (by omega); (first | cases eo50 | (injection eo50 with ea_ en_ ec_; (first | subst ea_ | (injection ea_ with ea_; subst ea_)); subst ec_; clear en_)); have GB50 := Aside0.mk gb50; have GG50 := Aside0.mk HG50; clear gb50 gl50 HG50; (first | simp only [add_plain] at hx363_0 | skip); obtain ⟨hx50_0, hf50_0⟩ := Kd.R_celln 0 HO_6.out ((rd (rd_L1 l0 (rd x13_3 (ji35))) x97_4) : Int) p50 q50; replace p50 := eq_true p50; replace q50 := eq_true q50; obtain ⟨hy54_, hz54_⟩ := Kd.R_celln 0 HO_6.out ((rd (rd_L1 l0 (rd x13_3 (ji35))) x97_4) : Int) (of_decide_eq_true (by first | (with_reducible assumption) | assumption)) (of_decide_eq_true (by first | (with_reducible assumption) | assumption)); have HP54 := Kd.R_putg HO_6.out ((rd (rd_L1 l0 (rd x13_3 (ji35))) x97_4) : Int) (wrap64 ((rd x6_4 (rd (rd_L1 l0 (rd x13_3 (ji35))) x97_4)) - 1))) | ((with_reducible refine gate_store (t := 3) (p := 109) rfl ?_); refine store_event (t := 3) (p := 109) (v := ?vo_w55) (w1 := (wr.setCell ⟨go50, ((rd (rd_L1 l0 (rd x13_3 (ji35))) x97_4) : Int).toNat, none⟩ (.int .i64 (wrap64 ((rd x6_4 (rd (rd_L1 l0 (rd x13_3 (ji35))) x97_4)) - 1))))) ?hg ?ho ?hn ?hr ?_; (case ho => rfl); (case hg => rfl); (case hn => rfl); (case hr => first | (go_simp; done) | (go_simp; rfl)); intro w55 hw; have hg : wr.grownBy w55 (some go50) := (by rw [hw]; exact HP54.2); have hp_ : Kd.R (Kd.int .i64) 3 w55 w.heap.size (fun k_ => some k_ ≠ (u13 : Value).ownBlock) (.slice (some ⟨go50, 0, none⟩) x6_4.length co53) y364 := (by rw [hw, Ny364.out]; exact HP54.1); clear HP54; have n0_ := Aside0.mk (hp_); have n1_ := Aside0.mk (Kd.R_after (v := (.slice (some ⟨go50, 0, none⟩) x6_4.length co53)) (v1 := (.slice (some ⟨go50, 0, none⟩) x6_4.length co53)) (ok := (fun _ => True)) (by (with_reducible repeat (first | apply Kd.R_alloc | apply Kd.R_drewN | apply Kd.R_drew)); exact Kd.R_mono HO_13.out (fun _ hk => ⟨trivial, hk⟩)) hg (.inl rfl)); have n2_ := Aside0.mk ((by rw [hw]; exact below_set (HB.out) GB50.out : Below w.heap.size w w55)); clear HO_6; clear HO_13; clear HB; have HO_6 := n0_; have HO_13 := n1_; have HB := n2_; clear n0_ n1_ n2_; clear hg hw hp_; have p365 : 0 ≤ ((rd (rd_L1 l0 (rd x13_3 (ji35))) x97_4) : Int) := of_decide_eq_true (by first | (with_reducible assumption) | assumption); have q365 : (rd (rd_L1 l0 (rd x13_3 (ji35))) x97_4) < (y364.length : Int) := (by have h_ : ((rd (rd_L1 l0 (rd x13_3 (ji35))) x97_4) : Int) < ((x6_4.length : Int) : Int) := of_decide_eq_true (by first | (with_reducible assumption) | assumption); first | (have e_ := (Kd.R_reads' HO_6.out).1; omega) | simpa only [Ny364.out, List.length_set] using h_); have ql365 : (((rd (rd_L1 l0 (rd x13_3 (ji35))) x97_4) : Int) < ((x6_4.length : Int) : Int)) = True := eq_true (of_decide_eq_true (by first | (with_reducible assumption) | assumption)); obtain ⟨ad365, e365, hx365_0⟩ := Kd.at_int (Kd.R_reads' HO_6.out).2.2 (rd (rd_L1 l0 (rd x13_3 (ji35))) x97_4) p365 q365; obtain rfl : (⟨go50, 0, none⟩ : Addr) = ad365 := (by injection e365); (first | simp only [add_plain] at hx365_0 | simp only [add_at] at hx365_0 | simp only [Addr.add, Nat.zero_add] at hx365_0 | skip); replace p365 := eq_true p365; replace q365 := eq_true q365) | ((with_reducible refine gate_builtin (b := .append) (xs := #[.tmp 115, .tmp 117]) rfl ?_); at_builtin; refine Kd.R_append (Kd.int .i64) (w0 := w) w.heap.size rfl (.tmp 115) (.tmp 117) 25 3 (.int .i64 0) 8 rfl Try.underlying25 info3 rfl (by decide) (by omega) u13 x13_4 (rd (rd_L1 l0 (rd x13_3 (ji35))) x97_4) [.int .i64 (rd (rd_L1 l0 (rd x13_3 (ji35))) x97_4)] (fun k_ => some k_ ≠ (.slice (some ⟨go50, 0, none⟩) x6_4.length co53 : Value).ownBlock) (fun _ => False) rfl rfl ?aP (fun _ hk => hk.elim) ?aF ?aO ?aB ?aS ?aL ?_; (case aP => exact rfl); (case aB => exact (by repeat (first | (with_reducible first | exact HB.out | apply below_alloc | apply pw_below_drewN | apply below_drew1) | exact HB.out))); (case aF => exact (fun k_ hk => Kd.fresh' (Kd.R_lt (by (with_reducible repeat (first | apply Kd.R_alloc | apply Kd.R_drewN | apply Kd.R_drew)); exact HO_6.out)) k_ hk)); (case aO => exact (by (with_reducible repeat (first | apply Kd.R_alloc | apply Kd.R_drewN | apply Kd.R_drew)); exact Kd.R_mono HO_13.out (fun _ hk => hk.2))); (case aS => exact (below_size (by repeat (first | (with_reducible first | exact HB.out | apply below_alloc | apply pw_below_drewN | apply below_drew1) | exact HB.out)))); (case aL => have := LMc52.out; omega); intro v367 w56 ho hb hg hat; rw [← Ny366.out] at ho; have n0_ := Aside0.mk (Kd.R_after (ok := (fun _ => True)) (by (with_reducible repeat (first | apply Kd.R_alloc | apply Kd.R_drewN | apply Kd.R_drew)); exact Kd.R_mono HO_6.out (fun _ hk => ⟨trivial, hk⟩)) hg hat); have n1_ := Aside0.mk (hb); have n2_ := Aside0.mk (ho); clear HO_6; clear HB; clear HO_13; have HO_6 := n0_; have HB := n1_; have HO368 := n2_; clear n0_ n1_ n2_; clear ho hb hg hat))
                                                      go_roundg k4
                                                      case measure => have := HK1.out; have := HK2.out; have := HK3.out; have := HK4.out; omega
                                                      case rel => exact ⟨(y364), (y366), (wrap64 (x97_4 + 1)), (by first | rfl | (simp; done) | (simp [*]; done)), H', ⟨by have := HK1.out; have := HK2.out; have := HK3.out; have := HK4.out; omega⟩, ⟨by (with_reducible repeat (first | apply Kd.R_alloc | apply Kd.R_drewN | apply Kd.R_drew)); exact Kd.R_mono HO_6.out (fun _ hk => hk.2)⟩, ⟨by (with_reducible repeat (first | apply Kd.R_alloc | apply Kd.R_drewN | apply Kd.R_drew)); exact HO368.out⟩, ⟨by repeat (first | (with_reducible first | exact HB.out | apply below_alloc | apply pw_below_drewN | apply below_drew1) | exact HB.out)⟩⟩
                                                    · rw [if_neg c52] at H
                                                      exact absurd H (by simp)
                                                  · rw [if_neg c51] at H
                                                    have c51b0 : ((rd y364 (rd (rd_L1 l0 (rd x13_3 (ji35))) x97_4)) == 0) = false := beq_eq_false_iff_ne.mpr c51
                                                    have c51b1 : ((rd y364 (rd (rd_L1 l0 (rd x13_3 (ji35))) x97_4)) != 0) = true := bne_iff_ne.mpr c51
                                                    have H' := Aside0.mk H
                                                    clear H
                                                    have p361 : 0 ≤ (x97_4 : Int) := of_decide_eq_true (by first | (with_reducible assumption) | assumption)
                                                    have q361 : x97_4 < ((rd_L1 l0 (rd x13_3 (ji35))).length : Int) := of_decide_eq_true (by first | (with_reducible assumption) | assumption)
                                                    obtain ⟨ad361, e361, hx361_0⟩ := Kd.at_int HR360_0.out x97_4 p361 q361
                                                    cases e361
                                                    replace hx361_0 := (HB.out.cell (World.block_lt_of_cell? w _ hx361_0)).trans hx361_0
                                                    replace p361 := eq_true p361
                                                    replace q361 := eq_true q361
                                                    go_wp2_with (first | (go_at_call 38; (with_reducible refine (graph_Cyclic_1.calls A2 c2 l2 A1 c1 l1 (rd (rd_L1 l0 (rd x13_3 (ji35))) x97_4) ⟨w5.heap.size, 0, none⟩ ⟨wq.heap.size, 0, none⟩ true _ ?sideP ?sideQ ?side1 ?side2 ?side3 ?side4 A46.out).mono ?_); (case sideP => exact ((show Below w.heap.size w _ from by repeat (first | (with_reducible first | exact HB.out | apply below_alloc | apply pw_below_drewN | apply below_drew1) | exact HB.out)).cell (World.block_lt_of_cell? w _ HX0.out)).trans HX0.out); (case sideQ => exact ((show Below w.heap.size w _ from by repeat (first | (with_reducible first | exact HB.out | apply below_alloc | apply pw_below_drewN | apply below_drew1) | exact HB.out)).cell (World.block_lt_of_cell? w _ HX1.out)).trans HX1.out); (case side1 => repeat (first | exact (Kd.C_below HR2.out HB.out) | (with_reducible refine Kd.C_alloc ?_ _) | (with_reducible refine Kd.C_drewN ?_ _) | (with_reducible refine Kd.C_drew ?_))); (case side2 => exact HC2.out); (case side3 => repeat (first | exact (Kd.C_below HR1.out HB.out) | (with_reducible refine Kd.C_alloc ?_ _) | (with_reducible refine Kd.C_drewN ?_ _) | (with_reducible refine Kd.C_drew ?_))); (case side4 => exact HC1.out); rintro e w' ⟨rfl, ⟨nd, rfl⟩⟩; (try (rw [drewN_self wr]; generalize hq_ : World.drewN wr _ = wr; have n0_ : Aside0 (Kd.R (Kd.int .i64) 3 wr w.heap.size (fun k_ => some k_ ≠ (v343 : Value).ownBlock) u13 x13_4) := ⟨by rw [← hq_]; exact (by (with_reducible repeat (first | apply Kd.R_alloc | apply Kd.R_drewN | apply Kd.R_drew)); exact HO_13.out)⟩; have n1_ : Aside0 (Kd.R (Kd.int .i64) 3 wr w.heap.size (fun k_ => some k_ ≠ (u13 : Value).ownBlock) v343 x6_4) := ⟨by rw [← hq_]; exact (by (with_reducible repeat (first | apply Kd.R_alloc | apply Kd.R_drewN | apply Kd.R_drew)); exact HO_6.out)⟩; have n2_ : Aside0 (Below w.heap.size w wr) := ⟨by rw [← hq_]; exact (by repeat (first | (with_reducible first | exact HB.out | apply below_alloc | apply pw_below_drewN | apply below_drew1) | exact HB.out))⟩; clear HO_13 HO_6 HB hq_; have HO_13 := n0_; have HO_6 := n1_; have HB := n2_; clear n0_ n1_ n2_)); obtain ⟨Ao57, co57, eo57⟩ := Kd.R_slice HO_6.out; subst eo57; have p363 : 0 ≤ ((rd (rd_L1 l0 (rd x13_3 (ji35))) x97_4) : Int) := of_decide_eq_true (by first | (with_reducible assumption) | assumption); have q363 : (rd (rd_L1 l0 (rd x13_3 (ji35))) x97_4) < (x6_4.length : Int) := of_decide_eq_true (by first | (with_reducible assumption) | assumption); obtain ⟨ad363, e363, hx363_0⟩ := Kd.at_int (Kd.R_reads' HO_6.out).2.2 (rd (rd_L1 l0 (rd x13_3 (ji35))) x97_4) p363 q363; cases e363; replace p363 := eq_true p363; replace q363 := eq_true q363; have p50 : 0 ≤ ((rd (rd_L1 l0 (rd x13_3 (ji35))) x97_4) : Int) := of_decide_eq_true (by first | (with_reducible assumption) | assumption); have q50 : ((rd (rd_L1 l0 (rd x13_3 (ji35))) x97_4) : Int) < ((x6_4.length : Int) : Int) := of_decide_eq_true (by first | (with_reducible assumption) | assumption); obtain ⟨go50, co50, eo50, gb50, gl50, cl50, HG50⟩ := Kd.R_form HO_6.out (by omega); (first | cases eo50 | (injection eo50 with ea_ en_ ec_; (first | subst ea_ | (injection ea_ with ea_; subst ea_)); subst ec_; clear en_)); have GB50 := Aside0.mk gb50; have GG50 := Aside0.mk HG50; clear gb50 gl50 HG50; (first | simp only [add_plain] at hx363_0 | skip); obtain ⟨hx50_0, hf50_0⟩ := Kd.R_celln 0 HO_6.out ((rd (rd_L1 l0 (rd x13_3 (ji35))) x97_4) : Int) p50 q50; replace p50 := eq_true p50; replace q50 := eq_true q50; obtain ⟨hy58_, hz58_⟩ := Kd.R_celln 0 HO_6.out ((rd (rd_L1 l0 (rd x13_3 (ji35))) x97_4) : Int) (of_decide_eq_true (by first | (with_reducible assumption) | assumption)) (of_decide_eq_true (by first | (with_reducible assumption) | assumption)); have HP58 := Kd.R_putg HO_6.out ((rd (rd_L1 l0 (rd x13_3 (ji35))) x97_4) : Int) (wrap64 ((rd x6_4 (rd (rd_L1 l0 (rd x13_3 (ji35))) x97_4)) - 1))) | ((with_reducible refine gate_store (t := 3) (p := 109) rfl ?_); refine store_event (t := 3) (p := 109) (v := ?vo_w59) (w1 := (wr.setCell ⟨go50, ((rd (rd_L1 l0 (rd x13_3 (ji35))) x97_4) : Int).toNat, none⟩ (.int .i64 (wrap64 ((rd x6_4 (rd (rd_L1 l0 (rd x13_3 (ji35))) x97_4)) - 1))))) ?hg ?ho ?hn ?hr ?_; (case ho => rfl); (case hg => rfl); (case hn => rfl); (case hr => first | (go_simp; done) | (go_simp; rfl)); intro w59 hw; have hg : wr.grownBy w59 (some go50) := (by rw [hw]; exact HP58.2); have hp_ : Kd.R (Kd.int .i64) 3 w59 w.heap.size (fun k_ => some k_ ≠ (u13 : Value).ownBlock) (.slice (some ⟨go50, 0, none⟩) x6_4.length co57) y364 := (by rw [hw, Ny364.out]; exact HP58.1); clear HP58; have n0_ := Aside0.mk (hp_); have n1_ := Aside0.mk (Kd.R_after (v := (.slice (some ⟨go50, 0, none⟩) x6_4.length co57)) (v1 := (.slice (some ⟨go50, 0, none⟩) x6_4.length co57)) (ok := (fun _ => True)) (by (with_reducible repeat (first | apply Kd.R_alloc | apply Kd.R_drewN | apply Kd.R_drew)); exact Kd.R_mono HO_13.out (fun _ hk => ⟨trivial, hk⟩)) hg (.inl rfl)); have n2_ := Aside0.mk ((by rw [hw]; exact below_set (HB.out) GB50.out : Below w.heap.size w w59)); clear HO_6; clear HO_13; clear HB; have HO_6 := n0_; have HO_13 := n1_; have HB := n2_; clear n0_ n1_ n2_; clear hg hw hp_; have p365 : 0 ≤ ((rd (rd_L1 l0 (rd x13_3 (ji35))) x97_4) : Int) := of_decide_eq_true (by first | (with_reducible assumption) | assumption); have q365 : (rd (rd_L1 l0 (rd x13_3 (ji35))) x97_4) < (y364.length : Int) := (by have h_ : ((rd (rd_L1 l0 (rd x13_3 (ji35))) x97_4) : Int) < ((x6_4.length : Int) : Int) := of_decide_eq_true (by first | (with_reducible assumption) | assumption); first | (have e_ := (Kd.R_reads' HO_6.out).1; omega) | simpa only [Ny364.out, List.length_set] using h_); have ql365 : (((rd (rd_L1 l0 (rd x13_3 (ji35))) x97_4) : Int) < ((x6_4.length : Int) : Int)) = True := eq_true (of_decide_eq_true (by first | (with_reducible assumption) | assumption)); obtain ⟨ad365, e365, hx365_0⟩ := Kd.at_int (Kd.R_reads' HO_6.out).2.2 (rd (rd_L1 l0 (rd x13_3 (ji35))) x97_4) p365 q365; obtain rfl : (⟨go50, 0, none⟩ : Addr) = ad365 := (by injection e365); (first | simp only [add_plain] at hx365_0 | simp only [add_at] at hx365_0 | simp only [Addr.add, Nat.zero_add] at hx365_0 | skip); replace p365 := eq_true p365; replace q365 := eq_true q365))
                                                    go_roundg k4
                                                    case measure => have := HK1.out; have := HK2.out; have := HK3.out; have := HK4.out; omega
                                                    case rel => exact ⟨(y364), (x13_4), (wrap64 (x97_4 + 1)), (by first | rfl | (simp; done) | (simp [*]; done)), H', ⟨by have := HK1.out; have := HK2.out; have := HK3.out; have := HK4.out; omega⟩, ⟨by (with_reducible repeat (first | apply Kd.R_alloc | apply Kd.R_drewN | apply Kd.R_drew)); exact HO_6.out⟩, ⟨by (with_reducible repeat (first | apply Kd.R_alloc | apply Kd.R_drewN | apply Kd.R_drew)); exact Kd.R_mono HO_13.out (fun _ hk => hk.2)⟩, ⟨by repeat (first | (with_reducible first | exact HB.out | apply below_alloc | apply pw_below_drewN | apply below_drew1) | exact HB.out)⟩⟩
                                                · rw [if_neg c49] at H
                                                  exact absurd H (by simp)
                                              · rw [if_neg c48] at H
                                                exact absurd H (by simp)
                                            · replace c47 := Bool.eq_false_iff.mpr c47
                                              subst c47
                                              have H1 : (graph_Cyclic.l4 k4 l0 l1 l2 x6_4 (wrap64 (x8_3 - 1)) x13_4 (rd_L1 l0 (rd x13_3 (ji35))) ((rd_L1 l0 (rd x13_3 (ji35))).length : Int) (wrap64 (x97_4 + 1))) = some r := by rw [if_neg (show ¬ (false = true) by decide)] at H; exact H
                                              clear H
                                              have H := H1
                                              clear H1
                                              have H' := Aside0.mk H
                                              clear H
                                              have p361 : 0 ≤ (x97_4 : Int) := of_decide_eq_true (by first | (with_reducible assumption) | assumption)
                                              have q361 : x97_4 < ((rd_L1 l0 (rd x13_3 (ji35))).length : Int) := of_decide_eq_true (by first | (with_reducible assumption) | assumption)
                                              obtain ⟨ad361, e361, hx361_0⟩ := Kd.at_int HR360_0.out x97_4 p361 q361
                                              cases e361
                                              replace hx361_0 := (HB.out.cell (World.block_lt_of_cell? w _ hx361_0)).trans hx361_0
                                              replace p361 := eq_true p361
                                              replace q361 := eq_true q361
                                              go_wp2_with (first | (go_at_call 38; (with_reducible refine (graph_Cyclic_1.calls A2 c2 l2 A1 c1 l1 (rd (rd_L1 l0 (rd x13_3 (ji35))) x97_4) ⟨w5.heap.size, 0, none⟩ ⟨wq.heap.size, 0, none⟩ false _ ?sideP ?sideQ ?side1 ?side2 ?side3 ?side4 A46.out).mono ?_); (case sideP => exact ((show Below w.heap.size w _ from by repeat (first | (with_reducible first | exact HB.out | apply below_alloc | apply pw_below_drewN | apply below_drew1) | exact HB.out)).cell (World.block_lt_of_cell? w _ HX0.out)).trans HX0.out); (case sideQ => exact ((show Below w.heap.size w _ from by repeat (first | (with_reducible first | exact HB.out | apply below_alloc | apply pw_below_drewN | apply below_drew1) | exact HB.out)).cell (World.block_lt_of_cell? w _ HX1.out)).trans HX1.out); (case side1 => repeat (first | exact (Kd.C_below HR2.out HB.out) | (with_reducible refine Kd.C_alloc ?_ _) | (with_reducible refine Kd.C_drewN ?_ _) | (with_reducible refine Kd.C_drew ?_))); (case side2 => exact HC2.out); (case side3 => repeat (first | exact (Kd.C_below HR1.out HB.out) | (with_reducible refine Kd.C_alloc ?_ _) | (with_reducible refine Kd.C_drewN ?_ _) | (with_reducible refine Kd.C_drew ?_))); (case side4 => exact HC1.out); rintro e w' ⟨rfl, ⟨nd, rfl⟩⟩))
                                              go_roundg k4
                                              case measure => have := HK1.out; have := HK2.out; have := HK3.out; have := HK4.out; omega
                                              case rel => exact ⟨(x6_4), (x13_4), (wrap64 (x97_4 + 1)), (by first | rfl | (simp; done) | (simp [*]; done)), H', ⟨by have := HK1.out; have := HK2.out; have := HK3.out; have := HK4.out; omega⟩, ⟨by (with_reducible repeat (first | apply Kd.R_alloc | apply Kd.R_drewN | apply Kd.R_drew)); exact HO_6.out⟩, ⟨by (with_reducible repeat (first | apply Kd.R_alloc | apply Kd.R_drewN | apply Kd.R_drew)); exact HO_13.out⟩, ⟨by repeat (first | (with_reducible first | exact HB.out | apply below_alloc | apply pw_below_drewN | apply below_drew1) | exact HB.out)⟩⟩
                                          · rw [if_neg c45] at H
                                            exact absurd H (by simp)
                                        · rw [if_neg c44] at H
                                          exact absurd H (by simp)
                                      · rw [if_neg c43] at H
                                        have c43b0 : decide (x97_4 < ((rd_L1 l0 (rd x13_3 (ji35))).length : Int)) = false := decide_eq_false c43
                                        clear c43
                                        have H' := Aside0.mk H
                                        clear H
                                        go_wp2
                                        go_roundg k4
                                        case measure => have := HK1.out; have := HK2.out; have := HK3.out; have := HK4.out; omega
                                        case rel => exact ⟨(x6_4), ((wrap64 (x8_3 - 1))), (x13_4), (by first | rfl | (simp; done) | (simp [*]; done)), H', ⟨by have := HK1.out; have := HK2.out; have := HK3.out; have := HK4.out; omega⟩, ⟨by (with_reducible repeat (first | apply Kd.R_alloc | apply Kd.R_drewN | apply Kd.R_drew)); exact HO_6.out⟩, ⟨by (with_reducible repeat (first | apply Kd.R_alloc | apply Kd.R_drewN | apply Kd.R_drew)); exact HO_13.out⟩, ⟨by repeat (first | (with_reducible first | exact HB.out | apply below_alloc | apply pw_below_drewN | apply below_drew1) | exact HB.out)⟩⟩
                                · rw [if_neg c40] at H
                                  exact absurd H (by simp)
                              · rw [if_neg c39] at H
                                exact absurd H (by simp)
                            · rw [if_neg c38] at H
                              exact absurd H (by simp)
                          · rw [if_neg c37] at H
                            exact absurd H (by simp)
                        · rw [if_neg c36] at H
                          exact absurd H (by simp)
                      · rw [if_neg c34] at H
                        have c34b0 : decide (0 < (x13_3.length : Int)) = false := decide_eq_false c34
                        have c34b1 : decide (0 < x13_3.length) = false := decide_eq_false (by omega)
                        clear c34
                        obtain rfl := Option.some.inj H
                        obtain ⟨Ao60, co60, eo60⟩ := Kd.R_slice HO_13.out
                        subst eo60
                        go_wp2
                        go_ret
                        exact ⟨by first | rfl | (simp [errW_none, errW_some] <;> rfl) | (simp [*, errW_none, errW_some] <;> rfl), below_step HBq.out (by repeat (first | (with_reducible first | exact HB.out | apply below_alloc | apply pw_below_drewN | apply below_drew1) | exact HB.out))⟩
    · rw [if_neg c5] at H
      exact absurd H (by simp)
  · rw [if_neg c4] at H
    exact absurd H (by simp)

end Go.Proofs.Ytjflddnmkajleaa.PG
