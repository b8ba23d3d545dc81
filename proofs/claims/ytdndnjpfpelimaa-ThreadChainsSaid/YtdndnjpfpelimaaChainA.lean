/- What the law makes beside the chain: its closure, its rows of instructions. -/
import Derived.Test.YtdndnjpfpelimaaChain
import Derived.Test.YtdndnjpfpelimaaPGx0
import Derived.Test.YtdndnjpfpelimaaU
namespace Go.Proofs.Ytdndnjpfpelimaa.PG
open Go.RowKit Go.Proofs.YtdndnjpfpelimaaW.PrintWords Go.Proofs.YtdndnjpfpelimaaW.PrintLast Go.Proofs.YtdndnjpfpelimaaW.PrintMore
attribute [local go_sem] max2_int min2_int max_two min_two max_three min_three max_four min_four   -- for this text's walks alone
set_option linter.unusedVariables false
set_option linter.unusedSimpArgs false
attribute [local go_sem] run_store_complex
/-! What the law's own function makes: rows of instructions, the closure, numbers below 40. -/
theorem andLt (a : Int) : 0 ≤ Go.bits .and .i64 a 65535 ∧ Go.bits .and .i64 a 65535 ≤ 65535 := by
  have h : (BitVec.ofInt 64 a &&& BitVec.ofInt 64 65535).toNat ≤ 65535 := by
    rw [BitVec.toNat_and]
    exact Nat.le_trans Nat.and_le_right (by decide)
  show 0 ≤ IntKind.i64.wrap ((BitVec.ofInt 64 a &&& BitVec.ofInt 64 65535).toNat : Int) ∧ IntKind.i64.wrap ((BitVec.ofInt 64 a &&& BitVec.ofInt 64 65535).toNat : Int) ≤ 65535
  rw [IntKind.wrap_i64]
  omega
/-- What is left by 40 lies below 40. -/
theorem capT (a : Int) : 0 ≤ Int.tmod (Go.bits .and .i64 a 65535) 40 ∧ Int.tmod (Go.bits .and .i64 a 65535) 40 < 40 := by
  have h := andLt a
  rw [Int.tmod_eq_emod_of_nonneg h.1]
  omega
set_option maxHeartbeats 4000000 in
set_option maxRecDepth 100000 in
theorem first_calls (k fr e_ : Int) (P0 : Addr) (w : World) (hp : w.cell? P0 = some (.int .i64 e_)) : Calls Try.prog 4 #[.int .i64 k, .int .i64 fr, .pointer (some P0)] w fun e w' => e = .returned (.int .i64 (fst_ k fr e_)) ∧ w' = w := by
  by_cases h : k = 0
  · subst h
    go_enter Try.func4, Try.ntmps4
    go_wp2
    go_ret
    exact ⟨rfl, rfl⟩
  · have hb : (k == 0) = false := beq_eq_false_iff_ne.mpr h
    go_enter Try.func4, Try.ntmps4
    go_wp2
    go_ret
    exact ⟨by simp [fst_, h], rfl⟩
/-- A row of instructions without constants, by its cells. -/
theorem F_of_cells {W : World} {g : Nat} {cur : Array Value} (hg : W.heap[g]? = some (.cells cur 32 (0, 0))) (xs : List S32) (hx : ∀ (j : Nat) (x : S32), xs[j]? = some x → ∀ (i : Nat) (u : Value), ([.int .i64 x.f0, .int .i64 x.f1, .int .i64 x.f2, .int .i64 x.f3, .int .i64 x.f4, .int .i64 x.f5, .int .i64 x.f6.f0, .int .i64 x.f6.f1, .complex .f64 0 0, .string (⟨#[]⟩ : ByteArray), .slice none 0 0, .slice none 0 0] : List Value)[i]? = some u → cur[j * 12 + i]? = some u) (hl : xs.length < 1000) : Kd.F k32 W (fun k => k = g) (some ⟨g, 0, none⟩) xs.length xs := by
  intro W' hW
  have hg' : W'.heap[g]? = some (.cells cur 32 (0, 0)) := (hW g rfl (blk_lt hg)).trans hg
  refine ⟨rfl, by omega, fun _ => ⟨_, rfl, fun j x hj => ⟨_, rfl, k32_mk W' x, fun i u hu => ?_⟩⟩⟩
  rw [Addr.add_lit, Nat.zero_add, show k32.sz = 12 from rfl, blk_cell hg']
  exact hx j x hj i u hu
theorem F_one {W : World} {g : Nat} (hg : W.heap[g]? = some (.cells #[.int .i64 6, .int .i64 0, .int .i64 0, .int .i64 0, .int .i64 0, .int .i64 0, .int .i64 0, .int .i64 0, .complex .f64 0 0, .string (⟨#[]⟩ : ByteArray), .slice none 0 0, .slice none 0 0] 32 (0, 0))) : Kd.F k32 W (fun k => k = g) (some ⟨g, 0, none⟩) [rout].length [rout] :=
  F_of_cells hg [rout] (fun j x hj i u hu => by
    rcases j with _ | j
    · simp only [List.getElem?_cons_zero, Option.some.injEq] at hj
      subst hj
      simpa [rout, z29] using hu
    · simp at hj) (by simp)
theorem F_two {W : World} {g : Nat} (hg : W.heap[g]? = some (.cells #[.int .i64 6, .int .i64 0, .int .i64 0, .int .i64 0, .int .i64 0, .int .i64 0, .int .i64 0, .int .i64 0, .complex .f64 0 0, .string (⟨#[]⟩ : ByteArray), .slice none 0 0, .slice none 0 0, .int .i64 6, .int .i64 0, .int .i64 0, .int .i64 0, .int .i64 0, .int .i64 0, .int .i64 0, .int .i64 0, .complex .f64 0 0, .string (⟨#[]⟩ : ByteArray), .slice none 0 0, .slice none 0 0] 32 (0, 0))) : Kd.F k32 W (fun k => k = g) (some ⟨g, 0, none⟩) [rout, rout].length [rout, rout] :=
  F_of_cells hg [rout, rout] (fun j x hj i u hu => by
    rcases j with _ | _ | j
    · simp only [List.getElem?_cons_zero, Option.some.injEq] at hj
      subst hj
      have hi : i < 12 := by rcases Nat.lt_or_ge i 12 with h | h; exact h; (rw [List.getElem?_eq_none (by simpa using h)] at hu; cases hu)
      rw [← hu]
      rcases i with _ | _ | _ | _ | _ | _ | _ | _ | _ | _ | _ | _ | i <;> first | rfl | omega
    · simp only [List.getElem?_cons_succ, List.getElem?_cons_zero, Option.some.injEq] at hj
      subst hj
      have hi : i < 12 := by rcases Nat.lt_or_ge i 12 with h | h; exact h; (rw [List.getElem?_eq_none (by simpa using h)] at hu; cases hu)
      rw [← hu]
      rcases i with _ | _ | _ | _ | _ | _ | _ | _ | _ | _ | _ | _ | i <;> first | rfl | omega
    · simp at hj) (by simp)
/-- The wanted blocks, by their cells. -/
theorem C_want {W : World} {g i : Nat} (hg : W.heap[g]? = some (.cells #[.slice (some ⟨i, 0, none⟩) 2 2, .int .i64 3, .int .i64 0, .int .i64 0, .int .i64 0] 37 (0, 0))) (hi : W.heap[i]? = some (.cells #[.int .i64 6, .int .i64 0, .int .i64 0, .int .i64 0, .int .i64 0, .int .i64 0, .int .i64 0, .int .i64 0, .complex .f64 0 0, .string (⟨#[]⟩ : ByteArray), .slice none 0 0, .slice none 0 0, .int .i64 6, .int .i64 0, .int .i64 0, .int .i64 0, .int .i64 0, .int .i64 0, .int .i64 0, .int .i64 0, .complex .f64 0 0, .string (⟨#[]⟩ : ByteArray), .slice none 0 0, .slice none 0 0] 32 (0, 0))) :
    Kd.C k37 W (some ⟨g, 0, none⟩) 1 [(⟨[rout, rout], ⟨3, 0, 0, 0⟩⟩ : S37)] := by
  refine ⟨rfl, by omega, fun _ => ⟨_, rfl, fun j x hj => ?_⟩⟩
  rcases j with _ | j
  · simp only [List.getElem?_cons_zero, Option.some.injEq] at hj
    subst hj
    refine ⟨[.slice (some ⟨i, 0, none⟩) 2 2, .int .i64 3, .int .i64 0, .int .i64 0, .int .i64 0], rfl, k37_mk W ⟨[rout, rout], ⟨3, 0, 0, 0⟩⟩ (A0 := some ⟨i, 0, none⟩) (c0 := 2) (Nat.le_refl _) (Kd.F_now (F_two hi)), fun i u hu => ?_⟩
    rw [Addr.add_lit, Nat.zero_add, blk_cell hg]
    simpa using hu
  · simp at hj
/-- A call through a function value, as one step of a region that draws. -/
theorem goesS_ {P : Program} {ops : Array Oper} {Q : Exit → Act → World → Prop} {oi : Oper} {N : Option Tmp} {a : Act} {w : World} {K : Act → World → Prop} {f : FuncId} {fn : Func} {c : Operand} {xs_ : Array Operand} {ts : Array TypeId} (hf : P.funcs[f]? = some fn) (hname : (fn.name == "runtime.NumGoroutine") = false) (hb : fn.body.isSome = true) (args cap all : Array Value)
    (hw : Region.wanted oi (yielded ops a.tmps) = true) (hN : oi.dst = N) (hop : oi.op = .call { callee := .value c, args := xs_, argTypes := ts }) (hc : a.eval c = .func (.func f) #[] cap) (hargs : xs_.map a.eval = args) (hall : args ++ cap = all)
    (h : Calls P f all w fun e w' => ∃ v, e = .returned v ∧ K (a.put N v) w') : if Region.wanted oi (yielded ops a.tmps) = true then Oper.wp P oi a w K Q else K (a.put N undef) w := by
  refine call_ f all hw hN ?_ h
  have he := enters_ hf hname hb all w
  unfold execOp
  simp [hop, resolve, Deferred.ofValue, invoke, hc, hargs, hall, he]
end Go.Proofs.Ytdndnjpfpelimaa.PG
