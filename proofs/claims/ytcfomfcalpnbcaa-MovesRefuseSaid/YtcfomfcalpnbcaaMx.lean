/- Plain law, no program: partial maps on whole numbers, their circles, and how many there are. -/
import Derived.Test.YtcfomfcalpnbcaaMu
namespace Go.Proofs.Ytcfomfcalpnbcaa.Mv
open Go.RowKit Go.Proofs.Ytcfomfcalpnbcaa.PG Go.Proofs.YtcfomfcalpnbcaaW.PrintWords Go.Proofs.YtcfomfcalpnbcaaW.PrintLast Go.Proofs.YtcfomfcalpnbcaaW.PrintMore
set_option linter.unusedVariables false
set_option linter.unusedSimpArgs false

abbrev PF := Int → Option Int
def it (F : PF) : Nat → Int → Option Int
  | 0, x => some x
  | n + 1, x => (F x).bind (it F n)
theorem it_add (F : PF) (b : Nat) : ∀ (a : Nat) (x : Int), it F (a + b) x = (it F a x).bind (it F b)
  | 0, x => by simp [it]
  | a + 1, x => by
    rw [show a + 1 + b = (a + b) + 1 by omega]
    simp only [it]
    cases F x with
    | none => rfl
    | some y => simpa using it_add F b a y
theorem it_one (F : PF) (x : Int) : it F 1 x = F x := by
  simp only [it]
  cases F x <;> rfl
theorem it_succ (F : PF) (n : Nat) (x : Int) : it F (n + 1) x = (it F n x).bind F := by
  rw [it_add]
  congr 1
  funext y
  exact it_one F y
theorem it_next {F : PF} {n : Nat} {x y z : Int} (h : it F n x = some y) (k : F y = some z) : it F (n + 1) x = some z := by
  rw [it_succ, h]
  exact k
theorem it_prev {F : PF} {n : Nat} {x z : Int} (h : it F (n + 1) x = some z) : ∃ y, it F n x = some y ∧ F y = some z := by
  rw [it_succ] at h
  exact Option.bind_eq_some_iff.mp h
/-- A place on a circle, none of whose is less. -/
def Lead (F : PF) (t : Int) : Prop := (∃ m, it F (m + 1) t = some t) ∧ ∀ j y, it F j t = some y → t ≤ y
theorem Lead.some {F : PF} {t : Int} (h : Lead F t) : ∃ y, F t = some y := by
  obtain ⟨⟨m, hm⟩, _⟩ := h
  simp only [it] at hm
  obtain ⟨y, hy, _⟩ := Option.bind_eq_some_iff.mp hm
  exact ⟨y, hy⟩
theorem it_same {F G : PF} {t : Int} (h : ∀ j y, it F j t = some y → G y = F y) : ∀ j, it G j t = it F j t
  | 0 => rfl
  | j + 1 => by
    rw [it_succ, it_succ, it_same h j]
    cases hj : it F j t with
    | none => rfl
    | some y => exact h j y hj
theorem lead_same {F G : PF} {t : Int} (h : ∀ j y, it F j t = some y → G y = F y) : Lead G t ↔ Lead F t := by
  unfold Lead
  simp only [it_same h]

/-! ### counting -/
theorem dec_iff {p q : Prop} (h : p ↔ q) : @decide p (Classical.propDecidable p) = @decide q (Classical.propDecidable q) := by
  obtain rfl : p = q := propext h
  rfl
noncomputable def lam (T : List Int) (F : PF) : Nat := T.countP (fun t => @decide (Lead F t) (Classical.propDecidable _))
def mu (T : List Int) (F : PF) : Nat := T.countP (fun t => (F t).isSome)
def cnt (T : List Int) (F : PF) (x : Int) : Nat := T.countP (fun t => decide (F t = some x))
theorem countP_same {T : List Int} {p q : Int → Bool} (h : ∀ t ∈ T, p t = q t) : T.countP p = T.countP q :=
  List.countP_congr (fun t ht => by rw [h t ht])
theorem countP_one {p q : Int → Bool} {a : Int} (hp : p a = true) (hq : q a = false) : ∀ {T : List Int}, T.Nodup → a ∈ T → (∀ t ∈ T, t ≠ a → p t = q t) → T.countP p = T.countP q + 1
  | [], _, ha, _ => by simp at ha
  | b :: T, hn, ha, h => by
    rw [List.nodup_cons] at hn
    rw [List.countP_cons, List.countP_cons]
    by_cases hb : b = a
    · subst hb
      rw [hp, hq, countP_same (p := p) (q := q) (fun t ht => h t (List.mem_cons_of_mem _ ht) (fun e => hn.1 (e ▸ ht)))]
      simp
    · have ha' : a ∈ T := by
        rcases List.mem_cons.mp ha with e | e
        · exact absurd e.symm hb
        · exact e
      rw [countP_one hp hq hn.2 ha' (fun t ht => h t (List.mem_cons_of_mem _ ht)), h b (by simp) hb]
      omega
theorem countP_none {p : Int → Bool} {T : List Int} (h : ∀ t ∈ T, p t = false) : T.countP p = 0 := by
  rw [List.countP_eq_zero]
  intro a ha
  rw [h a ha]
  simp
theorem lam_zero {T : List Int} {F : PF} (h : ∀ t ∈ T, F t = none) : lam T F = 0 := by
  refine countP_none (fun t ht => @decide_eq_false _ (Classical.propDecidable _) (fun hl => ?_))
  obtain ⟨y, hy⟩ := hl.some
  rw [h t ht] at hy
  cases hy
theorem mu_zero {T : List Int} {F : PF} (h : ∀ t ∈ T, F t = none) : mu T F = 0 := countP_none (fun t ht => by rw [h t ht]; rfl)
theorem lam_same {T : List Int} {F G : PF} (h : ∀ t ∈ T, Lead F t ↔ Lead G t) : lam T F = lam T G := by
  exact countP_same (fun t ht => dec_iff (h t ht))
/-- One place less. -/
def Less (F G : PF) (a : Int) : Prop := ∀ x, G x = if x = a then none else F x
theorem Less.at {F G : PF} {a : Int} (h : Less F G a) : G a = none := by rw [h, if_pos rfl]
theorem Less.ne {F G : PF} {a x : Int} (h : Less F G a) (hx : x ≠ a) : G x = F x := by rw [h, if_neg hx]
theorem Less.some {F G : PF} {a x y : Int} (h : Less F G a) (hx : G x = some y) : F x = some y ∧ x ≠ a := by
  rw [h] at hx
  split at hx
  · cases hx
  · rename_i hn
    exact ⟨hx, hn⟩
theorem Less.none {F G : PF} {a x : Int} (h : Less F G a) (hx : G x = none) : F x = none ∨ x = a := by
  by_cases e : x = a
  · exact .inr e
  · exact .inl (by rw [← h.ne e]; exact hx)
theorem mu_less {T : List Int} {F G : PF} {a y : Int} (hn : T.Nodup) (ha : a ∈ T) (hF : F a = some y) (h : Less F G a) : mu T F = mu T G + 1 :=
  countP_one (by rw [hF]; rfl) (by rw [h.at]; rfl) hn ha (fun t _ ht => by rw [h.ne ht])
theorem cnt_less {T : List Int} {F G : PF} {a y : Int} (hn : T.Nodup) (ha : a ∈ T) (hF : F a = some y) (h : Less F G a) (x : Int) : cnt T F x = cnt T G x + (if y = x then 1 else 0) := by
  by_cases e : y = x
  · subst e
    rw [if_pos rfl]
    exact countP_one (by rw [hF]; simp) (by rw [h.at]; simp) hn ha (fun t _ ht => by rw [h.ne ht])
  · rw [if_neg e]
    refine countP_same (fun t _ => ?_)
    by_cases ht : t = a
    · subst ht
      rw [hF, h.at]
      simp [e]
    · rw [h.ne ht]
theorem cnt_zero {T : List Int} {F : PF} {x t : Int} (h : cnt T F x = 0) (ht : t ∈ T) : F t ≠ some x := by
  intro e
  have := List.countP_eq_zero.mp h t ht
  simp [e] at this
theorem cnt_pos {T : List Int} {F : PF} {x : Int} (h : cnt T F x ≠ 0) : ∃ t ∈ T, F t = some x := by
  have : 0 < T.countP (fun t => decide (F t = some x)) := by unfold cnt at h; omega
  obtain ⟨t, ht, e⟩ := List.countP_pos_iff.mp this
  exact ⟨t, ht, of_decide_eq_true e⟩
/-- A place that nothing leads from to is on no circle. -/
theorem lam_pop {T : List Int} {F G : PF} {a : Int} (hdom : ∀ t y, F t = some y → t ∈ T) (h0 : cnt T F a = 0) (h : Less F G a) : lam T G = lam T F := by
  have hno : ∀ t, F t ≠ some a := fun t e => cnt_zero h0 (hdom t a e) e
  refine lam_same (fun t _ => ⟨fun hl => ?_, fun hl => ?_⟩)
  · -- on G's circle each step is F's
    have hall : ∀ j, ∃ y, it G j t = some y := by
      intro j
      obtain ⟨⟨m, hm⟩, _⟩ := hl
      induction j using Nat.strongRecOn with
      | ind j ih =>
        by_cases hj : j ≤ m + 1
        · obtain ⟨d, hd⟩ : ∃ d, m + 1 = j + d := ⟨m + 1 - j, by omega⟩
          rw [hd, it_add] at hm
          obtain ⟨y, hy, _⟩ := Option.bind_eq_some_iff.mp hm
          exact ⟨y, hy⟩
        · obtain ⟨y, hy⟩ := ih (j - (m + 1)) (by omega)
          refine ⟨y, ?_⟩
          rw [show j = (m + 1) + (j - (m + 1)) by omega, it_add, hm]
          exact hy
    refine (lead_same (F := G) (G := F) (fun j y hj => ?_)).mpr hl
    obtain ⟨z, hz⟩ := hall (j + 1)
    rw [it_succ, hj] at hz
    have hz' : G y = some z := hz
    rw [hz', (h.some hz').1]
  · refine (lead_same (F := F) (G := G) (fun j y hj => ?_)).mpr hl
    refine h.ne (fun e => ?_)
    subst e
    cases j with
    | zero =>
      simp only [it, Option.some.injEq] at hj
      subst hj
      obtain ⟨⟨m, hm⟩, _⟩ := hl
      obtain ⟨y, _, hy⟩ := it_prev hm
      exact hno y hy
    | succ j =>
      obtain ⟨y', _, hy⟩ := it_prev hj
      exact hno y' hy
theorem least_of {P : Int → Prop} : ∀ {T : List Int}, (∃ y ∈ T, P y) → ∃ z ∈ T, P z ∧ ∀ y ∈ T, P y → z ≤ y
  | [], h => by
    obtain ⟨y, hy, _⟩ := h
    simp at hy
  | b :: T, h => by
    by_cases hT : ∃ y ∈ T, P y
    · obtain ⟨z, hz, hP, hm⟩ := least_of hT
      by_cases hb : P b ∧ b ≤ z
      · refine ⟨b, by simp, hb.1, fun y hy hPy => ?_⟩
        rcases List.mem_cons.mp hy with e | e
        · omega
        · have := hm y e hPy
          omega
      · refine ⟨z, by simp [hz], hP, fun y hy hPy => ?_⟩
        rcases List.mem_cons.mp hy with e | e
        · subst e
          have : ¬ y ≤ z := fun h => hb ⟨hPy, h⟩
          omega
        · exact hm y e hPy
    · obtain ⟨y, hy, hP⟩ := h
      rcases List.mem_cons.mp hy with e | e
      · subst e
        refine ⟨y, by simp, hP, fun x hx hPx => ?_⟩
        rcases List.mem_cons.mp hx with e | e
        · omega
        · exact absurd ⟨x, e, hPx⟩ hT
      · exact absurd ⟨y, e, hP⟩ hT
def Reach (F : PF) (c d : Int) : Prop := ∃ j, it F j c = some d
theorem reach_back {F : PF} {c : Int} {m : Nat} (hc : it F (m + 1) c = some c) : ∀ (i : Nat) (t : Int), it F i c = some t → ∃ j, it F j t = some c
  | 0, t, h => by
    simp only [it, Option.some.injEq] at h
    exact ⟨0, by rw [h]; rfl⟩
  | i + 1, t, h => by
    obtain ⟨t', h1, h2⟩ := it_prev h
    obtain ⟨j, hj⟩ := reach_back hc i t' h1
    cases j with
    | zero =>
      simp only [it, Option.some.injEq] at hj
      subst hj
      refine ⟨m, ?_⟩
      simp only [it, h2, Option.bind_some] at hc
      exact hc
    | succ j =>
      refine ⟨j, ?_⟩
      simp only [it, h2, Option.bind_some] at hj
      exact hj
theorem reach_pred {F : PF} {c : Int} {m : Nat} (hc : it F (m + 1) c = some c) (inj : ∀ a b x, F a = some x → F b = some x → a = b) {s z : Int} (hs : F s = some z) (hz : Reach F c z) : Reach F c s := by
  obtain ⟨j, hj⟩ := hz
  cases j with
  | zero =>
    simp only [it, Option.some.injEq] at hj
    subst hj
    obtain ⟨y, hy, hy'⟩ := it_prev hc
    exact ⟨m, by rw [inj s y _ hs hy']; exact hy⟩
  | succ j =>
    obtain ⟨y, hy, hy'⟩ := it_prev hj
    exact ⟨j, by rw [inj s y _ hs hy']; exact hy⟩
theorem reach_from {F : PF} {c : Int} {m : Nat} (hc : it F (m + 1) c = some c) (inj : ∀ a b x, F a = some x → F b = some x → a = b) : ∀ (j : Nat) {t y : Int}, it F j t = some y → Reach F c y → Reach F c t
  | 0, t, y, h, hr => by
    simp only [it, Option.some.injEq] at h
    rw [h]
    exact hr
  | j + 1, t, y, h, hr => by
    obtain ⟨y', h1, h2⟩ := it_prev h
    exact reach_from hc inj j h1 (reach_pred hc inj h2 hr)
/-- A circle taken away: one leading place less. -/
theorem lam_circle {T : List Int} {F G : PF} {c : Int} {m : Nat} (hn : T.Nodup) (hdom : ∀ t y, F t = some y → t ∈ T) (inj : ∀ a b x, F a = some x → F b = some x → a = b) (hc : it F (m + 1) c = some c)
    (hG0 : ∀ d, Reach F c d → G d = none) (hG1 : ∀ d, ¬ Reach F c d → G d = F d) : lam T F = lam T G + 1 := by
  have hin : ∀ d, Reach F c d → d ∈ T := by
    rintro d ⟨j, hj⟩
    obtain ⟨i, hi⟩ := reach_back hc j d hj
    cases i with
    | zero =>
      simp only [it, Option.some.injEq] at hi
      subst hi
      simp only [it] at hc
      obtain ⟨y, hy, _⟩ := Option.bind_eq_some_iff.mp hc
      exact hdom _ _ hy
    | succ i =>
      simp only [it] at hi
      obtain ⟨y, hy, _⟩ := Option.bind_eq_some_iff.mp hi
      exact hdom _ _ hy
  obtain ⟨z, hzT, hz, hmin⟩ := least_of (P := Reach F c) (T := T) ⟨c, hin c ⟨0, rfl⟩, ⟨0, rfl⟩⟩
  have hfwd : ∀ {a b : Int} {j : Nat}, Reach F c a → it F j a = some b → Reach F c b := by
    rintro a b j ⟨i, hi⟩ hj
    exact ⟨i + j, by rw [it_add, hi]; exact hj⟩
  have hnl : ∀ t, Reach F c t → ¬ Lead G t := by
    intro t ht hl
    obtain ⟨y, hy⟩ := hl.some
    rw [hG0 t ht] at hy
    cases hy
  have hlz : Lead F z := by
    obtain ⟨i, hi⟩ := hz
    obtain ⟨j, hj⟩ := reach_back hc i z hi
    refine ⟨⟨j + m + i, ?_⟩, fun k y hk => hmin y (hin y (hfwd ⟨i, hi⟩ hk)) (hfwd ⟨i, hi⟩ hk)⟩
    rw [show j + m + i + 1 = (j + (m + 1)) + i by omega, it_add, it_add, hj, Option.bind_some, hc]
    exact hi
  refine countP_one (a := z) (@decide_eq_true _ (Classical.propDecidable _) hlz) (@decide_eq_false _ (Classical.propDecidable _) (hnl z hz)) hn hzT (fun t _ ht => ?_)
  by_cases hr : Reach F c t
  · have h1 : ¬ Lead F t := by
      intro hl
      obtain ⟨i, hi⟩ := hr
      obtain ⟨j, hj⟩ := reach_back hc i t hi
      obtain ⟨iz, hiz⟩ := hz
      have e1 : t ≤ z := hl.2 (j + iz) z (by rw [it_add, hj]; exact hiz)
      have e2 : z ≤ t := hmin t (hin t ⟨i, hi⟩) ⟨i, hi⟩
      omega
    rw [@decide_eq_false _ (Classical.propDecidable _) h1, @decide_eq_false _ (Classical.propDecidable _) (hnl t hr)]
  · have := lead_same (F := F) (G := G) (t := t) (fun j y hj => hG1 y (fun hy => hr (reach_from hc inj j hj hy)))
    exact dec_iff this.symm

/-! ### where each place is led to: the map is one to one, and closed -/
theorem nodup_sub : ∀ {A B : List Int}, A.Nodup → (∀ a ∈ A, a ∈ B) → B.length ≤ A.length → B.Nodup ∧ ∀ b ∈ B, b ∈ A
  | [], B, _, _, hl => by
    have : B = [] := by
      cases B with
      | nil => rfl
      | cons _ _ => simp at hl
    subst this
    simp
  | a :: A, B, hA, hs, hl => by
    rw [List.nodup_cons] at hA
    have ha : a ∈ B := hs a (by simp)
    have hp : B.Perm (a :: B.erase a) := List.perm_cons_erase ha
    have hlen : B.length = (B.erase a).length + 1 := by simpa using hp.length_eq
    obtain ⟨h1, h2⟩ := nodup_sub (A := A) (B := B.erase a) hA.2 (fun x hx => by
      have hx' : x ∈ a :: B.erase a := hp.mem_iff.mp (hs x (by simp [hx]))
      rcases List.mem_cons.mp hx' with e | e
      · exact absurd (e ▸ hx) hA.1
      · exact e) (by simp only [List.length_cons] at hl; omega)
    refine ⟨hp.nodup_iff.mpr (List.nodup_cons.mpr ⟨fun hm => hA.1 (h2 a hm), h1⟩), fun b hb => ?_⟩
    rcases List.mem_cons.mp (hp.mem_iff.mp hb) with e | e
    · simp [e]
    · exact List.mem_cons_of_mem _ (h2 b e)
theorem nodup_len : ∀ {A B : List Int}, A.Nodup → (∀ a ∈ A, a ∈ B) → A.length ≤ B.length
  | [], B, _, _ => by simp
  | a :: A, B, hA, hs => by
    rw [List.nodup_cons] at hA
    have ha : a ∈ B := hs a (by simp)
    have hp : B.Perm (a :: B.erase a) := List.perm_cons_erase ha
    have hlen : B.length = (B.erase a).length + 1 := by simpa using hp.length_eq
    have := nodup_len (A := A) (B := B.erase a) hA.2 (fun x hx => by
      have hx' : x ∈ a :: B.erase a := hp.mem_iff.mp (hs x (by simp [hx]))
      rcases List.mem_cons.mp hx' with e | e
      · exact absurd (e ▸ hx) hA.1
      · exact e)
    simp only [List.length_cons]
    omega
theorem inj_map {g : Int → Int} : ∀ {A : List Int}, (A.map g).Nodup → ∀ {a b : Int}, a ∈ A → b ∈ A → g a = g b → a = b
  | [], _, _, _, ha, _, _ => by simp at ha
  | c :: A, h, a, b, ha, hb, e => by
    rw [List.map_cons, List.nodup_cons] at h
    rcases List.mem_cons.mp ha with ea | ea <;> rcases List.mem_cons.mp hb with eb | eb
    · rw [ea, eb]
    · subst ea
      exact absurd (List.mem_map.mpr ⟨b, eb, e.symm⟩) h.1
    · subst eb
      exact absurd (List.mem_map.mpr ⟨a, ea, e⟩) h.1
    · exact inj_map h.2 ea eb e
theorem closed {T : List Int} {F : PF} (hn : T.Nodup) (hdom : ∀ t y, F t = some y → t ∈ T) (h : ∀ t y, F t = some y → cnt T F t ≠ 0) :
    (∀ a b x, F a = some x → F b = some x → a = b) ∧ ∀ t x, F t = some x → ∃ y, F x = some y := by
  have hA : (T.filter (fun t => (F t).isSome)).Nodup := List.Nodup.sublist List.filter_sublist hn
  have hin : ∀ {t x}, F t = some x → t ∈ T.filter (fun t => (F t).isSome) := by
    intro t x e
    rw [List.mem_filter]
    exact ⟨hdom t x e, by rw [e]; rfl⟩
  obtain ⟨h1, h2⟩ := nodup_sub (A := T.filter (fun t => (F t).isSome)) (B := (T.filter (fun t => (F t).isSome)).map (fun t => (F t).getD 0)) hA (fun t ht => by
    obtain ⟨ht', hs⟩ := List.mem_filter.mp ht
    obtain ⟨y, hy⟩ := Option.isSome_iff_exists.mp hs
    obtain ⟨s, hsT, hs⟩ := cnt_pos (h t y hy)
    exact List.mem_map.mpr ⟨s, hin hs, by rw [hs]; rfl⟩) (by simp)
  refine ⟨fun a b x ha hb => inj_map h1 (hin ha) (hin hb) (by rw [ha, hb]), fun t x e => ?_⟩
  have := h2 x (List.mem_map.mpr ⟨t, hin e, by rw [e]; rfl⟩)
  exact Option.isSome_iff_exists.mp (List.mem_filter.mp this).2

/-! ### the document's walk finds the leading places -/
theorem back_iff (F : PF) (t0 : Int) : ∀ (m : Nat) (least at_ : Int), least ≤ t0 → (back F t0 m least at_ = true ↔ least = t0 ∧ ∃ j, j ≤ m ∧ it F j at_ = some t0 ∧ ∀ i, i < j → ∀ y, it F i at_ = some y → t0 ≤ y)
  | 0, least, at_, hle => by
    simp only [back, decide_eq_true_eq]
    constructor
    · rintro ⟨h1, h2⟩
      exact ⟨h2, 0, Nat.le_refl _, by rw [h1]; rfl, fun i hi => absurd hi (Nat.not_lt_zero i)⟩
    · rintro ⟨h1, j, hj, h2, _⟩
      obtain rfl : j = 0 := by omega
      simp only [it, Option.some.injEq] at h2
      exact ⟨h2, h1⟩
  | m + 1, least, at_, hle => by
    rw [back]
    by_cases c0 : at_ = t0
    · rw [if_pos c0]
      simp only [decide_eq_true_eq]
      exact ⟨fun h => ⟨h, 0, by omega, by rw [c0]; rfl, fun i hi => absurd hi (Nat.not_lt_zero i)⟩, fun h => h.1⟩
    · rw [if_neg c0]
      cases hs : F at_ with
      | none =>
        simp only [Bool.false_eq_true, false_iff]
        rintro ⟨_, j, _, hj, _⟩
        cases j with
        | zero => simp only [it, Option.some.injEq] at hj; exact c0 hj
        | succ j => simp [it, hs] at hj
      | some s =>
        simp only
        rw [back_iff F t0 m (mn least at_) s (mn_bound hle)]
        have hmn : mn least at_ = t0 ↔ least = t0 ∧ t0 ≤ at_ := by
          unfold mn
          split <;> omega
        rw [hmn]
        constructor
        · rintro ⟨⟨h1, h2⟩, j, hj, h3, h4⟩
          refine ⟨h1, j + 1, by omega, by simp only [it, hs, Option.bind_some]; exact h3, fun i hi y hy => ?_⟩
          cases i with
          | zero => simp only [it, Option.some.injEq] at hy; omega
          | succ i =>
            simp only [it, hs, Option.bind_some] at hy
            exact h4 i (by omega) y hy
        · rintro ⟨h1, j, hj, h3, h4⟩
          cases j with
          | zero => simp only [it, Option.some.injEq] at h3; exact absurd h3 c0
          | succ j =>
            simp only [it, hs, Option.bind_some] at h3
            refine ⟨⟨h1, h4 0 (by omega) at_ rfl⟩, j, by omega, h3, fun i hi y hy => h4 (i + 1) (by omega) y (by simp only [it, hs, Option.bind_some]; exact hy)⟩
/-- The shortest way round. -/
theorem short {T : List Int} {F : PF} (hdom : ∀ t y, F t = some y → t ∈ T) {t : Int} : ∀ (m : Nat), it F (m + 1) t = some t → ∃ m', m' < T.length ∧ it F (m' + 1) t = some t := by
  intro m
  induction m using Nat.strongRecOn with
  | ind m ih =>
    intro hm
    by_cases hs : ∃ m', m' < m ∧ it F (m' + 1) t = some t
    · obtain ⟨m', h1, h2⟩ := hs
      exact ih m' h1 h2
    · refine ⟨m, ?_, hm⟩
      have hstep : ∀ a, a ≤ m → ∃ y, it F a t = some y ∧ it F (m + 1 - a) y = some t := by
        intro a ha
        have : it F (a + (m + 1 - a)) t = some t := by rw [show a + (m + 1 - a) = m + 1 by omega]; exact hm
        rw [it_add] at this
        exact Option.bind_eq_some_iff.mp this
      have hN : ((List.range (m + 1)).map (fun a => (it F a t).getD 0)).Nodup := by
        rw [List.Nodup, List.pairwise_map]
        refine List.Pairwise.imp_of_mem ?_ (List.pairwise_lt_range (n := m + 1))
        intro a b ha hb hab e
        have ha' := List.mem_range.mp ha
        have hb' := List.mem_range.mp hb
        obtain ⟨y, hy, _⟩ := hstep a (by omega)
        obtain ⟨z, hz, hz'⟩ := hstep b (by omega)
        rw [hy, hz] at e
        simp only [Option.getD_some] at e
        subst e
        refine hs ⟨a + (m - b), by omega, ?_⟩
        rw [show a + (m - b) + 1 = a + (m + 1 - b) by omega, it_add, hy]
        exact hz'
      have hl := nodup_len (B := T) hN (fun y hy => by
        obtain ⟨a, ha, e⟩ := List.mem_map.mp hy
        have ha' := List.mem_range.mp ha
        obtain ⟨z, hz, hz'⟩ := hstep a (by omega)
        rw [hz] at e
        simp only [Option.getD_some] at e
        subst e
        rw [show m + 1 - a = (m - a) + 1 by omega] at hz'
        simp only [it] at hz'
        obtain ⟨u, hu, _⟩ := Option.bind_eq_some_iff.mp hz'
        exact hdom _ _ hu)
      simp at hl
      omega
theorem back_lead {T : List Int} {F : PF} (hdom : ∀ t y, F t = some y → t ∈ T) {t f : Int} (hf : F t = some f) : back F t T.length t f = true ↔ Lead F t := by
  rw [back_iff F t _ t f (Int.le_refl _)]
  constructor
  · rintro ⟨_, j, _, h1, h2⟩
    have hc : it F (j + 1) t = some t := by simp only [it, hf, Option.bind_some]; exact h1
    refine ⟨⟨j, hc⟩, fun i => ?_⟩
    induction i using Nat.strongRecOn with
    | ind i ih =>
      intro y hy
      by_cases hi : i ≤ j
      · cases i with
        | zero => simp only [it, Option.some.injEq] at hy; omega
        | succ i =>
          simp only [it, hf, Option.bind_some] at hy
          exact h2 i (by omega) y hy
      · refine ih (i - (j + 1)) (by omega) y ?_
        rw [show i = (j + 1) + (i - (j + 1)) by omega, it_add, hc] at hy
        exact hy
  · rintro ⟨⟨m, hm⟩, h2⟩
    obtain ⟨m', hlt, hm'⟩ := short hdom m hm
    refine ⟨rfl, m', by omega, ?_, fun i hi y hy => ?_⟩
    · simp only [it, hf, Option.bind_some] at hm'
      exact hm'
    · exact h2 (i + 1) y (by simp only [it, hf, Option.bind_some]; exact hy)
end Go.Proofs.Ytcfomfcalpnbcaa.Mv
