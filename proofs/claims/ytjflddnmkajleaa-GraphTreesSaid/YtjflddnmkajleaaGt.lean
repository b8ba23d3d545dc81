/- Plain law, no program in sight: dominators by rounds (each point gets the meet of those that lead to it, in an order of leaving) are the immediate ones. -/
namespace Go.Proofs.Ytjflddnmkajleaa.Dm

/-- Come to from 0 by steps of E without a point. -/
inductive Av (E : Nat → Nat → Prop) (d : Int) : Nat → Prop
  | base (h : (0 : Int) ≠ d) : Av E d 0
  | step {u v : Nat} (h : Av E d u) (e : E u v) (hv : (v : Int) ≠ d) : Av E d v
/-- An order of leaving. -/
structure Ord (n : Nat) (E : Nat → Nat → Prop) (o : List Nat) : Prop where
  head : ∃ t, o = 0 :: t
  nodup : o.Nodup
  lt : ∀ v ∈ o, v < n
  par : ∀ v ∈ o, v ≠ 0 → ∃ u ∈ o, E u v ∧ o.idxOf u < o.idxOf v
  closed : ∀ u ∈ o, ∀ v, E u v → v ∈ o
variable {n : Nat} {E : Nat → Nat → Prop} {o : List Nat}
theorem zero_in (O : Ord n E o) : 0 ∈ o := by
  obtain ⟨t, h⟩ := O.head
  rw [h]; simp
theorem rank_zero (O : Ord n E o) : o.idxOf 0 = 0 := by
  obtain ⟨t, h⟩ := O.head
  rw [h]; simp
theorem idx_inj {a b : Nat} (ha : a ∈ o) (hb : b ∈ o) (h : o.idxOf a = o.idxOf b) : a = b := by
  have h1 := List.getElem_idxOf (List.idxOf_lt_length_iff.mpr ha)
  have h2 := List.getElem_idxOf (List.idxOf_lt_length_iff.mpr hb)
  rw [← h1, ← h2]
  simp only [h]
theorem rank_pos (O : Ord n E o) {v : Nat} (hv : v ∈ o) (h : v ≠ 0) : 0 < o.idxOf v := by
  rcases Nat.eq_zero_or_pos (o.idxOf v) with h0 | h0
  · exact absurd (idx_inj hv (zero_in O) (by rw [h0, rank_zero O])) h
  · exact h0
theorem av_in (O : Ord n E o) {d : Int} {v : Nat} (h : Av E d v) : v ∈ o := by
  induction h with
  | base h => exact zero_in O
  | step h e hv ih => exact O.closed _ ih _ e
theorem in_av (O : Ord n E o) : ∀ (m v : Nat), o.idxOf v ≤ m → v ∈ o → Av E (-1) v := by
  intro m
  induction m with
  | zero =>
    intro v hm hv
    by_cases h : v = 0
    · subst h; exact .base (by decide)
    · have := rank_pos O hv h; omega
  | succ m ih =>
    intro v hm hv
    by_cases h : v = 0
    · subst h; exact .base (by decide)
    · obtain ⟨u, hu, e, hr⟩ := O.par v hv h
      exact .step (ih u (by omega) hu) e (by omega)
theorem av_iff (O : Ord n E o) (v : Nat) : Av E (-1) v ↔ v ∈ o := ⟨av_in O, in_av O _ v (Nat.le_refl _)⟩
theorem av_ne {d : Nat} {v : Nat} (h : Av E (d : Int) v) : v ≠ d := by
  cases h with
  | base h => omega
  | step h e hv => omega
/-- The first dominates the second. -/
def Dom (E : Nat → Nat → Prop) (o : List Nat) (d v : Nat) : Prop := d ∈ o ∧ v ∈ o ∧ (d = v ∨ ¬ Av E (d : Int) v)
theorem dom_refl {v : Nat} (h : v ∈ o) : Dom E o v v := ⟨h, h, .inl rfl⟩
theorem dom_pred {d u k : Nat} (h : Dom E o d k) (hd : d ≠ k) (hu : u ∈ o) (e : E u k) : Dom E o d u := by
  refine ⟨h.1, hu, ?_⟩
  by_cases hdu : d = u
  · exact .inl hdu
  · right
    intro ha
    rcases h.2.2 with h2 | h2
    · exact hd h2
    · exact h2 (.step ha e (by omega))
theorem dom_zero {d : Nat} (h : Dom E o d 0) : d = 0 := by
  rcases h.2.2 with h2 | h2
  · exact h2
  · by_cases hd : d = 0
    · exact hd
    · exact absurd (Av.base (by omega)) h2
theorem zero_dom (O : Ord n E o) {v : Nat} (hv : v ∈ o) : Dom E o 0 v := by
  refine ⟨zero_in O, hv, ?_⟩
  right
  intro h
  induction h with
  | base h => simp at h
  | step h e hv' ih => exact ih (av_in O h)
theorem dom_rank (O : Ord n E o) {d : Nat} : ∀ (m v : Nat), o.idxOf v ≤ m → Dom E o d v → o.idxOf d ≤ o.idxOf v := by
  intro m
  induction m with
  | zero =>
    intro v hm h
    by_cases hv : v = 0
    · subst hv; rw [dom_zero h]; exact Nat.le_refl _
    · have := rank_pos O h.2.1 hv; omega
  | succ m ih =>
    intro v hm h
    by_cases hdv : d = v
    · subst hdv; exact Nat.le_refl _
    · by_cases hv : v = 0
      · subst hv; rw [dom_zero h]; exact Nat.le_refl _
      · obtain ⟨u, hu, e, hr⟩ := O.par v h.2.1 hv
        have := ih u (by omega) (dom_pred h hdv hu e)
        omega
theorem av_split {d : Int} {y : Nat} {x : Nat} (h : Av E d x) : Av E (y : Int) x ∨ Av E d y := by
  induction h with
  | base h =>
    by_cases hy : y = 0
    · subst hy; exact .inr (.base h)
    · exact .inl (.base (by omega))
  | @step u v h e hv ih =>
    rcases ih with ih | ih
    · by_cases hy : v = y
      · subst hy; exact .inr (.step h e hv)
      · exact .inl (.step ih e (by omega))
    · exact .inr ih
theorem dom_trans {c d v : Nat} (h1 : Dom E o c d) (h2 : Dom E o d v) : Dom E o c v := by
  refine ⟨h1.1, h2.2.1, ?_⟩
  rcases h2.2.2 with h | h
  · subst h; exact h1.2.2
  · rcases h1.2.2 with h' | h'
    · subst h'; exact .inr h
    · right
      intro ha
      rcases av_split (y := d) ha with h3 | h3
      · exact h h3
      · exact h' h3
theorem dom_anti (O : Ord n E o) {c d : Nat} (h1 : Dom E o c d) (h2 : Dom E o d c) : c = d := by
  have := dom_rank O _ d (Nat.le_refl _) h1
  have := dom_rank O _ c (Nat.le_refl _) h2
  exact idx_inj h1.1 h2.1 (by omega)

/-- As Av, with so many steps that do not go forward. -/
inductive AvR (E : Nat → Nat → Prop) (o : List Nat) (d : Int) : Nat → Nat → Prop
  | base (h : (0 : Int) ≠ d) : AvR E o d 0 0
  | fwd {q u v : Nat} (h : AvR E o d q u) (e : E u v) (hr : o.idxOf u < o.idxOf v) (hv : (v : Int) ≠ d) : AvR E o d q v
  | back {q u v : Nat} (h : AvR E o d q u) (e : E u v) (hv : (v : Int) ≠ d) : AvR E o d (q + 1) v
theorem avr_av {d : Int} {q v : Nat} (h : AvR E o d q v) : Av E d v := by
  induction h with
  | base h => exact .base h
  | fwd h e hr hv ih => exact .step ih e hv
  | back h e hv ih => exact .step ih e hv
theorem av_avr {d : Int} {v : Nat} (h : Av E d v) : ∃ q, AvR E o d q v := by
  induction h with
  | base h => exact ⟨0, .base h⟩
  | step h e hv ih =>
    obtain ⟨q, hq⟩ := ih
    exact ⟨q + 1, .back hq e hv⟩
theorem avr_split {d : Int} {y : Nat} {q x : Nat} (h : AvR E o d q x) : AvR E o (y : Int) q x ∨ ∃ q', q' ≤ q ∧ AvR E o d q' y := by
  induction h with
  | base h =>
    by_cases hy : y = 0
    · subst hy; exact .inr ⟨0, Nat.le_refl _, .base h⟩
    · exact .inl (.base (by omega))
  | @fwd q u v h e hr hv ih =>
    rcases ih with ih | ⟨q', h1, h2⟩
    · by_cases hy : v = y
      · subst hy; exact .inr ⟨q, Nat.le_refl _, .fwd h e hr hv⟩
      · exact .inl (.fwd ih e hr (by omega))
    · exact .inr ⟨q', h1, h2⟩
  | @back q u v h e hv ih =>
    rcases ih with ih | ⟨q', h1, h2⟩
    · by_cases hy : v = y
      · subst hy; exact .inr ⟨q + 1, Nat.le_refl _, .back h e hv⟩
      · exact .inl (.back ih e (by omega))
    · exact .inr ⟨q', by omega, h2⟩

/-! ### the table under work -/
/-- It stands at a point: 0, or one that has an entry. -/
def Set (S : Nat → Int) (v : Nat) : Prop := v = 0 ∨ 0 ≤ S v
structure Inv (n : Nat) (E : Nat → Nat → Prop) (o : List Nat) (S : Nat → Int) : Prop where
  none : ∀ v, v < n → (v = 0 ∨ v ∉ o) → S v = -1
  low : ∀ v, v < n → -1 ≤ S v
  pt : ∀ v, v < n → 0 ≤ S v → v ∈ o ∧ (S v).toNat ∈ o ∧ o.idxOf (S v).toNat < o.idxOf v ∧ Set S (S v).toNat ∧ ∀ d, Dom E o d v → d ≠ v → Dom E o d (S v).toNat
/-- The first stands on the way up from the second. -/
inductive Anc (S : Nat → Int) (m : Nat) : Nat → Prop
  | refl : Anc S m m
  | up {x : Nat} (h0 : 0 ≤ S x) (h : Anc S m (S x).toNat) : Anc S m x
theorem anc_rank (O : Ord n E o) {S : Nat → Int} (I : Inv n E o S) {m x : Nat} (h : Anc S m x) : x ∈ o → o.idxOf m ≤ o.idxOf x ∧ m ∈ o := by
  induction h with
  | refl => intro hx; exact ⟨Nat.le_refl _, hx⟩
  | @up x h0 h ih =>
    intro hx
    obtain ⟨_, p1, p2, _, _⟩ := I.pt x (O.lt x hx) h0
    obtain ⟨i1, i2⟩ := ih p1
    exact ⟨by omega, i2⟩
theorem anc_trans {S : Nat → Int} {a b c : Nat} (h1 : Anc S a b) (h2 : Anc S b c) : Anc S a c := by
  induction h2 with
  | refl => exact h1
  | up h0 h ih => exact .up h0 ih
/-- The meet's rounds. -/
inductive Meet (o : List Nat) (S : Nat → Int) : Nat → Nat → Nat → Prop
  | done (a : Nat) : Meet o S a a a
  | second {a b m : Nat} (hne : a ≠ b) (hr : o.idxOf a < o.idxOf b) (h0 : 0 ≤ S b) (h : Meet o S (S b).toNat a m) : Meet o S a b m
  | first {a b m : Nat} (hne : a ≠ b) (hr : ¬ o.idxOf a < o.idxOf b) (h0 : 0 ≤ S a) (h : Meet o S (S a).toNat b m) : Meet o S a b m
theorem meet_is (O : Ord n E o) {S : Nat → Int} (I : Inv n E o S) : ∀ (k a b : Nat), o.idxOf a + o.idxOf b ≤ k → a ∈ o → b ∈ o → Set S a → Set S b →
    ∃ m, Meet o S a b m ∧ m ∈ o ∧ Set S m ∧ Anc S m a ∧ Anc S m b ∧ ∀ d, Dom E o d a → Dom E o d b → Dom E o d m := by
  intro k
  induction k with
  | zero =>
    intro a b hk ha hb sa sb
    have : a = b := idx_inj ha hb (by omega)
    subst this
    exact ⟨a, .done a, ha, sa, .refl, .refl, fun d h _ => h⟩
  | succ k ih =>
    intro a b hk ha hb sa sb
    by_cases hab : a = b
    · subst hab
      exact ⟨a, .done a, ha, sa, .refl, .refl, fun d h _ => h⟩
    · by_cases hr : o.idxOf a < o.idxOf b
      · have hb0 : b ≠ 0 := by
          intro h; subst h; rw [rank_zero O] at hr; omega
        have h0 : 0 ≤ S b := by rcases sb with h | h; exact absurd h hb0; exact h
        obtain ⟨_, p1, p2, p3, p4⟩ := I.pt b (O.lt b hb) h0
        obtain ⟨m, q1, q2, q3, q4, q5, q6⟩ := ih (S b).toNat a (by omega) p1 ha p3 sa
        refine ⟨m, .second hab hr h0 q1, q2, q3, q5, .up h0 q4, fun d da db => ?_⟩
        refine q6 d (p4 d db ?_) da
        intro hdb
        subst hdb
        have := dom_rank O _ a (Nat.le_refl _) da
        omega
      · have hne : o.idxOf a ≠ o.idxOf b := fun h => hab (idx_inj ha hb h)
        have ha0 : a ≠ 0 := by
          intro h; subst h; rw [rank_zero O] at hr hne; omega
        have h0 : 0 ≤ S a := by rcases sa with h | h; exact absurd h ha0; exact h
        obtain ⟨_, p1, p2, p3, p4⟩ := I.pt a (O.lt a ha) h0
        obtain ⟨m, q1, q2, q3, q4, q5, q6⟩ := ih (S a).toNat b (by omega) p1 hb p3 sb
        refine ⟨m, .first hab hr h0 q1, q2, q3, .up h0 q4, q5, fun d da db => ?_⟩
        refine q6 d (p4 d da ?_) db
        intro hda
        subst hda
        have := dom_rank O _ b (Nat.le_refl _) db
        omega
/-- The best of a list of those that lead to a point; -1: none yet. -/
inductive Best (o : List Nat) (S : Nat → Int) : Int → List Nat → Int → Prop
  | nil (b : Int) : Best o S b [] b
  | skip {b r : Int} {x : Nat} {xs : List Nat} (hx : ¬ Set S x) (h : Best o S b xs r) : Best o S b (x :: xs) r
  | new {b r : Int} {x : Nat} {xs : List Nat} (hx : Set S x) (hb : b < 0) (h : Best o S (x : Int) xs r) : Best o S b (x :: xs) r
  | meet {b r : Int} {x m : Nat} {xs : List Nat} (hx : Set S x) (hb : 0 ≤ b) (hm : Meet o S b.toNat x m) (h : Best o S (m : Int) xs r) : Best o S b (x :: xs) r
/-- What a best is good for. -/
def Good (E : Nat → Nat → Prop) (o : List Nat) (S : Nat → Int) (xs : List Nat) (b : Int) : Prop :=
  (b = -1 ∧ ∀ x ∈ xs, ¬ Set S x) ∨ (0 ≤ b ∧ b.toNat ∈ o ∧ Set S b.toNat ∧ (∀ x ∈ xs, Set S x → Anc S b.toNat x) ∧ ∀ d, (∀ x ∈ xs, Set S x → Dom E o d x) → Dom E o d b.toNat)
theorem best_is (O : Ord n E o) {S : Nat → Int} (I : Inv n E o S) : ∀ (xs pre : List Nat) (b : Int), (∀ x ∈ xs, Set S x → x ∈ o) → Good E o S pre b → ∃ r, Best o S b xs r ∧ Good E o S (pre ++ xs) r
  | [], pre, b, hx, g => ⟨b, .nil b, by simpa using g⟩
  | x :: xs, pre, b, hx, g => by
    have hrest : ∀ y ∈ xs, Set S y → y ∈ o := fun y hy => hx y (by simp [hy])
    by_cases sx : Set S x
    · have xo := hx x (by simp) sx
      rcases g with ⟨g1, g2⟩ | ⟨g1, g2, g3, g4, g5⟩
      · obtain ⟨r, r1, r2⟩ := best_is O I xs (pre ++ [x]) (x : Int) hrest (.inr ⟨by omega, by simpa using xo, by simpa using sx, by
          intro y hy sy
          rcases List.mem_append.mp hy with hy | hy
          · exact absurd sy (g2 y hy)
          · simp at hy; subst hy; simpa using Anc.refl, by
          intro d hd
          simpa using hd x (by simp) sx⟩)
        exact ⟨r, .new sx (by omega) r1, by simpa using r2⟩
      · obtain ⟨m, m1, m2, m3, m4, m5, m6⟩ := meet_is O I _ b.toNat x (Nat.le_refl _) g2 xo g3 sx
        obtain ⟨r, r1, r2⟩ := best_is O I xs (pre ++ [x]) (m : Int) hrest (.inr ⟨by omega, by simpa using m2, by simpa using m3, by
          intro y hy sy
          rcases List.mem_append.mp hy with hy | hy
          · simpa using anc_trans m4 (g4 y hy sy)
          · simp at hy; subst hy; simpa using m5, by
          intro d hd
          have h1 := g5 d (fun y hy sy => hd y (by simp [hy]) sy)
          have h2 := hd x (by simp) sx
          simpa using m6 d h1 h2⟩)
        exact ⟨r, .meet sx g1 m1 r1, by simpa using r2⟩
    · have g' : Good E o S (pre ++ [x]) b := by
        rcases g with ⟨g1, g2⟩ | ⟨g1, g2, g3, g4, g5⟩
        · left
          refine ⟨g1, fun y hy => ?_⟩
          rcases List.mem_append.mp hy with hy | hy
          · exact g2 y hy
          · simp at hy; subst hy; exact sx
        · right
          refine ⟨g1, g2, g3, fun y hy sy => ?_, fun d hd => g5 d fun y hy => hd y (by simp [hy])⟩
          rcases List.mem_append.mp hy with hy | hy
          · exact g4 y hy sy
          · simp at hy; subst hy; exact absurd sy sx
      obtain ⟨r, r1, r2⟩ := best_is O I xs (pre ++ [x]) b hrest g'
      exact ⟨r, .skip sx r1, by simpa using r2⟩

theorem meet_det {S : Nat → Int} {a b m : Nat} (h : Meet o S a b m) : ∀ m', Meet o S a b m' → m = m' := by
  induction h with
  | done a =>
    intro m' h'
    cases h' with
    | done => rfl
    | second hne => exact absurd rfl hne
    | first hne => exact absurd rfl hne
  | second hne hr h0 h ih =>
    intro m' h'
    cases h' with
    | done => exact absurd rfl hne
    | second _ _ _ h2 => exact ih m' h2
    | first _ hr' => exact absurd hr hr'
  | first hne hr h0 h ih =>
    intro m' h'
    cases h' with
    | done => exact absurd rfl hne
    | second _ hr' => exact absurd hr' hr
    | first _ _ _ h2 => exact ih m' h2
theorem best_det {S : Nat → Int} {b r : Int} {xs : List Nat} (h : Best o S b xs r) : ∀ r', Best o S b xs r' → r = r' := by
  induction h with
  | nil b => intro r' h'; cases h'; rfl
  | skip hx h ih =>
    intro r' h'
    cases h' with
    | skip _ h2 => exact ih r' h2
    | new hx' => exact absurd hx' hx
    | meet hx' => exact absurd hx' hx
  | new hx hb h ih =>
    intro r' h'
    cases h' with
    | skip hx' => exact absurd hx hx'
    | new _ _ h2 => exact ih r' h2
    | meet _ hb' => omega
  | meet hx hb hm h ih =>
    intro r' h'
    cases h' with
    | skip hx' => exact absurd hx hx'
    | new _ hb' => omega
    | meet _ _ hm' h2 =>
      have := meet_det hm _ hm'
      subst this
      exact ih r' h2
def upd (S : Nat → Int) (k : Nat) (b : Int) : Nat → Int := fun v => if v = k then b else S v
theorem upd_same {S : Nat → Int} {k : Nat} : upd S k (S k) = S := by
  funext v
  simp only [upd]
  split
  · rename_i h; rw [h]
  · rfl
/-- One pass. -/
inductive PassR (o : List Nat) (preds : Nat → List Nat) : List Nat → (Nat → Int) → Bool → (Nat → Int) → Bool → Prop
  | nil (S : Nat → Int) (ch : Bool) : PassR o preds [] S ch S ch
  | same {k : Nat} {ks : List Nat} {S S' : Nat → Int} {ch ch' : Bool} (h : Best o S (-1) (preds k) (S k)) (hr : PassR o preds ks S ch S' ch') : PassR o preds (k :: ks) S ch S' ch'
  | chg {k : Nat} {ks : List Nat} {S S' : Nat → Int} {ch ch' : Bool} {b : Int} (h : Best o S (-1) (preds k) b) (hne : S k ≠ b) (hr : PassR o preds ks (upd S k b) true S' ch') : PassR o preds (k :: ks) S ch S' ch'
theorem pass_det {preds : Nat → List Nat} {ks : List Nat} {S S' : Nat → Int} {ch ch' : Bool} (h : PassR o preds ks S ch S' ch') : ∀ S2 ch2, PassR o preds ks S ch S2 ch2 → S' = S2 ∧ ch' = ch2 := by
  induction h with
  | nil S ch => intro S2 ch2 h2; cases h2; exact ⟨rfl, rfl⟩
  | same h hr ih =>
    intro S2 ch2 h2
    cases h2 with
    | same _ hr2 => exact ih _ _ hr2
    | chg h' hne _ => exact absurd (best_det h _ h') hne
  | chg h hne hr ih =>
    intro S2 ch2 h2
    cases h2 with
    | same h' _ => exact absurd (best_det h' _ h) hne
    | chg h' _ hr2 =>
      have := best_det h _ h'
      subst this
      exact ih _ _ hr2
theorem pass_frame {preds : Nat → List Nat} {ks : List Nat} {S S' : Nat → Int} {ch ch' : Bool} (h : PassR o preds ks S ch S' ch') : ∀ v, v ∉ ks → S' v = S v := by
  induction h with
  | nil => intro v _; rfl
  | same h hr ih => intro v hv; exact ih v (fun hm => hv (by simp [hm]))
  | @chg k ks S S' ch ch' b h hne hr ih =>
    intro v hv
    rw [ih v (fun hm => hv (by simp [hm]))]
    simp only [upd]
    rw [if_neg (fun e => hv (by simp [e]))]
theorem pass_chg {preds : Nat → List Nat} {ks : List Nat} {S S' : Nat → Int} {ch ch' : Bool} (h : PassR o preds ks S ch S' ch') : ks.Nodup → ch' = true → ch = true ∨ ∃ k, S' k ≠ S k := by
  induction h with
  | nil => intro _ h; exact .inl h
  | same h hr ih => intro hn hc; exact ih (List.nodup_cons.mp hn).2 hc
  | @chg k ks S S' ch ch' b h hne hr ih =>
    intro hn hc
    right
    refine ⟨k, ?_⟩
    rw [pass_frame hr k (List.nodup_cons.mp hn).1]
    simp only [upd, if_true]
    exact fun e => hne e.symm
theorem pass_quiet {preds : Nat → List Nat} {ks : List Nat} {S S' : Nat → Int} {ch ch' : Bool} (h : PassR o preds ks S ch S' ch') : (ch = true → ch' = true) ∧ (ch' = false → S' = S) := by
  induction h with
  | nil => exact ⟨fun h => h, fun _ => rfl⟩
  | same h hr ih => exact ih
  | chg h hne hr ih =>
    refine ⟨fun _ => ih.1 rfl, fun h => ?_⟩
    rw [ih.1 rfl] at h
    cases h

/-- What so many passes have brought to a point. -/
def Lp (E : Nat → Nat → Prop) (o : List Nat) (S : Nat → Int) (p v : Nat) : Prop := (1 ≤ p → v ≠ 0 → 0 ≤ S v) ∧ (0 ≤ S v → ∀ q, q < p → ¬ AvR E o (S v) q v)
theorem chain_av (O : Ord n E o) {S : Nat → Int} (I : Inv n E o S) {m x : Nat} (h : Anc S m x) : ∀ q, x ∈ o → (∀ w ∈ o, o.idxOf w ≤ o.idxOf x → 0 ≤ S w → ∀ q', q' ≤ q → ¬ AvR E o (S w) q' w) → ¬ AvR E o (m : Int) q x := by
  induction h with
  | refl => intro q hx hL ha; exact av_ne (avr_av ha) rfl
  | @up x h0 h ih =>
    intro q hx hL ha
    obtain ⟨_, p1, p2, _, _⟩ := I.pt x (O.lt x hx) h0
    rcases avr_split (y := (S x).toNat) ha with hs | ⟨q', hq, hs⟩
    · refine hL x hx (Nat.le_refl _) h0 q (Nat.le_refl _) ?_
      rw [Int.toNat_of_nonneg h0] at hs
      exact hs
    · exact ih q' p1 (fun w hw hr h0 q'' hq'' => hL w hw (by omega) h0 q'' (by omega)) hs
structure Mid (n : Nat) (E : Nat → Nat → Prop) (o : List Nat) (S : Nat → Int) (p j : Nat) : Prop where
  inv : Inv n E o S
  old : ∀ v ∈ o, Lp E o S p v
  new : ∀ v ∈ o, v ≠ 0 → o.idxOf v < j → Lp E o S (p + 1) v
theorem step_is (O : Ord n E o) (preds : Nat → List Nat) (hp : ∀ k ∈ o, ∀ x, x ∈ preds k ↔ E x k) (hE : ∀ u v, E u v → u < n) {S : Nat → Int} {p j k : Nat} (M : Mid n E o S p j) (hk : k ∈ o) (hj : o.idxOf k = j) (h1 : 1 ≤ j) :
    ∃ b, Best o S (-1) (preds k) b ∧ Mid n E o (upd S k b) p (j + 1) := by
  have hk0 : k ≠ 0 := by
    intro h; subst h; rw [rank_zero O] at hj; omega
  have hkn := O.lt k hk
  have hset : ∀ x ∈ preds k, Set S x → x ∈ o := by
    intro x hx sx
    rcases sx with sx | sx
    · subst sx; exact zero_in O
    · exact (M.inv.pt x (hE x k ((hp k hk x).mp hx)) sx).1
  obtain ⟨b, hb, hg⟩ := best_is O M.inv (preds k) [] (-1) hset (.inl ⟨rfl, by simp⟩)
  simp only [List.nil_append] at hg
  obtain ⟨u, hu, hue, hur⟩ := O.par k hk hk0
  have su : Set S u := by
    by_cases h : u = 0
    · exact .inl h
    · exact .inr ((M.new u hu h (by omega)).1 (by omega) h)
  have hup : u ∈ preds k := (hp k hk u).mpr hue
  rcases hg with ⟨g1, g2⟩ | ⟨g1, g2, g3, g4, g5⟩
  · exact absurd su (g2 u hup)
  · have hrb : o.idxOf b.toNat < o.idxOf k := by
      have := (anc_rank O M.inv (g4 u hup su) hu).1
      omega
    have hbk : b.toNat ≠ k := by
      intro h; rw [h] at hrb; omega
    have hdom : ∀ d, Dom E o d k → d ≠ k → Dom E o d b.toNat := by
      intro d hd hdk
      refine g5 d (fun x hx sx => ?_)
      exact dom_pred hd hdk (hset x hx sx) ((hp k hk x).mp hx)
    have hnew : ∀ q, q < p + 1 → ¬ AvR E o b q k := by
      intro q hq ha
      have hbb : b = ((b.toNat : Nat) : Int) := by omega
      rw [hbb] at ha
      cases ha with
      | base h => exact hk0 rfl
      | @fwd q u' v h e hr hv =>
        have hu' := av_in O (avr_av h)
        have su' : Set S u' := by
          by_cases h0 : u' = 0
          · exact .inl h0
          · exact .inr ((M.new u' hu' h0 (by omega)).1 (by omega) h0)
        refine chain_av O M.inv (g4 u' ((hp k hk u').mpr e) su') q hu' (fun w hw hwr h0 q' hq' => ?_) h
        have hw0 : w ≠ 0 := by
          intro hh; subst hh
          have := M.inv.none 0 (O.lt 0 hw) (.inl rfl)
          omega
        exact (M.new w hw hw0 (by omega)).2 h0 q' (by omega)
      | @back q u' v h e hv =>
        have hu' := av_in O (avr_av h)
        have su' : Set S u' := by
          by_cases h0 : u' = 0
          · exact .inl h0
          · exact .inr ((M.old u' hu').1 (by omega) h0)
        refine chain_av O M.inv (g4 u' ((hp k hk u').mpr e) su') q hu' (fun w hw hwr h0 q' hq' => ?_) h
        exact (M.old w hw).2 h0 q' (by omega)
    have hS : ∀ v, v ≠ k → upd S k b v = S v := fun v hv => by simp only [upd]; rw [if_neg hv]
    have hSk : upd S k b k = b := by simp only [upd, if_true]
    have set' : ∀ y, Set S y → Set (upd S k b) y := by
      intro y hy
      by_cases h : y = k
      · subst h; right; rw [hSk]; exact g1
      · rcases hy with hy | hy
        · exact .inl hy
        · right; rw [hS y h]; exact hy
    refine ⟨b, hb, ⟨⟨?_, ?_, ?_⟩, ?_, ?_⟩⟩
    · intro v hv h
      have : v ≠ k := by
        rintro rfl
        rcases h with h | h
        · exact hk0 h
        · exact h hk
      rw [hS v this]
      exact M.inv.none v hv h
    · intro v hv
      by_cases h : v = k
      · subst h; rw [hSk]; omega
      · rw [hS v h]; exact M.inv.low v hv
    · intro v hv h0
      by_cases h : v = k
      · subst h
        rw [hSk]
        exact ⟨hk, g2, hrb, set' _ g3, hdom⟩
      · rw [hS v h] at h0 ⊢
        obtain ⟨p0, p1, p2, p3, p4⟩ := M.inv.pt v hv h0
        exact ⟨p0, p1, p2, set' _ p3, p4⟩
    · intro v hv
      by_cases h : v = k
      · subst h
        refine ⟨fun _ _ => by rw [hSk]; exact g1, fun _ q hq => ?_⟩
        rw [hSk]
        exact hnew q (by omega)
      · have := M.old v hv
        unfold Lp at this ⊢
        rw [hS v h]
        exact this
    · intro v hv hv0 hvj
      by_cases h : v = k
      · subst h
        refine ⟨fun _ _ => by rw [hSk]; exact g1, fun _ q hq => ?_⟩
        rw [hSk]
        exact hnew q hq
      · have hlt : o.idxOf v < j := by
          have : o.idxOf v ≠ j := by
            intro he
            exact h (idx_inj hv hk (by omega))
          omega
        have := M.new v hv hv0 hlt
        unfold Lp at this ⊢
        rw [hS v h]
        exact this
theorem pass_is (O : Ord n E o) (preds : Nat → List Nat) (hp : ∀ k ∈ o, ∀ x, x ∈ preds k ↔ E x k) (hE : ∀ u v, E u v → u < n) {p : Nat} : ∀ (ks : List Nat) (j : Nat) (S : Nat → Int) (ch : Bool), o.drop j = ks → 1 ≤ j → Mid n E o S p j →
    ∃ S' ch', PassR o preds ks S ch S' ch' ∧ Mid n E o S' p (max j o.length)
  | [], j, S, ch, hd, h1, M => by
    have : o.length ≤ j := by
      have := congrArg List.length hd
      simp at this
      omega
    exact ⟨S, ch, .nil S ch, by rw [Nat.max_eq_left this]; exact M⟩
  | k :: ks, j, S, ch, hd, h1, M => by
    have hjl : j < o.length := by
      have := congrArg List.length hd
      simp at this
      omega
    have hkj : o[j] = k := by
      have := List.drop_eq_getElem_cons hjl
      rw [hd] at this
      exact (List.cons.inj this).1.symm
    have hk : k ∈ o := hkj ▸ List.getElem_mem hjl
    have hix : o.idxOf k = j := by
      rw [← hkj]
      exact O.nodup.idxOf_getElem j hjl
    have hd' : o.drop (j + 1) = ks := by
      have := List.drop_eq_getElem_cons hjl
      rw [hd] at this
      exact (List.cons.inj this).2.symm
    obtain ⟨b, hb, hM⟩ := step_is O preds hp hE M hk hix h1
    by_cases he : S k = b
    · subst he
      rw [upd_same] at hM
      obtain ⟨S', ch', h1', h2'⟩ := pass_is O preds hp hE ks (j + 1) S ch hd' (by omega) hM
      exact ⟨S', ch', .same hb h1', by rw [show max j o.length = max (j + 1) o.length by omega]; exact h2'⟩
    · obtain ⟨S', ch', h1', h2'⟩ := pass_is O preds hp hE ks (j + 1) (upd S k b) true hd' (by omega) hM
      exact ⟨S', ch', .chg hb he h1', by rw [show max j o.length = max (j + 1) o.length by omega]; exact h2'⟩
/-- So many passes are done. -/
structure Rdy (n : Nat) (E : Nat → Nat → Prop) (o : List Nat) (S : Nat → Int) (p : Nat) : Prop where
  inv : Inv n E o S
  all : ∀ v ∈ o, Lp E o S p v
theorem rdy_next (O : Ord n E o) (preds : Nat → List Nat) (hp : ∀ k ∈ o, ∀ x, x ∈ preds k ↔ E x k) (hE : ∀ u v, E u v → u < n) {p : Nat} {S : Nat → Int} (R : Rdy n E o S p) : ∃ S' ch', PassR o preds (o.drop 1) S false S' ch' ∧ Rdy n E o S' (p + 1) := by
  obtain ⟨S', ch', h1, h2⟩ := pass_is O preds hp hE (p := p) (o.drop 1) 1 S false rfl (Nat.le_refl _) ⟨R.inv, R.all, fun v hv h0 hlt => by
    have := rank_pos O hv h0
    omega⟩
  refine ⟨S', ch', h1, h2.inv, fun v hv => ?_⟩
  by_cases h : v = 0
  · subst h
    have := h2.inv.none 0 (O.lt 0 hv) (.inl rfl)
    exact ⟨fun _ h => absurd rfl h, fun h => by omega⟩
  · refine h2.new v hv h ?_
    have := List.idxOf_lt_length_iff.mpr hv
    omega
/-- The table is the true one: each point but 0 has its immediate dominator, all else has none. -/
structure True_ (n : Nat) (E : Nat → Nat → Prop) (o : List Nat) (S : Nat → Int) : Prop where
  inv : Inv n E o S
  dom : ∀ v ∈ o, v ≠ 0 → 0 ≤ S v ∧ Dom E o (S v).toNat v
theorem true_one (O : Ord n E o) {S S' : Nat → Int} (T : True_ n E o S) (T' : True_ n E o S') (v : Nat) (hv : v < n) : S v = S' v := by
  by_cases h : v = 0 ∨ v ∉ o
  · rw [T.inv.none v hv h, T'.inv.none v hv h]
  · rw [not_or, Classical.not_not] at h
    obtain ⟨h0, ho⟩ := h
    obtain ⟨a1, a2⟩ := T.dom v ho h0
    obtain ⟨b1, b2⟩ := T'.dom v ho h0
    obtain ⟨_, _, ar, _, ad⟩ := T.inv.pt v hv a1
    obtain ⟨_, _, br, _, bd⟩ := T'.inv.pt v hv b1
    have hne1 : (S v).toNat ≠ v := by intro e; rw [e] at ar; omega
    have hne2 : (S' v).toNat ≠ v := by intro e; rw [e] at br; omega
    have := dom_anti O (bd _ a2 hne1) (ad _ b2 hne2)
    omega
theorem rdy_all (O : Ord n E o) {S : Nat → Int} (I : Inv n E o S) (h : ∀ p, ∀ v ∈ o, Lp E o S p v) : True_ n E o S := by
  refine ⟨I, fun v hv h0 => ?_⟩
  have hs := (h 1 v hv).1 (Nat.le_refl _) h0
  obtain ⟨_, p1, _⟩ := I.pt v (O.lt v hv) hs
  refine ⟨hs, p1, hv, .inr fun ha => ?_⟩
  obtain ⟨q, hq⟩ := av_avr (o := o) ha
  rw [Int.toNat_of_nonneg hs] at hq
  exact (h (q + 1) v hv).2 hs q (by omega) hq
theorem bound1 (P : Nat → Nat → Prop) (Q : Nat → Prop) (h : ∀ d, Q d → ∃ q, P d q) : ∀ m, ∃ B, ∀ d, d < m → Q d → ∃ q, q ≤ B ∧ P d q
  | 0 => ⟨0, fun d hd => by omega⟩
  | m + 1 => by
    obtain ⟨B, hB⟩ := bound1 P Q h m
    by_cases hq : Q m
    · obtain ⟨q, hq'⟩ := h m hq
      refine ⟨max B q, fun d hd hQ => ?_⟩
      by_cases e : d = m
      · subst e; exact ⟨q, by omega, hq'⟩
      · obtain ⟨q2, h2, h3⟩ := hB d (by omega) hQ
        exact ⟨q2, by omega, h3⟩
    · refine ⟨B, fun d hd hQ => ?_⟩
      by_cases e : d = m
      · subst e; exact absurd hQ hq
      · exact hB d (by omega) hQ
theorem bound (n : Nat) (E : Nat → Nat → Prop) (o : List Nat) : ∃ B, ∀ d, d < n → ∀ v, v < n → Av E (d : Int) v → ∃ q, q ≤ B ∧ AvR E o (d : Int) q v := by
  have h1 : ∀ d : Nat, ∃ B, ∀ v, v < n → Av E (d : Int) v → ∃ q, q ≤ B ∧ AvR E o (d : Int) q v := fun d => bound1 (fun v q => AvR E o (d : Int) q v) (fun v => Av E (d : Int) v) (fun v hv => av_avr hv) n
  obtain ⟨B, hB⟩ := bound1 (fun d B => ∀ v, v < n → Av E (d : Int) v → ∃ q, q ≤ B ∧ AvR E o (d : Int) q v) (fun _ => True) (fun d _ => h1 d) n
  refine ⟨B, fun d hd v hv ha => ?_⟩
  obtain ⟨b, hb, h2⟩ := hB d hd trivial
  obtain ⟨q, hq, h3⟩ := h2 v hv ha
  exact ⟨q, by omega, h3⟩
/-- Passes until one brings nothing. -/
inductive LoopR (o : List Nat) (preds : Nat → List Nat) : (Nat → Int) → (Nat → Int) → Prop
  | stop {S S' : Nat → Int} (h : PassR o preds (o.drop 1) S false S' false) : LoopR o preds S S'
  | more {S S' F : Nat → Int} (h : PassR o preds (o.drop 1) S false S' true) (hr : LoopR o preds S' F) : LoopR o preds S F
theorem loop_is (O : Ord n E o) (preds : Nat → List Nat) (hp : ∀ k ∈ o, ∀ x, x ∈ preds k ↔ E x k) (hE : ∀ u v, E u v → u < n) (S : Nat → Int) (I : Inv n E o S) : ∃ F, LoopR o preds S F ∧ True_ n E o F := by
  obtain ⟨B, hB⟩ := bound n E o
  have late : ∀ (S : Nat → Int) (p : Nat), B + 1 ≤ p → Rdy n E o S p → True_ n E o S := by
    intro S p hpB R
    refine ⟨R.inv, fun v hv h0 => ?_⟩
    have hs := (R.all v hv).1 (by omega) h0
    obtain ⟨_, p1, _⟩ := R.inv.pt v (O.lt v hv) hs
    refine ⟨hs, p1, hv, .inr fun ha => ?_⟩
    obtain ⟨q, hq, hq2⟩ := hB _ (O.lt _ p1) v (O.lt v hv) ha
    rw [Int.toNat_of_nonneg hs] at hq2
    exact (R.all v hv).2 hs q (by omega) hq2
  have go : ∀ (m p : Nat) (S : Nat → Int), B + 2 - p ≤ m → Rdy n E o S p → ∃ F, LoopR o preds S F ∧ True_ n E o F := by
    intro m
    induction m with
    | zero =>
      intro p S hm R
      obtain ⟨S', ch', h1, R'⟩ := rdy_next O preds hp hE R
      have T := late S p (by omega) R
      have T' := late S' (p + 1) (by omega) R'
      cases ch' with
      | false => exact ⟨S', .stop h1, T'⟩
      | true =>
        rcases pass_chg h1 (O.nodup.sublist (List.drop_sublist 1 o)) rfl with h | ⟨k, hk⟩
        · cases h
        · by_cases hkn : k < n
          · exact absurd (true_one O T T' k hkn).symm hk
          · refine absurd (pass_frame h1 k fun hm => hkn (O.lt k (List.mem_of_mem_drop hm))) hk
    | succ m ih =>
      intro p S hm R
      obtain ⟨S', ch', h1, R'⟩ := rdy_next O preds hp hE R
      cases ch' with
      | false =>
        have hS := (pass_quiet h1).2 rfl
        subst hS
        refine ⟨S', .stop h1, rdy_all O R.inv fun p' => ?_⟩
        have : Rdy n E o S' p' := by
          induction p' with
          | zero => exact ⟨R.inv, fun v hv => ⟨fun h => by omega, fun _ q hq => by omega⟩⟩
          | succ p' ihp =>
            obtain ⟨S2, ch2, h2, R2⟩ := rdy_next O preds hp hE ihp
            obtain ⟨e1, _⟩ := pass_det h1 _ _ h2
            rw [e1]; exact R2
        exact this.all
      | true =>
        obtain ⟨F, hF, hT⟩ := ih (p + 1) S' (by omega) R'
        exact ⟨F, .more h1 hF, hT⟩
  exact go _ 0 S (Nat.le_refl _) ⟨I, fun v hv => ⟨fun h => by omega, fun _ q hq => by omega⟩⟩
/-- The way up is the points that dominate. -/
theorem anc_dom (O : Ord n E o) {S : Nat → Int} (T : True_ n E o S) {d v : Nat} (h : Anc S d v) : v ∈ o → Dom E o d v := by
  induction h with
  | refl => intro hv; exact dom_refl hv
  | @up x h0 h ih =>
    intro hv
    have hx0 : x ≠ 0 := by
      intro e; subst e
      have := T.inv.none 0 (O.lt 0 hv) (.inl rfl)
      omega
    obtain ⟨_, hd⟩ := T.dom x hv hx0
    exact dom_trans (ih hd.1) hd
theorem dom_anc (O : Ord n E o) {S : Nat → Int} (T : True_ n E o S) {d : Nat} : ∀ (m v : Nat), o.idxOf v ≤ m → Dom E o d v → Anc S d v := by
  intro m
  induction m with
  | zero =>
    intro v hm h
    by_cases hv : v = 0
    · subst hv; rw [dom_zero h]; exact .refl
    · have := rank_pos O h.2.1 hv; omega
  | succ m ih =>
    intro v hm h
    by_cases hv : v = 0
    · subst hv; rw [dom_zero h]; exact .refl
    · by_cases hd : d = v
      · subst hd; exact .refl
      · obtain ⟨h0, hd0⟩ := T.dom v h.2.1 hv
        obtain ⟨_, _, pr, _, pd⟩ := T.inv.pt v (O.lt v h.2.1) h0
        exact .up h0 (ih _ (by omega) (pd d h hd))
end Go.Proofs.Ytjflddnmkajleaa.Dm
