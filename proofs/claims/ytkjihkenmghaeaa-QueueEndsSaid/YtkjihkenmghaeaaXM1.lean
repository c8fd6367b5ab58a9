/- Own work (by an AI agent; no person has read it): part of a proof of the seat Ytkjihkenmghaeaa. -/
import Derived.Test.YtkjihkenmghaeaaXK7
import Derived.Test.YtkjihkenmghaeaaXK9
set_option linter.unusedSimpArgs false
set_option linter.unusedVariables false
namespace Go.Proofs.Ytkjihkenmghaeaa
open Go.Ab

/-- what a job adds to what tenant t uses -/
def cst (t : Int) (j : Job) : Int := if j.ten = t ∧ j.sta = 2 then j.bou else 0
/-- what tenant t uses, without wrapping -/
def usd (t : Int) : List Job → Int
  | [] => 0
  | j :: l => cst t j + usd t l

theorem usd_append (t : Int) (a b : List Job) : usd t (a ++ b) = usd t a + usd t b := by
  induction a with
  | nil => simp [usd]
  | cons x a ih => simp only [List.cons_append, usd, ih]; omega
theorem cst_bd {t : Int} {j : Job} {B : Int} (h : 0 ≤ j.bou ∧ j.bou ≤ B) : 0 ≤ cst t j ∧ cst t j ≤ B := by
  unfold cst; split <;> omega
theorem usd_bd (t : Int) (B : Int) : ∀ l : List Job, (∀ j ∈ l, 0 ≤ j.bou ∧ j.bou ≤ B) → 0 ≤ usd t l ∧ usd t l ≤ l.length * B := by
  intro l
  induction l with
  | nil => intro _; simp [usd]
  | cons x l ih =>
    intro h
    have h1 := ih fun j hj => h j (List.mem_cons_of_mem _ hj)
    have h2 := cst_bd (t := t) (h x (List.mem_cons_self ..))
    have e : ((x :: l).length : Int) * B = l.length * B + B := by
      rw [List.length_cons, Int.natCast_add, Int.add_mul]; simp
    simp only [usd]
    rw [e]
    omega
theorem usedF_usd (t : Int) : ∀ (l : List Job) (n : Int), (∀ j ∈ l, 0 ≤ j.bou ∧ j.bou ≤ 1099511627776) → 0 ≤ n → n + l.length * 1099511627776 < 9223372036854775808 → usedF t l n = n + usd t l := by
  intro l
  induction l with
  | nil => intro n _ _ _; simp [usd, usedF]
  | cons x l ih =>
    intro n h h0 hn
    have hx := h x (List.mem_cons_self ..)
    have hl : ∀ j ∈ l, 0 ≤ j.bou ∧ j.bou ≤ 1099511627776 := fun j hj => h j (List.mem_cons_of_mem _ hj)
    simp only [List.length_cons] at hn
    simp only [usedF, usd, cst]
    split
    · rw [wrap_of (by omega) (by omega), ih _ hl (by omega) (by omega)]; omega
    · rw [ih _ hl (by omega) (by omega)]; omega
theorem usd_set (t : Int) (j : Job) : ∀ (l : List Job) (k : Nat), k < l.length → usd t (l.set k j) = usd t l - cst t (l.getD k J0) + cst t j := by
  intro l
  induction l with
  | nil => intro k h; simp at h
  | cons x l ih =>
    intro k h
    cases k with
    | zero => simp [usd]; omega
    | succ k =>
      have := ih k (by simpa using h)
      simp only [List.set_cons_succ, usd, List.getD_cons_succ, this]; omega
theorem mem_get {l : List Job} {p : Job → Prop} (h : ∀ i, i < l.length → p (l.getD i J0)) : ∀ j ∈ l, p j := by
  intro j hj
  obtain ⟨i, hi, rfl⟩ := List.mem_iff_getElem.1 hj
  have := h i hi
  rwa [List.getD_eq_getElem?_getD, List.getElem?_eq_getElem hi] at this
theorem get_mem {l : List Job} {i : Nat} (h : i < l.length) : l.getD i J0 ∈ l := by
  rw [List.getD_eq_getElem?_getD, List.getElem?_eq_getElem h]; exact List.getElem_mem h
theorem get_set (l : List Job) (k i : Nat) (j : Job) (h : k < l.length) : (l.set k j).getD i J0 = if i = k then j else l.getD i J0 := by
  rw [List.getD_eq_getElem?_getD, List.getElem?_set, List.getD_eq_getElem?_getD]
  by_cases e : k = i
  · subst e; simp [h]
  · simp [e, Ne.symm e]
theorem get_take (l : List Job) (k i : Nat) (h : i < k) : (l.take k).getD i J0 = l.getD i J0 := by
  rw [List.getD_eq_getElem?_getD, List.getElem?_take, if_pos h, List.getD_eq_getElem?_getD]
theorem get_snoc (l : List Job) (i : Nat) (j : Job) (h : i < l.length + 1) : (l ++ [j]).getD i J0 = if i = l.length then j else l.getD i J0 := by
  rw [List.getD_eq_getElem?_getD, List.getElem?_append, List.getD_eq_getElem?_getD]
  by_cases e : i = l.length
  · subst e; simp
  · rw [if_pos (show i < l.length by omega), if_neg e]
theorem usd_take (t : Int) (l : List Job) (k : Nat) (h : ∀ j ∈ l, 0 ≤ j.bou ∧ j.bou ≤ 1099511627776) : usd t (l.take k) ≤ usd t l := by
  have e : usd t l = usd t (l.take k) + usd t (l.drop k) := by rw [← usd_append, List.take_append_drop]
  have := usd_bd t 1099511627776 (l.drop k) fun j hj => h j (List.mem_of_mem_drop hj)
  omega
theorem takenF'_iff (d : Int) (l : List Job) : takenF' d l = true ↔ ∃ i, i < l.length ∧ (l.getD i J0).sta = 2 ∧ (l.getD i J0).at_ = d := by
  simp only [takenF', List.any_eq_true, decide_eq_true_eq]
  constructor
  · rintro ⟨j, hj, h⟩
    obtain ⟨i, hi, rfl⟩ := List.mem_iff_getElem.1 hj
    exact ⟨i, hi, by rw [List.getD_eq_getElem?_getD, List.getElem?_eq_getElem hi]; exact h⟩
  · rintro ⟨i, hi, h⟩
    exact ⟨_, get_mem hi, h⟩

/-- a job as it has to be, by itself -/
def JobR (q : Q) (i : Nat) (j : Job) : Prop := (j.id = i + 1 ∧ 0 ≤ j.ten ∧ j.ten < q.quota.length ∧ 0 ≤ j.pri ∧ j.pri ≤ 9 ∧ 0 ≤ j.ker ∧ 0 ≤ j.bou ∧ j.bou ≤ q.quota.getD j.ten.toNat 0 ∧ 1 ≤ j.sta ∧ j.sta ≤ 4) ∧ (j.sta = 2 → 0 ≤ j.at_ ∧ j.at_ ≤ 99) ∧ (j.sta ≠ 2 → j.at_ = -1)

/-- a queue that is right -/
structure RightQ (q : Q) : Prop where
  nq : q.quota.length ≤ 16
  nj : q.js.length ≤ 200
  qu : ∀ i, i < q.quota.length → 0 ≤ q.quota.getD i 0 ∧ q.quota.getD i 0 ≤ 1099511627776
  job : ∀ i, i < q.js.length → JobR q i (q.js.getD i J0)
  dev : ∀ i k, i < q.js.length → k < i → (q.js.getD i J0).sta = 2 → (q.js.getD k J0).sta = 2 → (q.js.getD k J0).at_ ≠ (q.js.getD i J0).at_
  use : ∀ t : Nat, t < q.quota.length → usd t q.js ≤ q.quota.getD t 0

theorem bounds_of {q : Q} (hq : ∀ i, i < q.quota.length → 0 ≤ q.quota.getD i 0 ∧ q.quota.getD i 0 ≤ 1099511627776) (hj : ∀ i, i < q.js.length → JobR q i (q.js.getD i J0)) : ∀ j ∈ q.js, 0 ≤ j.bou ∧ j.bou ≤ 1099511627776 :=
  mem_get (p := fun j => 0 ≤ j.bou ∧ j.bou ≤ 1099511627776) fun i hi => by
    obtain ⟨⟨_, h1, h2, _, _, _, h3, h4, _⟩, _⟩ := hj i hi
    have := hq (q.js.getD i J0).ten.toNat (by omega)
    exact ⟨by omega, by omega⟩

theorem rright_iff (q : Q) : rrightF q = true ↔ RightQ q := by
  simp only [rrightF, decide_eq_true_eq]
  constructor
  · rintro ⟨h1, h2, h3, h4, h5⟩
    have hj : ∀ i, i < q.js.length → JobR q i (q.js.getD i J0) := fun i hi => by
      have := h4 i hi
      simp only [rjobF, decide_eq_true_eq] at this
      exact ⟨this.1, this.2.1, this.2.2.1⟩
    have hb := bounds_of h3 hj
    refine ⟨h1, h2, h3, hj, fun i k hi hk ha hb => ?_, fun t ht => ?_⟩
    · have := h4 i hi
      simp only [rjobF, decide_eq_true_eq] at this
      exact fun e => this.2.2.2 ha k hk ⟨hb, e⟩
    · have := h5 t ht
      rw [rusedF, if_pos (by omega), usedF_usd _ _ _ hb (by omega) (by omega)] at this
      omega
  · intro R
    have hb := bounds_of R.qu R.job
    refine ⟨R.nq, R.nj, R.qu, fun i hi => ?_, fun t ht => ?_⟩
    · have hJ := R.job i hi
      simp only [rjobF, decide_eq_true_eq]
      exact ⟨hJ.1, hJ.2.1, hJ.2.2, fun ha k hk h => R.dev i k hi hk ha h.1 h.2⟩
    · have h1 := R.nj
      rw [rusedF, if_pos (by omega), usedF_usd _ _ _ hb (by omega) (by omega)]
      have := R.use t ht
      omega

theorem right_iff (q : Q) : rightF q = true ↔ RightQ q := by
  simp only [rightF, decide_eq_true_eq]
  constructor
  · rintro ⟨h1, h2, h3, h4⟩
    have hj : ∀ i, i < q.js.length → JobR q i (q.js.getD i J0) := fun i hi => by
      have := (h4 i hi).1
      simp only [jobF, decide_eq_true_eq, wrap_of (n := (i : Int) + 1) (by omega) (by omega)] at this
      unfold JobR; omega
    have hb := bounds_of h3 hj
    refine ⟨h1, h2, h3, hj, fun i k hi hk ha hb e => ?_, fun t ht => ?_⟩
    · have h5 := ((h4 i hi).2 ha).1
      have : takenF' (q.js.getD i J0).at_ (q.js.take i) = true := (takenF'_iff _ _).2 ⟨k, by simp; omega, by rw [get_take _ _ _ hk]; exact ⟨hb, e⟩⟩
      rw [h5] at this; cases this
    · have key : ∀ k, k ≤ q.js.length → usd t (q.js.take k) ≤ q.quota.getD t 0 := by
        intro k
        induction k with
        | zero => intro _; simpa [usd] using (h3 t ht).1
        | succ k ih =>
          intro hk
          have e := take_snoc' q.js k (by omega)
          by_cases hc : (q.js.getD k J0).ten = t ∧ (q.js.getD k J0).sta = 2
          · have := ((h4 k (by omega)).2 hc.2).2
            rw [hc.1, usedF_usd _ _ _ (fun j hj => hb j (List.mem_of_mem_take hj)) (by omega) (by simp only [List.length_take]; omega)] at this
            simpa using this
          · rw [e, usd_append]
            have := ih (by omega)
            simp only [usd, cst, hc, if_false]; omega
      have := key q.js.length (Nat.le_refl _)
      rwa [List.take_length] at this
  · intro R
    have hb := bounds_of R.qu R.job
    have h1 := R.nj
    refine ⟨R.nq, R.nj, R.qu, fun i hi => ⟨?_, fun ha => ⟨?_, ?_⟩⟩⟩
    · have hJ := R.job i hi
      unfold JobR at hJ
      simp only [jobF, decide_eq_true_eq, wrap_of (n := (i : Int) + 1) (by omega) (by omega)]
      omega
    · refine Bool.eq_false_iff.2 fun h => ?_
      obtain ⟨k, hk, h2, h3⟩ := (takenF'_iff _ _).1 h
      have hk : k < i := by simp at hk; omega
      rw [get_take _ _ _ hk] at h2 h3
      exact R.dev i k hi hk ha h2 h3
    · have hJ := (R.job i hi).1
      rw [usedF_usd _ _ _ (fun j hj => hb j (List.mem_of_mem_take hj)) (by omega) (by simp only [List.length_take]; omega)]
      have := usd_take (q.js.getD i J0).ten q.js (i + 1) hb
      have h2 := R.use (q.js.getD i J0).ten.toNat (by omega)
      rw [show (((q.js.getD i J0).ten.toNat : Nat) : Int) = (q.js.getD i J0).ten by omega] at h2
      omega

/-- the law of queue.Right -/
theorem right_eq (q : Q) : rightF q = rrightF q := by
  rw [Bool.eq_iff_iff, right_iff, rright_iff]
end Go.Proofs.Ytkjihkenmghaeaa
