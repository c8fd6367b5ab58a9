/- Own work (by an AI agent; no person has read it): part of a proof of the seat Ytkjihkenmghaeaa. -/
import Derived.Test.YtkjihkenmghaeaaXM1
import Derived.Test.YtkjihkenmghaeaaXK0
set_option linter.unusedSimpArgs false
set_option linter.unusedVariables false
namespace Go.Proofs.Ytkjihkenmghaeaa
open Go.Ab

theorem cst_lt {t : Int} {l : List Job} (h : ∀ j ∈ l, 0 ≤ j.bou ∧ j.bou ≤ 1099511627776) {k : Nat} (hk : k < l.length) : 0 ≤ cst t (l.getD k J0) ∧ cst t (l.getD k J0) ≤ usd t l := by
  have e : usd t l = usd t (l.take k) + (cst t (l.getD k J0) + usd t (l.drop (k + 1))) := by
    have : l.drop k = l.getD k J0 :: l.drop (k + 1) := by
      rw [List.drop_eq_getElem_cons hk, List.getD_eq_getElem?_getD, List.getElem?_eq_getElem hk]; rfl
    conv => lhs; rw [← List.take_append_drop k l, usd_append, this]
    rfl
  have h1 := usd_bd t 1099511627776 (l.take k) fun j hj => h j (List.mem_of_mem_take hj)
  have h2 := usd_bd t 1099511627776 (l.drop (k + 1)) fun j hj => h j (List.mem_of_mem_drop hj)
  have h3 := cst_bd (t := t) (h _ (get_mem hk))
  omega

namespace RightQ
variable {q : Q}
theorem bd (R : RightQ q) : ∀ j ∈ q.js, 0 ≤ j.bou ∧ j.bou ≤ 1099511627776 := bounds_of R.qu R.job
theorem id (R : RightQ q) : ∀ i, i < q.js.length → (q.js.getD i J0).id = i + 1 := fun i hi => (R.job i hi).1.1
theorem ten (R : RightQ q) : ∀ i, i < q.js.length → 0 ≤ (q.js.getD i J0).ten ∧ (q.js.getD i J0).ten < q.quota.length := fun i hi => ⟨(R.job i hi).1.2.1, (R.job i hi).1.2.2.1⟩
theorem good (R : RightQ q) : Good q := ⟨by have := R.nj; omega, by have := R.nq; omega, R.id, R.ten⟩
theorem used (R : RightQ q) (t : Int) : usedF t q.js 0 = usd t q.js := by
  have := R.nj
  rw [usedF_usd _ _ _ R.bd (by omega) (by omega)]; omega
theorem usd_out (R : RightQ q) {t : Int} (h : ¬ (0 ≤ t ∧ t < q.quota.length)) : usd t q.js = 0 := by
  have key : ∀ l : List Job, (∀ j ∈ l, j.ten ≠ t) → usd t l = 0 := by
    intro l
    induction l with
    | nil => intro _; rfl
    | cons x l ih =>
      intro hh
      have h1 : x.ten ≠ t := hh x (List.mem_cons_self ..)
      simp only [usd, cst, h1, false_and, if_false, ih fun j hj => hh j (List.mem_cons_of_mem _ hj)]; rfl
  exact key _ (mem_get (p := fun j => j.ten ≠ t) fun i hi => by have := R.ten i hi; omega)
theorem rused (R : RightQ q) (t : Int) : rusedF q t = usd t q.js := by
  unfold rusedF
  split
  · exact R.used t
  · rename_i h; exact (R.usd_out h).symm
theorem use' (R : RightQ q) {t : Int} (h : 0 ≤ t ∧ t < q.quota.length) : usd t q.js ≤ q.quota.getD t.toNat 0 := by
  have := R.use t.toNat (by omega)
  rwa [show ((t.toNat : Nat) : Int) = t by omega] at this
theorem usd_nn (R : RightQ q) (t : Int) : 0 ≤ usd t q.js := (usd_bd t _ _ R.bd).1
theorem rready (R : RightQ q) {i : Nat} (hi : i < q.js.length) : rreadyF q (q.js.getD i J0) = decide ((q.js.getD i J0).sta = 1 ∧ (q.js.getD i J0).bou + usd (q.js.getD i J0).ten q.js ≤ q.quota.getD (q.js.getD i J0).ten.toNat 0) := by
  have h1 := R.bd _ (get_mem hi)
  have h2 := R.use' (R.ten i hi)
  have h3 := R.usd_nn (q.js.getD i J0).ten
  have h4 := R.qu (q.js.getD i J0).ten.toNat (by have := R.ten i hi; omega)
  unfold rreadyF
  rw [R.rused, wrap_of (by omega) (by omega)]
theorem ready (R : RightQ q) {i : Nat} (hi : i < q.js.length) : readyF q (q.js.getD i J0) = rreadyF q (q.js.getD i J0) := by
  unfold readyF rreadyF
  rw [R.rused, R.used]

/-- a job in the place of another -/
theorem set (R : RightQ q) {k : Nat} (hk : k < q.js.length) {j : Job} (hj : JobR q k j) (hd : j.sta = 2 → ∀ i, i < q.js.length → i ≠ k → (q.js.getD i J0).sta = 2 → (q.js.getD i J0).at_ ≠ j.at_)
    (hu : ∀ t : Nat, t < q.quota.length → usd t q.js - cst t (q.js.getD k J0) + cst t j ≤ q.quota.getD t 0) : RightQ ⟨q.quota, q.js.set k j⟩ where
  nq := R.nq
  nj := by simpa using R.nj
  qu := R.qu
  job := by
    intro i hi
    simp only [List.length_set] at hi
    rw [get_set _ _ _ _ hk]
    split
    · rename_i e; subst e; exact hj
    · exact R.job i hi
  dev := by
    intro i m hi hm
    simp only [List.length_set] at hi
    rw [get_set _ _ _ _ hk, get_set _ _ _ _ hk]
    split
    · rename_i e
      subst e
      rw [if_neg (by omega)]
      intro h1 h2
      exact hd h1 m (by omega) (by omega) h2
    · rename_i e
      split
      · intro h1 h2 h3; exact hd h2 i hi e h1 h3.symm
      · exact R.dev i m hi hm
  use := by
    intro t ht
    rw [usd_set _ _ _ _ hk]
    exact hu t ht

/-- one job more -/
theorem snoc (R : RightQ q) {j : Job} (hj : JobR q q.js.length j) (hs : j.sta = 1) (hn : q.js.length < 200) : RightQ ⟨q.quota, q.js ++ [j]⟩ where
  nq := R.nq
  nj := by simp; omega
  qu := R.qu
  job := by
    intro i hi
    simp only [List.length_append, List.length_cons, List.length_nil] at hi
    rw [get_snoc _ _ _ (by omega)]
    split
    · rename_i e; subst e; exact hj
    · exact R.job i (by omega)
  dev := by
    intro i m hi hm
    simp only [List.length_append, List.length_cons, List.length_nil] at hi
    rw [get_snoc _ _ _ (by omega), get_snoc _ _ _ (by omega)]
    split
    · intro h; omega
    · rw [if_neg (by omega)]; exact R.dev i m (by omega) hm
  use := by
    intro t ht
    have e : usd (t : Int) [j] = 0 := by simp [usd, cst, hs]
    have := R.use t ht
    show usd _ (q.js ++ [j]) ≤ q.quota.getD t 0
    rw [usd_append, e]
    omega
end RightQ

theorem start_cases (q : Q) (id dev : Int) (hid : ∀ i, i < q.js.length → (q.js.getD i J0).id = i + 1) : ((startF q id dev).e ≠ 0 ∧ (startF q id dev).q = q ∧ (startF q id dev).id = 0) ∨
    (1 ≤ id ∧ id ≤ q.js.length ∧ 0 ≤ dev ∧ dev ≤ 99 ∧ takenF q dev = false ∧ (q.js.getD (id - 1).toNat J0).sta = 1 ∧ rreadyF q (q.js.getD (id - 1).toNat J0) = true ∧
      startF q id dev = ⟨⟨q.quota, q.js.set (id - 1).toNat { q.js.getD (id - 1).toNat J0 with sta := 2, at_ := dev }⟩, 0, 0⟩) := by
  unfold startF
  split
  · left; simp
  · split
    · left; simp
    · split
      · left; simp
      · split
        · left; simp
        · rename_i h1 h2 h3 h4
          right
          have h1 := Classical.not_not.1 h1
          refine ⟨h1.1, h1.2, by omega, by omega, ?_, Classical.not_not.1 h3, by simpa using h4, withF_eq (id_at hid h1)⟩
          cases h : takenF q dev with
          | false => rfl
          | true => exact absurd (.inr h) h2

theorem left_cases (q : Q) (id sta g : Int) (x y z : List (List AV)) (hid : ∀ i, i < q.js.length → (q.js.getD i J0).id = i + 1) : ((leftF q id sta g x y z).e ≠ 0 ∧ (leftF q id sta g x y z).q = q ∧ (leftF q id sta g x y z).id = 0) ∨
    (1 ≤ id ∧ id ≤ q.js.length ∧ (q.js.getD (id - 1).toNat J0).sta = 2 ∧
      leftF q id sta g x y z = ⟨⟨q.quota, q.js.set (id - 1).toNat { q.js.getD (id - 1).toNat J0 with sta := sta, at_ := -1, grp := g, s1 := x, s2 := y, s3 := z }⟩, 0, 0⟩) := by
  unfold leftF
  split
  · left; simp
  · split
    · left; simp
    · rename_i h1 h2
      right
      have h1 := Classical.not_not.1 h1
      exact ⟨h1.1, h1.2, Classical.not_not.1 h2, withF_eq (id_at hid h1)⟩

theorem cancel_cases (q : Q) (id : Int) (hid : ∀ i, i < q.js.length → (q.js.getD i J0).id = i + 1) : ((cancelF q id).e ≠ 0 ∧ (cancelF q id).q = q ∧ (cancelF q id).id = 0) ∨
    (1 ≤ id ∧ id ≤ q.js.length ∧ ((q.js.getD (id - 1).toNat J0).sta = 1 ∨ (q.js.getD (id - 1).toNat J0).sta = 2) ∧
      cancelF q id = ⟨⟨q.quota, q.js.set (id - 1).toNat { q.js.getD (id - 1).toNat J0 with sta := 4, at_ := -1 }⟩, 0, 0⟩) := by
  unfold cancelF
  split
  · left; simp
  · split
    · left; simp
    · rename_i h1 h2
      right
      have h1 := Classical.not_not.1 h1
      exact ⟨h1.1, h1.2, by omega, withF_eq (id_at hid h1)⟩

theorem submit_cases (q : Q) (j : Job) : ((submitF q j).e ≠ 0 ∧ (submitF q j).q = q ∧ (submitF q j).id = 0) ∨
    ((0 ≤ j.ten ∧ j.ten < q.quota.length ∧ 0 ≤ j.pri ∧ j.pri ≤ 9 ∧ 0 ≤ j.ker ∧ 0 ≤ j.bou ∧ j.bou ≤ q.quota.getD j.ten.toNat 0 ∧ q.js.length < 200) ∧
      submitF q j = ⟨⟨q.quota, q.js ++ [{ j with id := q.js.length + 1, sta := 1, at_ := -1 }]⟩, q.js.length + 1, 0⟩) := by
  unfold submitF
  split
  · left; simp
  · split
    · left; simp
    · split
      · left; simp
      · rename_i h1 h2 h3
        right
        have h1 := Classical.not_not.1 h1
        exact ⟨by omega, rfl⟩

theorem cst_2 {t : Int} {j : Job} (h : j.sta ≠ 2) : cst t j = 0 := by simp [cst, h]

theorem start_right {q : Q} (R : RightQ q) (id dev : Int) : RightQ (startF q id dev).q := by
  rcases start_cases q id dev R.id with ⟨_, h, _⟩ | ⟨h1, h2, h3, h4, h5, h6, h7, h8⟩
  · rw [h]; exact R
  · rw [h8]
    have hk : (id - 1).toNat < q.js.length := by omega
    rw [R.rready hk, decide_eq_true_eq] at h7
    have hJ := R.job _ hk
    refine R.set hk ⟨⟨hJ.1.1, hJ.1.2.1, hJ.1.2.2.1, hJ.1.2.2.2.1, hJ.1.2.2.2.2.1, hJ.1.2.2.2.2.2.1, hJ.1.2.2.2.2.2.2.1, hJ.1.2.2.2.2.2.2.2.1, by simp, by simp⟩, fun _ => ⟨h3, h4⟩, fun h => absurd rfl h⟩ (fun _ i hi hne h9 h10 => ?_) fun t ht => ?_
    · have : takenF' dev q.js = true := (takenF'_iff _ _).2 ⟨i, hi, h9, h10⟩
      unfold takenF at h5
      rw [h5] at this; cases this
    · rw [cst_2 (by omega)]
      simp only [cst, and_true]
      split
      · rename_i e
        have := h7.2
        rw [e] at this
        simp at this ⊢; omega
      · have := R.use t ht; omega
theorem left_right {q : Q} (R : RightQ q) (id sta g : Int) (x y z : List (List AV)) (hs : sta = 1 ∨ sta = 3) : RightQ (leftF q id sta g x y z).q := by
  rcases left_cases q id sta g x y z R.id with ⟨_, h, _⟩ | ⟨h1, h2, h3, h8⟩
  · rw [h]; exact R
  · rw [h8]
    have hk : (id - 1).toNat < q.js.length := by omega
    have hJ := R.job _ hk
    refine R.set hk ⟨⟨hJ.1.1, hJ.1.2.1, hJ.1.2.2.1, hJ.1.2.2.2.1, hJ.1.2.2.2.2.1, hJ.1.2.2.2.2.2.1, hJ.1.2.2.2.2.2.2.1, hJ.1.2.2.2.2.2.2.2.1, by simp only; omega, by simp only; omega⟩, fun h => by simp only at h; omega, fun _ => rfl⟩ (fun h => by simp only at h; omega) fun t ht => ?_
    rw [cst_2 (j := { q.js.getD (id - 1).toNat J0 with sta := sta, at_ := -1, grp := g, s1 := x, s2 := y, s3 := z }) (by simp only; omega)]
    have := R.use t ht
    have := cst_lt (t := t) R.bd hk
    omega
theorem cancel_right {q : Q} (R : RightQ q) (id : Int) : RightQ (cancelF q id).q := by
  rcases cancel_cases q id R.id with ⟨_, h, _⟩ | ⟨h1, h2, h3, h8⟩
  · rw [h]; exact R
  · rw [h8]
    have hk : (id - 1).toNat < q.js.length := by omega
    have hJ := R.job _ hk
    refine R.set hk ⟨⟨hJ.1.1, hJ.1.2.1, hJ.1.2.2.1, hJ.1.2.2.2.1, hJ.1.2.2.2.2.1, hJ.1.2.2.2.2.2.1, hJ.1.2.2.2.2.2.2.1, hJ.1.2.2.2.2.2.2.2.1, by simp only; omega, by simp only; omega⟩, fun h => by simp only at h; omega, fun _ => rfl⟩ (fun h => by simp only at h; omega) fun t ht => ?_
    rw [cst_2 (j := { q.js.getD (id - 1).toNat J0 with sta := 4, at_ := -1 }) (by simp only; omega)]
    have := R.use t ht
    have := cst_lt (t := t) R.bd hk
    omega
theorem submit_right {q : Q} (R : RightQ q) (j : Job) : RightQ (submitF q j).q := by
  rcases submit_cases q j with ⟨_, h, _⟩ | ⟨h1, h8⟩
  · rw [h]; exact R
  · rw [h8]
    exact R.snoc ⟨⟨rfl, h1.1, h1.2.1, h1.2.2.1, h1.2.2.2.1, h1.2.2.2.2.1, h1.2.2.2.2.2.1, h1.2.2.2.2.2.2.1, by simp, by simp⟩, fun h => by simp at h, fun _ => rfl⟩ rfl h1.2.2.2.2.2.2.2
theorem do_right {q : Q} (R : RightQ q) (k a b c : Int) : RightQ (doF q k a b c).q := by
  unfold doF
  split
  · exact submit_right R _
  · split
    · exact start_right R _ _
    · split
      · exact left_right R _ _ _ _ _ _ (.inl rfl)
      · split
        · exact left_right R _ _ _ _ _ _ (.inr rfl)
        · exact cancel_right R _
end Go.Proofs.Ytkjihkenmghaeaa
