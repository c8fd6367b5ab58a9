/- Own work (by an AI agent; no person has read it): part of a proof of the seat Ytkjihkenmghaeaa. -/
import Derived.Test.YtkjihkenmghaeaaXM8
set_option linter.unusedSimpArgs false
set_option linter.unusedVariables false
namespace Go.Proofs.Ytkjihkenmghaeaa
open Go.Ab
/-- how many of the first i jobs wait -/
def wcF (q : Q) : Nat → Int
  | 0 => 0
  | i + 1 => if (q.js.getD i J0).sta = 1 then wcF q i + 1 else wcF q i
theorem wcF_bd (q : Q) (i : Nat) : 0 ≤ wcF q i ∧ wcF q i ≤ i := by
  induction i with
  | zero => simp [wcF]
  | succ i ih => simp only [wcF]; split <;> omega
theorem wcF_0 {q : Q} {i : Nat} (h : wcF q i ≤ 0) : ∀ m, m < i → (q.js.getD m J0).sta ≠ 1 := by
  induction i with
  | zero => intro m hm; omega
  | succ i ih =>
    have hb := wcF_bd q i
    simp only [wcF] at h
    split at h
    · omega
    · rename_i hs
      intro m hm
      rcases Nat.lt_succ_iff_lt_or_eq.1 hm with hm | rfl
      · exact ih h m hm
      · exact hs
theorem wcF_set {q : Q} {k : Nat} (hk : k < q.js.length) (h1 : (q.js.getD k J0).sta = 1) {j : Job} (hj : j.sta ≠ 1) : ∀ i, wcF ⟨q.quota, q.js.set k j⟩ i = wcF q i - if k < i then 1 else 0 := by
  intro i
  induction i with
  | zero => simp [wcF]
  | succ i ih =>
    simp only [wcF]
    rw [get_set _ _ _ _ hk, ih]
    by_cases e : i = k
    · subst e
      rw [if_pos rfl, if_neg hj, if_pos h1, if_neg (show ¬ i < i by omega), if_pos (show i < i + 1 by omega)]; omega
    · rw [if_neg e]
      by_cases h2 : k < i
      · rw [if_pos h2, if_pos (show k < i + 1 by omega)]; split <;> omega
      · rw [if_neg h2, if_neg (show ¬ k < i + 1 by omega)]; split <;> omega
/-- no device is taken if none runs -/
theorem none_free {q : Q} (h : ∀ m, m < q.js.length → (q.js.getD m J0).sta ≠ 2) (d : Int) : takenF q d = false := by
  refine Bool.eq_false_iff.2 fun h9 => ?_
  obtain ⟨i, hi, h1, h2⟩ := (takenF'_iff d q.js).1 h9
  exact h i hi h1
/-- a job that is ready starts where none runs -/
theorem start_none {q : Q} (R : RightQ q) (h : ∀ m, m < q.js.length → (q.js.getD m J0).sta ≠ 2) {id dev : Int} (hid : 1 ≤ id ∧ id ≤ q.js.length) (hd : 0 ≤ dev ∧ dev ≤ 99) (hr : rreadyF q (q.js.getD (id - 1).toNat J0) = true) :
    startF q id dev = ⟨⟨q.quota, q.js.set (id - 1).toNat { q.js.getD (id - 1).toNat J0 with sta := 2, at_ := dev }⟩, 0, 0⟩ := by
  unfold startF
  have h1 : ¬ (¬ (0 ≤ dev ∧ dev ≤ 99) ∨ takenF q dev = true) := by
    rintro (h2 | h2)
    · omega
    · rw [none_free h] at h2; cases h2
  have h2 : (q.js.getD (id - 1).toNat J0).sta = 1 := by
    simp only [rreadyF, decide_eq_true_eq] at hr; exact hr.1
  rw [if_neg (by omega), if_neg h1, if_neg (by omega), if_neg (by rw [hr]; simp)]
  exact withF_eq (id_at R.id hid)
/-- the queue behind a round: the next job started, and ended -/
def rndQ (q : Q) : Q := ⟨q.quota, q.js.set ((nextF q).id - 1).toNat (endJ (q.js.getD ((nextF q).id - 1).toNat J0) 200)⟩
/-- queue and last job behind k rounds; f: the queue at first -/
def rnF (f q : Q) : Nat → Q × Job
  | 0 => (q, ⟨0, 0, 10, 0, 0, 0, [], [], [], 0, 0⟩)
  | k + 1 => (rndQ (rnF f q k).1, f.js.getD ((nextF (rnF f q k).1).id - 1).toNat J0)
/-- what holds behind k rounds -/
structure EI (f q : Q) (k : Nat) (last : Job) : Prop where
  R : RightQ q
  qu : q.quota = f.quota
  len : q.js.length = f.js.length
  none : ∀ m, m < f.js.length → (q.js.getD m J0).sta ≠ 2
  pri : ∀ m, m < f.js.length → (q.js.getD m J0).pri = (f.js.getD m J0).pri
  gone : ∀ m, m < f.js.length → ((q.js.getD m J0).sta = 4 ↔ (f.js.getD m J0).sta = 4)
  cnt : wcF q f.js.length + k ≤ f.js.length
  ord : ∀ m, m < f.js.length → (q.js.getD m J0).sta = 1 → (q.js.getD m J0).pri ≤ last.pri ∧ ((q.js.getD m J0).pri = last.pri → last.id ≤ m + 1)
theorem ei_0 {f : Q} (R : RightQ f) : EI f (e1F f f.js.length) 0 ⟨0, 0, 10, 0, 0, 0, [], [], [], 0, 0⟩ := by
  have g := fun m => e1_get f f.js.length (Nat.le_refl _) m
  refine ⟨e1_right R _ (Nat.le_refl _), e1_quota f _, e1_len f _, fun m hm => ?_, fun m hm => ?_, fun m hm => ?_, ?_, fun m hm _ => ?_⟩
  · rw [g]; split
    · simp [endJ]
    · rename_i h; exact fun h2 => h ⟨hm, h2⟩
  · rw [g]; split <;> simp [endJ]
  · rw [g]; split
    · rename_i h
      have h2 := h.2
      simp only [endJ]
      omega
    · rfl
  · have := wcF_bd (e1F f f.js.length) f.js.length
    omega
  · have e : ((e1F f f.js.length).js.getD m J0).pri = (f.js.getD m J0).pri := by rw [g]; split <;> simp [endJ]
    have h := (R.job m hm).1
    rw [e]
    simp only
    omega
/-- a round -/
theorem ei_step {f q : Q} {k : Nat} {last : Job} (RF : RightQ f) (I : EI f q k last) (he : (nextF q).e = 0) :
    ∃ id : Int, 1 ≤ id ∧ id ≤ f.js.length ∧ nextF q = ⟨⟨[], []⟩, id, 0⟩ ∧
      (∃ js1, startF q id 0 = ⟨⟨f.quota, js1⟩, 0, 0⟩ ∧ RightQ ⟨f.quota, js1⟩ ∧ js1.length = f.js.length ∧ leftF ⟨f.quota, js1⟩ id 3 200 [] [] [] = ⟨rndQ q, 0, 0⟩) ∧
      (f.js.getD (id - 1).toNat J0).pri ≤ last.pri ∧ ((f.js.getD (id - 1).toNat J0).pri = last.pri → last.id ≤ (f.js.getD (id - 1).toNat J0).id) ∧
      EI f (rndQ q) (k + 1) (f.js.getD (id - 1).toNat J0) := by
  rcases next_words I.R with ⟨h1, _⟩ | ⟨h1, h2, h3, h4, h5, h6⟩
  · omega
  have e0 : nextF q = ⟨⟨[], []⟩, (nextF q).id, 0⟩ := by conv => rhs; rw [← h1, ← h2]
  have hl := I.len
  have hq := I.qu
  obtain ⟨id, hid⟩ : ∃ id : Int, (nextF q).id = id := ⟨_, rfl⟩
  rw [hid] at h3 h4 h5 h6 e0
  have er : rndQ q = ⟨q.quota, q.js.set (id - 1).toNat (endJ (q.js.getD (id - 1).toNat J0) 200)⟩ := by unfold rndQ; rw [hid]
  have hk : (id - 1).toNat < q.js.length := by omega
  have hs1 : (q.js.getD (id - 1).toNat J0).sta = 1 := by simp only [rreadyF, decide_eq_true_eq] at h5; exact h5.1
  have hS := start_none I.R (fun m hm => I.none m (by omega)) (dev := 0) ⟨h3, h4⟩ (by omega) h5
  have R1 := start_right I.R id 0
  rw [hS] at R1
  have hL := left_at (id := id) R1 (by show 1 ≤ id ∧ id ≤ (q.js.set _ _).length; rw [List.length_set]; exact ⟨h3, h4⟩) 200 3 (by show ((q.js.set _ _).getD _ J0).sta = 2; rw [get_set _ _ _ _ hk, if_pos rfl])
  simp only [get_set _ _ _ _ hk, if_true, List.set_set] at hL
  have R2 : RightQ (rndQ q) := by
    have := left_right R1 id 3 200 [] [] [] (.inr rfl)
    rw [hL] at this
    rw [er]; exact this
  have g : ∀ m, (rndQ q).js.getD m J0 = if m = (id - 1).toNat then endJ (q.js.getD (id - 1).toNat J0) 200 else q.js.getD m J0 := fun m => by
    rw [er]; exact get_set _ _ _ _ hk
  have ho := I.ord (id - 1).toNat (by omega) hs1
  have hp := I.pri (id - 1).toNat (by omega)
  have hidf := RF.id (id - 1).toNat (by omega)
  refine ⟨id, h3, by omega, e0, ⟨_, hq ▸ hS, hq ▸ R1, by simp [hl], ?_⟩, by omega, fun h => ?_, ?_⟩
  · rw [er, ← hq]; exact hL
  · have := ho.2 (by omega)
    omega
  · refine ⟨R2, by rw [er]; exact hq, by rw [er]; simp [hl], fun m hm => ?_, fun m hm => ?_, fun m hm => ?_, ?_, fun m hm hs => ?_⟩
    · rw [g]; split
      · simp [endJ]
      · exact I.none m hm
    · rw [g]; split
      · rename_i e; subst e; exact hp
      · exact I.pri m hm
    · rw [g]; split
      · rename_i e; subst e
        have := I.gone (id - 1).toNat hm
        constructor
        · intro h; simp [endJ] at h
        · intro h; have := this.2 h; omega
      · exact I.gone m hm
    · have hc := wcF_set hk hs1 (j := endJ (q.js.getD (id - 1).toNat J0) 200) (by simp [endJ]) f.js.length
      rw [if_pos (by omega)] at hc
      rw [er, hc]
      have := I.cnt
      omega
    · rw [g] at hs ⊢
      split at hs
      · simp [endJ] at hs
      · rename_i e
        rw [if_neg e]
        have hr := wait_ready I.R (fun m hm => I.none m (by omega)) (i := m) (by omega) hs
        have := h6 m (by omega) hr
        rw [← hp, hidf]
        exact ⟨this.1, fun h => by have := this.2 h; omega⟩
theorem ei_next {f q : Q} {k : Nat} {last : Job} (I : EI f q k last) : (nextF q).e = 0 ∨ nextF q = ⟨⟨[], []⟩, 0, 4⟩ := by
  rcases next_words I.R with ⟨h1, h2, h3, _⟩ | ⟨h1, _⟩
  · right; rw [← h1, ← h2, ← h3]
  · exact .inl h1
/-- at the end none waits or runs -/
theorem ei_end {f q : Q} {k : Nat} {last : Job} (RF : RightQ f) (I : EI f q k last) (he : (nextF q).e ≠ 0) : ∀ i, i < f.js.length →
    (((f.js.getD i J0).sta = 4 ∧ (q.js.getD i J0).sta = 4) ∨ ((f.js.getD i J0).sta ≠ 4 ∧ (q.js.getD i J0).sta = 3)) ∧ cancelF q (i + 1) = ⟨q, 0, 430⟩ ∧ startF q (i + 1) 3 = ⟨q, 0, 430⟩ := by
  intro i hi
  have hl := I.len
  have h1 : (q.js.getD i J0).sta ≠ 1 := fun hs => by
    rcases next_words I.R with ⟨_, _, _, h⟩ | ⟨h, _⟩
    · have := wait_ready I.R (fun m hm => I.none m (by omega)) (i := i) (by omega) hs
      rw [h i (by omega)] at this; cases this
    · exact he h
  have h2 := I.none i hi
  have h3 := I.gone i hi
  have h4 := (I.R.job i (by omega)).1
  have e : ((i : Int) + 1 - 1).toNat = i := by omega
  refine ⟨by omega, ?_, ?_⟩
  · unfold cancelF
    rw [if_neg (by omega), e, if_pos ⟨h1, h2⟩]
  · unfold startF
    rw [if_neg (by omega), if_neg, e, if_pos h1]
    rintro (h | h)
    · omega
    · rw [none_free (fun m hm => I.none m (by omega))] at h; cases h
theorem ei_all {f : Q} (RF : RightQ f) : ∀ k, (∀ m, m < k → (nextF (rnF f (e1F f f.js.length) m).1).e = 0) → EI f (rnF f (e1F f f.js.length) k).1 k (rnF f (e1F f f.js.length) k).2 := by
  intro k
  induction k with
  | zero => intro _; exact ei_0 RF
  | succ k ih =>
    intro h
    have I := ih fun m hm => h m (by omega)
    obtain ⟨id, _, _, e, _, _, _, J⟩ := ei_step RF I (h k (by omega))
    simp only [rnF]
    rw [show (nextF (rnF f (e1F f f.js.length) k).1).id = id by rw [e]]
    exact J
end Go.Proofs.Ytkjihkenmghaeaa
