/- Own work (by an AI agent; no person has read it): part of a proof of the seat Ytkjihkenmghaeaa. -/
import Derived.Test.YtkjihkenmghaeaaXM4
set_option linter.unusedSimpArgs false
set_option linter.unusedVariables false
namespace Go.Proofs.Ytkjihkenmghaeaa
open Go.Ab

/-- the devices in use are small numbers -/
def DevQ (q : Q) : Prop := ∀ i, i < q.js.length → (q.js.getD i J0).sta = 2 → (q.js.getD i J0).at_ < 50
theorem DevQ.set {q : Q} (D : DevQ q) {k : Nat} (hk : k < q.js.length) {j : Job} (hj : j.sta = 2 → j.at_ < 50) : DevQ ⟨q.quota, q.js.set k j⟩ := by
  intro i hi
  simp only [List.length_set] at hi
  show (( q.js.set k j).getD i J0).sta = 2 → ((q.js.set k j).getD i J0).at_ < 50
  rw [get_set _ _ _ _ hk]
  split
  · exact hj
  · exact D i hi
theorem DevQ.snoc {q : Q} (D : DevQ q) {j : Job} (hj : j.sta = 1) : DevQ ⟨q.quota, q.js ++ [j]⟩ := by
  intro i hi
  simp only [List.length_append, List.length_cons, List.length_nil] at hi
  show ((q.js ++ [j]).getD i J0).sta = 2 → ((q.js ++ [j]).getD i J0).at_ < 50
  rw [get_snoc _ _ _ (by omega)]
  split
  · omega
  · exact D i (by omega)
theorem do_dev {q : Q} (R : RightQ q) (D : DevQ q) (k a b c : Int) : DevQ (doF q k a b c).q := by
  unfold doF
  split
  · rcases submit_cases q (rawJob a b c) with ⟨_, h, _⟩ | ⟨_, h⟩
    · rw [h]; exact D
    · rw [h]; exact D.snoc rfl
  split
  · rcases start_cases q (a % 12) (b % 4) R.id with ⟨_, h, _⟩ | ⟨g1, g2, g3, g4, g5, g6, g7, h⟩
    · rw [h]; exact D
    · rw [h]; exact D.set (by omega) (fun _ => by show b % 4 < 50; omega)
  split
  · rcases left_cases q (a % 12) 1 c [] [] [] R.id with ⟨_, h, _⟩ | ⟨g1, g2, g3, h⟩
    · rw [h]; exact D
    · rw [h]; exact D.set (by omega) (fun h => by simp at h)
  split
  · rcases left_cases q (a % 12) 3 c [] [] [] R.id with ⟨_, h, _⟩ | ⟨g1, g2, g3, h⟩
    · rw [h]; exact D
    · rw [h]; exact D.set (by omega) (fun h => by simp at h)
  · rcases cancel_cases q (a % 12) R.id with ⟨_, h, _⟩ | ⟨g1, g2, g3, h⟩
    · rw [h]; exact D
    · rw [h]; exact D.set (by omega) (fun h => by simp at h)
theorem run_dev {q : Q} (R : RightQ q) (D : DevQ q) : ∀ l : List Raw, DevQ (runF q l) := by
  intro l
  induction l generalizing q with
  | nil => exact D
  | cons x l ih => exact ih (do_right R x.k x.a x.b x.c) (do_dev R D x.k x.a x.b x.c)
theorem q0_dev (a b c : Int) : DevQ (q0F a b c) := by intro i hi; simp [q0F] at hi
theorem DevQ.free {q : Q} (D : DevQ q) {d : Int} (h : 50 ≤ d) : takenF q d = false := by
  refine Bool.eq_false_iff.2 fun h9 => ?_
  obtain ⟨i, hi, h1, h2⟩ := (takenF'_iff d q.js).1 h9
  have := D i hi h1
  omega
/-- a job that is ready starts on a free device -/
theorem start_free {q : Q} (R : RightQ q) (D : DevQ q) {id dev : Int} (hid : 1 ≤ id ∧ id ≤ q.js.length) (hd : 50 ≤ dev ∧ dev ≤ 99) (hr : rreadyF q (q.js.getD (id - 1).toNat J0) = true) :
    startF q id dev = ⟨⟨q.quota, q.js.set (id - 1).toNat { q.js.getD (id - 1).toNat J0 with sta := 2, at_ := dev }⟩, 0, 0⟩ := by
  unfold startF
  have h1 : ¬ (¬ (0 ≤ dev ∧ dev ≤ 99) ∨ takenF q dev = true) := by
    rintro (h | h)
    · omega
    · rw [D.free hd.1] at h; cases h
  have h2 : (q.js.getD (id - 1).toNat J0).sta = 1 := by
    simp only [rreadyF, decide_eq_true_eq] at hr; exact hr.1
  rw [if_neg (by omega), if_neg h1, if_neg (by omega), if_neg (by rw [hr]; simp)]
  exact withF_eq (id_at R.id hid)

/-- the job that is next: the best one that is ready -/
theorem best_top (q : Q) : ∀ i, (bestF q i < 0 → ∀ m, m < i → rreadyF q (q.js.getD m J0) = false) ∧
    (0 ≤ bestF q i → rreadyF q (q.js.getD (bestF q i).toNat J0) = true ∧ ∀ m, m < i → rreadyF q (q.js.getD m J0) = true → (q.js.getD m J0).pri ≤ (q.js.getD (bestF q i).toNat J0).pri ∧ ((q.js.getD m J0).pri = (q.js.getD (bestF q i).toNat J0).pri → bestF q i ≤ m)) := by
  intro i
  induction i with
  | zero => exact ⟨fun _ m hm => by omega, fun h => by simp [bestF] at h⟩
  | succ i ih =>
    have hb := bestF_bd q i
    simp only [bestF]
    split
    · rename_i h
      refine ⟨fun h9 => by omega, fun _ => ?_⟩
      rw [Int.toNat_natCast]
      refine ⟨h.1, fun m hm hr => ?_⟩
      rcases Nat.lt_succ_iff_lt_or_eq.1 hm with hm | rfl
      · rcases h.2 with h2 | h2
        · rw [ih.1 h2 m hm] at hr; cases hr
        · by_cases h3 : bestF q i < 0
          · rw [ih.1 h3 m hm] at hr; cases hr
          · have := (ih.2 (by omega)).2 m hm hr
            omega
      · omega
    · rename_i h
      refine ⟨fun h9 m hm => ?_, fun h9 => ⟨(ih.2 h9).1, fun m hm hr => ?_⟩⟩
      · rcases Nat.lt_succ_iff_lt_or_eq.1 hm with hm | rfl
        · exact ih.1 h9 m hm
        · exact Bool.eq_false_iff.2 fun hr => h ⟨hr, .inl h9⟩
      · rcases Nat.lt_succ_iff_lt_or_eq.1 hm with hm | rfl
        · exact (ih.2 h9).2 m hm hr
        · have : ¬ (q.js.getD (bestF q m).toNat J0).pri < (q.js.getD m J0).pri := fun h8 => h ⟨hr, .inr h8⟩
          omega
theorem usd_none {q : Q} (h : ∀ i, i < q.js.length → (q.js.getD i J0).sta ≠ 2) (t : Int) : usd t q.js = 0 := by
  have key : ∀ l : List Job, (∀ j ∈ l, j.sta ≠ 2) → usd t l = 0 := by
    intro l
    induction l with
    | nil => intro _; rfl
    | cons x l ih => intro hh; simp only [usd, cst_2 (hh x (List.mem_cons_self ..)), ih fun j hj => hh j (List.mem_cons_of_mem _ hj)]; rfl
  exact key _ (mem_get (p := fun j => j.sta ≠ 2) h)
/-- if none runs, each job that waits is ready -/
theorem wait_ready {q : Q} (R : RightQ q) (h : ∀ i, i < q.js.length → (q.js.getD i J0).sta ≠ 2) {i : Nat} (hi : i < q.js.length) (hs : (q.js.getD i J0).sta = 1) : rreadyF q (q.js.getD i J0) = true := by
  rw [R.rready hi, usd_none h, decide_eq_true_eq]
  have := (R.job i hi).1
  exact ⟨hs, by omega⟩
/-- how many of the first i jobs run -/
def rcF (q : Q) : Nat → Int
  | 0 => 0
  | i + 1 => if (q.js.getD i J0).sta = 2 then rcF q i + 1 else rcF q i
theorem rcF_bd (q : Q) (i : Nat) : 0 ≤ rcF q i ∧ rcF q i ≤ i := by
  induction i with
  | zero => simp [rcF]
  | succ i ih => simp only [rcF]; split <;> omega
theorem rcF_0 {q : Q} {i : Nat} (h : rcF q i ≤ 0) : ∀ m, m < i → (q.js.getD m J0).sta ≠ 2 := by
  induction i with
  | zero => intro m hm; omega
  | succ i ih =>
    have hb := rcF_bd q i
    simp only [rcF] at h
    split at h
    · omega
    · rename_i hs
      intro m hm
      rcases Nat.lt_succ_iff_lt_or_eq.1 hm with hm | rfl
      · exact ih h m hm
      · exact hs
/-- what is next, in words -/
theorem next_words {q : Q} (R : RightQ q) : ((nextF q).e = 4 ∧ (nextF q).id = 0 ∧ (nextF q).q = ⟨[], []⟩ ∧ ∀ m, m < q.js.length → rreadyF q (q.js.getD m J0) = false) ∨
    ((nextF q).e = 0 ∧ (nextF q).q = ⟨[], []⟩ ∧ 1 ≤ (nextF q).id ∧ (nextF q).id ≤ q.js.length ∧ rreadyF q (q.js.getD ((nextF q).id - 1).toNat J0) = true ∧
      ∀ m, m < q.js.length → rreadyF q (q.js.getD m J0) = true → (q.js.getD m J0).pri ≤ (q.js.getD ((nextF q).id - 1).toNat J0).pri ∧ ((q.js.getD m J0).pri = (q.js.getD ((nextF q).id - 1).toNat J0).pri → (nextF q).id ≤ m + 1)) := by
  have hb := bestF_bd q q.js.length
  obtain ⟨h1, h2⟩ := best_top q q.js.length
  unfold nextF
  split
  · rename_i h
    exact .inl ⟨rfl, rfl, rfl, h1 h⟩
  · rename_i h
    obtain ⟨g1, g2⟩ := h2 (by omega)
    have e : (bestF q q.js.length + 1 - 1).toNat = (bestF q q.js.length).toNat := by omega
    right
    simp only [e]
    refine ⟨trivial, trivial, by omega, by omega, g1, fun m hm hr => ?_⟩
    obtain ⟨g3, g4⟩ := g2 m hm hr
    exact ⟨g3, fun h => by have := g4 h; omega⟩
end Go.Proofs.Ytkjihkenmghaeaa
