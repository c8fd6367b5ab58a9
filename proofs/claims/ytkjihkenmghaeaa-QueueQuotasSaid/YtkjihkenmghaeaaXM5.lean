/- Own work (by an AI agent; no person has read it): part of a proof of the seat Ytkjihkenmghaeaa. -/
import Derived.Test.YtkjihkenmghaeaaXM4
set_option linter.unusedSimpArgs false
set_option linter.unusedVariables false
namespace Go.Proofs.Ytkjihkenmghaeaa
open Go.Ab

/-! what each operation does to what tenants use (QueueQuotas) -/
/-- one job in the place of another of the same tenant and bound -/
structure Chg (q q' : Q) (k : Nat) (j' : Job) : Prop where
  lt : k < q.js.length
  eq : q' = ⟨q.quota, q.js.set k j'⟩
  ten : j'.ten = (q.js.getD k J0).ten
  bou : j'.bou = (q.js.getD k J0).bou
theorem Chg.usd {q q' : Q} {k : Nat} {j' : Job} (h : Chg q q' k j') (t : Int) : Ytkjihkenmghaeaa.usd t q'.js = Ytkjihkenmghaeaa.usd t q.js - cst t (q.js.getD k J0) + cst t j' := by
  rw [h.eq]; exact usd_set t j' q.js k h.lt
theorem Chg.else {q q' : Q} {k : Nat} {j' : Job} (h : Chg q q' k j') {t : Int} (ht : t ≠ (q.js.getD k J0).ten) : Ytkjihkenmghaeaa.usd t q'.js = Ytkjihkenmghaeaa.usd t q.js := by
  rw [h.usd]
  unfold cst
  rw [if_neg (fun e => ht e.1.symm), if_neg (fun e => ht (h.ten ▸ e.1.symm))]
  omega
/-- how many of the first i tenants use something else -/
def chF (q q' : Q) : Nat → Int
  | 0 => 0
  | i + 1 => if usd i q.js = usd i q'.js then chF q q' i else chF q q' i + 1
theorem chF_bd (q q' : Q) (i : Nat) : 0 ≤ chF q q' i ∧ chF q q' i ≤ i := by
  induction i with
  | zero => simp [chF]
  | succ i ih => simp only [chF]; split <;> omega
theorem chF_0 {q q' : Q} (h : ∀ t : Nat, usd t q.js = usd t q'.js) (i : Nat) : chF q q' i = 0 := by
  induction i with
  | zero => rfl
  | succ i ih => simp only [chF]; rw [if_pos (h i), ih]
theorem chF_1 {q q' : Q} {T : Int} (h : ∀ t : Nat, (t : Int) ≠ T → usd t q.js = usd t q'.js) (i : Nat) : chF q q' i ≤ if T < i then 1 else 0 := by
  induction i with
  | zero => simp only [chF]; split <;> omega
  | succ i ih =>
    simp only [chF]
    by_cases hi : (i : Int) = T
    · rw [if_neg (show ¬ T < (i : Int) by omega)] at ih
      rw [if_pos (show T < ((i + 1 : Nat) : Int) by omega)]
      split <;> omega
    · rw [if_pos (h i hi)]
      split at ih <;> split <;> omega
theorem chF_le {q q' : Q} {T : Int} (h : ∀ t : Nat, (t : Int) ≠ T → usd t q.js = usd t q'.js) (i : Nat) : chF q q' i ≤ 1 := by
  have := chF_1 h i
  split at this <;> omega

/-- what an operation does: nothing to what is used; or it changes one job -/
theorem do_quotas {q : Q} (R : RightQ q) (k a b c : Int) (hk : 0 ≤ k) (ha : 0 ≤ a) (hb : 0 ≤ b) :
    (((doF q k a b c).e ≠ 0 ∨ k % 8 < 3) ∧ chF q (doF q k a b c).q 3 = 0) ∨
    ((doF q k a b c).e = 0 ∧ ¬ k % 8 < 3 ∧ 1 ≤ a % 12 ∧ a % 12 ≤ q.js.length ∧ (doF q k a b c).q.js.length = q.js.length ∧
      (((k % 8 = 3 ∨ k % 8 = 4) ∧ usd (q.js.getD (a % 12 - 1).toNat J0).ten (doF q k a b c).q.js - usd (q.js.getD (a % 12 - 1).toNat J0).ten q.js = (q.js.getD (a % 12 - 1).toNat J0).bou ∧ chF q (doF q k a b c).q 3 ≤ 1) ∨
       (¬ (k % 8 = 3 ∨ k % 8 = 4) ∧ (q.js.getD (a % 12 - 1).toNat J0).sta = 2 ∧ usd (q.js.getD (a % 12 - 1).toNat J0).ten (doF q k a b c).q.js - usd (q.js.getD (a % 12 - 1).toNat J0).ten q.js = - (q.js.getD (a % 12 - 1).toNat J0).bou ∧ chF q (doF q k a b c).q 3 ≤ 1) ∨
       (¬ (k % 8 = 3 ∨ k % 8 = 4) ∧ (q.js.getD (a % 12 - 1).toNat J0).sta ≠ 2 ∧ chF q (doF q k a b c).q 3 = 0))) := by
  by_cases he : (doF q k a b c).e = 0
  case neg =>
    exact .inl ⟨.inl he, by rw [do_err R k a b c he]; exact chF_0 (fun _ => rfl) 3⟩
  by_cases h3 : k % 8 < 3
  · left
    refine ⟨.inr h3, ?_⟩
    have e : doF q k a b c = submitF q (rawJob a b c) := by unfold doF; rw [if_pos (by omega)]
    rw [e]
    rcases submit_cases q (rawJob a b c) with ⟨_, h2, _⟩ | ⟨_, h2⟩
    · rw [h2]; exact chF_0 (fun _ => rfl) 3
    · rw [h2]
      refine chF_0 (fun t => ?_) 3
      show _ = usd t (q.js ++ _)
      rw [usd_append]
      simp [usd, cst]
  right
  -- one job is changed
  have one : ∃ j', Chg q (doF q k a b c).q (a % 12 - 1).toNat j' ∧ 1 ≤ a % 12 ∧ a % 12 ≤ q.js.length ∧ (((k % 8 = 3 ∨ k % 8 = 4) ∧ (q.js.getD (a % 12 - 1).toNat J0).sta = 1 ∧ j'.sta = 2) ∨ (¬ (k % 8 = 3 ∨ k % 8 = 4) ∧ j'.sta ≠ 2)) := by
    by_cases h1 : k % 8 = 3 ∨ k % 8 = 4
    · have e : doF q k a b c = startF q (a % 12) (b % 4) := by unfold doF; rw [if_neg (by omega), if_pos h1]
      rw [e] at he ⊢
      rcases start_cases q (a % 12) (b % 4) R.id with ⟨h, _⟩ | ⟨g1, g2, g3, g4, g5, g6, g7, g8⟩
      · exact absurd he h
      · rw [g8]; exact ⟨{ q.js.getD (a % 12 - 1).toNat J0 with sta := 2, at_ := b % 4 }, ⟨by omega, rfl, rfl, rfl⟩, g1, g2, .inl ⟨h1, g6, rfl⟩⟩
    · by_cases h5 : k % 8 = 5
      · have e : doF q k a b c = leftF q (a % 12) 1 c [] [] [] := by unfold doF; rw [if_neg (by omega), if_neg h1, if_pos h5]
        rw [e] at he ⊢
        rcases left_cases q (a % 12) 1 c [] [] [] R.id with ⟨h, _⟩ | ⟨g1, g2, g3, g8⟩
        · exact absurd he h
        · rw [g8]; exact ⟨{ q.js.getD (a % 12 - 1).toNat J0 with sta := 1, at_ := -1, grp := c, s1 := [], s2 := [], s3 := [] }, ⟨by omega, rfl, rfl, rfl⟩, g1, g2, .inr ⟨h1, by simp⟩⟩
      · by_cases h6 : k % 8 = 6
        · have e : doF q k a b c = leftF q (a % 12) 3 c [] [] [] := by unfold doF; rw [if_neg (by omega), if_neg h1, if_neg h5, if_pos h6]
          rw [e] at he ⊢
          rcases left_cases q (a % 12) 3 c [] [] [] R.id with ⟨h, _⟩ | ⟨g1, g2, g3, g8⟩
          · exact absurd he h
          · rw [g8]; exact ⟨{ q.js.getD (a % 12 - 1).toNat J0 with sta := 3, at_ := -1, grp := c, s1 := [], s2 := [], s3 := [] }, ⟨by omega, rfl, rfl, rfl⟩, g1, g2, .inr ⟨h1, by simp⟩⟩
        · have e : doF q k a b c = cancelF q (a % 12) := by unfold doF; rw [if_neg (by omega), if_neg h1, if_neg h5, if_neg h6]
          rw [e] at he ⊢
          rcases cancel_cases q (a % 12) R.id with ⟨h, _⟩ | ⟨g1, g2, g3, g8⟩
          · exact absurd he h
          · rw [g8]; exact ⟨{ q.js.getD (a % 12 - 1).toNat J0 with sta := 4, at_ := -1 }, ⟨by omega, rfl, rfl, rfl⟩, g1, g2, .inr ⟨h1, by simp⟩⟩
  obtain ⟨j', C, g1, g2, g⟩ := one
  have hu := C.usd (q.js.getD (a % 12 - 1).toNat J0).ten
  have c1 := chF_le (q := q) (q' := (doF q k a b c).q) (T := (q.js.getD (a % 12 - 1).toNat J0).ten) (fun t ht => (C.else ht).symm) 3
  have hlen : (doF q k a b c).q.js.length = q.js.length := by rw [C.eq]; simp
  refine ⟨he, h3, g1, g2, hlen, ?_⟩
  rcases g with ⟨h1, h2, h4⟩ | ⟨h1, h2⟩
  · refine .inl ⟨h1, ?_, c1⟩
    rw [hu, cst_2 (by omega)]
    unfold cst
    rw [if_pos ⟨C.ten, h4⟩, C.bou]; omega
  · by_cases hs : (q.js.getD (a % 12 - 1).toNat J0).sta = 2
    · refine .inr (.inl ⟨h1, hs, ?_, c1⟩)
      rw [hu, cst_2 h2]
      unfold cst
      rw [if_pos ⟨rfl, hs⟩]; omega
    · refine .inr (.inr ⟨h1, hs, chF_0 (fun t => ?_) 3⟩)
      rw [C.usd, cst_2 h2, cst_2 hs]; omega
end Go.Proofs.Ytkjihkenmghaeaa
