/- Own work (by an AI agent; no person has read it): part of a proof of the seat Ytkjihkenmghaeaa. -/
import Derived.Test.YtkjihkenmghaeaaXM7
set_option linter.unusedSimpArgs false
set_option linter.unusedVariables false
namespace Go.Proofs.Ytkjihkenmghaeaa
open Go.Ab
def endJ (j : Job) (g : Int) : Job := { j with sta := 3, at_ := -1, grp := g, s1 := [], s2 := [], s3 := [] }
/-- the jobs that run among the first i, ended -/
def e1F (q : Q) : Nat → Q
  | 0 => q
  | i + 1 => if (q.js.getD i J0).sta = 2 then ⟨q.quota, (e1F q i).js.set i (endJ (q.js.getD i J0) 100)⟩ else e1F q i
theorem e1_quota (q : Q) (i : Nat) : (e1F q i).quota = q.quota := by
  induction i with
  | zero => rfl
  | succ i ih => simp only [e1F]; split <;> simp [ih]
theorem e1_len (q : Q) (i : Nat) : (e1F q i).js.length = q.js.length := by
  induction i with
  | zero => rfl
  | succ i ih => simp only [e1F]; split <;> simp [ih]
theorem e1_get (q : Q) : ∀ i, i ≤ q.js.length → ∀ m, (e1F q i).js.getD m J0 = if m < i ∧ (q.js.getD m J0).sta = 2 then endJ (q.js.getD m J0) 100 else q.js.getD m J0 := by
  intro i
  induction i with
  | zero => intro _ m; simp [e1F]
  | succ i ih =>
    intro hi m
    have hl := e1_len q i
    simp only [e1F]
    split
    · rename_i hs
      show ((e1F q i).js.set i _).getD m J0 = _
      rw [get_set _ _ _ _ (by omega)]
      by_cases hm : m = i
      · subst hm; rw [if_pos rfl, if_pos ⟨by omega, hs⟩]
      · rw [if_neg hm, ih (by omega) m]
        by_cases h : m < i ∧ (q.js.getD m J0).sta = 2
        · rw [if_pos h, if_pos ⟨by omega, h.2⟩]
        · rw [if_neg h, if_neg (fun h2 => h ⟨by omega, h2.2⟩)]
    · rename_i hs
      rw [ih (by omega) m]
      by_cases h : m < i ∧ (q.js.getD m J0).sta = 2
      · rw [if_pos h, if_pos ⟨by omega, h.2⟩]
      · rw [if_neg h, if_neg (fun h2 => h ⟨by rcases Nat.lt_succ_iff_lt_or_eq.1 h2.1 with h3 | rfl; exact h3; exact absurd h2.2 hs, h2.2⟩)]
theorem e1_step {q : Q} {i : Nat} (hi : i < q.js.length) (R : RightQ (e1F q i)) : (((q.js.getD i J0).sta = 2 → leftF (e1F q i) (i + 1) 3 100 [] [] [] = ⟨e1F q (i + 1), 0, 0⟩) ∧ RightQ (e1F q (i + 1))) := by
  have hl := e1_len q i
  have hg := e1_get q i (by omega) i
  rw [if_neg (by omega)] at hg
  have e : ((i : Int) + 1 - 1).toNat = i := by omega
  have key : (q.js.getD i J0).sta = 2 → leftF (e1F q i) (i + 1) 3 100 [] [] [] = ⟨e1F q (i + 1), 0, 0⟩ := fun hs => by
    rw [left_at R (by omega) 100 3 (by rw [e, hg]; exact hs), e, hg, e1_quota]
    simp only [e1F]; rw [if_pos hs]; rfl
  refine ⟨key, ?_⟩
  by_cases hs : (q.js.getD i J0).sta = 2
  · have := left_right R (i + 1) 3 100 [] [] [] (.inr rfl)
    rw [key hs] at this; exact this
  · simp only [e1F]; rw [if_neg hs]; exact R
theorem e1_right {q : Q} (R : RightQ q) : ∀ i, i ≤ q.js.length → RightQ (e1F q i) := by
  intro i
  induction i with
  | zero => intro _; exact R
  | succ i ih => intro h; exact (e1_step (by omega) (ih (by omega))).2
end Go.Proofs.Ytkjihkenmghaeaa
