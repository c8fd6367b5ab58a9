/- Own work (by an AI agent; no person has read it): part of a proof of the seat Ytkjihkenmghaeaa. -/
import Derived.Test.YtkjihkenmghaeaaXM6
set_option linter.unusedSimpArgs false
set_option linter.unusedVariables false
namespace Go.Proofs.Ytkjihkenmghaeaa
open Go.Ab
def parkJ (j : Job) : Job := { j with sta := 1, at_ := -1, grp := 300, s1 := [], s2 := [], s3 := [] }
theorem left_at {q : Q} (R : RightQ q) {id : Int} (h : 1 ≤ id ∧ id ≤ q.js.length) (g : Int) (sta : Int) (hs : (q.js.getD (id - 1).toNat J0).sta = 2) :
    leftF q id sta g [] [] [] = ⟨⟨q.quota, q.js.set (id - 1).toNat { q.js.getD (id - 1).toNat J0 with sta := sta, at_ := -1, grp := g, s1 := [], s2 := [], s3 := [] }⟩, 0, 0⟩ := by
  unfold leftF
  rw [if_neg (by omega), if_neg (by omega)]
  exact withF_eq (id_at R.id h)
theorem left_not {q : Q} {id : Int} (h : 1 ≤ id ∧ id ≤ q.js.length) (g : Int) (sta : Int) (hs : (q.js.getD (id - 1).toNat J0).sta ≠ 2) : leftF q id sta g [] [] [] = ⟨q, 0, 430⟩ := by
  unfold leftF
  rw [if_neg (by omega), if_pos hs]
/-- parked, started again, parked again -/
theorem park_again {q : Q} (R : RightQ q) (D : DevQ q) {id dev : Int} (h : 1 ≤ id ∧ id ≤ q.js.length) (hd : 50 ≤ dev ∧ dev ≤ 99) (hs : (q.js.getD (id - 1).toNat J0).sta = 2) :
    ∃ js2, startF ⟨q.quota, q.js.set (id - 1).toNat (parkJ (q.js.getD (id - 1).toNat J0))⟩ id dev = ⟨⟨q.quota, js2⟩, 0, 0⟩ ∧ RightQ ⟨q.quota, js2⟩ ∧ js2.length = q.js.length ∧
      leftF ⟨q.quota, js2⟩ id 1 300 [] [] [] = ⟨⟨q.quota, q.js.set (id - 1).toNat (parkJ (q.js.getD (id - 1).toNat J0))⟩, 0, 0⟩ := by
  have hk : (id - 1).toNat < q.js.length := by omega
  have R1 : RightQ ⟨q.quota, q.js.set (id - 1).toNat (parkJ (q.js.getD (id - 1).toNat J0))⟩ := by
    have := left_right R id 1 300 [] [] [] (.inl rfl)
    rw [left_at R h 300 1 hs] at this; exact this
  have D1 : DevQ ⟨q.quota, q.js.set (id - 1).toNat (parkJ (q.js.getD (id - 1).toNat J0))⟩ := D.set hk (fun h => by simp [parkJ] at h)
  have g1 : (q.js.set (id - 1).toNat (parkJ (q.js.getD (id - 1).toNat J0))).getD (id - 1).toNat J0 = parkJ (q.js.getD (id - 1).toNat J0) := by
    rw [get_set _ _ _ _ hk, if_pos rfl]
  have hl1 : (q.js.set (id - 1).toNat (parkJ (q.js.getD (id - 1).toNat J0))).length = q.js.length := List.length_set
  have hr : rreadyF ⟨q.quota, q.js.set (id - 1).toNat (parkJ (q.js.getD (id - 1).toNat J0))⟩ ((Q.mk q.quota (q.js.set (id - 1).toNat (parkJ (q.js.getD (id - 1).toNat J0)))).js.getD (id - 1).toNat J0) = true := by
    rw [R1.rready (i := (id - 1).toNat) (by show (id - 1).toNat < (q.js.set _ _).length; omega)]
    show decide (((q.js.set _ _).getD _ J0).sta = 1 ∧ ((q.js.set _ _).getD _ J0).bou + usd ((q.js.set _ _).getD _ J0).ten (q.js.set _ _) ≤ q.quota.getD ((q.js.set _ _).getD _ J0).ten.toNat 0) = true
    rw [g1, usd_set _ _ _ _ hk, decide_eq_true_eq]
    refine ⟨rfl, ?_⟩
    rw [cst_2 (j := parkJ (q.js.getD (id - 1).toNat J0)) (by simp [parkJ])]
    have h2 := R.use' (R.ten _ hk)
    show (q.js.getD (id - 1).toNat J0).bou + (usd (q.js.getD (id - 1).toNat J0).ten q.js - cst (q.js.getD (id - 1).toNat J0).ten (q.js.getD (id - 1).toNat J0) + 0) ≤ q.quota.getD (q.js.getD (id - 1).toNat J0).ten.toNat 0
    have : cst (q.js.getD (id - 1).toNat J0).ten (q.js.getD (id - 1).toNat J0) = (q.js.getD (id - 1).toNat J0).bou := by unfold cst; rw [if_pos ⟨rfl, hs⟩]
    omega
  have e1 := start_free R1 D1 (id := id) (dev := dev) (by show 1 ≤ id ∧ id ≤ (q.js.set _ _).length; omega) hd hr
  have R2 := start_right R1 id dev
  rw [e1] at R2
  simp only [g1, List.set_set] at e1 R2
  refine ⟨_, e1, R2, by simp, ?_⟩
  have g2 : (q.js.set (id - 1).toNat { parkJ (q.js.getD (id - 1).toNat J0) with sta := 2, at_ := dev }).getD (id - 1).toNat J0 = { parkJ (q.js.getD (id - 1).toNat J0) with sta := 2, at_ := dev } := by
    rw [get_set _ _ _ _ hk, if_pos rfl]
  rw [left_at R2 (by show 1 ≤ id ∧ id ≤ (q.js.set _ _).length; rw [List.length_set]; exact h) 300 1 (by show ((q.js.set _ _).getD _ J0).sta = 2; rw [g2])]
  simp only [g2, List.set_set]
  rfl
end Go.Proofs.Ytkjihkenmghaeaa
