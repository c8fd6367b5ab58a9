/- Own work (by an AI agent; no person has read it): part of a proof of the seat Ytkjihkenmghaeaa. -/
import Derived.Test.YtkjihkenmghaeaaXM3
import Derived.Test.YtkjihkenmghaeaaXL8
set_option linter.unusedSimpArgs false
set_option linter.unusedVariables false
namespace Go.Proofs.Ytkjihkenmghaeaa
open Go.Ab

theorem lessF_lt (x m : Job) : lessF x m < 0 ↔ m.pri < x.pri ∨ (m.pri = x.pri ∧ x.id < m.id) := by
  unfold lessF
  repeat' split
  all_goals simp
  all_goals omega
theorem minJ_snoc {l : List Job} (h : l ≠ []) (x : Job) : minJ (l ++ [x]) = if lessF x (minJ l) < 0 then x else minJ l := by
  cases l with
  | nil => exact absurd rfl h
  | cons y l => simp only [List.cons_append, minJ]; exact minL_snoc x l y
theorem best_is {q : Q} (R : RightQ q) : ∀ i, i ≤ q.js.length → (bestF q i < 0 ∧ (q.js.take i).filter (readyF q) = []) ∨
    (0 ≤ bestF q i ∧ (q.js.take i).filter (readyF q) ≠ [] ∧ minJ ((q.js.take i).filter (readyF q)) = q.js.getD (bestF q i).toNat J0) := by
  intro i
  induction i with
  | zero => intro _; left; simp [bestF]
  | succ i ih =>
    intro hi
    have hb := bestF_bd q i
    have hr := R.ready (i := i) (by omega)
    have hid := R.id i (by omega)
    rw [take_snoc' q.js i (by omega), List.filter_append]
    cases hx : readyF q (q.js.getD i J0) with
    | false =>
      have e : bestF q (i + 1) = bestF q i := by simp only [bestF]; rw [if_neg (by rw [← hr, hx]; simp)]
      rw [e]
      simp only [List.filter_cons, hx, Bool.false_eq_true, if_false, List.filter_nil, List.append_nil]
      exact ih (by omega)
    | true =>
      right
      simp only [List.filter_cons, hx, if_true, List.filter_nil]
      have hne : ((q.js.take i).filter (readyF q) ++ [q.js.getD i J0]) ≠ [] := by simp
      rcases ih (by omega) with ⟨h1, h2⟩ | ⟨h1, h2, h3⟩
      · have e : bestF q (i + 1) = i := by simp only [bestF]; rw [if_pos ⟨by rw [← hr, hx], .inl h1⟩]
        rw [e, h2]
        exact ⟨by omega, by simp, by simp only [List.nil_append, minJ, minL, Int.toNat_natCast]⟩
      · have hid2 := R.id (bestF q i).toNat (by omega)
        have hl : lessF (q.js.getD i J0) (minJ ((q.js.take i).filter (readyF q))) < 0 ↔ (q.js.getD (bestF q i).toNat J0).pri < (q.js.getD i J0).pri := by
          rw [h3, lessF_lt]
          constructor
          · rintro (h | h)
            · exact h
            · omega
          · exact .inl
        by_cases hp : (q.js.getD (bestF q i).toNat J0).pri < (q.js.getD i J0).pri
        · have e : bestF q (i + 1) = i := by simp only [bestF]; rw [if_pos ⟨by rw [← hr, hx], .inr hp⟩]
          rw [e, minJ_snoc h2, if_pos (hl.2 hp)]
          exact ⟨by omega, hne, by rw [Int.toNat_natCast]⟩
        · have e : bestF q (i + 1) = bestF q i := by simp only [bestF]; rw [if_neg (by rintro ⟨-, h | h⟩; omega; exact hp h)]
          rw [e, minJ_snoc h2, if_neg (fun h => hp (hl.1 h))]
          exact ⟨h1, hne, h3⟩
theorem next_eq {q : Q} (R : RightQ q) : nextD q = nextF q := by
  have := best_is R q.js.length (Nat.le_refl _)
  rw [List.take_length] at this
  have hb := bestF_bd q q.js.length
  rcases this with ⟨h1, h2⟩ | ⟨h1, h2, h3⟩
  · unfold nextD nextF
    rw [nextP_0 h2, if_pos h1]
  · unfold nextD nextF
    rw [nextP_1 h2, if_neg (by omega), h3, R.id _ (by omega)]
    congr 1
    omega
theorem sameJob_refl (a : Job) : sameJobF a a = true := by simp [sameJobF]
theorem same_refl (a : Q) : sameF a a = true := by simp [sameF, sameJob_refl]
theorem sameDn_refl (a : Dn) : sameDnF a a = true := by simp [sameDnF, same_refl]
/-- with an error the queue stays -/
theorem do_err {q : Q} (R : RightQ q) (k a b c : Int) (h : (doF q k a b c).e ≠ 0) : (doF q k a b c).q = q := by
  have e0 : ∀ d : Dn, d.e ≠ 0 → d.q = q → d.q = q := fun _ _ h => h
  unfold doF at h ⊢
  split at h
  · rename_i h1
    rcases submit_cases q (rawJob a b c) with ⟨_, h2, _⟩ | ⟨_, h2⟩
    · rw [if_pos h1]; exact h2
    · rw [h2] at h; exact absurd rfl h
  · rename_i h1
    rw [if_neg h1]
    split at h
    · rename_i h2
      rw [if_pos h2]
      rcases start_cases q (a % 12) (b % 4) R.id with ⟨_, h3, _⟩ | ⟨_, _, _, _, _, _, _, h3⟩
      · exact h3
      · rw [h3] at h; exact absurd rfl h
    · rename_i h2
      rw [if_neg h2]
      split at h
      · rename_i h3
        rw [if_pos h3]
        rcases left_cases q (a % 12) 1 c [] [] [] R.id with ⟨_, h4, _⟩ | ⟨_, _, _, h4⟩
        · exact h4
        · rw [h4] at h; exact absurd rfl h
      · rename_i h3
        rw [if_neg h3]
        split at h
        · rename_i h4
          rw [if_pos h4]
          rcases left_cases q (a % 12) 3 c [] [] [] R.id with ⟨_, h5, _⟩ | ⟨_, _, _, h5⟩
          · exact h5
          · rw [h5] at h; exact absurd rfl h
        · rename_i h4
          rw [if_neg h4]
          rcases cancel_cases q (a % 12) R.id with ⟨_, h5, _⟩ | ⟨_, _, _, h5⟩
          · exact h5
          · rw [h5] at h; exact absurd rfl h
theorem do_quota (q : Q) (k a b c : Int) : (doF q k a b c).q.quota = q.quota := by
  unfold doF submitF startF leftF cancelF withF
  (repeat' split) <;> rfl
theorem run_quota (q : Q) : ∀ l : List Raw, (runF q l).quota = q.quota := by
  intro l
  induction l generalizing q with
  | nil => rfl
  | cons x l ih => exact (ih (x.doF q).q).trans (do_quota q x.k x.a x.b x.c)
theorem and_bd (z : Int) (m : Nat) (h : m < 9223372036854775808) : 0 ≤ andK .i64 z m ∧ andK .i64 z m ≤ m := by
  have h1 : (BitVec.ofInt 64 z &&& BitVec.ofInt 64 (m : Int)).toNat ≤ m := by
    rw [BitVec.toNat_and]
    refine Nat.le_trans Nat.and_le_right ?_
    rw [BitVec.toNat_ofInt]
    omega
  have h2 : andK .i64 z m = wrap ((BitVec.ofInt 64 z &&& BitVec.ofInt 64 (m : Int)).toNat : Int) := rfl
  rw [h2, wrap_of (by omega) (by omega)]
  omega
end Go.Proofs.Ytkjihkenmghaeaa
