/- Own work (by an AI agent; no person has read it): part of a proof of the seat YtngpbbpnnpfocaaDoor. -/
import Derived.Test.YtngpbbpnnpfocaaDoorXQ4
import Derived.Test.YtngpbbpnnpfocaaDoorXQ2
import Derived.Test.YtngpbbpnnpfocaaDoorXP11
namespace Go.Proofs.YtngpbbpnnpfocaaDoor
open Go.Ab
set_option maxRecDepth 100000
set_option linter.unusedVariables false
set_option linter.unusedSimpArgs false

/-- what is left of a fraction behind i + 1 digits, and those digits -/
def frN (r i : Nat) : Nat := r * 10 ^ (i + 1) % 65536
def frD (r c : Nat) : List UInt8 := (List.range (c + 1)).map fun k => UInt8.ofNat (48 + r * 10 ^ k % 65536 * 10 / 65536)
theorem frN_0 (r : Nat) : frN r 0 = r * 10 % 65536 := by unfold frN; rw [Nat.zero_add, Nat.pow_one]
theorem frN_next (r i : Nat) : frN r i * 10 % 65536 = frN r (i + 1) := by
  unfold frN
  rw [Nat.pow_succ 10 (i + 1), ← Nat.mul_assoc]
  omega
theorem frN_front (r i : Nat) : frN (r * 10 % 65536) i = frN r (i + 1) := by
  unfold frN
  rw [Nat.pow_succ 10 (i + 1), Nat.mul_comm (10 ^ (i + 1)) 10, ← Nat.mul_assoc, Nat.mul_mod, Nat.mod_mod, ← Nat.mul_mod]
theorem frN_lt (r i : Nat) : frN r i < 65536 := Nat.mod_lt _ (by omega)
theorem frD_0 (r : Nat) (h : r < 65536) : frD r 0 = [UInt8.ofNat (48 + r * 10 / 65536)] := by
  show [UInt8.ofNat (48 + r * 10 ^ 0 % 65536 * 10 / 65536)] = _
  rw [Nat.pow_zero, Nat.mul_one, Nat.mod_eq_of_lt h]
theorem frD_snoc (r c : Nat) : frD r (c + 1) = frD r c ++ [UInt8.ofNat (48 + frN r c * 10 / 65536)] := by
  unfold frD
  rw [List.range_succ, List.map_append]
  rfl
theorem frD_front (r c : Nat) (h : r < 65536) : frD r (c + 1) = UInt8.ofNat (48 + r * 10 / 65536) :: frD (r * 10 % 65536) c := by
  unfold frD
  rw [List.range_succ_eq_map, List.map_cons, List.map_map]
  congr 1
  · rw [Nat.pow_zero, Nat.mul_one, Nat.mod_eq_of_lt h]
  · apply List.map_congr_left
    intro k _
    show UInt8.ofNat (48 + r * 10 ^ (k + 1) % 65536 * 10 / 65536) = UInt8.ofNat (48 + r * 10 % 65536 * 10 ^ k % 65536 * 10 / 65536)
    rw [Nat.pow_succ 10 k, Nat.mul_comm (10 ^ k) 10, ← Nat.mul_assoc]
    have : r * 10 % 65536 * 10 ^ k % 65536 = r * 10 * 10 ^ k % 65536 := by rw [Nat.mul_mod, Nat.mod_mod, ← Nat.mul_mod]
    rw [this]
theorem frD_len (r c : Nat) : (frD r c).length = c + 1 := by unfold frD; simp
theorem frac_seq : ∀ (f r : Nat), r < 65536 → (r * 2 ^ (f + 1)) % 65536 = 0 → ∃ c, c ≤ f ∧ (∀ i, i < c → 0 < frN r i) ∧ frN r c = 0 ∧ frD r c = fracB (f + 1) r := by
  intro f
  induction f with
  | zero =>
    intro r hr hd
    have h0 : r * 10 % 65536 = 0 := by omega
    refine ⟨0, Nat.le_refl _, fun i hi => absurd hi (Nat.not_lt_zero _), by rw [frN_0, h0], ?_⟩
    rw [frD_0 r hr]; unfold fracB; rw [if_pos h0]
  | succ f ih =>
    intro r hr hd
    by_cases h0 : r * 10 % 65536 = 0
    · refine ⟨0, Nat.zero_le _, fun i hi => absurd hi (Nat.not_lt_zero _), by rw [frN_0, h0], ?_⟩
      rw [frD_0 r hr]; unfold fracB; rw [if_pos h0]
    · have hd' : (r * 10 % 65536 * 2 ^ (f + 1)) % 65536 = 0 := by
        rw [Nat.mul_mod, Nat.mod_mod, ← Nat.mul_mod]
        have e3 : r * 10 * 2 ^ (f + 1) = 5 * (r * 2 ^ (f + 1 + 1)) := by rw [Nat.pow_succ 2 (f + 1)]; generalize 2 ^ (f + 1) = z; rw [Nat.mul_comm z 2, ← Nat.mul_assoc r 2 z, ← Nat.mul_assoc 5, ← Nat.mul_assoc 5, Nat.mul_comm 5 r]; congr 1; omega
        rw [e3, Nat.mul_mod, hd]
      obtain ⟨c, c1, c2, c3, c4⟩ := ih (r * 10 % 65536) (by omega) hd'
      refine ⟨c + 1, by omega, fun i hi => ?_, by rw [← frN_front, c3], ?_⟩
      · cases i with
        | zero => rw [frN_0]; omega
        | succ i => rw [← frN_front]; exact c2 i (by omega)
      · rw [frD_front r c hr, c4]
        conv => rhs; unfold fracB
        rw [if_neg h0]
/-- the numbers at the end of part -/
theorem part_nums (N K : Int) (h0 : 0 ≤ N) (h1 : N < K) (h2 : K ≤ 10000000000000000) :
    w64 (N * 256) = N * 256 ∧ w64 ((N * 256).tdiv K) = N * 256 / K ∧ (N * 256).tmod K = N * 256 % K ∧ w64 (N * 256 / K * 256) = N * 256 / K * 256 ∧
    w64 (N * 256 % K * 256) = N * 256 % K * 256 ∧ w64 ((N * 256 % K * 256).tdiv K) = N * 256 % K * 256 / K ∧ w64 (N * 256 / K * 256 + N * 256 % K * 256 / K) = N * 256 / K * 256 + N * 256 % K * 256 / K := by
  have a1 : 0 ≤ N * 256 / K := Int.ediv_nonneg (by omega) (by omega)
  have a2 : N * 256 / K < 256 := Int.ediv_lt_of_lt_mul (by omega) (by omega)
  have b1 : 0 ≤ N * 256 % K := Int.emod_nonneg _ (by omega)
  have b2 : N * 256 % K < K := Int.emod_lt_of_pos _ (by omega)
  have d1 : 0 ≤ N * 256 % K * 256 / K := Int.ediv_nonneg (by omega) (by omega)
  have d2 : N * 256 % K * 256 / K < 256 := Int.ediv_lt_of_lt_mul (by omega) (by omega)
  refine ⟨w64_of (by omega) (by omega), ?_, Int.tmod_eq_emod_of_nonneg (by omega), w64_of (by omega) (by omega), w64_of (by omega) (by omega), ?_, w64_of (by omega) (by omega)⟩
  · rw [Int.tdiv_eq_ediv_of_nonneg (by omega)]; exact w64_of (by omega) (by omega)
  · rw [Int.tdiv_eq_ediv_of_nonneg (by omega)]; exact w64_of (by omega) (by omega)
theorem partF_bound (l : List UInt8) (hl : pdig l ≤ 16) : 0 ≤ partF l ∧ partF l ≤ 65536 := by
  have hd := decA_take l (pdig l) (by unfold pdig; omega)
  have hK := p10le hl
  unfold partF
  obtain ⟨N, hN⟩ : ∃ N, decA (l.take (pdig l)) = N := ⟨_, rfl⟩
  obtain ⟨K, hK'⟩ : ∃ K : Int, 10 ^ pdig l = K := ⟨_, rfl⟩
  rw [hN, hK'] at hd ⊢
  have a1 : 0 ≤ N * 256 / K := Int.ediv_nonneg (by omega) (by omega)
  have a2 : N * 256 / K < 256 := Int.ediv_lt_of_lt_mul (by omega) (by omega)
  have d1 : 0 ≤ N * 256 % K * 256 / K := Int.ediv_nonneg (by have := Int.emod_nonneg (N * 256) (b := K) (by omega); omega) (by omega)
  have d2 : N * 256 % K * 256 / K < 256 := Int.ediv_lt_of_lt_mul (by omega) (by have := Int.emod_lt_of_pos (N * 256) (b := K) (by omega); omega)
  omega
end Go.Proofs.YtngpbbpnnpfocaaDoor
