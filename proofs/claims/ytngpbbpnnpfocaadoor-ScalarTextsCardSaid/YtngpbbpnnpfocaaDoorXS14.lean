/- Own work (by an AI agent; no person has read it): part of a proof of the seat YtngpbbpnnpfocaaDoor. -/
import Derived.Test.YtngpbbpnnpfocaaDoorXS13
set_option linter.unusedSimpArgs false
set_option linter.unusedVariables false
set_option maxRecDepth 100000
set_option maxHeartbeats 1000000
namespace Go.Proofs.YtngpbbpnnpfocaaDoor
open Go.Ab

theorem pw_nat (i : Nat) : pw (i : Int) = ((2 ^ i : Nat) : Int) := by simp [pw]
theorem V_cast (a : Int) (h : I32 a) : ((V a).toNat : Int) = if a < 0 then a + 4294967296 else a := by
  have : (V a).toNat = (a % 4294967296).toNat := by simp [V]
  unfold I32 at h
  rw [this]; split <;> omega
/-- the number that the reference makes of a 32 bit value -/
theorem up_eq (a : Int) (h : I32 a) : w64 (a + w64 (4294967296 * w64 (truthF (decide (a < 0))))) = ((V a).toNat : Int) := by
  rw [V_cast a h]
  unfold I32 at h
  by_cases h0 : a < 0
  · rw [if_pos h0, decide_eq_true h0]
    have : w64 (4294967296 * w64 (truthF true)) = 4294967296 := by decide
    rw [this, w64_of (by omega) (by omega)]
  · rw [if_neg h0, decide_eq_false h0]
    have : w64 (4294967296 * w64 (truthF false)) = 0 := by decide
    rw [this, w64_of (by omega) (by omega)]; omega
theorem bit_at (x : BitVec 32) (i : Nat) (hi : i < 32) : (w64 ((x.toNat : Int).tdiv (pw i))).tmod 2 = ((x.toNat / 2 ^ i % 2 : Nat) : Int) := by
  have hx := x.isLt
  rw [pw_nat]
  have e : (x.toNat : Int).tdiv ((2 ^ i : Nat) : Int) = ((x.toNat / 2 ^ i : Nat) : Int) := by
    rw [Int.tdiv_eq_ediv_of_nonneg (by omega)]; simp
  have hle : x.toNat / 2 ^ i ≤ x.toNat := Nat.div_le_self _ _
  rw [e]
  generalize x.toNat / 2 ^ i = d at hle ⊢
  rw [w64_of (by omega) (by omega), Int.tmod_eq_emod_of_nonneg (by omega)]; omega
theorem step_sum (z i : Nat) (hz : z < 4294967296) (hi : i < 32) : w64 (((z % 2 ^ i : Nat) : Int) + w64 (((z / 2 ^ i % 2 : Nat) : Int) * pw i)) = ((z % 2 ^ (i + 1) : Nat) : Int) := by
  have hp : (2 : Nat) ^ i ≤ 2 ^ 31 := Nat.pow_le_pow_right (by omega) (by omega)
  have h1 : z % 2 ^ i < 2 ^ i := Nat.mod_lt _ (Nat.two_pow_pos i)
  have h2 : z / 2 ^ i % 2 = 0 ∨ z / 2 ^ i % 2 = 1 := by omega
  have e : z % 2 ^ (i + 1) = z % 2 ^ i + 2 ^ i * (z / 2 ^ i % 2) := Nat.mod_pow_succ
  rw [pw_nat, e]
  clear e hz
  generalize z / 2 ^ i % 2 = v at h2 ⊢
  generalize z % 2 ^ i = u at h1 ⊢
  generalize 2 ^ i = p at h1 hp ⊢
  rcases h2 with h | h <;> subst h
  · rw [show ((0 : Nat) : Int) * (p : Int) = 0 by simp, show w64 0 = 0 by decide, w64_of (by omega) (by omega)]; simp
  · rw [show ((1 : Nat) : Int) * (p : Int) = p by simp, w64_of (n := (p : Int)) (by omega) (by omega), w64_of (by omega) (by omega)]; omega
theorem shift_and (x y i : Nat) : (x &&& y) / 2 ^ i % 2 = (x / 2 ^ i % 2) * (y / 2 ^ i % 2) := by
  rw [Nat.and_div_two_pow, and_mod2]
  rcases Nat.mod_two_eq_zero_or_one (x / 2 ^ i) with h | h <;> rcases Nat.mod_two_eq_zero_or_one (y / 2 ^ i) with g | g <;> rw [h, g] <;> rfl
theorem shift_or (x y i : Nat) : (x ||| y) / 2 ^ i % 2 = if (x / 2 ^ i % 2) < (y / 2 ^ i % 2) then (y / 2 ^ i % 2) else (x / 2 ^ i % 2) := by
  rw [Nat.or_div_two_pow, or_mod2]
  rcases Nat.mod_two_eq_zero_or_one (x / 2 ^ i) with h | h <;> rcases Nat.mod_two_eq_zero_or_one (y / 2 ^ i) with g | g <;> rw [h, g] <;> rfl
theorem shift_xor (x y i : Nat) : (x ^^^ y) / 2 ^ i % 2 = ((x / 2 ^ i % 2) + (y / 2 ^ i % 2)) % 2 := by
  rw [Nat.xor_div_two_pow, xor_mod2]
  rcases Nat.mod_two_eq_zero_or_one (x / 2 ^ i) with h | h <;> rcases Nat.mod_two_eq_zero_or_one (y / 2 ^ i) with g | g <;> rw [h, g] <;> rfl
end Go.Proofs.YtngpbbpnnpfocaaDoor
