/- Own work (by an AI agent; no person has read it): part of a proof of the seat YtngpbbpnnpfocaaDoor. -/
import Derived.Test.YtngpbbpnnpfocaaDoorXS9
import Derived.Test.YtngpbbpnnpfocaaDoorXP3
namespace Go.Proofs.YtngpbbpnnpfocaaDoor
open Go.Ab
open Go.RowKit
set_option maxHeartbeats 4000000
set_option maxRecDepth 100000
set_option linter.unusedVariables false

theorem p2_bound {k : Nat} (h : k ≤ 40) : (1 : Int) ≤ 2 ^ k ∧ (2 : Int) ^ k ≤ 1099511627776 := by
  have h1 : (2 : Nat) ^ k ≤ 2 ^ 40 := Nat.pow_le_pow_right (by omega) h
  have h2 : 1 ≤ (2 : Nat) ^ k := Nat.one_le_two_pow
  have e : (((2 : Nat) ^ k : Nat) : Int) = (2 : Int) ^ k := by simp
  omega
theorem power_calls (n : Nat) (hn : n ≤ 40) (w : World) : Calls Tryd.prog 45 #[.int .i64 n] w fun e w' => e = .returned (.int .i64 (2 ^ n)) ∧ w' = w := by
  go_enter Tryd.func45, Tryd.ntmps45
  go_wp2
  go_loop [3, 4] (fun o i => ∃ (k : Nat), o = .int .i64 (2 ^ k) ∧ i = .int .i64 k ∧ k ≤ n) (fun _ i => n - (intOf i).toNat)
  case atStart => exact ⟨0, by rfl, by rfl, by omega⟩
  case round =>
    obtain ⟨k, rfl, rfl, hk⟩ := hrel
    rcases Nat.lt_or_ge k n with h | h
    · obtain ⟨x0, x1⟩ := p2_bound (k := k) (by omega)
      have hx : (2 : Int) ^ (k + 1) = 2 * 2 ^ k := by rw [Int.pow_succ, Int.mul_comm]
      generalize (2 : Int) ^ k = x at x0 x1 hx ⊢
      go_wp2
      exact ⟨⟨k + 1, by rw [hx], by rfl, by omega⟩, by simp [intOf]; omega⟩
    · obtain rfl : k = n := by omega
      go_wp2
      go_ret
      exact ⟨rfl, rfl⟩
theorem power_ok (n : Int) (h : 0 ≤ n ∧ n ≤ 40) : CallOK Tryd.prog 45 [.v (.int .i64 n)] (fun _ => .v (.int .i64 (pw n))) (fun _ => []) :=
  callOK_of_calls (xs := [.int .i64 n]) ⟨_, Tryd.func45, rfl, by kernel_rfl⟩ (fun w _ => by
    obtain ⟨k, rfl⟩ : ∃ k : Nat, n = k := ⟨n.toNat, by omega⟩
    refine (power_calls k (by omega) w).mono ?_
    rintro e w' ⟨rfl, rfl⟩
    exact ⟨rfl, Below.refl _ _⟩)

/-! the plain laws -/
theorem floor_lt {a b : Int} (hb : 0 < b) (h : a.tmod b < 0) : a.tdiv b - 1 = a / b := by
  have e := Int.mul_tdiv_add_tmod a b
  obtain ⟨_, _, t3, _⟩ := tmod_lt a b (by omega)
  have t3 := t3 hb
  have h1 : b * (a / b) + a % b = a := Int.mul_ediv_add_emod a b
  have h2 := Int.emod_nonneg a (show b ≠ 0 by omega)
  have h3 := Int.emod_lt_of_pos a hb
  have k1 : b * (a / b) < b * (a.tdiv b) := by omega
  have k2 : b * (a.tdiv b) < b * (a / b + 2) := by rw [Int.mul_add]; omega
  have := Int.lt_of_mul_lt_mul_left k1 (by omega)
  have := Int.lt_of_mul_lt_mul_left k2 (by omega)
  omega
theorem floor_ge {a b : Int} (hb : 0 < b) (h : ¬ a.tmod b < 0) : a.tdiv b = a / b := by
  have e := Int.mul_tdiv_add_tmod a b
  obtain ⟨_, _, t3, _⟩ := tmod_lt a b (by omega)
  have t3 := t3 hb
  have h1 : b * (a / b) + a % b = a := Int.mul_ediv_add_emod a b
  have h2 := Int.emod_nonneg a (show b ≠ 0 by omega)
  have h3 := Int.emod_lt_of_pos a hb
  have k1 : b * (a / b) < b * (a.tdiv b + 1) := by rw [Int.mul_add]; omega
  have k2 : b * (a.tdiv b) < b * (a / b + 1) := by rw [Int.mul_add]; omega
  have := Int.lt_of_mul_lt_mul_left k1 (by omega)
  have := Int.lt_of_mul_lt_mul_left k2 (by omega)
  omega
theorem tdiv_in {a b : Int} (h : -9223372036854775807 ≤ a ∧ a ≤ 9223372036854775807) : -9223372036854775807 ≤ a.tdiv b ∧ a.tdiv b ≤ 9223372036854775807 := by
  have := Int.natAbs_tdiv_le_natAbs a b
  omega
theorem div_uniq {x s q : Int} (hs : 0 < s) (h1 : q * s ≤ x) (h2 : x - s < q * s) : x / s = q := by
  have h3 := Int.ediv_mul_le x (b := s) (by omega)
  have h4 := Int.lt_ediv_add_one_mul_self x (b := s) hs
  rw [Int.add_mul, Int.one_mul] at h4
  have k1 : q * s < (x / s + 1) * s := by rw [Int.add_mul, Int.one_mul]; omega
  have k2 : x / s * s < (q + 1) * s := by rw [Int.add_mul, Int.one_mul]; omega
  have := Int.lt_of_mul_lt_mul_right k1 (by omega)
  have := Int.lt_of_mul_lt_mul_right k2 (by omega)
  omega
/-- the reference's quotient below is the program's -/
theorem bel_ref (x b : Int) (hx : -9223372036854775807 ≤ x ∧ x < 9223372036854775807) (hb : b ≠ 0) : belF x b = if b < 0 then (-x) / (-b) else x / b := by
  split
  · rename_i h
    obtain ⟨g1, g2⟩ := bel_neg x b hx h
    exact (div_uniq (by omega) g1 (by omega)).symm
  · rename_i h
    obtain ⟨g1, g2⟩ := bel_pos x b hx (by omega)
    exact (div_uniq (by omega) g1 g2).symm
theorem m31_mod (b : Int) : andK .i32 b 31 = b % 32 := by
  have e : andK .i32 b 31 = w32 ((V b &&& V 31).toNat : Int) := rfl
  have h1 : (V 31).toNat = 2 ^ 5 - 1 := by decide
  have h2 : (V b).toNat % 32 = (b % 32).toNat := by
    have : (V b).toNat = (b % 4294967296).toNat := by simp [V]
    rw [this]; omega
  rw [e, BitVec.toNat_and, h1, Nat.and_two_pow_sub_one_eq_mod]
  have h3 : (((V b).toNat % 2 ^ 5 : Nat) : Int) = b % 32 := by
    have : (2 : Nat) ^ 5 = 32 := rfl
    rw [this, h2]; omega
  rw [h3]; exact w32_of (by omega) (by omega)
theorem shift_eq (b : Int) : (b.tmod 32 + 32).tmod 32 = b % 32 := by
  have h : -32 < b.tmod 32 ∧ b.tmod 32 < 32 := by
    obtain ⟨_, _, t3, _⟩ := tmod_lt b 32 (by omega)
    have := t3 (by omega); omega
  have e := Int.mul_tdiv_add_tmod b 32
  rw [Int.tmod_eq_emod_of_nonneg (by omega)]
  omega
end Go.Proofs.YtngpbbpnnpfocaaDoor
