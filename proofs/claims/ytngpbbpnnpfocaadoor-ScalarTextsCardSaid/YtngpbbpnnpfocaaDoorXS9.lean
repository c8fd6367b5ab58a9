/- Own work (by an AI agent; no person has read it): part of a proof of the seat YtngpbbpnnpfocaaDoor. -/
import Derived.Test.YtngpbbpnnpfocaaDoorXS4
import Derived.Test.YtngpbbpnnpfocaaDoorXS5
namespace Go.Proofs.YtngpbbpnnpfocaaDoor
open Go.Ab

abbrev V (a : Int) : BitVec 32 := BitVec.ofInt 32 a
theorem w32_bmod (n : Int) : w32 n = n.bmod 4294967296 := by
  rw [w32_def, Int.bmod_def]; split <;> omega
theorem wV (x : BitVec 32) : w32 (x.toNat : Int) = x.toInt := by
  have := x.isLt
  rw [w32_def, BitVec.toInt_eq_toNat_cond]; split <;> omega
theorem V_toInt (x : BitVec 32) : V x.toInt = x := BitVec.ofInt_toInt
theorem toInt_V (a : Int) : (V a).toInt = w32 a := by rw [w32_bmod, BitVec.toInt_ofInt]
theorem toInt_V' {a : Int} (h : I32 a) : (V a).toInt = a := by rw [toInt_V]; exact w32_of h.1 h.2
theorem and_V (a b : Int) : andK .i32 a b = (V a &&& V b).toInt := wV _
theorem or_V (a b : Int) : orK .i32 a b = (V a ||| V b).toInt := wV _
theorem xor_V (a b : Int) : xorK .i32 a b = (V a ^^^ V b).toInt := wV _
theorem not_V (a : Int) : notK .i32 a = (~~~ V a).toInt := by
  have : notK .i32 a = (V (-1) ^^^ V a).toInt := wV _
  rw [this]
  have e : V (-1) = BitVec.allOnes 32 := by decide
  rw [e, BitVec.allOnes_xor]
theorem add_V (x y : BitVec 32) : w32 (x.toInt + y.toInt) = (x + y).toInt := by rw [w32_bmod, BitVec.toInt_add]

theorem and_mod2 (x y : Nat) : (x &&& y) % 2 = (x % 2) &&& (y % 2) := by
  have := Nat.and_mod_two_pow (a := x) (b := y) (n := 1); simpa using this
theorem or_mod2 (x y : Nat) : (x ||| y) % 2 = (x % 2) ||| (y % 2) := by
  have := Nat.or_mod_two_pow (a := x) (b := y) (n := 1); simpa using this
theorem xor_mod2 (x y : Nat) : (x ^^^ y) % 2 = (x % 2) ^^^ (y % 2) := by
  have := Nat.xor_mod_two_pow (a := x) (b := y) (n := 1); simpa using this
theorem nat_bits : ∀ (n x y : Nat), x < 2 ^ n → (x &&& y) + (x ||| y) = x + y ∧ (x &&& y) + (x ^^^ y) = (x ||| y) := by
  intro n
  induction n with
  | zero => intro x y h; obtain rfl : x = 0 := by simpa using h
            simp
  | succ n ih =>
    intro x y h
    have h2 : x / 2 < 2 ^ n := by rw [Nat.pow_succ] at h; omega
    obtain ⟨i1, i2⟩ := ih (x / 2) (y / 2) h2
    have a1 := Nat.and_div_two (a := x) (b := y)
    have a2 := Nat.or_div_two (a := x) (b := y)
    have a3 := Nat.xor_div_two (a := x) (b := y)
    have m1 := and_mod2 x y
    have m2 := or_mod2 x y
    have m3 := xor_mod2 x y
    rw [← a1, ← a2] at i1
    rw [← a1, ← a2, ← a3] at i2
    rcases Nat.mod_two_eq_zero_or_one x with hx | hx <;> rcases Nat.mod_two_eq_zero_or_one y with hy | hy <;> rw [hx, hy] at m1 m2 m3 <;> simp only [Nat.reduceAnd, Nat.reduceOr, Nat.reduceXor] at m1 m2 m3 <;> omega
theorem bv_and_or (x y : BitVec 32) : (x &&& y) + (x ||| y) = x + y := by
  apply BitVec.eq_of_toNat_eq
  rw [BitVec.toNat_add, BitVec.toNat_add, BitVec.toNat_and, BitVec.toNat_or, (nat_bits 32 _ _ x.isLt).1]
theorem bv_and_xor (x y : BitVec 32) : (x &&& y) + (x ^^^ y) = x ||| y := by
  apply BitVec.eq_of_toNat_eq
  have : (x ||| y).toNat < 2 ^ 32 := (x ||| y).isLt
  rw [BitVec.toNat_add, BitVec.toNat_and, BitVec.toNat_xor, (nat_bits 32 _ _ x.isLt).2, ← BitVec.toNat_or, Nat.mod_eq_of_lt this]

theorem morgan (a b : Int) : notK .i32 (andK .i32 a b) = orK .i32 (notK .i32 a) (notK .i32 b) := by
  rw [not_V, or_V, and_V, not_V, not_V, V_toInt, V_toInt, V_toInt, BitVec.not_and]
theorem xor_back (a b : Int) (ha : I32 a) : xorK .i32 (xorK .i32 a b) b = a := by
  rw [xor_V, xor_V, V_toInt, BitVec.xor_assoc, BitVec.xor_self, BitVec.xor_zero, toInt_V' ha]
theorem and_or_sum (a b : Int) : w32 (andK .i32 a b + orK .i32 a b) = w32 (a + b) := by
  rw [and_V, or_V, add_V, bv_and_or, ← add_V, toInt_V, toInt_V, w32_addl, w32_addr]
theorem and_xor_or (a b : Int) : w32 (andK .i32 a b + xorK .i32 a b) = orK .i32 a b := by
  rw [and_V, xor_V, or_V, add_V, bv_and_xor]

theorem mask0 : ∀ s : Fin 32, andK .i32 (s.val : Int) 31 = s.val := by decide
theorem mask1 : ∀ s : Fin 32, andK .i32 ((s.val : Int) + 32) 31 = s.val := by decide
theorem mask2 : ∀ s : Fin 32, andK .i32 ((s.val : Int) - 64) 31 = s.val := by decide
theorem m0 {s : Int} (h : 0 ≤ s ∧ s < 32) : andK .i32 s 31 = s := by
  have := mask0 ⟨s.toNat, by omega⟩; simp only [Int.toNat_of_nonneg h.1] at this; exact this
theorem m1 {s : Int} (h : 0 ≤ s ∧ s < 32) : andK .i32 (s + 32) 31 = s := by
  have := mask1 ⟨s.toNat, by omega⟩; simp only [Int.toNat_of_nonneg h.1] at this; exact this
theorem m2 {s : Int} (h : 0 ≤ s ∧ s < 32) : andK .i32 (s - 64) 31 = s := by
  have := mask2 ⟨s.toNat, by omega⟩; simp only [Int.toNat_of_nonneg h.1] at this; exact this
/-- 2 to the power of the shift -/
def pw (s : Int) : Int := 2 ^ s.toNat
theorem pw_bound {s : Int} (h : 0 ≤ s ∧ s < 32) : 1 ≤ pw s ∧ pw s ≤ 2147483648 := by
  have h1 : (2 : Nat) ^ s.toNat ≤ 2 ^ 31 := Nat.pow_le_pow_right (by omega) (by omega)
  have h2 : 1 ≤ (2 : Nat) ^ s.toNat := Nat.one_le_two_pow
  have e : pw s = (((2 : Nat) ^ s.toNat : Nat) : Int) := by simp [pw]
  rw [e]; omega
theorem shl_pw {s : Int} (h : 0 ≤ s ∧ s < 32) (a : Int) : shlK .i32 a s = w32 (a * pw s) := by
  have : min s.toNat IntKind.i32.bits = s.toNat := by have : IntKind.i32.bits = 32 := rfl
                                                      omega
  unfold shlK pw; rw [this]; rfl
theorem shr_pw {s : Int} (h : 0 ≤ s ∧ s < 32) (a : Int) : shrK .i32 a s = a / pw s := by
  have : min s.toNat IntKind.i32.bits = s.toNat := by have : IntKind.i32.bits = 32 := rfl
                                                      omega
  unfold shrK pw; rw [this]; exact Int.fdiv_eq_ediv_of_nonneg _ (Int.pow_nonneg (by omega))
theorem shl_one {s : Int} (h : 0 ≤ s ∧ s < 32) : shlK .i64 1 s = pw s := by
  have e : min s.toNat IntKind.i64.bits = s.toNat := by have : IntKind.i64.bits = 64 := rfl
                                                        omega
  obtain ⟨h1, h2⟩ := pw_bound h
  have : shlK .i64 1 s = w64 (1 * pw s) := by unfold shlK pw; rw [e]; rfl
  rw [this, Int.one_mul]; exact w64_of (by omega) (by omega)
theorem shl_is_mul (s a : Int) : w32 (a * pw s) = w32 (a * w32 (1 * pw s)) := by rw [w32_mulr, Int.one_mul]
theorem down_le (a p : Int) (hp : 1 ≤ p) : a / p * p ≤ a ∧ a < (a / p + 1) * p := by
  have h1 := Int.ediv_mul_le a (b := p) (by omega)
  have h2 := Int.lt_ediv_add_one_mul_self a (b := p) (by omega)
  exact ⟨h1, h2⟩
theorem down_in (a p : Int) (ha : I32 a) (hp : 1 ≤ p) : I32 (a / p) := by
  unfold I32 at *
  obtain ⟨h1, h2⟩ := ha
  constructor
  · rw [Int.le_ediv_iff_mul_le (by omega)]; omega
  · rw [Int.ediv_lt_iff_lt_mul (by omega)]; omega
end Go.Proofs.YtngpbbpnnpfocaaDoor
