/- Own work (by an AI agent; no person has read it): part of a proof of the seat YtngpbbpnnpfocaaDoor. -/
import Derived.Test.YtngpbbpnnpfocaaDoorXP11
section
namespace Go.Proofs.YtngpbbpnnpfocaaDoor
open Go.RowKit
set_option maxHeartbeats 2000000
set_option maxRecDepth 100000
set_option linter.unusedVariables false

/-- the digits of a number, as bytes -/
def digB (z : Int) : List UInt8 := Lib.decDigits z.toNat
theorem digB_low (z : Int) (h0 : 0 ≤ z) (h1 : z < 10) : digB z = [UInt8.ofNat (48 + z.toNat)] := by
  unfold digB
  rcases (by omega : z = 0 ∨ z = 1 ∨ z = 2 ∨ z = 3 ∨ z = 4 ∨ z = 5 ∨ z = 6 ∨ z = 7 ∨ z = 8 ∨ z = 9) with rfl | rfl | rfl | rfl | rfl | rfl | rfl | rfl | rfl | rfl <;> (unfold Lib.decDigits; rfl)
theorem digits_low (z : Int) (h0 : 0 ≤ z) (h1 : z < 10) (w : World) : Calls Tryd.prog 36 #[.int .i64 z] w fun e w' => e = .returned (.string ⟨(digB z).toArray⟩) ∧ w' = w := by
  rw [digB_low z h0 h1]
  rcases (by omega : z = 0 ∨ z = 1 ∨ z = 2 ∨ z = 3 ∨ z = 4 ∨ z = 5 ∨ z = 6 ∨ z = 7 ∨ z = 8 ∨ z = 9) with rfl | rfl | rfl | rfl | rfl | rfl | rfl | rfl | rfl | rfl <;> (
    go_enter Tryd.func36, Tryd.ntmps36
    go_wp2
    go_ret
    exact ⟨rfl, rfl⟩)
end Go.Proofs.YtngpbbpnnpfocaaDoor
end
section
namespace Go.Proofs.YtngpbbpnnpfocaaDoor
open Go.Ab
open Go.RowKit
set_option maxHeartbeats 2000000
set_option maxRecDepth 100000
set_option linter.unusedVariables false

theorem digB_high (z : Int) (h : 10 ≤ z) : digB z = digB (z / 10) ++ digB (z % 10) := by
  rw [digB_low (z % 10) (by omega) (by omega)]
  unfold digB
  have e1 : (z / 10).toNat = z.toNat / 10 := by omega
  have e2 : (z % 10).toNat = z.toNat % 10 := by omega
  rw [e1, e2]
  conv => lhs; unfold Lib.decDigits
  rw [dif_neg (by omega)]
theorem digits_calls : ∀ (f : Nat) (z : Int), 0 ≤ z → z < 10 ^ (f + 1) → z ≤ 4611686018427387904 → ∀ w, Calls Tryd.prog 36 #[.int .i64 z] w fun e w' => e = .returned (.string ⟨(digB z).toArray⟩) ∧ w' = w := by
  intro f
  induction f with
  | zero => intro z h0 h1 _ w; exact digits_low z h0 (by omega) w
  | succ f ih =>
    intro z h0 h1 h2 w
    rcases Int.lt_or_le z 10 with h | h
    · exact digits_low z h0 h w
    · have hq := ih (z / 10) (by omega) (by rw [Int.pow_succ] at h1; omega) (by omega)
      have hr := digits_low (z % 10) (by omega) (by omega)
      rw [digB_high z h]
      have p19 : (10 : Nat) ^ (18 + 1) = 10000000000000000000 := by decide
      have hA : (digB (z / 10)).length ≤ 19 := dec_len 18 _ (by rw [p19]; omega)
      have hB : (digB (z % 10)).length ≤ 19 := dec_len 18 _ (by rw [p19]; omega)
      have hlen : (digB (z / 10)).length + (digB (z % 10)).length ≤ 9223372036854775807 := by omega
      clear hA hB p19
      generalize digB (z / 10) = A at hq hlen ⊢
      generalize digB (z % 10) = B at hr hlen ⊢
      clear ih h1
      have hr' : z - 10 * (z / 10) = z % 10 := by omega
      go_enter Tryd.func36, Tryd.ntmps36
      have tok : Hid True := Lib.hid trivial
      go_wp2_with (first
        | (go_at_call 36; clear tok; refine (hq _).mono ?_; rintro e w1 ⟨rfl, rfl⟩)
        | (go_at_call 36; refine (hr _).mono ?_; rintro e w1 ⟨rfl, rfl⟩))
      all_goals (try go_wp2)
      all_goals (try go_ret)
      all_goals first | exact ⟨by simp [ByteArray.ext_iff], rfl⟩ | exact ⟨_, rfl, by simp [ByteArray.ext_iff], rfl⟩ | skip
end Go.Proofs.YtngpbbpnnpfocaaDoor
end
