/- Own work (by an AI agent; no person has read it): part of a proof of the seat YtngpbbpnnpfocaaDoor. -/
import Derived.Test.YtngpbbpnnpfocaaDoorXP2
namespace Go.Proofs.YtngpbbpnnpfocaaDoor
open Go.RowKit
set_option maxHeartbeats 4000000
set_option maxRecDepth 100000
set_option linter.unusedVariables false

theorem p10_bound {k : Nat} (h : k ≤ 14) : (0 : Int) ≤ 5 * 10 ^ k ∧ (5 : Int) * 10 ^ k ≤ 500000000000000 := by
  have h1 : (10 : Nat) ^ k ≤ 10 ^ 14 := Nat.pow_le_pow_right (by omega) h
  have h2 : ((10 : Nat) ^ k : Nat) = ((10 : Int) ^ k) := by simp
  have h3 : (0 : Int) ≤ (10 : Int) ^ k := Int.pow_nonneg (by omega)
  omega

theorem below_drewN {B : Nat} {a w : World} (h : Below B a w) (n : Nat) : Below B a (w.drewN n) := h.trans ⟨rfl, rfl, rfl, Nat.le_refl _, fun _ _ => rfl⟩
theorem bt {a b c : World} (h : Below a.heap.size a b) (g : Below b.heap.size b c) : Below a.heap.size a c := ⟨g.os.trans h.os, g.tape.trans h.tape, g.output.trans h.output, Nat.le_trans h.size g.size, fun k hk => (g.block k (Nat.lt_of_lt_of_le hk h.size)).trans (h.block k hk)⟩
theorem p10_bound2 {k : Nat} (h : k ≤ 13) : (0 : Int) ≤ 50 * 10 ^ k ∧ (50 : Int) * 10 ^ k ≤ 500000000000000 := by
  have h1 : (10 : Nat) ^ k ≤ 10 ^ 13 := Nat.pow_le_pow_right (by omega) h
  have h2 : ((10 : Nat) ^ k : Nat) = ((10 : Int) ^ k) := by simp
  have h3 : (0 : Int) ≤ (10 : Int) ^ k := Int.pow_nonneg (by omega)
  omega

theorem parsed_a (w : World) (m : Int) (hm : w.cell? ⟨3, 0, none⟩ = some (.int .i64 m)) : Calls Tryd.prog 54 #[.string ⟨#[49, 46, 53]⟩] w fun e w' => e = .returned (.int .i32 98304) ∧ Below w.heap.size w w' := by
  have c1 := Tryd.strings_CutPrefix ⟨#[49, 46, 53]⟩ ⟨#[45]⟩
  have c2 := fun w (hm : w.cell? ⟨3, 0, none⟩ = some (.int .i64 m)) => Tryd.strings_Cut ⟨#[49, 46, 53]⟩ ⟨#[46]⟩ m w (by decide) hm
  have e1 : Lib.trimPrefix [49, 46, 53] [45] = [49, 46, 53] := by decide
  have e2 : Lib.hasPrefix [49, 46, 53] [45] = false := by decide
  have e3 : Lib.cut [49, 46, 53] [46] = ([49], [53], true) := by decide
  simp only [e1, e2] at c1
  simp only [e3] at c2
  have c3 : ∀ w, Calls Tryd.prog 67 #[.string ⟨#[53]⟩, .int .i64 10, .int .i64 64] w fun e w' => e = .returned (.tuple #[.int .u64 5, .nilIface]) ∧ Below w.heap.size w w' := fun w =>
    (Tryd.strconv_ParseUint_10_at64_ok ⟨#[53]⟩ (by decide) 5 (by decide) w).mono (by
      rintro e w' ⟨rfl, h⟩
      refine ⟨rfl, ?_⟩
      rcases h with rfl | rfl
      · exact Below.refl _ _
      · exact Lib.bytesWorld_below _ _ _)
  go_enter Tryd.func54, Tryd.ntmps54
  go_wp2_with (first
    | (go_at_call 65; refine (c1 _).mono ?_; rintro e w1 ⟨rfl, rfl⟩)
    | (go_at_call 66; refine (c2 _ (by simpa using hm)).mono ?_; rintro e w1 ⟨rfl, n, rfl⟩)
    | (go_at_call 53; refine (one40p _).mono ?_; rintro e w1 ⟨rfl, b1⟩)
    | (go_at_call 67; refine (c3 _).mono ?_; rintro e w2 ⟨rfl, b2⟩))
  go_loop [10, 41] (fun d i => ∃ (k : Nat), d = .int .u64 (5 * 10 ^ k) ∧ i = .int .i64 k ∧ k ≤ 15) (fun _ i => 15 - (intOf i).toNat)
  case atStart => exact ⟨0, by rfl, by rfl, by omega⟩
  case round =>
    obtain ⟨k, rfl, rfl, hk⟩ := hrel
    rcases Nat.lt_or_ge k 15 with h | h
    · obtain ⟨x0, x1⟩ := p10_bound (k := k) (by omega)
      have hx : (5 : Int) * 10 ^ (k + 1) = 5 * 10 ^ k * 10 := by rw [Int.pow_succ, Int.mul_assoc]
      generalize (5 : Int) * 10 ^ k = x at x0 x1 hx ⊢
      go_wp2
      exact ⟨⟨k + 1, by rw [hx], by rfl, by omega⟩, by simp [intOf]; omega⟩
    · obtain rfl : k = 15 := by omega
      go_wp2
      go_ret
      exact ⟨rfl, bt (bt (below_drewN (Below.refl _ _) _) b1) b2⟩
theorem parsed_b (w : World) (m : Int) (hm : w.cell? ⟨3, 0, none⟩ = some (.int .i64 m)) : Calls Tryd.prog 54 #[.string ⟨#[49, 46, 53, 48]⟩] w fun e w' => e = .returned (.int .i32 98304) ∧ Below w.heap.size w w' := by
  have c1 := Tryd.strings_CutPrefix ⟨#[49, 46, 53, 48]⟩ ⟨#[45]⟩
  have c2 := fun w (hm : w.cell? ⟨3, 0, none⟩ = some (.int .i64 m)) => Tryd.strings_Cut ⟨#[49, 46, 53, 48]⟩ ⟨#[46]⟩ m w (by decide) hm
  have e1 : Lib.trimPrefix [49, 46, 53, 48] [45] = [49, 46, 53, 48] := by decide
  have e2 : Lib.hasPrefix [49, 46, 53, 48] [45] = false := by decide
  have e3 : Lib.cut [49, 46, 53, 48] [46] = ([49], [53, 48], true) := by decide
  simp only [e1, e2] at c1
  simp only [e3] at c2
  have c3 : ∀ w, Calls Tryd.prog 67 #[.string ⟨#[53, 48]⟩, .int .i64 10, .int .i64 64] w fun e w' => e = .returned (.tuple #[.int .u64 50, .nilIface]) ∧ Below w.heap.size w w' := fun w =>
    (Tryd.strconv_ParseUint_10_at64_ok ⟨#[53, 48]⟩ (by decide) 50 (by decide) w).mono (by
      rintro e w' ⟨rfl, h⟩
      refine ⟨rfl, ?_⟩
      rcases h with rfl | rfl
      · exact Below.refl _ _
      · exact Lib.bytesWorld_below _ _ _)
  go_enter Tryd.func54, Tryd.ntmps54
  go_wp2_with (first
    | (go_at_call 65; refine (c1 _).mono ?_; rintro e w1 ⟨rfl, rfl⟩)
    | (go_at_call 66; refine (c2 _ (by simpa using hm)).mono ?_; rintro e w1 ⟨rfl, n, rfl⟩)
    | (go_at_call 53; refine (one40p _).mono ?_; rintro e w1 ⟨rfl, b1⟩)
    | (go_at_call 67; refine (c3 _).mono ?_; rintro e w2 ⟨rfl, b2⟩))
  go_loop [10, 41] (fun d i => ∃ (k : Nat), d = .int .u64 (50 * 10 ^ k) ∧ i = .int .i64 k ∧ k ≤ 14) (fun _ i => 14 - (intOf i).toNat)
  case atStart => exact ⟨0, by rfl, by rfl, by omega⟩
  case round =>
    obtain ⟨k, rfl, rfl, hk⟩ := hrel
    rcases Nat.lt_or_ge k 14 with h | h
    · obtain ⟨x0, x1⟩ := p10_bound2 (k := k) (by omega)
      have hx : (50 : Int) * 10 ^ (k + 1) = 50 * 10 ^ k * 10 := by rw [Int.pow_succ, Int.mul_assoc]
      generalize (50 : Int) * 10 ^ k = x at x0 x1 hx ⊢
      go_wp2
      exact ⟨⟨k + 1, by rw [hx], by rfl, by omega⟩, by simp [intOf]; omega⟩
    · obtain rfl : k = 14 := by omega
      go_wp2
      go_ret
      exact ⟨rfl, bt (bt (below_drewN (Below.refl _ _) _) b1) b2⟩
end Go.Proofs.YtngpbbpnnpfocaaDoor
