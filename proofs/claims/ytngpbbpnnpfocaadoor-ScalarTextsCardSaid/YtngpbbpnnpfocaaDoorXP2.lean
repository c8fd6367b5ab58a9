/- Own work (by an AI agent; no person has read it): part of a proof of the seat YtngpbbpnnpfocaaDoor. -/
import Derived.Test.YtngpbbpnnpfocaaDoorXP1
namespace Go.Proofs.YtngpbbpnnpfocaaDoor
open Go.RowKit
set_option maxHeartbeats 4000000
set_option maxRecDepth 100000
set_option linter.unusedVariables false

theorem pu40' (t : ByteArray) (hmax : t.size ≤ 1000000) (w : World) :
    Calls Tryd.prog 70 #[.string t, .int .i64 10, .int .i64 40] w fun e w' => e = .returned (Lib.uintTupleM 99 1099511627775 (Lib.parseUintB 40 t.data.toList)) ∧ Below w.heap.size w w' := by
  by_cases h : t.size = 0
  · have h1 : t.data.toList = [] := List.eq_nil_of_length_eq_zero (by rw [← Lib.size_eq]; exact h)
    have h2 : t = ⟨#[]⟩ := by cases t; simp at h1; rw [h1]
    subst h2
    refine (Tryd.internal_strconv_ParseUint_empty _ _ _).mono ?_
    rintro e w' ⟨rfl, rfl⟩
    exact ⟨rfl, Below.refl _ _⟩
  · have h1 : t.data.toList ≠ [] := fun hh => h (by rw [Lib.size_eq, hh]; rfl)
    refine (pu40 t h hmax w).mono ?_
    rintro e w' ⟨rfl, rfl⟩
    exact ⟨by rw [Lib.parseUintB, if_neg h1], Lib.bytesWorld_below _ _ _⟩

theorem parseUintM_le : ∀ (l : List UInt8) (acc u : Nat), acc ≤ 1099511627775 → Lib.parseUintM 1099511627775 acc l = .ok u → u ≤ 1099511627775 := by
  intro l
  induction l with
  | nil => intro acc u h1 h2; cases h2; exact h1
  | cons x r ih =>
    intro acc u h1 h2
    unfold Lib.parseUintM at h2
    split at h2
    · split at h2
      · cases h2
      · split at h2
        · cases h2
        · exact ih _ _ (by omega) h2
    · cases h2
theorem parseUintB_le {l : List UInt8} {u : Nat} (h : Lib.parseUintB 40 l = .ok u) : u ≤ 1099511627775 := by
  unfold Lib.parseUintB at h
  split at h
  · cases h
  · exact parseUintM_le _ _ _ (by omega) h


theorem one40 (w : World) : Calls Tryd.prog 63 #[.string ⟨#[49]⟩, .int .i64 10, .int .i64 40] w fun e w' => e = .returned (.tuple #[.int .i64 1, .nilIface]) ∧ Below w.heap.size w w' := by
  have hc : ∀ w, Calls Tryd.prog 70 #[.string ⟨#[49]⟩, .int .i64 10, .int .i64 40] w fun e w' => e = .returned (.tuple #[.int .u64 1, .nilIface]) ∧ Below w.heap.size w w' := fun w => pu40' ⟨#[49]⟩ (by decide) w
  go_enter Tryd.func63, Tryd.ntmps63
  go_wp2_with (go_at_call 70; refine (hc _).mono ?_; rintro e w1 ⟨rfl, b1⟩)
  go_ret2
  exact ⟨rfl, b1⟩
theorem one40p (w : World) : Calls Tryd.prog 53 #[.string ⟨#[49]⟩, .int .i64 10, .int .i64 40] w fun e w' => e = .returned (.tuple #[.int .i64 1, .nilIface]) ∧ Below w.heap.size w w' := by
  go_enter Tryd.func53, Tryd.ntmps53
  go_wp2_with (go_at_call 63; refine (one40 _).mono ?_; rintro e w1 ⟨rfl, b1⟩)
  go_ret2
  exact ⟨rfl, b1⟩
end Go.Proofs.YtngpbbpnnpfocaaDoor
