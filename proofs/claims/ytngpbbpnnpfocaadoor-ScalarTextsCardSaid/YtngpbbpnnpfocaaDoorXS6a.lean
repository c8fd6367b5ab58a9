/- Own work (by an AI agent; no person has read it): part of a proof of the seat YtngpbbpnnpfocaaDoor. -/
import Derived.Test.YtngpbbpnnpfocaaDoorXS2
import Derived.Test.YtngpbbpnnpfocaaDoorXP3
set_option linter.unusedSimpArgs false
set_option linter.unusedVariables false
set_option maxRecDepth 100000
set_option maxHeartbeats 10000000
namespace Go.Proofs.YtngpbbpnnpfocaaDoor
open Go.Ab
open Go.RowKit (Below)

abbrev sV (l : List UInt8) : AV := .v (.string ⟨l.toArray⟩)
theorem call_of {f : FuncId} (h : ∃ fn, Tryd.prog.funcs[f]? = some fn ∧ fn.body.isSome = true ∧ (fn.name == "runtime.NumGoroutine") = false) : callable Tryd.prog f := h

theorem c49 (n : Int) (l : List UInt8) (h : ∀ w, Calls Tryd.prog 49 #[.int .i64 n] w fun e w' => e = .returned (.string ⟨l.toArray⟩) ∧ Below w.heap.size w w') : CallOK Tryd.prog 49 [.v (.int .i64 n)] (fun _ => sV l) (fun _ => []) :=
  callOK_of_calls (xs := [.int .i64 n]) ⟨_, Tryd.func49, rfl, by kernel_rfl⟩ (fun w _ => h w)

theorem dd0 : Lib.decDigits 0 = [48] := by unfold Lib.decDigits; rfl
theorem dd1 : Lib.decDigits 1 = [49] := by unfold Lib.decDigits; rfl
theorem fixed_a : CallOK Tryd.prog 49 [.v (.int .i64 98304)] (fun _ => sV [49, 46, 53]) (fun _ => []) := by
  refine c49 _ _ fun w => ?_
  have := fixed_pos 98304 32768 (by decide) w (by decide) (by decide) (by decide) (by decide)
  have e : (Lib.decDigits ((98304 : Int) / 65536).toNat ++ 46 :: fracB 17 32768) = [49, 46, 53] := by rw [show ((98304 : Int) / 65536).toNat = 1 by decide, dd1]; decide
  rw [e] at this; exact this
theorem fixed_b : CallOK Tryd.prog 49 [.v (.int .i64 0)] (fun _ => sV [48, 46, 48]) (fun _ => []) := by
  refine c49 _ _ fun w => ?_
  have := fixed_pos 0 0 (by decide) w (by decide) (by decide) (by decide) (by decide)
  have e : (Lib.decDigits ((0 : Int) / 65536).toNat ++ 46 :: fracB 17 0) = [48, 46, 48] := by rw [show ((0 : Int) / 65536).toNat = 0 by decide, dd0]; decide
  rw [e] at this; exact this
theorem fixed_c : CallOK Tryd.prog 49 [.v (.int .i64 (-1))] (fun _ => sV [45, 48, 46, 48, 48, 48, 48, 49, 53, 50, 53, 56, 55, 56, 57, 48, 54, 50, 53]) (fun _ => []) := by
  refine c49 _ _ fun w => ?_
  have := fixed_neg (-1) 1 (by decide) w (by decide) (by decide) (by decide) (by decide) (by decide)
  have e : (45 :: (Lib.decDigits (-(-1 : Int) / 65536).toNat ++ 46 :: fracB 17 1)) = [45, 48, 46, 48, 48, 48, 48, 49, 53, 50, 53, 56, 55, 56, 57, 48, 54, 50, 53] := by rw [show (-(-1 : Int) / 65536).toNat = 0 by decide, dd0]; decide
  rw [e] at this; exact this
theorem itoa_0 : CallOK Tryd.prog 48 [.v (.int .i64 0)] (fun _ => sV [48]) (fun _ => []) :=
  callOK_of_calls (xs := [.int .i64 0]) ⟨_, Tryd.func48, rfl, by kernel_rfl⟩ (fun w _ => (Tryd.strconv_Itoa_small 0 (by decide) w).mono (by
    rintro e w' ⟨rfl, rfl⟩
    exact ⟨by rw [dd0], Below.refl _ _⟩))
theorem parsed_a' : CallOK Tryd.prog 54 [sV [49, 46, 53]] (fun _ => .v (.int .i32 98304)) (fun _ => []) :=
  callOK_of_calls (xs := [.string ⟨#[49, 46, 53]⟩]) ⟨_, Tryd.func54, rfl, by kernel_rfl⟩ (fun w h => by obtain ⟨⟨m, hm⟩, _⟩ := h; exact parsed_a w m hm)
theorem parsed_b' : CallOK Tryd.prog 54 [sV [49, 46, 53, 48]] (fun _ => .v (.int .i32 98304)) (fun _ => []) :=
  callOK_of_calls (xs := [.string ⟨#[49, 46, 53, 48]⟩]) ⟨_, Tryd.func54, rfl, by kernel_rfl⟩ (fun w h => by obtain ⟨⟨m, hm⟩, _⟩ := h; exact parsed_b w m hm)
theorem parseInt_m0 : CallOK Tryd.prog 53 [sV [45, 48], .v (.int .i64 10), .v (.int .i64 32)] (fun _ => .tup [.v (.int .i64 0), .v .nilIface]) (fun _ => []) :=
  callOK_of_calls2 (xs := [.string ⟨#[45, 48]⟩, .int .i64 10, .int .i64 32]) (ys := [.int .i64 0, .nilIface]) ⟨_, Tryd.func53, rfl, by kernel_rfl⟩ (fun w _ => (Tryd.strconv_ParseInt_10_at32_ok ⟨#[45, 48]⟩ (by decide) 0 (by decide) w).mono (by
    rintro e w' ⟨rfl, h⟩
    refine ⟨rfl, ?_⟩
    rcases h with rfl | ⟨t, rfl⟩
    · exact Below.refl _ _
    · exact Lib.bytesWorld_below _ _ _))
end Go.Proofs.YtngpbbpnnpfocaaDoor
