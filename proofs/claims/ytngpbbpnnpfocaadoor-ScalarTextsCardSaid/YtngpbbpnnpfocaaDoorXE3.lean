/- Own work (by an AI agent; no person has read it): part of a proof of the seat YtngpbbpnnpfocaaDoor. -/
import Derived.Test.YtngpbbpnnpfocaaDoorXE2
import Derived.Deep.LoopGhost
import Derived.Lib.Hide
import Derived.IntWalk
namespace Go.Proofs.YtngpbbpnnpfocaaDoor
open Go.Ab
open Go.RowKit (Below)
set_option maxHeartbeats 2000000
set_option maxRecDepth 10000000
set_option linter.unusedVariables false

theorem fixed_neg (n : Int) (m : Nat) (hm : m < 65536) (w : World) (k0 : n < 0) (kn : IntKind.i64.wrap (-n) = -n) (k1 : 0 ≤ -n / 65536) (k2 : -n / 65536 < 100) (k3 : bits BinOp.and IntKind.i64 (-n) 65535 = (m : Int)) :
    Calls Tryd.prog 49 #[.int .i64 n] w fun e w' => e = .returned (.string ⟨(45 :: (Lib.decDigits (-n / 65536).toNat ++ 46 :: fracB 17 m)).toArray⟩) ∧ Below w.heap.size w w' := by
  have hI := Lib.fresh_isBuilder 85 5 w
  have hdl : (Lib.decDigits (-n / 65536).toNat).length ≤ 2 := dl2 (by omega)
  have HM := Lib.hid hm
  have HD := Lib.hid hdl
  clear hm hdl
  generalize hL : Lib.decDigits (-n / 65536).toNat = L at HD ⊢
  have fmt' : ∀ w, Calls Tryd.prog 60 #[.int .i64 (-n / 65536), .int .i64 10] w fun e w' => e = .returned (.string ⟨L.toArray⟩) ∧ w' = w := by rw [← hL]; exact fmt _ k1 k2
  have HL := Lib.hid hL
  clear hL k1 k2
  have tok : RowKit.Hid True := Lib.hid trivial
  go_enter Tryd.func49, Tryd.ntmps49
  go_wp2_with (first
    | (go_at_call 58; clear tok; refine (wbyte w.heap.size w.heap.size [] 45 _ hI (by simp) (by simp)).mono ?_; rintro e w0 ⟨rfl, g0, b0⟩)
    | (go_at_call 60; refine (fmt' _).mono ?_; rintro e w1 ⟨rfl, rfl⟩)
    | (go_at_call 59; refine (wstr w.heap.size w.heap.size _ _ _ (.inr g0) (by have := HD.out; simp [ByteArray.size]; omega) (by have := b0.size; simp at this; omega)).mono ?_; rintro e w1 ⟨rfl, g1, b1⟩)
    | (go_at_call 58; refine (wbyte w.heap.size w.heap.size _ 46 _ (.inr g1) (by have := HD.out; simp [Lib.strCells_length, ByteArray.size]; omega) (by have h0 := b0.size; have h1 := b1.size; simp at h0; omega)).mono ?_; rintro e w2 ⟨rfl, g2, b2⟩))
  go_loopg [4, 5] 17 (fun g s4 s5 wr => ∃ (r : Nat) (first : Bool), s4 = .int .i64 r ∧ s5 = .bool first ∧ Rnd (45 :: (L ++ 46 :: fracB 17 m)) w.heap.size w g r first wr)
  case atStart =>
    refine ⟨m, true, by rfl, by rfl, 45 :: (L ++ [46]), HM.out, fun _ => rfl, by omega, ?_, ?_, ?_, ?_, by have := HD.out; simp; omega⟩
    · have e0 : (45 :: (L ++ [46]) : List UInt8) = [45] ++ L ++ [46] := by simp
      rw [e0, Lib.byteCells_append, Lib.byteCells_append]
      have e : Lib.strCells ⟨L.toArray⟩ = Lib.byteCells L := by simp [Lib.strCells, Lib.byteCells]
      rw [← e]; exact g2
    · exact ((((Below.refl _ w).alloc (Nat.le_refl _) _).trans b0).trans b1).trans b2
    · have h0 := b0.size; have h1 := b1.size; have h2 := b2.size; simp at h0; omega
    · simp [restB]
  case round =>
    obtain ⟨r, first, rfl, rfl, hR⟩ := hrel
    have q2 : (r : Int) ≤ 65535 := by obtain ⟨acc, h1, _⟩ := hR; omega
    have hR := Lib.hid hR
    cases first
    · by_cases hr : r = 0
      · subst hr
        obtain ⟨t1, t2, t3⟩ := Rnd_end hR.out
        have T2 := Lib.hid t2
        clear t2 hR q2
        go_wp2_with (go_at_call 61; refine (Tryd.Builder_String_any w.heap.size w.heap.size _ _ (.inr t1) t3).mono ?_; rintro e w3 ⟨rfl, b3⟩)
        go_ret
        exact ⟨rfl, T2.out.trans b3⟩
      · obtain ⟨acc, t1, t2, t3, t4⟩ := Rnd_step hR.out (.inr hr)
        have T4 := Lib.hid t4
        have q1 : (0 : Int) < (r : Int) := by omega
        have q3 : bits BinOp.and IntKind.i64 ((r : Int) * 10) 65535 = ((r * 10 % 65536 : Nat) : Int) := by
          have := and16 (r * 10) (by omega)
          rw [← this]; rfl
        clear t4 hr
        go_wp2_with (go_at_call 58; refine (wbyte w.heap.size w.heap.size _ _ _ (.inr t1) t2 t3).mono ?_; rintro e w3 ⟨rfl, g3, b3⟩)
        go_roundg (gk - 1)
        case rel => exact ⟨_, _, rfl, rfl, (T4.out _ g3 b3).2⟩
        case measure => exact (T4.out _ g3 b3).1
    · obtain ⟨acc, t1, t2, t3, t4⟩ := Rnd_step hR.out (.inl rfl)
      have T4 := Lib.hid t4
      have q1 : (0 : Int) ≤ (r : Int) := by omega
      have q3 : bits BinOp.and IntKind.i64 ((r : Int) * 10) 65535 = ((r * 10 % 65536 : Nat) : Int) := by
        have := and16 (r * 10) (by omega)
        rw [← this]; rfl
      clear t4
      go_wp2_with (go_at_call 58; refine (wbyte w.heap.size w.heap.size _ _ _ (.inr t1) t2 t3).mono ?_; rintro e w3 ⟨rfl, g3, b3⟩)
      go_roundg (gk - 1)
      case rel => exact ⟨_, _, rfl, rfl, (T4.out _ g3 b3).2⟩
      case measure => exact (T4.out _ g3 b3).1
end Go.Proofs.YtngpbbpnnpfocaaDoor
