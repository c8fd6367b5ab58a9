/- Own work (by an AI agent; no person has read it): part of a proof of the seat YtngpbbpnnpfocaaDoor. -/
import Derived.Test.YtngpbbpnnpfocaaDoorXE1
import Derived.Test.YtngpbbpnnpfocaaDoorShelf
import Derived.Deep.LoopGhost
import Derived.Lib.Hide
import Derived.IntWalk
namespace Go.Proofs.YtngpbbpnnpfocaaDoor
open Go.Ab
open Go.RowKit (Below)
set_option maxHeartbeats 2000000
set_option maxRecDepth 10000000
set_option linter.unusedVariables false

def fracB : Nat → Nat → List UInt8
  | 0, _ => []
  | f + 1, r => UInt8.ofNat (48 + r * 10 / 65536) :: (if r * 10 % 65536 = 0 then [] else fracB f (r * 10 % 65536))

theorem fmt (z : Int) (h0 : 0 ≤ z) (h1 : z < 100) (w : World) : Calls Tryd.prog 60 #[.int .i64 z, .int .i64 10] w fun e w' => e = .returned (.string ⟨(Lib.decDigits z.toNat).toArray⟩) ∧ w' = w := by
  obtain ⟨i, rfl⟩ : ∃ i : Nat, z = i := ⟨z.toNat, by omega⟩
  exact Tryd.strconv_FormatInt_10_small i (by omega) w

theorem and16 (r : Nat) (h : r < 1099511627776) : bits BinOp.and IntKind.i64 (r : Int) 65535 = ((r % 65536 : Nat) : Int) := by
  have e : (BitVec.ofInt 64 (r : Int) &&& BitVec.ofInt 64 65535).toNat = r % 65536 := by
    rw [BitVec.toNat_and]
    have h1 : (BitVec.ofInt 64 (r : Int)).toNat = r := by simp; omega
    have h2 : (BitVec.ofInt 64 65535).toNat = 2 ^ 16 - 1 := by decide
    rw [h1, h2, Nat.and_two_pow_sub_one_eq_mod]
  have : r % 65536 < 65536 := Nat.mod_lt _ (by omega)
  show IntKind.i64.wrap ((BitVec.ofInt 64 (r : Int) &&& BitVec.ofInt 64 65535).toNat : Int) = _
  rw [e]
  exact w64_of (by omega) (by omega)

theorem dl2 {u : Nat} (h : u < 100) : (Lib.decDigits u).length ≤ 2 := by
  unfold Lib.decDigits
  split
  · simp
  · unfold Lib.decDigits
    rw [dif_pos (by omega)]; simp
def restB (first : Bool) (g r : Nat) : List UInt8 := if first = false ∧ r = 0 then [] else fracB g r
/-- what holds at the head of a round -/
def Rnd (tot : List UInt8) (B : Nat) (w : World) (g r : Nat) (first : Bool) (wr : World) : Prop :=
  ∃ acc : List UInt8, r < 65536 ∧ (first = true → g = 17) ∧ (r * 2 ^ (g - 1)) % 65536 = 0 ∧ Lib.BuilderAt 85 5 B B (.pointer (some ⟨B, 0, none⟩)) (Lib.byteCells acc) wr ∧ Below B w wr ∧ B ≤ wr.heap.size ∧ acc ++ restB first g r = tot ∧ acc.length + g ≤ 100

theorem Rnd_end {tot : List UInt8} {B g : Nat} {w wr : World} (h : Rnd tot B w g 0 false wr) : Lib.BuilderAt 85 5 B B (.pointer (some ⟨B, 0, none⟩)) (Lib.byteCells tot) wr ∧ Below B w wr ∧ B ≤ wr.heap.size := by
  obtain ⟨acc, _, _, _, h4, h5, h6, h7, _⟩ := h
  simp [restB] at h7
  subst h7
  exact ⟨h4, h5, h6⟩

theorem Rnd_step {tot : List UInt8} {B g r : Nat} {first : Bool} {w wr : World} (h : Rnd tot B w g r first wr) (hc : first = true ∨ r ≠ 0) :
    ∃ acc : List UInt8, Lib.BuilderAt 85 5 B B (.pointer (some ⟨B, 0, none⟩)) (Lib.byteCells acc) wr ∧ (Lib.byteCells acc).length + 1 ≤ 140737488355328 ∧ B ≤ wr.heap.size ∧ ∀ wr', Lib.BuilderAt 85 5 B B (.pointer (some ⟨B, 0, none⟩)) (Lib.byteCells acc ++ [.int .u8 (48 + (r : Int) * 10 / 65536)]) wr' → Below B wr wr' →
      g - 1 < g ∧ Rnd tot B w (g - 1) (r * 10 % 65536) false wr' := by
  obtain ⟨acc, h1, h2, h3, h4, h5, h6, h7, h8⟩ := h
  have hg : 2 ≤ g := by
    rcases Nat.lt_or_ge g 2 with hg | hg
    · have hf : first = false := by cases first; rfl; have := h2 rfl; omega
      have hr : r ≠ 0 := by rcases hc with hc | hc; rw [hf] at hc; cases hc; exact hc
      have : g - 1 = 0 := by omega
      rw [this, Nat.pow_zero, Nat.mul_one] at h3
      omega
    · exact hg
  obtain ⟨f, rfl⟩ : ∃ f, g = f + 2 := ⟨g - 2, by omega⟩
  refine ⟨acc, h4, by rw [Lib.byteCells_length]; omega, h6, fun wr' g1 g2 => ⟨by omega, acc ++ [UInt8.ofNat (48 + r * 10 / 65536)], Nat.mod_lt _ (by omega), (fun h => by cases h), ?_, ?_, h5.trans g2, Nat.le_trans h6 g2.size, ?_, by simp; omega⟩⟩
  · have e1 : f + 2 - 1 - 1 = f := by omega
    have e2 : f + 2 - 1 = f + 1 := by omega
    rw [e1]
    rw [e2] at h3
    have : (r * 10 % 65536 * 2 ^ f) % 65536 = (r * 10 * 2 ^ f) % 65536 := by rw [Nat.mul_mod, Nat.mod_mod, ← Nat.mul_mod]
    rw [this]
    have e3 : r * 10 * 2 ^ f = 5 * (r * 2 ^ (f + 1)) := by rw [Nat.pow_succ]; generalize 2 ^ f = z; rw [Nat.mul_comm z 2, ← Nat.mul_assoc r 2 z, ← Nat.mul_assoc 5, ← Nat.mul_assoc 5, Nat.mul_comm 5 r]; congr 1; omega
    rw [e3, Nat.mul_mod, h3]
  · rw [Lib.byteCells_append]
    have : Lib.byteCells [UInt8.ofNat (48 + r * 10 / 65536)] = [.int .u8 (48 + (r : Int) * 10 / 65536)] := by
      simp only [Lib.byteCells, List.map_cons, List.map_nil]
      have hlt : 48 + r * 10 / 65536 < 256 := by omega
      have e : (UInt8.ofNat (48 + r * 10 / 65536)).toNat = 48 + r * 10 / 65536 := by
        simp; omega
      rw [e]; rfl
    rw [this]; exact g1
  · have hn : ¬ (first = false ∧ r = 0) := by
      rintro ⟨a, b⟩
      rcases hc with hc | hc
      · rw [a] at hc; cases hc
      · exact hc b
    rw [restB, if_neg hn] at h7
    rw [← h7, List.append_assoc]
    congr 1
    rw [show f + 2 - 1 = f + 1 by omega]
    simp only [restB, true_and, List.singleton_append]
    rfl

theorem fixed_pos (n : Int) (m : Nat) (hm : m < 65536) (w : World) (k0 : ¬ n < 0) (k1 : 0 ≤ n / 65536) (k2 : n / 65536 < 100) (k3 : bits BinOp.and IntKind.i64 n 65535 = (m : Int)) :
    Calls Tryd.prog 49 #[.int .i64 n] w fun e w' => e = .returned (.string ⟨(Lib.decDigits (n / 65536).toNat ++ 46 :: fracB 17 m).toArray⟩) ∧ Below w.heap.size w w' := by
  have hI := Lib.fresh_isBuilder 85 5 w
  have hdl : (Lib.decDigits (n / 65536).toNat).length ≤ 2 := dl2 (by omega)
  have HM := Lib.hid hm
  have HD := Lib.hid hdl
  clear hm hdl
  generalize hL : Lib.decDigits (n / 65536).toNat = L at HD ⊢
  have fmt' : ∀ w, Calls Tryd.prog 60 #[.int .i64 (n / 65536), .int .i64 10] w fun e w' => e = .returned (.string ⟨L.toArray⟩) ∧ w' = w := by rw [← hL]; exact fmt _ k1 k2
  have HL := Lib.hid hL
  clear hL k1 k2
  go_enter Tryd.func49, Tryd.ntmps49
  go_wp2_with (first
    | (go_at_call 60; refine (fmt' _).mono ?_; rintro e w1 ⟨rfl, rfl⟩)
    | (go_at_call 59; refine (wstr w.heap.size w.heap.size [] _ _ hI (by have := HD.out; simp [ByteArray.size]; omega) (by simp)).mono ?_; rintro e w1 ⟨rfl, g1, b1⟩)
    | (go_at_call 58; refine (wbyte w.heap.size w.heap.size _ 46 _ (.inr g1) (by have := HD.out; simp [Lib.strCells_length, ByteArray.size]; omega) (by have := b1.size; simp at this; omega)).mono ?_; rintro e w2 ⟨rfl, g2, b2⟩))
  go_loopg [4, 5] 17 (fun g s4 s5 wr => ∃ (r : Nat) (first : Bool), s4 = .int .i64 r ∧ s5 = .bool first ∧ Rnd (L ++ 46 :: fracB 17 m) w.heap.size w g r first wr)
  case atStart =>
    refine ⟨m, true, by rfl, by rfl, L ++ [46], HM.out, fun _ => rfl, by omega, ?_, ?_, ?_, ?_, by have := HD.out; simp; omega⟩
    · rw [Lib.byteCells_append]
      have e : Lib.strCells ⟨L.toArray⟩ = Lib.byteCells L := by simp [Lib.strCells, Lib.byteCells]
      rw [← e]; exact g2
    · exact (((Below.refl _ w).alloc (Nat.le_refl _) _).trans b1).trans b2
    · have h1 := b1.size; have h2 := b2.size; simp at h1; omega
    · simp [restB]
  case round =>
    obtain ⟨r, first, rfl, rfl, hR⟩ := hrel
    have q2 : (r : Int) ≤ 65535 := by obtain ⟨acc, h1, _⟩ := hR; omega
    have hR := Lib.hid hR
    cases first
    · by_cases hr : r = 0
      · subst hr
        obtain ⟨t1, t2, t3⟩ := Rnd_end hR.out
        have T2 := Lib.hid t2
        clear t2 hR q2
        go_wp2_with (go_at_call 61; refine (Tryd.Builder_String_any w.heap.size w.heap.size _ _ (.inr t1) t3).mono ?_; rintro e w3 ⟨rfl, b3⟩)
        go_ret
        exact ⟨rfl, T2.out.trans b3⟩
      · obtain ⟨acc, t1, t2, t3, t4⟩ := Rnd_step hR.out (.inr hr)
        have T4 := Lib.hid t4
        have q1 : (0 : Int) < (r : Int) := by omega
        have q3 : bits BinOp.and IntKind.i64 ((r : Int) * 10) 65535 = ((r * 10 % 65536 : Nat) : Int) := by
          have := and16 (r * 10) (by omega)
          rw [← this]; rfl
        clear t4 hr
        go_wp2_with (go_at_call 58; refine (wbyte w.heap.size w.heap.size _ _ _ (.inr t1) t2 t3).mono ?_; rintro e w3 ⟨rfl, g3, b3⟩)
        go_roundg (gk - 1)
        case rel => exact ⟨_, _, rfl, rfl, (T4.out _ g3 b3).2⟩
        case measure => exact (T4.out _ g3 b3).1
    · obtain ⟨acc, t1, t2, t3, t4⟩ := Rnd_step hR.out (.inl rfl)
      have T4 := Lib.hid t4
      have q1 : (0 : Int) ≤ (r : Int) := by omega
      have q3 : bits BinOp.and IntKind.i64 ((r : Int) * 10) 65535 = ((r * 10 % 65536 : Nat) : Int) := by
        have := and16 (r * 10) (by omega)
        rw [← this]; rfl
      clear t4
      go_wp2_with (go_at_call 58; refine (wbyte w.heap.size w.heap.size _ _ _ (.inr t1) t2 t3).mono ?_; rintro e w3 ⟨rfl, g3, b3⟩)
      go_roundg (gk - 1)
      case rel => exact ⟨_, _, rfl, rfl, (T4.out _ g3 b3).2⟩
      case measure => exact (T4.out _ g3 b3).1
end Go.Proofs.YtngpbbpnnpfocaaDoor
