/- Own work (by an AI agent; no person has read it): part of a proof of the seat YtngpbbpnnpfocaaDoor. -/
import Derived.Test.YtngpbbpnnpfocaaDoorXE3
import Derived.Lib.ParseIntBMem
import Derived.Laws.Strings3
import Derived.Laws.Closers25
import Derived.Laws.Closers25b
import Derived.BigCall
import Derived.BigGuard
namespace Go.Proofs.YtngpbbpnnpfocaaDoor
open Go.RowKit
set_option maxHeartbeats 32000000
set_option maxRecDepth 100000
set_option linter.unusedVariables false

/-- what one digit does to the number so far, under the greatest number of 40 bits -/
theorem pu_step_ok {acc c : Nat} {r : List UInt8} {x : UInt8} (hx : x.toNat = c) (h0 : 48 ≤ c) (h1 : c ≤ 57) (ha : acc ≤ 1099511627775) (h : acc * 10 + (c - 48) ≤ 1099511627775) :
    Lib.parseUintM 1099511627775 acc (x :: r) = Lib.parseUintM 1099511627775 (acc * 10 + (c - 48)) r := by
  subst hx
  have : ¬ 1844674407370955162 ≤ acc := by omega
  have : ¬ 1099511627775 < acc * 10 + (x.toNat - 48) := by omega
  simp [Lib.parseUintM, *]
theorem pu_step_over {acc c : Nat} {r : List UInt8} {x : UInt8} (hx : x.toNat = c) (h0 : 48 ≤ c) (h1 : c ≤ 57) (ha : acc ≤ 1099511627775) (h : 1099511627775 < acc * 10 + (c - 48)) :
    Lib.parseUintM 1099511627775 acc (x :: r) = .range := by
  subst hx
  have : ¬ 1844674407370955162 ≤ acc := by omega
  simp [Lib.parseUintM, *]
theorem pu_step_bad {acc : Nat} {r : List UInt8} {x : UInt8} (h : ¬ (48 ≤ x.toNat ∧ x.toNat ≤ 57)) : Lib.parseUintM 1099511627775 acc (x :: r) = badN := by
  simp [Lib.parseUintM, h]; rfl
/-- what holds at the head of a round: the number of the bytes read so far, and what is still to be read -/
def PuAt (bs : List UInt8) (k : Nat) (acc : Int) : Prop :=
  ∃ n : Nat, acc = (n : Int) ∧ n ≤ 1099511627775 ∧ Lib.parseUintM 1099511627775 0 bs = Lib.parseUintM 1099511627775 n (bs.drop k)
/-- ParseUint of a text that is not empty, base 10, 40 bits -/
theorem pu40 (t : ByteArray) (hne : t.size ≠ 0) (hmax : t.size ≤ 1000000) (w : World) :
    Calls Tryd.prog 70 #[.string t, .int .i64 10, .int .i64 40] w fun e w' => e = .returned (Lib.uintTupleM 99 1099511627775 (Lib.parseUintM 1099511627775 0 t.data.toList)) ∧ w' = Lib.bytesWorld w 5 t := by
  have hemp : t.toList.isEmpty = false := by
    rw [← decide_eq_emptyBytes]
    exact decide_eq_false (fun h => hne (by rw [h]; rfl))
  have hcv := Lib.run_convert_string_bytes (P := Tryd.prog) w 9 83 5 t (u := .string) Tryd.underlying9 Tryd.underlying83 Tryd.underlying5
  have hB : ∀ j, j < t.size → (Lib.bytesWorld w 5 t).cell? ⟨w.heap.size, j, none⟩ = some (.int .u8 (t.data.toList.getD j 0).toNat) := fun j hj => Lib.bytesWorld_cell w 5 t j hj
  have hmv : IntKind.u64.wrap (IntKind.u64.wrap 1099511627776 - 1) = 1099511627775 := by rw [IntKind.wrap_u64, IntKind.wrap_u64]; decide
  obtain ⟨W1, hW1⟩ : ∃ W1, W1 = Lib.bytesWorld w 5 t := ⟨_, rfl⟩
  obtain ⟨bs, hL⟩ : ∃ bs, bs = t.data.toList := ⟨_, rfl⟩
  have hLn : bs.length = t.size := by rw [hL, Lib.size_eq]
  rw [← hW1] at hcv hB ⊢
  rw [← hL] at hB ⊢
  clear hW1 hL
  go_enter Tryd.func70, Tryd.ntmps70
  go_wp2
  go_loop [12, 13, 101] (fun u n i => ∃ (k : Nat) (a : Int), u = .bool false ∧ n = .int .u64 a ∧ i = .int .i64 k ∧ k ≤ t.size ∧ Hid (PuAt bs k a)) (fun _ _ i => t.size - (intOf i).toNat)
  case atStart => exact ⟨0, 0, rfl, rfl, rfl, by omega, 0, rfl, by omega, rfl⟩
  case round =>
    obtain ⟨k, a, rfl, rfl, rfl, hk, hh⟩ := hrel
    obtain ⟨acc, ha, hacc, hdec⟩ := hh.out
    clear hh
    have a0 : 0 ≤ a := by omega
    have a1 : a ≤ 1099511627775 := by omega
    rcases Nat.lt_or_ge k t.size with hkn | hkn
    · have hc := hB k hkn
      have hkl : k < bs.length := by omega
      rw [show bs.getD k 0 = bs[k] by simp [List.getD, List.getElem?_eq_getElem hkl]] at hc
      rw [List.drop_eq_getElem_cons hkl] at hdec
      generalize bs[k] = x at hc hdec
      have hx : x.toNat < 256 := x.toNat_lt
      clear hB hkl
      by_cases hd : 48 ≤ x.toNat ∧ x.toNat ≤ 57
      · obtain ⟨d0, d1⟩ := hd
        by_cases hov : 1099511627775 < acc * 10 + (x.toNat - 48)
        · rw [pu_step_over rfl d0 d1 hacc hov] at hdec
          have iov : 1099511627775 < a * 10 + ((x.toNat : Int) - 48) := by omega
          clear hacc hov ha
          go_wp2
          go_ret2
          first | exact ⟨rfl, rfl⟩ | exact ⟨by rw [hdec]; rfl, rfl⟩
        · rw [pu_step_ok rfl d0 d1 hacc (by omega)] at hdec
          have HN : Hid (PuAt bs (k + 1) (a * 10 + ((x.toNat : Int) - 48))) := ⟨acc * 10 + (x.toNat - 48), by omega, by omega, hdec⟩
          have iov : a * 10 + ((x.toNat : Int) - 48) ≤ 1099511627775 := by omega
          clear hacc hov hdec ha
          go_wp2
          exact ⟨⟨k + 1, a * 10 + ((x.toNat : Int) - 48), rfl, (by first | rfl | (congr 1; omega)), (by first | rfl | (congr 1; omega)), by omega, HN⟩, by simp [intOf]; omega⟩
      · rw [pu_step_bad hd] at hdec
        clear hacc ha
        have b0 := bits_lo_u8 .or (x.toNat : Int) 32
        have b1 := bits_hi_u8 .or (x.toNat : Int) 32
        have b2 := bits_lo_u8 .or 95 32
        have b3 := bits_hi_u8 .or 95 32
        go_wp2_with (go_at_call 82; refine (Tryd.internal_strconv_lower _ _).mono ?_; rintro e w' ⟨rfl, rfl⟩)
        all_goals go_ret2
        all_goals first | exact ⟨rfl, rfl⟩ | exact ⟨by rw [hdec]; rfl, rfl⟩
    · obtain rfl : k = t.size := by omega
      rw [List.drop_eq_nil_of_le (by omega)] at hdec
      subst ha
      clear hacc a0 a1
      go_wp2
      go_ret2
      first | exact ⟨rfl, rfl⟩ | exact ⟨by rw [hdec]; rfl, rfl⟩
end Go.Proofs.YtngpbbpnnpfocaaDoor
