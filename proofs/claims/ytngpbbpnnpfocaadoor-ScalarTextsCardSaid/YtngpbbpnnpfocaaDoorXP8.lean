/- Own work (by an AI agent; no person has read it): part of a proof of the seat YtngpbbpnnpfocaaDoor. -/
import Derived.Test.YtngpbbpnnpfocaaDoorXP3
import Derived.Lib.IfaceNeq
section
namespace Go.Proofs.YtngpbbpnnpfocaaDoor
open Go.RowKit
set_option maxHeartbeats 4000000
set_option maxRecDepth 100000
set_option linter.unusedVariables false

/-- what ParseUint at 40 bits answers of a text: the number (the greatest one if it is too great), or none -/
def uval (l : List UInt8) : Option Nat := match Lib.parseUintB 40 l with | .ok u => some u | .range => some 1099511627775 | _ => none
theorem uval_le {l : List UInt8} {u : Nat} (h : uval l = some u) : u ≤ 1099511627775 := by
  unfold uval at h
  split at h
  · rename_i hh; cases h; exact parseUintB_le hh
  · cases h; omega
  · cases h
/-- the call of ParseUint, by what it answers -/
theorem pu40_some (t : ByteArray) (hmax : t.size ≤ 1000000) {u : Nat} (h : uval t.data.toList = some u) (w : World) :
    Calls Tryd.prog 70 #[.string t, .int .i64 10, .int .i64 40] w fun e w' => (e = .returned (.tuple #[.int .u64 u, .nilIface]) ∨ e = .returned (.tuple #[.int .u64 u, .iface 99 (.int .i64 1)])) ∧ Below w.heap.size w w' := by
  refine (pu40' t hmax w).mono ?_
  rintro e w' ⟨rfl, hb⟩
  refine ⟨?_, hb⟩
  unfold uval at h
  split at h
  · rename_i hh; cases h; rw [hh]; exact .inl rfl
  · rename_i hh; cases h; rw [hh]; exact .inr rfl
  · cases h
theorem pu40_none (t : ByteArray) (hmax : t.size ≤ 1000000) (h : uval t.data.toList = none) (w : World) :
    Calls Tryd.prog 70 #[.string t, .int .i64 10, .int .i64 40] w fun e w' => e = .returned (.tuple #[.int .u64 0, .iface 99 (.int .i64 2)]) ∧ Below w.heap.size w w' := by
  refine (pu40' t hmax w).mono ?_
  rintro e w' ⟨rfl, hb⟩
  refine ⟨?_, hb⟩
  unfold uval at h
  cases hh : Lib.parseUintB 40 t.data.toList <;> rw [hh] at h <;> first | rfl | cases h
end Go.Proofs.YtngpbbpnnpfocaaDoor
end
section
namespace Go.Proofs.YtngpbbpnnpfocaaDoor
open Go.RowKit
set_option maxHeartbeats 4000000
set_option maxRecDepth 100000
set_option linter.unusedVariables false

def val40 : List UInt8 → Int
  | [] => 0
  | c :: r => if c = 45 then (match uval r with | some u => -(min (u : Int) 549755813888) | none => 0) else (match uval (if c = 43 then r else c :: r) with | some u => min (u : Int) 549755813887 | none => 0)
/-- the errors that ParseInt of the inner package can give -/
def ErrV (v : Value) : Prop := v = .nilIface ∨ v = .iface 99 (.int .i64 2) ∨ v = .iface 99 (.int .i64 1)
theorem hq2 (W : World) : (binOp .neq 75 (.iface 99 (.int .i64 2)) (.iface 99 (.int .i64 1))).run Tryd.prog W = .ok (.bool true) W := Lib.run_neq_iface_int W 2 1 Tryd.underlying75 (by kernel_rfl) Tryd.underlying99
theorem hq1 (W : World) : (binOp .neq 75 (.iface 99 (.int .i64 1)) (.iface 99 (.int .i64 1))).run Tryd.prog W = .ok (.bool false) W := Lib.run_neq_iface_int W 1 1 Tryd.underlying75 (by kernel_rfl) Tryd.underlying99
theorem hmin40 : wrap64 (-wrap64 549755813888) = -549755813888 := by unfold wrap64; omega
theorem sl1 (s : ByteArray) (h : 1 ≤ s.size) (W : World) : (Instr.slice 9 (.string s) (some (.int .i64 1)) none none).run Tryd.prog W = .ok (.string (s.extract 1 s.size)) W := by
  rw [run_slice_string_from_if W 9 s .i64 _ Tryd.underlying9, if_pos ⟨by omega, by omega⟩]
  rfl
theorem pi40_plus (s : ByteArray) (hmax : s.size ≤ 1000000) (c : UInt8) (r : List UInt8) (hL : s.data.toList = c :: r) (hc : c = 43) (w : World) :
    Calls Tryd.prog 63 #[.string s, .int .i64 10, .int .i64 40] w fun e w' => (∃ er, e = .returned (.tuple #[.int .i64 (val40 (c :: r)), er]) ∧ ErrV er) ∧ Below w.heap.size w w' := by
  have hsz : s.size = r.length + 1 := by rw [Lib.size_eq, hL]; rfl
  have hpos : 0 < s.size := by omega
  have hemp : s.toList.isEmpty = false := by
    rw [← decide_eq_emptyBytes]
    exact decide_eq_false (fun h => by rw [h] at hpos; exact absurd hpos (by decide))
  have hs0 : s[0]'hpos = c := by have := Lib.getD_at s 0 hpos; rw [hL] at this; exact this
  have hq2 := hq2
  have hq1 := hq1
  have hmin := hmin40
  subst hc
  have hsl := sl1 s (by omega)
  have htl : (s.extract 1 s.size).data.toList = r := by rw [Lib.extract_data, hL, List.drop_succ_cons, List.drop_zero, List.take_of_length_le (by omega)]
  have hts : (s.extract 1 s.size).size ≤ 1000000 := by rw [Lib.size_eq, htl]; omega
  generalize s.extract 1 s.size = t at hsl htl hts
  cases hu : uval r with
  | none =>
    have hv : val40 (43 :: r) = 0 := by simp [val40, hu]
    rw [hv]
    have hU := pu40_none t hts (by rw [htl]; exact hu)
    clear hL htl hv
    go_enter Tryd.func63, Tryd.ntmps63
    go_wp2_with (go_at_call 70; refine (hU _).mono ?_; rintro e w1 ⟨rfl, hb⟩)
    go_ret2
    exact ⟨⟨_, rfl, .inr (.inl rfl)⟩, hb⟩
  | some u =>
    have hu1 := uval_le hu
    have hv : val40 (43 :: r) = (min (u : Int) 549755813887) := by simp [val40, hu]
    rw [hv]
    have hU := pu40_some t hts (by rw [htl]; exact hu)
    obtain ⟨a, ha⟩ : ∃ a : Int, a = (u : Int) := ⟨_, rfl⟩
    rw [← ha] at hU ⊢
    have a0 : 0 ≤ a := by omega
    have a1 : a ≤ 1099511627775 := by omega
    clear hL htl hv ha hu hu1
    by_cases hout : 549755813888 ≤ a
    · have hm1 : min a 549755813887 = 549755813887 := by omega
      rw [hm1]
      clear hm1
      go_enter Tryd.func63, Tryd.ntmps63
      go_wp2_with (go_at_call 70; refine (hU _).mono ?_; rintro e w1 ⟨rfl | rfl, hb⟩)
      all_goals go_ret2
      all_goals first | exact ⟨⟨_, rfl, .inr (.inr rfl)⟩, hb⟩ | (simp only [hmin]; exact ⟨⟨_, rfl, .inr (.inr rfl)⟩, hb⟩)
    · have hm1 : min a 549755813887 = a := by omega
      rw [hm1]
      clear hm1
      go_enter Tryd.func63, Tryd.ntmps63
      go_wp2_with (go_at_call 70; refine (hU _).mono ?_; rintro e w1 ⟨rfl | rfl, hb⟩)
      all_goals go_ret2
      all_goals exact ⟨⟨_, rfl, .inl rfl⟩, hb⟩
theorem pi40_minus (s : ByteArray) (hmax : s.size ≤ 1000000) (c : UInt8) (r : List UInt8) (hL : s.data.toList = c :: r) (hc : c = 45) (w : World) :
    Calls Tryd.prog 63 #[.string s, .int .i64 10, .int .i64 40] w fun e w' => (∃ er, e = .returned (.tuple #[.int .i64 (val40 (c :: r)), er]) ∧ ErrV er) ∧ Below w.heap.size w w' := by
  have hsz : s.size = r.length + 1 := by rw [Lib.size_eq, hL]; rfl
  have hpos : 0 < s.size := by omega
  have hemp : s.toList.isEmpty = false := by
    rw [← decide_eq_emptyBytes]
    exact decide_eq_false (fun h => by rw [h] at hpos; exact absurd hpos (by decide))
  have hs0 : s[0]'hpos = c := by have := Lib.getD_at s 0 hpos; rw [hL] at this; exact this
  have hq2 := hq2
  have hq1 := hq1
  have hmin := hmin40
  subst hc
  have hsl := sl1 s (by omega)
  have htl : (s.extract 1 s.size).data.toList = r := by rw [Lib.extract_data, hL, List.drop_succ_cons, List.drop_zero, List.take_of_length_le (by omega)]
  have hts : (s.extract 1 s.size).size ≤ 1000000 := by rw [Lib.size_eq, htl]; omega
  generalize s.extract 1 s.size = t at hsl htl hts
  cases hu : uval r with
  | none =>
    have hv : val40 (45 :: r) = 0 := by simp [val40, hu]
    rw [hv]
    have hU := pu40_none t hts (by rw [htl]; exact hu)
    clear hL htl hv
    go_enter Tryd.func63, Tryd.ntmps63
    go_wp2_with (go_at_call 70; refine (hU _).mono ?_; rintro e w1 ⟨rfl, hb⟩)
    go_ret2
    exact ⟨⟨_, rfl, .inr (.inl rfl)⟩, hb⟩
  | some u =>
    have hu1 := uval_le hu
    have hv : val40 (45 :: r) = (-(min (u : Int) 549755813888)) := by simp [val40, hu]
    rw [hv]
    have hU := pu40_some t hts (by rw [htl]; exact hu)
    obtain ⟨a, ha⟩ : ∃ a : Int, a = (u : Int) := ⟨_, rfl⟩
    rw [← ha] at hU ⊢
    have a0 : 0 ≤ a := by omega
    have a1 : a ≤ 1099511627775 := by omega
    clear hL htl hv ha hu hu1
    by_cases hout : 549755813888 < a
    · have hm1 : -(min a 549755813888) = -549755813888 := by omega
      rw [hm1]
      clear hm1
      go_enter Tryd.func63, Tryd.ntmps63
      go_wp2_with (go_at_call 70; refine (hU _).mono ?_; rintro e w1 ⟨rfl | rfl, hb⟩)
      all_goals go_ret2
      all_goals first | exact ⟨⟨_, rfl, .inr (.inr rfl)⟩, hb⟩ | (simp only [hmin]; exact ⟨⟨_, rfl, .inr (.inr rfl)⟩, hb⟩)
    · have hm1 : -(min a 549755813888) = -a := by omega
      rw [hm1]
      clear hm1
      go_enter Tryd.func63, Tryd.ntmps63
      go_wp2_with (go_at_call 70; refine (hU _).mono ?_; rintro e w1 ⟨rfl | rfl, hb⟩)
      all_goals go_ret2
      all_goals exact ⟨⟨_, rfl, .inl rfl⟩, hb⟩
theorem pi40_plain (s : ByteArray) (hmax : s.size ≤ 1000000) (c : UInt8) (r : List UInt8) (hL : s.data.toList = c :: r) (hp : c ≠ 43) (hm : c ≠ 45) (w : World) :
    Calls Tryd.prog 63 #[.string s, .int .i64 10, .int .i64 40] w fun e w' => (∃ er, e = .returned (.tuple #[.int .i64 (val40 (c :: r)), er]) ∧ ErrV er) ∧ Below w.heap.size w w' := by
  have hsz : s.size = r.length + 1 := by rw [Lib.size_eq, hL]; rfl
  have hpos : 0 < s.size := by omega
  have hemp : s.toList.isEmpty = false := by
    rw [← decide_eq_emptyBytes]
    exact decide_eq_false (fun h => by rw [h] at hpos; exact absurd hpos (by decide))
  have hs0 : s[0]'hpos = c := by have := Lib.getD_at s 0 hpos; rw [hL] at this; exact this
  have hq2 := hq2
  have hq1 := hq1
  have hmin := hmin40
  have n43 : ¬ (c.toNat : Int) = 43 := fun h => hp (UInt8.toNat_inj.1 (by show c.toNat = 43; omega))
  have n45 : ¬ (c.toNat : Int) = 45 := fun h => hm (UInt8.toNat_inj.1 (by show c.toNat = 45; omega))
  have htl := hL
  have hts := hmax
  cases hu : uval (c :: r) with
  | none =>
    have hv : val40 (c :: r) = 0 := by simp [val40, hu, hp, hm]
    rw [hv]
    have hU := pu40_none s hts (by rw [htl]; exact hu)
    clear hL htl hv
    go_enter Tryd.func63, Tryd.ntmps63
    go_wp2_with (go_at_call 70; refine (hU _).mono ?_; rintro e w1 ⟨rfl, hb⟩)
    go_ret2
    exact ⟨⟨_, rfl, .inr (.inl rfl)⟩, hb⟩
  | some u =>
    have hu1 := uval_le hu
    have hv : val40 (c :: r) = (min (u : Int) 549755813887) := by simp [val40, hu, hp, hm]
    rw [hv]
    have hU := pu40_some s hts (by rw [htl]; exact hu)
    obtain ⟨a, ha⟩ : ∃ a : Int, a = (u : Int) := ⟨_, rfl⟩
    rw [← ha] at hU ⊢
    have a0 : 0 ≤ a := by omega
    have a1 : a ≤ 1099511627775 := by omega
    clear hL htl hv ha hu hu1
    by_cases hout : 549755813888 ≤ a
    · have hm1 : min a 549755813887 = 549755813887 := by omega
      rw [hm1]
      clear hm1
      go_enter Tryd.func63, Tryd.ntmps63
      go_wp2_with (go_at_call 70; refine (hU _).mono ?_; rintro e w1 ⟨rfl | rfl, hb⟩)
      all_goals go_ret2
      all_goals first | exact ⟨⟨_, rfl, .inr (.inr rfl)⟩, hb⟩ | (simp only [hmin]; exact ⟨⟨_, rfl, .inr (.inr rfl)⟩, hb⟩)
    · have hm1 : min a 549755813887 = a := by omega
      rw [hm1]
      clear hm1
      go_enter Tryd.func63, Tryd.ntmps63
      go_wp2_with (go_at_call 70; refine (hU _).mono ?_; rintro e w1 ⟨rfl | rfl, hb⟩)
      all_goals go_ret2
      all_goals exact ⟨⟨_, rfl, .inl rfl⟩, hb⟩
end Go.Proofs.YtngpbbpnnpfocaaDoor
end
section
namespace Go.Proofs.YtngpbbpnnpfocaaDoor
open Go.Ab
open Go.RowKit
set_option maxHeartbeats 4000000
set_option maxRecDepth 100000
set_option linter.unusedVariables false

theorem pi40_any (s : ByteArray) (hmax : s.size ≤ 1000000) (w : World) :
    Calls Tryd.prog 63 #[.string s, .int .i64 10, .int .i64 40] w fun e w' => (∃ er, e = .returned (.tuple #[.int .i64 (val40 s.data.toList), er]) ∧ ErrV er) ∧ Below w.heap.size w w' := by
  cases hL : s.data.toList with
  | nil =>
    have : s = ⟨#[]⟩ := by cases s; simp at hL; rw [hL]
    subst this
    refine (Tryd.internal_strconv_ParseInt_empty _ _ _).mono ?_
    rintro e w' ⟨rfl, rfl⟩
    exact ⟨⟨_, rfl, .inr (.inl rfl)⟩, Below.refl _ _⟩
  | cons c r =>
    by_cases hp : c = 43
    · rw [hp] at hL ⊢; exact pi40_plus s hmax 43 r hL rfl w
    · by_cases hm : c = 45
      · rw [hm] at hL ⊢; exact pi40_minus s hmax 45 r hL rfl w
      · exact pi40_plain s hmax c r hL hp hm w
/-- strconv.ParseInt at base 10 and 40 bits, every text: the number; the error is some value -/
theorem p53_40 (s : ByteArray) (hmax : s.size ≤ 1000000) (w : World) (hw : okW w) :
    Calls Tryd.prog 53 #[.string s, .int .i64 10, .int .i64 40] w fun e w' => (∃ er, e = .returned (.tuple #[.int .i64 (val40 s.data.toList), er])) ∧ Below w.heap.size w w' := by
  have hc : ∀ w, Calls Tryd.prog 63 #[.string s, .int .i64 10, .int .i64 40] w fun e w' => (e = .returned (.tuple #[.int .i64 (val40 s.data.toList), .nilIface]) ∨ ∃ q, (q = 1 ∨ q = 2) ∧ e = .returned (.tuple #[.int .i64 (val40 s.data.toList), .iface 99 (.int .i64 q)])) ∧ Below w.heap.size w w' := fun w => (pi40_any s hmax w).mono (by
    rintro e w' ⟨⟨er, rfl, rfl | rfl | rfl⟩, hb⟩
    · exact ⟨.inl rfl, hb⟩
    · exact ⟨.inr ⟨2, .inr rfl, rfl⟩, hb⟩
    · exact ⟨.inr ⟨1, .inl rfl, rfl⟩, hb⟩)
  generalize val40 s.data.toList = v at hc ⊢
  have tt : ∀ w1 (q : Int), (q = 1 ∨ q = 2) → okW w1 → Calls Tryd.prog 64 #[.string ⟨#[80, 97, 114, 115, 101, 73, 110, 116]⟩, .string s, .int .i64 10, .int .i64 40, .iface 99 (.int .i64 q)] w1 fun e w' => (∃ N, e = .returned (.iface 100 (.pointer (some ⟨N, 0, none⟩)))) ∧ Below w1.heap.size w1 w' := fun w1 q hq h1 => by
    obtain ⟨_, _, ⟨t, p, h3⟩, ⟨t', p', h4⟩⟩ := h1
    rcases hq with rfl | rfl
    · refine (Tryd.strconv_toError_range _ s 10 40 _ w1 (by omega) h4 (.inr ⟨_, _, rfl⟩)).mono ?_
      rintro e w' ⟨N, rfl, _, _, hb⟩
      exact ⟨⟨N, rfl⟩, hb⟩
    · refine (Tryd.strconv_toError_syntax _ s 10 40 _ w1 (by omega) h3 (.inr ⟨_, _, rfl⟩)).mono ?_
      rintro e w' ⟨N, rfl, _, _, hb⟩
      exact ⟨⟨N, rfl⟩, hb⟩
  go_enter Tryd.func53, Tryd.ntmps53
  go_wp2_with (first
    | (go_at_call 63; refine (hc _).mono ?_; rintro e w1 ⟨rfl | ⟨q, hq, rfl⟩, b1⟩)
    | (go_at_call 64; refine (tt _ _ hq (okW_mono hw b1)).mono ?_; rintro e w2 ⟨⟨N, rfl⟩, b2⟩))
  all_goals go_ret2
  all_goals first | exact ⟨⟨_, rfl⟩, bt b1 b2⟩ | exact ⟨⟨_, rfl⟩, b1⟩
end Go.Proofs.YtngpbbpnnpfocaaDoor
end
section
namespace Go.Proofs.YtngpbbpnnpfocaaDoor
open Go.Ab
open Go.RowKit
set_option linter.unusedVariables false

def val32 (l : List UInt8) : Int := match Lib.parseIntB 32 l with | .ok v => v | .range => Lib.intSat 32 l | _ => 0
theorem p53_32 (s : ByteArray) (hmax : s.size ≤ 1000000) (w : World) (hw : okW w) :
    Calls Tryd.prog 53 #[.string s, .int .i64 10, .int .i64 32] w fun e w' => (∃ er, e = .returned (.tuple #[.int .i64 (val32 s.data.toList), er])) ∧ Below w.heap.size w w' := by
  obtain ⟨_, _, ⟨t, p, h3⟩, ⟨t', p', h4⟩⟩ := hw
  unfold val32
  split
  · rename_i v hv
    refine (Tryd.strconv_ParseInt_10_at32_ok s (by omega) v hv w).mono ?_
    rintro e w' ⟨rfl, h⟩
    refine ⟨⟨_, rfl⟩, ?_⟩
    rcases h with rfl | ⟨t, rfl⟩
    · exact Below.refl _ _
    · exact Lib.bytesWorld_below _ _ _
  · rename_i hv
    refine (Tryd.strconv_ParseInt_10_at32_range s (by omega) hv _ w h4 (.inr ⟨_, _, rfl⟩)).mono ?_
    rintro e w' ⟨N, rfl, _, _, hb⟩
    exact ⟨⟨_, rfl⟩, hb⟩
  · rename_i h1 h2
    have hv : Lib.parseIntB 32 s.data.toList = badI := by
      cases hh : Lib.parseIntB 32 s.data.toList with
      | ok v => exact absurd hh (h1 v)
      | range => exact absurd hh h2
      | _ => rfl
    refine (Tryd.strconv_ParseInt_10_at32_syntax s (by omega) hv _ w h3 (.inr ⟨_, _, rfl⟩)).mono ?_
    rintro e w' ⟨N, rfl, _, _, hb⟩
    exact ⟨⟨_, rfl⟩, hb⟩
def uval64 (l : List UInt8) : Int := match Lib.parseUintB 64 l with | .ok u => (u : Int) | .range => 18446744073709551615 | _ => 0
theorem p67_64 (s : ByteArray) (hmax : s.size ≤ 1000000) (w : World) (hw : okW w) :
    Calls Tryd.prog 67 #[.string s, .int .i64 10, .int .i64 64] w fun e w' => (∃ er, e = .returned (.tuple #[.int .u64 (uval64 s.data.toList), er])) ∧ Below w.heap.size w w' := by
  obtain ⟨_, _, ⟨t, p, h3⟩, ⟨t', p', h4⟩⟩ := hw
  unfold uval64
  split
  · rename_i u hu
    refine (Tryd.strconv_ParseUint_10_at64_ok s (by omega) u hu w).mono ?_
    rintro e w' ⟨rfl, h⟩
    refine ⟨⟨_, rfl⟩, ?_⟩
    rcases h with rfl | rfl
    · exact Below.refl _ _
    · exact Lib.bytesWorld_below _ _ _
  · rename_i hv
    refine (Tryd.strconv_ParseUint_10_at64_range s (by omega) hv _ w h4 (.inr ⟨_, _, rfl⟩)).mono ?_
    rintro e w' ⟨N, rfl, _, _, hb⟩
    exact ⟨⟨_, rfl⟩, hb⟩
  · rename_i h1 h2
    have hv : Lib.parseUintB 64 s.data.toList = badN := by
      cases hh : Lib.parseUintB 64 s.data.toList with
      | ok v => exact absurd hh (h1 v)
      | range => exact absurd hh h2
      | _ => rfl
    refine (Tryd.strconv_ParseUint_10_at64_syntax s (by omega) hv _ w h3 (.inr ⟨_, _, rfl⟩)).mono ?_
    rintro e w' ⟨N, rfl, _, _, hb⟩
    exact ⟨⟨_, rfl⟩, hb⟩
end Go.Proofs.YtngpbbpnnpfocaaDoor
end
section
namespace Go.Proofs.YtngpbbpnnpfocaaDoor
open Go.Ab
open Go.RowKit
set_option maxHeartbeats 4000000
set_option maxRecDepth 100000
set_option linter.unusedVariables false

theorem uval_bound (M : Nat) : ∀ (l : List UInt8) (acc u : Nat), Lib.parseUintM M acc l = .ok u → u < (acc + 1) * 10 ^ l.length := by
  intro l
  induction l with
  | nil => intro acc u h; cases h; simp
  | cons x r ih =>
    intro acc u h
    unfold Lib.parseUintM at h
    split at h
    · split at h
      · cases h
      · split at h
        · cases h
        · rename_i h1 _ _
          have := ih _ _ h
          have hx : acc * 10 + (x.toNat - 48) + 1 ≤ (acc + 1) * 10 := by omega
          have h2 := Nat.mul_le_mul_right (10 ^ r.length) hx
          rw [List.length_cons, Nat.pow_succ]
          have e : (acc + 1) * (10 ^ r.length * 10) = (acc + 1) * 10 * 10 ^ r.length := by rw [Nat.mul_assoc, Nat.mul_comm 10]
          omega
    · cases h
theorem no_range : ∀ (l : List UInt8) (acc k : Nat), l.length ≤ k → k ≤ 16 → acc < 10 ^ (16 - k) → Lib.parseUintM 18446744073709551615 acc l ≠ .range := by
  intro l
  induction l with
  | nil => intro acc k h1 h2 h3 h; cases h
  | cons x r ih =>
    intro acc k h1 h2 h3 h
    obtain ⟨k, rfl⟩ : ∃ j, k = j + 1 := ⟨k - 1, by simp at h1; omega⟩
    have h4 : (10 : Nat) ^ (16 - (k + 1)) ≤ 10 ^ 15 := Nat.pow_le_pow_right (by omega) (by omega)
    unfold Lib.parseUintM at h
    split at h
    · rename_i hx
      rw [if_neg (by omega), if_neg (by omega)] at h
      refine ih _ k (by simp at h1; omega) (by omega) ?_ h
      have e : 16 - k = 16 - (k + 1) + 1 := by omega
      rw [e, Nat.pow_succ]
      omega
    · cases h
theorem uval64_bound (l : List UInt8) (h : l.length ≤ 16) : 0 ≤ uval64 l ∧ uval64 l < 10 ^ l.length := by
  have hp : 0 < (10 : Int) ^ l.length := Int.pow_pos (by omega)
  unfold uval64 Lib.parseUintB
  split
  · rename_i u hu
    split at hu
    · cases hu
    · have := uval_bound _ _ _ _ hu
      have e : (((10 : Nat) ^ l.length : Nat) : Int) = (10 : Int) ^ l.length := by simp
      simp at this
      omega
  · rename_i hu
    split at hu
    · cases hu
    · exact absurd hu (no_range l 0 16 h (by omega) (by simp))
  · omega
theorem val40_bound (l : List UInt8) : -549755813888 ≤ val40 l ∧ val40 l ≤ 549755813887 := by
  unfold val40
  split
  · omega
  · split
    · split
      · rename_i u _; omega
      · omega
    · split
      · rename_i u _; omega
      · omega
end Go.Proofs.YtngpbbpnnpfocaaDoor
end
