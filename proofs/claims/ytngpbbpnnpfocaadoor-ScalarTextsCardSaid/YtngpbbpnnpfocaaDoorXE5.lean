/- Own work (by an AI agent; no person has read it): part of a proof of the seat YtngpbbpnnpfocaaDoor. -/
import Derived.Test.YtngpbbpnnpfocaaDoorXE3
import Derived.Test.YtngpbbpnnpfocaaDoorXP3
import Derived.Test.YtngpbbpnnpfocaaDoorXS4
section
namespace Go.Proofs.YtngpbbpnnpfocaaDoor
open Go.Ab
open Go.RowKit (Below)
set_option maxHeartbeats 2000000
set_option maxRecDepth 10000000
set_option linter.unusedVariables false

theorem builderAt_old {T e : TypeId} {B b : Nat} {p : Value} {bs : List Value} {w w' : World} (h : Lib.BuilderAt T e B b p bs w) (hb : Below w.heap.size w w') : Lib.BuilderAt T e B b p bs w' := by
  have hlt := h.lt
  obtain ⟨hB, v, hbk, hown, hne⟩ := h
  refine ⟨hB, v, (hb.block b hlt).trans hbk, ⟨hown.1, ?_⟩, hne⟩
  rcases hown.2 with hn | ⟨g, cap, cur, hv, hbg, hg, rest⟩
  · exact .inl hn
  · exact .inr ⟨g, cap, cur, hv, hbg, (hb.block g (lt_of_some hg)).trans hg, rest⟩
theorem isBuilder_old {T e : TypeId} {B b : Nat} {bs : List Value} {w w' : World} (h : Lib.IsBuilder T e B b bs w) (hb : Below w.heap.size w w') : Lib.IsBuilder T e B b bs w' :=
  h.imp (fun h => builderAt_old h hb) fun h => builderAt_old h hb
theorem below_more (w : World) (k : Nat) (os : Array Obj) : Below w.heap.size w (Go.Sort.grow (w.drewN k) os) := by
  refine ⟨rfl, rfl, rfl, by simp [Go.Sort.grow], fun i hi => ?_⟩
  show ((w.drewN k).heap ++ os)[i]? = w.heap[i]?
  rw [Array.getElem?_append_left (by exact hi)]; rfl
theorem dec_len : ∀ (f n : Nat), n < 10 ^ (f + 1) → (Lib.decDigits n).length ≤ f + 1 := by
  intro f
  induction f with
  | zero => intro n h; unfold Lib.decDigits; rw [dif_pos (by omega)]; simp
  | succ f ih =>
    intro n h
    unfold Lib.decDigits
    split
    · simp
    · have := ih (n / 10) (by rw [Nat.pow_succ] at h; omega)
      simp; omega
theorem itoa_len {z : Int} (h0 : 0 ≤ z) (h1 : z < 100000) : (Lib.itoa z).length ≤ 5 := by
  have : Lib.itoa z = Lib.decDigits z.toNat := by unfold Lib.itoa; rw [if_neg (by omega)]
  rw [this]; exact dec_len 4 _ (by omega)
theorem fmtG (z : Int) (h0 : 0 ≤ z) (h1 : z < 100000) (w : World) (hw : okW w) : Calls Tryd.prog 60 #[.int .i64 z, .int .i64 10] w fun e w' => e = .returned (.string ⟨(Lib.itoa z).toArray⟩) ∧ Below w.heap.size w w' := by
  refine (Tryd.strconv_FormatInt_10 z (by omega) (by omega) w hw.2.1).mono ?_
  rintro e w' ⟨rfl, k, os, rfl⟩
  exact ⟨rfl, below_more _ _ _⟩
theorem fixed_posG (n : Int) (m : Nat) (hm : m < 65536) (w : World) (hw : okW w) (k0 : ¬ n < 0) (k1 : 0 ≤ n / 65536) (k2 : n / 65536 < 100000) (k3 : bits BinOp.and IntKind.i64 n 65535 = (m : Int)) :
    Calls Tryd.prog 49 #[.int .i64 n] w fun e w' => e = .returned (.string ⟨(Lib.itoa (n / 65536) ++ 46 :: fracB 17 m).toArray⟩) ∧ Below w.heap.size w w' := by
  have hI := Lib.fresh_isBuilder 85 5 w
  have hdl : (Lib.itoa (n / 65536)).length ≤ 5 := itoa_len k1 k2
  have HM := Lib.hid hm
  have HD := Lib.hid hdl
  clear hm hdl
  generalize hL : Lib.itoa (n / 65536) = L at HD ⊢
  have fmt' : ∀ w, okW w → Calls Tryd.prog 60 #[.int .i64 (n / 65536), .int .i64 10] w fun e w' => e = .returned (.string ⟨L.toArray⟩) ∧ Below w.heap.size w w' := by rw [← hL]; exact fmtG _ k1 k2
  have HL := Lib.hid hL
  clear hL k1 k2
  go_enter Tryd.func49, Tryd.ntmps49
  go_wp2_with (first
    | (go_at_call 60; refine (fmt' _ (okW_mono hw ((Below.refl _ w).alloc (Nat.le_refl _) _))).mono ?_; rintro e w0 ⟨rfl, b0⟩)
    | (go_at_call 59; refine (wstr w.heap.size w.heap.size [] _ _ (isBuilder_old hI b0) (by have := HD.out; simp [ByteArray.size]; omega) (by have h0 := b0.size; simp at h0; omega)).mono ?_; rintro e w1 ⟨rfl, g1, b1⟩)
    | (go_at_call 58; refine (wbyte w.heap.size w.heap.size _ 46 _ (.inr g1) (by have := HD.out; simp [Lib.strCells_length, ByteArray.size]; omega) (by have h0 := b0.size; have h1 := b1.size; simp at h0; omega)).mono ?_; rintro e w2 ⟨rfl, g2, b2⟩))
  go_loopg [4, 5] 17 (fun g s4 s5 wr => ∃ (r : Nat) (first : Bool), s4 = .int .i64 r ∧ s5 = .bool first ∧ Rnd (L ++ 46 :: fracB 17 m) w.heap.size w g r first wr)
  case atStart =>
    refine ⟨m, true, by rfl, by rfl, L ++ [46], HM.out, fun _ => rfl, by omega, ?_, ?_, ?_, ?_, by have := HD.out; simp; omega⟩
    · rw [Lib.byteCells_append]
      have e : Lib.strCells ⟨L.toArray⟩ = Lib.byteCells L := by simp [Lib.strCells, Lib.byteCells]
      rw [← e]; exact g2
    · exact ((((Below.refl _ w).alloc (Nat.le_refl _) _).trans (b0.mono (by simp))).trans b1).trans b2
    · have h0 := b0.size; have h1 := b1.size; have h2 := b2.size; simp at h0; omega
    · simp [restB]
  case round =>
    obtain ⟨r, first, rfl, rfl, hR⟩ := hrel
    have q2 : (r : Int) ≤ 65535 := by obtain ⟨acc, h1, _⟩ := hR; omega
    have hR := Lib.hid hR
    cases first
    · by_cases hr : r = 0
      · subst hr
        obtain ⟨t1, t2, t3⟩ := Rnd_end hR.out
        have T2 := Lib.hid t2
        clear t2 hR q2
        go_wp2_with (go_at_call 61; refine (Tryd.Builder_String_any w.heap.size w.heap.size _ _ (.inr t1) t3).mono ?_; rintro e w3 ⟨rfl, b3⟩)
        go_ret
        exact ⟨rfl, T2.out.trans b3⟩
      · obtain ⟨acc, t1, t2, t3, t4⟩ := Rnd_step hR.out (.inr hr)
        have T4 := Lib.hid t4
        have q1 : (0 : Int) < (r : Int) := by omega
        have q3 : bits BinOp.and IntKind.i64 ((r : Int) * 10) 65535 = ((r * 10 % 65536 : Nat) : Int) := by
          have := and16 (r * 10) (by omega)
          rw [← this]; rfl
        clear t4 hr
        go_wp2_with (go_at_call 58; refine (wbyte w.heap.size w.heap.size _ _ _ (.inr t1) t2 t3).mono ?_; rintro e w3 ⟨rfl, g3, b3⟩)
        go_roundg (gk - 1)
        case rel => exact ⟨_, _, rfl, rfl, (T4.out _ g3 b3).2⟩
        case measure => exact (T4.out _ g3 b3).1
    · obtain ⟨acc, t1, t2, t3, t4⟩ := Rnd_step hR.out (.inl rfl)
      have T4 := Lib.hid t4
      have q1 : (0 : Int) ≤ (r : Int) := by omega
      have q3 : bits BinOp.and IntKind.i64 ((r : Int) * 10) 65535 = ((r * 10 % 65536 : Nat) : Int) := by
        have := and16 (r * 10) (by omega)
        rw [← this]; rfl
      clear t4
      go_wp2_with (go_at_call 58; refine (wbyte w.heap.size w.heap.size _ _ _ (.inr t1) t2 t3).mono ?_; rintro e w3 ⟨rfl, g3, b3⟩)
      go_roundg (gk - 1)
      case rel => exact ⟨_, _, rfl, rfl, (T4.out _ g3 b3).2⟩
      case measure => exact (T4.out _ g3 b3).1
end Go.Proofs.YtngpbbpnnpfocaaDoor
end
section
namespace Go.Proofs.YtngpbbpnnpfocaaDoor
open Go.Ab
open Go.RowKit (Below)
set_option maxHeartbeats 2000000
set_option maxRecDepth 10000000
set_option linter.unusedVariables false

theorem fixed_negG (n : Int) (m : Nat) (hm : m < 65536) (w : World) (hw : okW w) (k0 : n < 0) (kn : IntKind.i64.wrap (-n) = -n) (k1 : 0 ≤ -n / 65536) (k2 : -n / 65536 < 100000) (k3 : bits BinOp.and IntKind.i64 (-n) 65535 = (m : Int)) :
    Calls Tryd.prog 49 #[.int .i64 n] w fun e w' => e = .returned (.string ⟨(45 :: (Lib.itoa (-n / 65536) ++ 46 :: fracB 17 m)).toArray⟩) ∧ Below w.heap.size w w' := by
  have hI := Lib.fresh_isBuilder 85 5 w
  have hdl : (Lib.itoa (-n / 65536)).length ≤ 5 := itoa_len k1 k2
  have HM := Lib.hid hm
  have HD := Lib.hid hdl
  clear hm hdl
  generalize hL : Lib.itoa (-n / 65536) = L at HD ⊢
  have fmt' : ∀ w, okW w → Calls Tryd.prog 60 #[.int .i64 (-n / 65536), .int .i64 10] w fun e w' => e = .returned (.string ⟨L.toArray⟩) ∧ Below w.heap.size w w' := by rw [← hL]; exact fmtG _ k1 k2
  have HL := Lib.hid hL
  clear hL k1 k2
  have tok : RowKit.Hid True := Lib.hid trivial
  go_enter Tryd.func49, Tryd.ntmps49
  go_wp2_with (first
    | (go_at_call 58; clear tok; refine (wbyte w.heap.size w.heap.size [] 45 _ hI (by simp) (by simp)).mono ?_; rintro e w0 ⟨rfl, g0, b0⟩)
    | (go_at_call 60; refine (fmt' _ (okW_mono hw (((Below.refl _ w).alloc (Nat.le_refl _) _).trans b0))).mono ?_; rintro e wf ⟨rfl, bf⟩)
    | (go_at_call 59; refine (wstr w.heap.size w.heap.size _ _ _ (isBuilder_old (.inr g0) bf) (by have := HD.out; simp [ByteArray.size]; omega) (by have h0 := b0.size; have hf := bf.size; simp at h0; omega)).mono ?_; rintro e w1 ⟨rfl, g1, b1⟩)
    | (go_at_call 58; refine (wbyte w.heap.size w.heap.size _ 46 _ (.inr g1) (by have := HD.out; simp [Lib.strCells_length, ByteArray.size]; omega) (by have h0 := b0.size; have hf := bf.size; have h1 := b1.size; simp at h0; omega)).mono ?_; rintro e w2 ⟨rfl, g2, b2⟩))
  go_loopg [4, 5] 17 (fun g s4 s5 wr => ∃ (r : Nat) (first : Bool), s4 = .int .i64 r ∧ s5 = .bool first ∧ Rnd (45 :: (L ++ 46 :: fracB 17 m)) w.heap.size w g r first wr)
  case atStart =>
    refine ⟨m, true, by rfl, by rfl, 45 :: (L ++ [46]), HM.out, fun _ => rfl, by omega, ?_, ?_, ?_, ?_, by have := HD.out; simp; omega⟩
    · have e0 : (45 :: (L ++ [46]) : List UInt8) = [45] ++ L ++ [46] := by simp
      rw [e0, Lib.byteCells_append, Lib.byteCells_append]
      have e : Lib.strCells ⟨L.toArray⟩ = Lib.byteCells L := by simp [Lib.strCells, Lib.byteCells]
      rw [← e]; exact g2
    · exact (((((Below.refl _ w).alloc (Nat.le_refl _) _).trans b0).trans (bf.mono (by have h0 := b0.size; simp at h0; omega))).trans b1).trans b2
    · have h0 := b0.size; have hf := bf.size; have h1 := b1.size; have h2 := b2.size; simp at h0; omega
    · simp [restB]
  case round =>
    obtain ⟨r, first, rfl, rfl, hR⟩ := hrel
    have q2 : (r : Int) ≤ 65535 := by obtain ⟨acc, h1, _⟩ := hR; omega
    have hR := Lib.hid hR
    cases first
    · by_cases hr : r = 0
      · subst hr
        obtain ⟨t1, t2, t3⟩ := Rnd_end hR.out
        have T2 := Lib.hid t2
        clear t2 hR q2
        go_wp2_with (go_at_call 61; refine (Tryd.Builder_String_any w.heap.size w.heap.size _ _ (.inr t1) t3).mono ?_; rintro e w3 ⟨rfl, b3⟩)
        go_ret
        exact ⟨rfl, T2.out.trans b3⟩
      · obtain ⟨acc, t1, t2, t3, t4⟩ := Rnd_step hR.out (.inr hr)
        have T4 := Lib.hid t4
        have q1 : (0 : Int) < (r : Int) := by omega
        have q3 : bits BinOp.and IntKind.i64 ((r : Int) * 10) 65535 = ((r * 10 % 65536 : Nat) : Int) := by
          have := and16 (r * 10) (by omega)
          rw [← this]; rfl
        clear t4 hr
        go_wp2_with (go_at_call 58; refine (wbyte w.heap.size w.heap.size _ _ _ (.inr t1) t2 t3).mono ?_; rintro e w3 ⟨rfl, g3, b3⟩)
        go_roundg (gk - 1)
        case rel => exact ⟨_, _, rfl, rfl, (T4.out _ g3 b3).2⟩
        case measure => exact (T4.out _ g3 b3).1
    · obtain ⟨acc, t1, t2, t3, t4⟩ := Rnd_step hR.out (.inl rfl)
      have T4 := Lib.hid t4
      have q1 : (0 : Int) ≤ (r : Int) := by omega
      have q3 : bits BinOp.and IntKind.i64 ((r : Int) * 10) 65535 = ((r * 10 % 65536 : Nat) : Int) := by
        have := and16 (r * 10) (by omega)
        rw [← this]; rfl
      clear t4
      go_wp2_with (go_at_call 58; refine (wbyte w.heap.size w.heap.size _ _ _ (.inr t1) t2 t3).mono ?_; rintro e w3 ⟨rfl, g3, b3⟩)
      go_roundg (gk - 1)
      case rel => exact ⟨_, _, rfl, rfl, (T4.out _ g3 b3).2⟩
      case measure => exact (T4.out _ g3 b3).1

/-- the text of a fixed-point number -/
def fixB (n : Int) : List UInt8 := if n < 0 then 45 :: (Lib.itoa (-n / 65536) ++ 46 :: fracB 17 (-n % 65536).toNat) else Lib.itoa (n / 65536) ++ 46 :: fracB 17 (n % 65536).toNat
theorem fixed_all (n : Int) (h : -2147483648 ≤ n ∧ n < 2147483648) (w : World) (hw : okW w) : Calls Tryd.prog 49 #[.int .i64 n] w fun e w' => e = .returned (.string ⟨(fixB n).toArray⟩) ∧ Below w.heap.size w w' := by
  unfold fixB
  split
  · rename_i h0
    refine fixed_negG n _ (by omega) w hw h0 (w64_of (by omega) (by omega)) (by omega) (by omega) ?_
    obtain ⟨r, hr⟩ : ∃ r : Nat, -n = r := ⟨(-n).toNat, by omega⟩
    rw [hr, and16 r (by omega)]; omega
  · rename_i h0
    refine fixed_posG n _ (by omega) w hw h0 (by omega) (by omega) ?_
    obtain ⟨r, hr⟩ : ∃ r : Nat, n = r := ⟨n.toNat, by omega⟩
    rw [hr, and16 r (by omega)]; omega
abbrev strV (l : List UInt8) : AV := .v (.string ⟨l.toArray⟩)
theorem fixed_okG (n : Int) (h : -2147483648 ≤ n ∧ n < 2147483648) : CallOK Tryd.prog 49 [.v (.int .i64 n)] (fun _ => strV (fixB n)) (fun _ => []) :=
  callOK_of_calls (xs := [.int .i64 n]) ⟨_, Tryd.func49, rfl, by kernel_rfl⟩ (fun w hw => fixed_all n h w hw)
theorem itoa_okG (n : Int) (h : -2147483648 ≤ n ∧ n < 2147483648) : CallOK Tryd.prog 48 [.v (.int .i64 n)] (fun _ => strV (Lib.itoa n)) (fun _ => []) :=
  callOK_of_calls (xs := [.int .i64 n]) ⟨_, Tryd.func48, rfl, by kernel_rfl⟩ (fun w hw => by
    refine (Tryd.strconv_Itoa n (by omega) (by omega) w hw.2.1).mono ?_
    rintro e w' ⟨rfl, k, os, rfl⟩
    exact ⟨rfl, below_more _ _ _⟩)
theorem fbool_okG (b : Bool) : CallOK Tryd.prog 50 [.v (.bool b)] (fun _ => strV (Lib.formatBool b)) (fun _ => []) :=
  callOK_of_calls (xs := [.bool b]) ⟨_, Tryd.func50, rfl, by kernel_rfl⟩ (fun w hw => by
    refine (Tryd.strconv_FormatBool b w).mono ?_
    rintro e w' ⟨rfl, rfl⟩
    exact ⟨rfl, Below.refl _ _⟩)
end Go.Proofs.YtngpbbpnnpfocaaDoor
end
