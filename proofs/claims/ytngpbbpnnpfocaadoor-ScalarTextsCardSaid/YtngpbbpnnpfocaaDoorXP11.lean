/- Own work (by an AI agent; no person has read it): part of a proof of the seat YtngpbbpnnpfocaaDoor. -/
import Derived.Test.YtngpbbpnnpfocaaDoorXP8
import Derived.Test.YtngpbbpnnpfocaaDoorXE5
section
namespace Go.Proofs.YtngpbbpnnpfocaaDoor
open Go.Ab
open Go.RowKit
set_option maxHeartbeats 4000000
set_option maxRecDepth 100000
set_option linter.unusedVariables false

theorem p10le {j : Nat} (h : j ≤ 16) : (10 : Int) ^ j ≤ 10000000000000000 := by
  have h1 : (10 : Nat) ^ j ≤ 10 ^ 16 := Nat.pow_le_pow_right (by omega) h
  have h2 : (((10 : Nat) ^ j : Nat) : Int) = (10 : Int) ^ j := by simp
  have h3 : (10 : Nat) ^ 16 = 10000000000000000 := by decide
  rw [h3] at h1
  omega
theorem grow10 {d : Int} {m k : Nat} (d0 : 0 ≤ d) (d1 : d < 10 ^ m) (h : m + k ≤ 16) : 0 ≤ d * 10 ^ k ∧ d * 10 ^ k < 10000000000000000 := by
  have h1 : (0 : Int) < 10 ^ k := Int.pow_pos (by omega)
  refine ⟨Int.mul_nonneg d0 (Int.le_of_lt h1), ?_⟩
  have h2 : d * 10 ^ k < 10 ^ m * 10 ^ k := Int.mul_lt_mul_of_pos_right d1 h1
  rw [← Int.pow_add] at h2
  exact Int.lt_of_lt_of_le h2 (p10le h)
theorem wrap32_w32 (n : Int) : wrap32 n = w32 n := by rw [w32_def]; unfold wrap32; omega
/-- the walk of parsed, by what its callees answer -/
theorem parsed_walk (s T W F : ByteArray) (mi bx : Bool) (hs : s.size ≤ 1000) (hT : T.size ≤ 1000) (hW : W.size ≤ 1000) (hF : F.size ≤ 1000)
    (h1 : ∀ w, Calls Tryd.prog 65 #[.string s, .string ⟨#[45]⟩] w fun e w' => e = .returned (.tuple #[.string T, .bool mi]) ∧ w' = w)
    (h2 : ∀ w, okW w → Calls Tryd.prog 66 #[.string T, .string ⟨#[46]⟩] w fun e w' => e = .returned (.tuple #[.string W, .string F, .bool bx]) ∧ Below w.heap.size w w')
    (w : World) (hw : okW w) :
    Calls Tryd.prog 54 #[.string s] w fun e w' => e = .returned (.int .i32 (w32 (if mi then -(val40 W.data.toList * 65536 + uval64 (F.data.toList.take 16) * 10 ^ (16 - min F.data.toList.length 16) / 152587890625) else val40 W.data.toList * 65536 + uval64 (F.data.toList.take 16) * 10 ^ (16 - min F.data.toList.length 16) / 152587890625))) ∧ Below w.heap.size w w' := by
  have h3 := p53_40 W (by omega)
  have hv := val40_bound W.data.toList
  generalize val40 W.data.toList = v at h3 hv ⊢
  have hFl : F.data.toList.length = F.size := (Lib.size_eq F).symm
  have hx : (F.extract 0 (min F.size 16)).data.toList = F.data.toList.take 16 := by
    rw [Lib.extract_data, List.drop_zero]
    rcases Nat.le_total F.size 16 with h | h
    · rw [Nat.min_eq_left h, List.take_of_length_le (by omega), List.take_of_length_le (by omega)]
    · rw [Nat.min_eq_right h]
  have hxs : (F.extract 0 (min F.size 16)).size = min F.size 16 := by rw [Lib.size_eq, hx, List.length_take, hFl]; omega
  have h4 := p67_64 (F.extract 0 (min F.size 16)) (by omega)
  rw [hx] at h4
  obtain ⟨d0, d1⟩ := uval64_bound (F.data.toList.take 16) (by rw [List.length_take]; omega)
  rw [List.length_take, hFl, Nat.min_comm] at d1
  rw [hFl]
  generalize uval64 (F.data.toList.take 16) = d at h4 d0 d1 ⊢
  clear hx hxs hFl
  have hmt : (min (F.size : Int) 16).toNat = min F.size 16 := by omega
  rw [← hmt] at h4
  have m0 : 0 ≤ min (F.size : Int) 16 := by omega
  have m1 : min (F.size : Int) 16 ≤ 16 := by omega
  have m2 : min (F.size : Int) 16 ≤ (F.size : Int) := by omega
  obtain ⟨K, hK⟩ : ∃ K, K = 16 - min F.size 16 := ⟨_, rfl⟩
  rw [← hK]
  have hKm : (16 : Int) - min (F.size : Int) 16 = (K : Int) := by omega
  have hb : ∀ k, k ≤ K → 0 ≤ d * 10 ^ k ∧ d * 10 ^ k < 10000000000000000 := fun k hk => grow10 d0 d1 (by omega)
  have hb := Lib.hid hb
  have M := Lib.hid (And.intro m0 (And.intro m1 (And.intro m2 (And.intro hKm hK))))
  have HV := Lib.hid hv
  have HD := Lib.hid (And.intro d0 d1)
  clear m0 m1 m2 hKm hK hmt hv d0 d1
  go_enter Tryd.func54, Tryd.ntmps54
  go_wp2_with (first
    | (go_at_call 65; refine (h1 _).mono ?_; rintro e w1 ⟨rfl, rfl⟩)
    | (go_at_call 66; refine (h2 _ hw).mono ?_; rintro e w1 ⟨rfl, b1⟩)
    | (go_at_call 53; refine (h3 _ (okW_mono hw b1)).mono ?_; rintro e w2 ⟨⟨er, rfl⟩, b2⟩)
    | (go_at_call 67; refine (h4 _ (okW_mono hw (bt b1 b2))).mono ?_; rintro e w3 ⟨⟨er3, rfl⟩, b3⟩))
  clear h1 h2 h3 h4
  obtain ⟨m0, m1, m2, hKm, hK⟩ := M.out
  go_loop [10, 41] (fun o i => ∃ (k : Nat), o = .int .u64 (d * 10 ^ k) ∧ i = .int .i64 k ∧ k ≤ K) (fun _ i => K - (intOf i).toNat)
  case atStart => exact ⟨0, by simp, by rfl, by omega⟩
  case round =>
    obtain ⟨k, rfl, rfl, hk⟩ := hrel
    rcases Nat.lt_or_ge k K with h | h
    · obtain ⟨x0, x1⟩ := hb.out k hk
      have hx : d * 10 ^ (k + 1) = d * 10 ^ k * 10 := by rw [Int.pow_succ, Int.mul_assoc]
      generalize d * 10 ^ k = x at x0 x1 hx ⊢
      have hlt : (k : Int) < 16 - min (F.size : Int) 16 := by omega
      clear m0 m1 m2 hKm hK
      go_wp2
      exact ⟨⟨k + 1, by rw [hx], by rfl, by omega⟩, by simp [intOf]; omega⟩
    · obtain rfl : k = K := by omega
      obtain ⟨x0, x1⟩ := hb.out k hk
      obtain ⟨v0, v1⟩ := HV.out
      generalize hxx : d * 10 ^ k = x at x0 x1 ⊢
      have hge : 16 - min (F.size : Int) 16 ≤ (k : Int) := by omega
      clear m0 m1 m2 hKm hK
      cases mi
      · go_wp2
        go_ret
        refine ⟨?_, bt (bt b1 b2) b3⟩
        exact congrArg (fun z => Ending.returned (Value.int .i32 z)) (wrap32_w32 _)
      · go_wp2
        go_ret
        refine ⟨?_, bt (bt b1 b2) b3⟩
        exact congrArg (fun z => Ending.returned (Value.int .i32 z)) (wrap32_w32 _)
end Go.Proofs.YtngpbbpnnpfocaaDoor
end
section
namespace Go.Proofs.YtngpbbpnnpfocaaDoor
open Go.Ab
open Go.RowKit
set_option maxRecDepth 100000
set_option linter.unusedVariables false

theorem trim_len (l p : List UInt8) : (Lib.trimPrefix l p).length ≤ l.length := by
  unfold Lib.trimPrefix; split
  · simp
  · exact Nat.le_refl _
theorem cut_len (l p : List UInt8) : (Lib.cut l p).1.length ≤ l.length ∧ (Lib.cut l p).2.1.length ≤ l.length := by
  unfold Lib.cut; split
  · simp; omega
  · simp
/-- what parsed reads -/
def parsedF (l : List UInt8) : Int :=
  w32 (if Lib.hasPrefix l [45] then -(val40 (Lib.cut (Lib.trimPrefix l [45]) [46]).1 * 65536 + uval64 ((Lib.cut (Lib.trimPrefix l [45]) [46]).2.1.take 16) * 10 ^ (16 - min (Lib.cut (Lib.trimPrefix l [45]) [46]).2.1.length 16) / 152587890625)
    else val40 (Lib.cut (Lib.trimPrefix l [45]) [46]).1 * 65536 + uval64 ((Lib.cut (Lib.trimPrefix l [45]) [46]).2.1.take 16) * 10 ^ (16 - min (Lib.cut (Lib.trimPrefix l [45]) [46]).2.1.length 16) / 152587890625)
theorem size_mk (l : List UInt8) : (⟨l.toArray⟩ : ByteArray).size = l.length := by simp [ByteArray.size]
theorem parsed_okG (l : List UInt8) (h : l.length ≤ 1000) : CallOK Tryd.prog 54 [strV l] (fun _ => .v (.int .i32 (parsedF l))) (fun _ => []) :=
  callOK_of_calls (xs := [.string ⟨l.toArray⟩]) ⟨_, Tryd.func54, rfl, by kernel_rfl⟩ (fun w hw => by
    have t := trim_len l [45]
    obtain ⟨c1, c2⟩ := cut_len (Lib.trimPrefix l [45]) [46]
    exact parsed_walk ⟨l.toArray⟩ ⟨(Lib.trimPrefix l [45]).toArray⟩ ⟨(Lib.cut (Lib.trimPrefix l [45]) [46]).1.toArray⟩ ⟨(Lib.cut (Lib.trimPrefix l [45]) [46]).2.1.toArray⟩ (Lib.hasPrefix l [45]) (Lib.cut (Lib.trimPrefix l [45]) [46]).2.2
      (by rw [size_mk]; exact h) (by rw [size_mk]; omega) (by rw [size_mk]; omega) (by rw [size_mk]; omega)
      (fun w => Tryd.strings_CutPrefix ⟨l.toArray⟩ ⟨#[45]⟩ w)
      (fun w hw => by
        obtain ⟨⟨m, hm⟩, _⟩ := hw
        refine (Tryd.strings_Cut ⟨(Lib.trimPrefix l [45]).toArray⟩ ⟨#[46]⟩ m w (by rw [size_mk]; omega) hm).mono ?_
        rintro e w' ⟨rfl, n, rfl⟩
        exact ⟨rfl, below_drewN (Below.refl _ _) _⟩) w hw)
end Go.Proofs.YtngpbbpnnpfocaaDoor
end
section
namespace Go.Proofs.YtngpbbpnnpfocaaDoor
open Go.Ab
open Go.RowKit
set_option linter.unusedVariables false
/-- a contract of a callee that returns a number and a value of which nothing is said -/
theorem callOK_num_any {f : FuncId} {xs : List Value} {y : Value} (hc : callable Tryd.prog f)
    (h : ∀ w, okW w → Calls Tryd.prog f xs.toArray w fun e w' => (∃ er, e = .returned (.tuple #[y, er])) ∧ Below w.heap.size w w') :
    CallOK Tryd.prog f (xs.map AV.v) (fun _ => .tup [.v y, .dead]) (fun _ => []) := by
  refine ⟨hc, fun nid M w args hg hM hR => ?_⟩
  have e : args = xs.toArray := by
    obtain ⟨h1, h2⟩ := hR
    apply Array.ext
    · simpa using h1
    · intro i hi1 hi2
      have hx : (xs.map AV.v)[i]? = some (.v xs[i]) := by simp at hi2 ⊢
      have hr := h2 i _ _ hx (Array.getElem?_eq_getElem hi1)
      generalize hv : args[i] = v at hr
      generalize hu : xs[i] = u at hr
      cases hr
      simp [hu]
  subst e
  refine (h w hg).mono fun e w' ⟨⟨er, he⟩, hb⟩ => ⟨.tuple #[y, er], fun _ => none, he, ⟨?_, fun _ _ => rfl, ?_, hb, hM⟩, .tup _ _ rfl ?_⟩
  · intro id r hh; rw [rowsH, if_neg (by simp)] at hh; cases hh
  · intro id id' r r' b β β' z z' hh; rw [rowsH, if_neg (by simp)] at hh; cases hh
  · intro i x u h1 h2
    match i, h1, h2 with
    | 0, h1, h2 => cases h1; cases h2; exact .v _
    | 1, h1, h2 => cases h1; cases h2; exact .dead _
theorem parseInt32_okG (l : List UInt8) (h : l.length ≤ 1000) : CallOK Tryd.prog 53 [strV l, .v (.int .i64 10), .v (.int .i64 32)] (fun _ => .tup [.v (.int .i64 (val32 l)), .dead]) (fun _ => []) :=
  callOK_num_any (xs := [.string ⟨l.toArray⟩, .int .i64 10, .int .i64 32]) ⟨_, Tryd.func53, rfl, by kernel_rfl⟩ (fun w hw => p53_32 ⟨l.toArray⟩ (by rw [size_mk]; omega) w hw)
end Go.Proofs.YtngpbbpnnpfocaaDoor
end
