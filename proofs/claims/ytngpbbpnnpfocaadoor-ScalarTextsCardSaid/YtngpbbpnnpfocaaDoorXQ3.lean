/- Own work (by an AI agent; no person has read it): part of a proof of the seat YtngpbbpnnpfocaaDoor. -/
import Derived.Test.YtngpbbpnnpfocaaDoorXS24
namespace Go.Proofs.YtngpbbpnnpfocaaDoor
open Go.Ab
set_option maxRecDepth 100000
set_option linter.unusedVariables false
set_option linter.unusedSimpArgs false

/-- a byte is a decimal digit -/
def isDg (c : UInt8) : Prop := 48 ≤ c.toNat ∧ c.toNat ≤ 57
instance (c : UInt8) : Decidable (isDg c) := by unfold isDg; infer_instance
/-- the number that digits stand for -/
def dval : Nat → List UInt8 → Nat
  | acc, [] => acc
  | acc, c :: r => dval (acc * 10 + (c.toNat - 48)) r
theorem dval_ge : ∀ (l : List UInt8) (acc : Nat), acc ≤ dval acc l
  | [], acc => Nat.le_refl _
  | c :: r, acc => by have := dval_ge r (acc * 10 + (c.toNat - 48)); show acc ≤ dval (acc * 10 + (c.toNat - 48)) r; omega
theorem dval_append : ∀ (a b : List UInt8) (acc : Nat), dval acc (a ++ b) = dval (dval acc a) b
  | [], b, acc => rfl
  | c :: r, b, acc => dval_append r b _
theorem dval_acc : ∀ (l : List UInt8) (acc : Nat), dval acc l = acc * 10 ^ l.length + dval 0 l
  | [], acc => by
    show acc = acc * 10 ^ 0 + 0
    rw [Nat.pow_zero]; omega
  | c :: r, acc => by
    show dval (acc * 10 + (c.toNat - 48)) r = acc * 10 ^ (r.length + 1) + dval (0 * 10 + (c.toNat - 48)) r
    rw [dval_acc r (acc * 10 + (c.toNat - 48)), dval_acc r (0 * 10 + (c.toNat - 48)), Nat.pow_succ, Nat.add_mul, Nat.zero_mul, Nat.zero_add, Nat.add_assoc, Nat.mul_assoc, Nat.mul_comm 10]
theorem parseM_ok (M : Nat) (hM : M ≤ 18446744073709551615) : ∀ (l : List UInt8) (acc : Nat), (∀ c ∈ l, isDg c) → dval acc l ≤ M → Lib.parseUintM M acc l = .ok (dval acc l) := by
  intro l
  induction l with
  | nil => intro acc _ _; rfl
  | cons c r ih =>
    intro acc hd h1
    have hc := hd c (by simp)
    unfold isDg at hc
    have hg := dval_ge r (acc * 10 + (c.toNat - 48))
    have h1' : dval (acc * 10 + (c.toNat - 48)) r ≤ M := h1
    have e : dval acc (c :: r) = dval (acc * 10 + (c.toNat - 48)) r := rfl
    rw [e]
    unfold Lib.parseUintM
    rw [if_pos hc, if_neg (by omega), if_neg (by omega)]
    exact ih _ (fun c h => hd c (by simp [h])) h1'
theorem dg_of (d : Nat) (h : d < 10) : isDg (UInt8.ofNat (48 + d)) ∧ (UInt8.ofNat (48 + d)).toNat - 48 = d := by
  have e : (UInt8.ofNat (48 + d)).toNat = 48 + d := by simp; omega
  unfold isDg; rw [e]; omega
theorem dec_dg : ∀ (f n : Nat), n < 10 ^ (f + 1) → (∀ c ∈ Lib.decDigits n, isDg c) ∧ dval 0 (Lib.decDigits n) = n ∧ Lib.decDigits n ≠ [] := by
  intro f
  induction f with
  | zero =>
    intro n h
    obtain ⟨h1, h2⟩ := dg_of n (by omega)
    unfold Lib.decDigits
    rw [dif_pos (by omega)]
    refine ⟨fun c hc => ?_, ?_, by simp⟩
    · rw [List.mem_singleton.1 hc]; exact h1
    · show 0 * 10 + ((UInt8.ofNat (48 + n)).toNat - 48) = n; omega
  | succ f ih =>
    intro n h
    unfold Lib.decDigits
    split
    · rename_i hn
      obtain ⟨h1, h2⟩ := dg_of n hn
      refine ⟨fun c hc => ?_, ?_, by simp⟩
      · rw [List.mem_singleton.1 hc]; exact h1
      · show 0 * 10 + ((UInt8.ofNat (48 + n)).toNat - 48) = n; omega
    · obtain ⟨i1, i2, i3⟩ := ih (n / 10) (by rw [Nat.pow_succ] at h; omega)
      obtain ⟨h1, h2⟩ := dg_of (n % 10) (by omega)
      refine ⟨fun c hc => ?_, ?_, by simp⟩
      · rcases List.mem_append.1 hc with hc | hc
        · exact i1 c hc
        · rw [List.mem_singleton.1 hc]; exact h1
      · rw [dval_append, i2]
        show n / 10 * 10 + ((UInt8.ofNat (48 + n % 10)).toNat - 48) = n; omega
theorem dec_ok (n : Nat) (h : n < 10000000000000000000) : (∀ c ∈ Lib.decDigits n, isDg c) ∧ dval 0 (Lib.decDigits n) = n ∧ Lib.decDigits n ≠ [] := by
  refine dec_dg 18 n ?_
  have e : (10 : Nat) ^ (18 + 1) = 10000000000000000000 := by decide
  rw [e]; exact h
/-- the digits of a fraction: at most k of them, and what they stand for -/
theorem frac_ok : ∀ (k f r : Nat), k + 1 ≤ f → r < 65536 → (r * 2 ^ (k + 1)) % 65536 = 0 →
    (fracB f r).length ≤ k + 1 ∧ (∀ c ∈ fracB f r, isDg c) ∧ dval 0 (fracB f r) * 65536 = r * 10 ^ (fracB f r).length := by
  intro k
  induction k with
  | zero =>
    intro f r hf hr hd
    obtain ⟨f, rfl⟩ : ∃ g, f = g + 1 := ⟨f - 1, by omega⟩
    have h0 : r * 10 % 65536 = 0 := by omega
    obtain ⟨h1, h2⟩ := dg_of (r * 10 / 65536) (by omega)
    simp only [fracB, if_pos h0]
    refine ⟨by simp, fun c hc => ?_, ?_⟩
    · rw [List.mem_singleton.1 hc]; exact h1
    · show (0 * 10 + ((UInt8.ofNat (48 + r * 10 / 65536)).toNat - 48)) * 65536 = r * 10 ^ 1
      omega
  | succ k ih =>
    intro f r hf hr hd
    obtain ⟨f, rfl⟩ : ∃ g, f = g + 1 := ⟨f - 1, by omega⟩
    obtain ⟨h1, h2⟩ := dg_of (r * 10 / 65536) (by omega)
    simp only [fracB]
    split
    · rename_i h0
      refine ⟨by simp, fun c hc => ?_, ?_⟩
      · rw [List.mem_singleton.1 hc]; exact h1
      · show (0 * 10 + ((UInt8.ofNat (48 + r * 10 / 65536)).toNat - 48)) * 65536 = r * 10 ^ 1
        omega
    · rename_i h0
      have hd' : (r * 10 % 65536 * 2 ^ (k + 1)) % 65536 = 0 := by
        rw [Nat.mul_mod, Nat.mod_mod, ← Nat.mul_mod]
        have e3 : r * 10 * 2 ^ (k + 1) = 5 * (r * 2 ^ (k + 1 + 1)) := by rw [Nat.pow_succ 2 (k + 1)]; generalize 2 ^ (k + 1) = z; rw [Nat.mul_comm z 2, ← Nat.mul_assoc r 2 z, ← Nat.mul_assoc 5, ← Nat.mul_assoc 5, Nat.mul_comm 5 r]; congr 1; omega
        rw [e3, Nat.mul_mod, hd]
      obtain ⟨i1, i2, i3⟩ := ih f (r * 10 % 65536) (by omega) (by omega) hd'
      refine ⟨by simp; omega, fun c hc => ?_, ?_⟩
      · rcases List.mem_cons.1 hc with hc | hc
        · subst hc; exact h1
        · exact i2 c hc
      · have e0 : dval 0 (UInt8.ofNat (48 + r * 10 / 65536) :: fracB f (r * 10 % 65536)) = dval (r * 10 / 65536) (fracB f (r * 10 % 65536)) := by
          show dval (0 * 10 + ((UInt8.ofNat (48 + r * 10 / 65536)).toNat - 48)) _ = _
          rw [h2, Nat.zero_mul, Nat.zero_add]
        rw [e0, dval_acc, List.length_cons, Nat.add_mul, i3, Nat.pow_succ]
        generalize 10 ^ (fracB f (r * 10 % 65536)).length = P
        have e : r * 10 = r * 10 / 65536 * 65536 + r * 10 % 65536 := by omega
        generalize r * 10 / 65536 = a at e ⊢
        generalize r * 10 % 65536 = b at e ⊢
        rw [Nat.mul_comm P 10, ← Nat.mul_assoc r 10 P, e, Nat.add_mul, Nat.mul_right_comm]
theorem frac17 (m : Nat) (h : m < 65536) : (fracB 17 m).length ≤ 16 ∧ (∀ c ∈ fracB 17 m, isDg c) ∧ dval 0 (fracB 17 m) * 65536 = m * 10 ^ (fracB 17 m).length := frac_ok 15 17 m (by omega) h (by omega)
theorem index_dot : ∀ (a b : List UInt8), (∀ c ∈ a, isDg c) → Lib.index (a ++ 46 :: b) [46] = a.length
  | [], b, _ => rfl
  | c :: r, b, h => by
    have hc := h c (by simp)
    have hne : (46 : UInt8) ≠ c := by intro e; subst e; unfold isDg at hc; revert hc; decide
    have ih := index_dot r b (fun c h' => h c (by simp [h']))
    rw [List.cons_append]
    unfold Lib.index
    rw [if_neg (by simp [List.isPrefixOf, hne]), ih, if_neg (by simp), List.length_cons]
    omega
theorem cut_dot (a b : List UInt8) (h : ∀ c ∈ a, isDg c) : Lib.cut (a ++ 46 :: b) [46] = (a, b, true) := by
  unfold Lib.cut
  rw [index_dot a b h, if_pos (by omega)]
  simp
theorem uval_dec (n : Nat) (h : n ≤ 1099511627775) : uval (Lib.decDigits n) = some n := by
  obtain ⟨h1, h2, h3⟩ := dec_ok n (by omega)
  unfold uval Lib.parseUintB
  rw [if_neg h3, parseM_ok _ (by omega) _ _ h1 (by rw [h2]; omega), h2]
theorem dec_head (n : Nat) (h : n < 10000000000000000000) : ∃ c r, Lib.decDigits n = c :: r ∧ isDg c := by
  obtain ⟨h1, h2, h3⟩ := dec_ok n h
  cases hd : Lib.decDigits n with
  | nil => exact absurd hd h3
  | cons c r => exact ⟨c, r, rfl, h1 c (by rw [hd]; simp)⟩
theorem dg_ne {c : UInt8} (h : isDg c) : c ≠ 45 ∧ c ≠ 43 ∧ c.toNat ≠ 43 ∧ c.toNat ≠ 45 := by
  unfold isDg at h
  refine ⟨fun e => ?_, fun e => ?_, by omega, by omega⟩ <;> (subst e; revert h; decide)
theorem val40_dec (n : Nat) (h : n < 549755813887) : val40 (Lib.decDigits n) = n := by
  have hu := uval_dec n (by omega)
  obtain ⟨c, r, e, hc⟩ := dec_head n (by omega)
  obtain ⟨c1, c2, _⟩ := dg_ne hc
  rw [e] at hu ⊢
  simp only [val40, if_neg c1, if_neg c2, hu]
  omega
theorem itoa_pos {z : Int} (h : 0 ≤ z) : Lib.itoa z = Lib.decDigits z.toNat := by unfold Lib.itoa; rw [if_neg (by omega)]
theorem itoa_minus {z : Int} (h : z < 0) : Lib.itoa z = 45 :: Lib.decDigits (-z).toNat := by unfold Lib.itoa; rw [if_pos h]; congr 2; omega
theorem uval32_dec (n : Nat) (h : n ≤ 4294967295) : Lib.parseUintB 32 (Lib.decDigits n) = .ok n := by
  obtain ⟨h1, h2, h3⟩ := dec_ok n (by omega)
  unfold Lib.parseUintB
  rw [if_neg h3, parseM_ok _ (by omega) _ _ h1 (by rw [h2]; omega), h2]
theorem val32_itoa (v : Int) (hv : I32 v) : val32 (Lib.itoa v) = v := by
  unfold I32 at hv
  have hp : Lib.parseIntB 32 (Lib.itoa v) = .ok v := by
    rcases Int.lt_or_le v 0 with h | h
    · rw [itoa_minus h, Lib.parseIntB_minus, uval32_dec _ (by omega)]
      show (if 2147483648 < (-v).toNat then Lib.NumEnd.range else .ok (-(((-v).toNat : Nat) : Int))) = _
      rw [if_neg (by omega)]; congr 1; omega
    · rw [itoa_pos h]
      have hu := uval32_dec v.toNat (by omega)
      obtain ⟨c, r, e, hc⟩ := dec_head v.toNat (by omega)
      obtain ⟨_, _, c1, c2⟩ := dg_ne hc
      rw [e] at hu ⊢
      rw [Lib.parseIntB_plain 32 c r c1 c2, hu]
      show (if 2147483648 ≤ v.toNat then Lib.NumEnd.range else .ok ((v.toNat : Nat) : Int)) = _
      rw [if_neg (by omega)]; congr 1; omega
  unfold val32; rw [hp]
theorem uval64_ok (l : List UInt8) (h1 : ∀ c ∈ l, isDg c) (h2 : l ≠ []) (h3 : dval 0 l ≤ 18446744073709551615) : uval64 l = dval 0 l := by
  have e : Lib.parseUintB 64 l = .ok (dval 0 l) := by
    unfold Lib.parseUintB
    rw [if_neg h2]
    exact parseM_ok (2 ^ 64 - 1) (Nat.le_of_eq (by decide)) l 0 h1 (Nat.le_trans h3 (Nat.le_of_eq (by decide)))
  simp only [uval64, e]
theorem dval_lt : ∀ (l : List UInt8), (∀ c ∈ l, isDg c) → dval 0 l < 10 ^ l.length
  | [], _ => by
    show 0 < 10 ^ 0
    rw [Nat.pow_zero]; exact Nat.one_pos
  | c :: r, h => by
    have hc := h c (by simp)
    have := dval_lt r (fun c h' => h c (by simp [h']))
    unfold isDg at hc
    show dval (0 * 10 + (c.toNat - 48)) r < 10 ^ (r.length + 1)
    rw [dval_acc, Nat.pow_succ]
    have h9 : (0 * 10 + (c.toNat - 48)) * 10 ^ r.length ≤ 9 * 10 ^ r.length := Nat.mul_le_mul_right _ (by omega)
    omega
theorem fracB_ne (f r : Nat) : fracB (f + 1) r ≠ [] := by unfold fracB; exact List.cons_ne_nil _ _
theorem frac_back (m : Nat) (h : m < 65536) : uval64 ((fracB 17 m).take 16) * 10 ^ (16 - min (fracB 17 m).length 16) / 152587890625 = m := by
  obtain ⟨h1, h2, h3⟩ := frac17 m h
  have hlt := dval_lt _ h2
  have hp : (10 : Nat) ^ (fracB 17 m).length ≤ 10 ^ 16 := Nat.pow_le_pow_right (by omega) h1
  have e16 : (10 : Nat) ^ 16 = 10000000000000000 := by decide
  rw [List.take_of_length_le h1, uval64_ok _ h2 (fracB_ne 16 m) (by omega), Nat.min_eq_left h1]
  have e : dval 0 (fracB 17 m) * 10 ^ (16 - (fracB 17 m).length) = m * 152587890625 := by
    have : dval 0 (fracB 17 m) * 10 ^ (16 - (fracB 17 m).length) * 65536 = m * 152587890625 * 65536 := by
      rw [Nat.mul_right_comm, h3, Nat.mul_assoc, ← Nat.pow_add]
      have : (fracB 17 m).length + (16 - (fracB 17 m).length) = 16 := by omega
      rw [this, e16, Nat.mul_assoc]
    exact Nat.eq_of_mul_eq_mul_right (by omega) this
  have e' : ((dval 0 (fracB 17 m) : Nat) : Int) * 10 ^ (16 - (fracB 17 m).length) = (m : Int) * 152587890625 := by
    have := congrArg (fun n : Nat => (n : Int)) e
    simpa using this
  rw [e']; omega
theorem w32_id {v : Int} (h : I32 v) : w32 v = v := by unfold I32 at h; rw [w32_def]; omega
theorem parsed_fixB (v : Int) (hv : I32 v) : parsedF (fixB v) = v := by
  have hv' := hv
  unfold I32 at hv'
  unfold parsedF fixB
  split
  · rename_i h
    have hp : Lib.hasPrefix (45 :: (Lib.itoa (-v / 65536) ++ 46 :: fracB 17 (-v % 65536).toNat)) [45] = true := by simp [Lib.hasPrefix, List.isPrefixOf]
    have ht : Lib.trimPrefix (45 :: (Lib.itoa (-v / 65536) ++ 46 :: fracB 17 (-v % 65536).toNat)) [45] = Lib.itoa (-v / 65536) ++ 46 :: fracB 17 (-v % 65536).toNat := by unfold Lib.trimPrefix; rw [if_pos hp]; rfl
    rw [hp, if_pos rfl, ht, itoa_pos (by omega), cut_dot _ _ (dec_ok _ (by omega)).1, val40_dec _ (by omega), frac_back _ (by omega)]
    have : -((((-v / 65536).toNat : Nat) : Int) * 65536 + ((-v % 65536).toNat : Int)) = v := by omega
    rw [this]; exact w32_id hv
  · rename_i h
    rw [itoa_pos (by omega)]
    obtain ⟨c, r, e, hc⟩ := dec_head (v / 65536).toNat (by omega)
    have hp : Lib.hasPrefix (Lib.decDigits (v / 65536).toNat ++ 46 :: fracB 17 (v % 65536).toNat) [45] = false := by
      rw [e]; simp [Lib.hasPrefix, List.isPrefixOf]; exact fun h => (dg_ne hc).1 h.symm
    have ht : Lib.trimPrefix (Lib.decDigits (v / 65536).toNat ++ 46 :: fracB 17 (v % 65536).toNat) [45] = Lib.decDigits (v / 65536).toNat ++ 46 :: fracB 17 (v % 65536).toNat := by unfold Lib.trimPrefix; rw [hp]; rfl
    rw [hp, if_neg (by decide), ht, cut_dot _ _ (dec_ok _ (by omega)).1, val40_dec _ (by omega), frac_back _ (by omega)]
    have : ((((v / 65536).toNat : Nat) : Int) * 65536 + ((v % 65536).toNat : Int)) = v := by omega
    rw [this]; exact w32_id hv
theorem boolV_back (v : Int) (h : v = 0 ∨ v = 1) : boolV (Lib.formatBool (decide (v = 1))) = v := by
  rcases h with rfl | rfl <;> rfl
/-- the text of a value is read as the value -/
theorem parse_text (t v : Int) (hv : I32 v) (h : (textF t v).2 = 0) : parseF t (textF t v).1 = (v, 0) := by
  unfold parseF backF
  by_cases h1 : t = 1
  · subst h1
    have e : (textF 1 v).1 = Lib.itoa v := rfl
    rw [if_pos rfl, e, val32_itoa v hv, w32_id hv, e, if_pos rfl]
  · by_cases h2 : t = 2
    · subst h2
      have e : (textF 2 v).1 = fixB v := rfl
      rw [if_neg h1, if_pos rfl, e, parsed_fixB v hv, e, if_pos rfl]
    · by_cases h3 : t = 3
      · subst h3
        have hb : v = 0 ∨ v = 1 := by
          refine Classical.byContradiction fun hn => ?_
          have : (textF 3 v).2 = 1 := by unfold textF; rw [if_neg h1, if_neg h2, if_neg (fun h => hn h.2)]
          omega
        have e : (textF 3 v).1 = Lib.formatBool (decide (v = 1)) := by unfold textF; rw [if_neg h1, if_neg h2, if_pos ⟨rfl, hb⟩]
        rw [if_neg h1, if_neg h2, if_pos rfl, e, boolV_back v hb, e, if_pos rfl]
      · have : (textF t v).2 = 1 := by unfold textF; rw [if_neg h1, if_neg h2, if_neg (fun h => h3 h.1)]
        omega
end Go.Proofs.YtngpbbpnnpfocaaDoor
