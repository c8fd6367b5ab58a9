/- Own work (by an AI agent; no person has read it): part of a proof of the seat YtngpbbpnnpfocaaDoor. -/
import Derived.Test.YtngpbbpnnpfocaaDoorXQ3
namespace Go.Proofs.YtngpbbpnnpfocaaDoor
open Go.Ab
set_option maxRecDepth 100000
set_option linter.unusedVariables false
set_option linter.unusedSimpArgs false

/-- how many digits a text begins with -/
def ndig : List UInt8 → Nat
  | [] => 0
  | c :: r => if isDg c then ndig r + 1 else 0
theorem ndig_le : ∀ l : List UInt8, ndig l ≤ l.length
  | [] => Nat.le_refl _
  | c :: r => by
    have := ndig_le r
    unfold ndig; split
    · simp; omega
    · simp
theorem ndig_in : ∀ (l : List UInt8) (i : Nat), i < ndig l → isDg (l.getD i 0)
  | [], i, h => absurd h (Nat.not_lt_zero _)
  | c :: r, i, h => by
    unfold ndig at h
    split at h
    · rename_i hc
      cases i with
      | zero => exact hc
      | succ i => exact ndig_in r i (by omega)
    · exact absurd h (Nat.not_lt_zero _)
theorem ndig_end : ∀ (l : List UInt8), ndig l < l.length → ¬ isDg (l.getD (ndig l) 0)
  | [], h => absurd h (Nat.not_lt_zero _)
  | c :: r, h => by
    unfold ndig at h ⊢
    split at h
    · rename_i hc
      rw [if_pos hc]
      exact ndig_end r (by simpa using h)
    · rename_i hc
      rw [if_neg hc]
      exact hc
theorem ndig_all : ∀ (l : List UInt8), (∀ c ∈ l, isDg c) → ndig l = l.length
  | [], _ => rfl
  | c :: r, h => by
    have := ndig_all r (fun c h' => h c (by simp [h']))
    unfold ndig; rw [if_pos (h c (by simp)), this]; rfl
theorem ndig_app : ∀ (a b : List UInt8) (d : UInt8), (∀ c ∈ a, isDg c) → ¬ isDg d → ndig (a ++ d :: b) = a.length
  | [], b, d, _, h => by
    show ndig (d :: b) = 0
    unfold ndig; rw [if_neg h]
  | c :: r, b, d, h, hd => by
    have := ndig_app r b d (fun c h' => h c (by simp [h'])) hd
    show ndig (c :: (r ++ d :: b)) = r.length + 1
    unfold ndig; rw [if_pos (h c (by simp)), this]
/-- a number with a roof -/
def numS (n : Int) (c : UInt8) : Int := min (10 * n + ((c.toNat : Int) - 48)) 1099511627776
def numA (l : List UInt8) : Int := l.foldl numS 0
theorem numA_snoc (l : List UInt8) (i : Nat) (h : i < l.length) : numA (l.take (i + 1)) = numS (numA (l.take i)) (l.getD i 0) := by
  rw [List.take_succ_eq_append_getElem h]
  unfold numA
  rw [List.foldl_append]
  simp [List.getD_eq_getElem?_getD, List.getElem?_eq_getElem h]
theorem numA_bound : ∀ (l : List UInt8), (∀ c ∈ l, isDg c) → ∀ n, 0 ≤ n → n ≤ 1099511627776 → 0 ≤ l.foldl numS n ∧ l.foldl numS n ≤ 1099511627776
  | [], _, n, h0, h1 => ⟨h0, h1⟩
  | c :: r, h, n, h0, h1 => by
    have hc := h c (by simp)
    unfold isDg at hc
    exact numA_bound r (fun c h' => h c (by simp [h'])) (numS n c) (by unfold numS; omega) (by unfold numS; omega)
theorem numA_dval : ∀ (l : List UInt8) (n : Nat), (∀ c ∈ l, isDg c) → dval n l ≤ 1099511627776 → l.foldl numS (n : Int) = dval n l
  | [], n, _, _ => rfl
  | c :: r, n, h, hd => by
    have hc := h c (by simp)
    unfold isDg at hc
    have hg := dval_ge r (n * 10 + (c.toNat - 48))
    have hd' : dval (n * 10 + (c.toNat - 48)) r ≤ 1099511627776 := hd
    have e : numS (n : Int) c = ((n * 10 + (c.toNat - 48) : Nat) : Int) := by unfold numS; omega
    show r.foldl numS (numS (n : Int) c) = _
    rw [e, numA_dval r _ (fun c h' => h c (by simp [h'])) hd']
    rfl
theorem take_dg (l : List UInt8) (i : Nat) (h : i ≤ ndig l) : ∀ c ∈ l.take i, isDg c := by
  intro c hc
  obtain ⟨j, hj, rfl⟩ := List.getElem_of_mem hc
  have hl := ndig_le l
  have hj' : j < i := by simp at hj; omega
  have := ndig_in l j (by omega)
  rw [List.getElem_take]
  rwa [List.getD_eq_getElem?_getD, List.getElem?_eq_getElem (by omega)] at this
/-- how many digits part reads -/
def pdig (l : List UInt8) : Nat := min (ndig l) 16
def decS (n : Int) (c : UInt8) : Int := 10 * n + ((c.toNat : Int) - 48)
def decA (l : List UInt8) : Int := l.foldl decS 0
theorem decA_snoc (l : List UInt8) (i : Nat) (h : i < l.length) : decA (l.take (i + 1)) = decS (decA (l.take i)) (l.getD i 0) := by
  rw [List.take_succ_eq_append_getElem h]
  unfold decA
  rw [List.foldl_append]
  simp [List.getD_eq_getElem?_getD, List.getElem?_eq_getElem h]
theorem decA_dval : ∀ (l : List UInt8) (n : Nat), (∀ c ∈ l, isDg c) → l.foldl decS (n : Int) = dval n l
  | [], n, _ => rfl
  | c :: r, n, h => by
    have hc := h c (by simp)
    unfold isDg at hc
    have e : decS (n : Int) c = ((n * 10 + (c.toNat - 48) : Nat) : Int) := by unfold decS; omega
    show r.foldl decS (decS (n : Int) c) = _
    rw [e, decA_dval r _ (fun c h' => h c (by simp [h']))]
    rfl
theorem decA_eq (l : List UInt8) (h : ∀ c ∈ l, isDg c) : decA l = dval 0 l := decA_dval l 0 h
theorem decA_take (l : List UInt8) (i : Nat) (h : i ≤ ndig l) : 0 ≤ decA (l.take i) ∧ decA (l.take i) < 10 ^ i := by
  have hd := take_dg l i h
  rw [decA_eq _ hd]
  have := dval_lt _ hd
  have hl := ndig_le l
  rw [List.length_take, Nat.min_eq_left (by omega)] at this
  have e : (((10 : Nat) ^ i : Nat) : Int) = (10 : Int) ^ i := by simp
  omega
/-- what part answers -/
def partF (l : List UInt8) : Int := decA (l.take (pdig l)) * 256 / 10 ^ pdig l * 256 + decA (l.take (pdig l)) * 256 % 10 ^ pdig l * 256 / 10 ^ pdig l
theorem part_frac (m : Nat) (h : m < 65536) : partF (fracB 17 m) = m := by
  obtain ⟨h1, h2, h3⟩ := frac17 m h
  have hp : pdig (fracB 17 m) = (fracB 17 m).length := by unfold pdig; rw [ndig_all _ h2]; omega
  unfold partF
  rw [hp, List.take_length, decA_eq _ h2]
  have e : (((10 : Nat) ^ (fracB 17 m).length : Nat) : Int) = (10 : Int) ^ (fracB 17 m).length := by simp
  rw [← e]
  have hK : 0 < 10 ^ (fracB 17 m).length := Nat.pow_pos (by omega)
  generalize dval 0 (fracB 17 m) = D at h3 ⊢
  generalize 10 ^ (fracB 17 m).length = K at h3 hK ⊢
  have g : D * 256 / K * 256 + D * 256 % K * 256 / K = m := by
    have h4 : (D * 256 / K * 256 * K + D * 256 % K * 256) / K = D * 256 / K * 256 + D * 256 % K * 256 / K := by
      rw [Nat.add_comm, Nat.add_mul_div_right _ _ hK, Nat.add_comm]
    rw [← h4]
    have h5 : D * 256 / K * 256 * K + D * 256 % K * 256 = m * K := by
      have := Nat.div_add_mod (D * 256) K
      rw [Nat.mul_right_comm, ← Nat.add_mul, Nat.mul_comm (D * 256 / K) K, this]
      omega
    rw [h5, Nat.mul_div_cancel _ hK]
  have := congrArg (fun n : Nat => (n : Int)) g
  simpa using this
/-- what read answers, for the types 1 and 2 -/
def minusB (l : List UInt8) : Bool := decide (0 < l.length ∧ l.getD 0 0 = 45)
def bodyB (l : List UInt8) : List UInt8 := if minusB l then l.drop 1 else l
def magF (t : Int) (l : List UInt8) : Int :=
  if t = 2 then 65536 * min (numA (l.take (ndig l))) 1048576 + (if ndig l < l.length then partF (l.drop (ndig l + 1)) else 0) else numA (l.take (ndig l))
def readF (t : Int) (l : List UInt8) : Int := if t = 3 then boolV l else w32 (if minusB l then -magF t (bodyB l) else magF t (bodyB l))
theorem minusB_dig (c : UInt8) (r : List UInt8) (h : isDg c) : minusB (c :: r) = false := by
  unfold minusB
  refine decide_eq_false fun hh => ?_
  exact (dg_ne h).1 hh.2
theorem mag_int (n : Nat) (h : n ≤ 2147483648) : magF 1 (Lib.decDigits n) = n := by
  obtain ⟨h1, h2, h3⟩ := dec_ok n (by omega)
  unfold magF
  rw [if_neg (by decide), ndig_all _ h1, List.take_length]
  have := numA_dval _ 0 h1 (by omega)
  unfold numA
  rw [show (0 : Int) = ((0 : Nat) : Int) from rfl, this, h2]
theorem mag_fix (n m : Nat) (h : n ≤ 32768) (hm : m < 65536) : magF 2 (Lib.decDigits n ++ 46 :: fracB 17 m) = n * 65536 + m := by
  obtain ⟨h1, h2, h3⟩ := dec_ok n (by omega)
  have hnd : ndig (Lib.decDigits n ++ 46 :: fracB 17 m) = (Lib.decDigits n).length := ndig_app _ _ _ h1 (by decide)
  unfold magF
  rw [if_pos rfl, hnd, List.take_left, if_pos (by simp)]
  have e : (Lib.decDigits n ++ 46 :: fracB 17 m).drop ((Lib.decDigits n).length + 1) = fracB 17 m := by
    rw [← List.drop_drop, List.drop_left]; rfl
  have := numA_dval _ 0 h1 (by omega)
  rw [e, part_frac m hm]
  unfold numA
  rw [show (0 : Int) = ((0 : Nat) : Int) from rfl, this, h2]
  omega
theorem read_text (t v : Int) (hv : I32 v) (h : (textF t v).2 = 0) : readF t (textF t v).1 = v := by
  have hv' := hv
  unfold I32 at hv'
  by_cases h1 : t = 1
  · subst h1
    have e : (textF 1 v).1 = Lib.itoa v := rfl
    unfold readF
    rw [e, if_neg (by decide)]
    rcases Int.lt_or_le v 0 with h0 | h0
    · rw [itoa_minus h0]
      have e1 : minusB (45 :: Lib.decDigits (-v).toNat) = true := by unfold minusB; exact decide_eq_true ⟨by simp, rfl⟩
      have e2 : bodyB (45 :: Lib.decDigits (-v).toNat) = Lib.decDigits (-v).toNat := by unfold bodyB; rw [if_pos e1]; rfl
      rw [e2, if_pos e1, mag_int _ (by omega)]
      have : -(((-v).toNat : Nat) : Int) = v := by omega
      rw [this]; exact w32_id hv
    · rw [itoa_pos h0]
      obtain ⟨c, r, e, hc⟩ := dec_head v.toNat (by omega)
      have e1 : minusB (Lib.decDigits v.toNat) = false := by rw [e]; exact minusB_dig c r hc
      have e2 : bodyB (Lib.decDigits v.toNat) = Lib.decDigits v.toNat := by unfold bodyB; rw [e1]; rfl
      rw [e2, if_neg (by rw [e1]; decide), mag_int _ (by omega)]
      have : ((v.toNat : Nat) : Int) = v := by omega
      rw [this]; exact w32_id hv
  · by_cases h2 : t = 2
    · subst h2
      have e : (textF 2 v).1 = fixB v := rfl
      unfold readF
      rw [e, if_neg (by decide)]
      unfold fixB
      split
      · rename_i h0
        rw [itoa_pos (by omega)]
        have e1 : minusB (45 :: (Lib.decDigits (-v / 65536).toNat ++ 46 :: fracB 17 (-v % 65536).toNat)) = true := by unfold minusB; exact decide_eq_true ⟨by simp, rfl⟩
        have e2 : bodyB (45 :: (Lib.decDigits (-v / 65536).toNat ++ 46 :: fracB 17 (-v % 65536).toNat)) = Lib.decDigits (-v / 65536).toNat ++ 46 :: fracB 17 (-v % 65536).toNat := by unfold bodyB; rw [if_pos e1]; rfl
        rw [e2, if_pos e1, mag_fix _ _ (by omega) (by omega)]
        have : -((((-v / 65536).toNat : Nat) : Int) * 65536 + ((-v % 65536).toNat : Int)) = v := by omega
        rw [this]; exact w32_id hv
      · rename_i h0
        rw [itoa_pos (by omega)]
        obtain ⟨c, r, e, hc⟩ := dec_head (v / 65536).toNat (by omega)
        have e1 : minusB (Lib.decDigits (v / 65536).toNat ++ 46 :: fracB 17 (v % 65536).toNat) = false := by rw [e]; exact minusB_dig c _ hc
        have e2 : bodyB (Lib.decDigits (v / 65536).toNat ++ 46 :: fracB 17 (v % 65536).toNat) = Lib.decDigits (v / 65536).toNat ++ 46 :: fracB 17 (v % 65536).toNat := by unfold bodyB; rw [e1]; rfl
        rw [e2, if_neg (by rw [e1]; decide), mag_fix _ _ (by omega) (by omega)]
        have : ((((v / 65536).toNat : Nat) : Int) * 65536 + ((v % 65536).toNat : Int)) = v := by omega
        rw [this]; exact w32_id hv
    · by_cases h3 : t = 3
      · subst h3
        have hb : v = 0 ∨ v = 1 := by
          refine Classical.byContradiction fun hn => ?_
          have : (textF 3 v).2 = 1 := by unfold textF; rw [if_neg h1, if_neg h2, if_neg (fun h => hn h.2)]
          omega
        have e : (textF 3 v).1 = Lib.formatBool (decide (v = 1)) := by unfold textF; rw [if_neg h1, if_neg h2, if_pos ⟨rfl, hb⟩]
        unfold readF
        rw [if_pos rfl, e, boolV_back v hb]
      · have : (textF t v).2 = 1 := by unfold textF; rw [if_neg h1, if_neg h2, if_neg (fun h => h3 h.1)]
        omega
/-- what the reference reads is what the program reads -/
def rparseF (t : Int) (l : List UInt8) : Int × Int := if 1 ≤ t ∧ t ≤ 3 then backF t (readF t l) l else (0, 1)
theorem truth_bits (b : Bool) : (truthF b = 0 ∨ truthF b = 1) ∧ I32 (truthF b) := ⟨by cases b <;> simp [truthF], truth_in b⟩
theorem readF_in (t : Int) (l : List UInt8) : I32 (readF t l) ∧ (t = 3 → readF t l = 0 ∨ readF t l = 1) := by
  unfold readF
  split
  · exact ⟨(truth_bits _).2, fun _ => (truth_bits _).1⟩
  · rename_i h; exact ⟨w32_in _, fun h' => absurd h' h⟩
def readP (t : Int) (l : List UInt8) : Int := if t = 1 then w32 (val32 l) else if t = 2 then parsedF l else boolV l
theorem readP_in (t : Int) (l : List UInt8) : I32 (readP t l) ∧ (t = 3 → readP t l = 0 ∨ readP t l = 1) := by
  unfold readP
  split
  · rename_i h; exact ⟨w32_in _, fun h' => by omega⟩
  · split
    · rename_i h; exact ⟨w32_in _, fun h' => by omega⟩
    · exact ⟨(truth_bits _).2, fun _ => (truth_bits _).1⟩
theorem parseF_eq (t : Int) (l : List UInt8) : parseF t l = if 1 ≤ t ∧ t ≤ 3 then backF t (readP t l) l else (0, 1) := by
  unfold parseF readP
  by_cases h1 : t = 1
  · subst h1; rfl
  · by_cases h2 : t = 2
    · subst h2; rfl
    · by_cases h3 : t = 3
      · subst h3; rfl
      · rw [if_neg h1, if_neg h2, if_neg h3, if_neg (by omega)]
theorem text_good (t v : Int) (ht : 1 ≤ t ∧ t ≤ 3) (h : t = 3 → v = 0 ∨ v = 1) : (textF t v).2 = 0 := by
  unfold textF
  split
  · rfl
  · split
    · rfl
    · rw [if_pos ⟨by omega, h (by omega)⟩]
theorem readP_text (t v : Int) (ht : 1 ≤ t ∧ t ≤ 3) (hv : I32 v) (h : (textF t v).2 = 0) : readP t (textF t v).1 = v := by
  have := parse_text t v hv h
  rw [parseF_eq, if_pos ht] at this
  unfold backF at this
  split at this
  · exact congrArg Prod.fst this
  · cases this
theorem parse_same (t : Int) (l : List UInt8) : parseF t l = rparseF t l := by
  rw [parseF_eq]
  unfold rparseF
  split
  · rename_i ht
    obtain ⟨p1, p2⟩ := readP_in t l
    obtain ⟨r1, r2⟩ := readF_in t l
    have gp := text_good t _ ht p2
    have gr := text_good t _ ht r2
    by_cases hp : (textF t (readP t l)).1 = l
    · have e : readF t l = readP t l := by
        have := read_text t _ p1 gp
        rwa [hp] at this
      rw [e]
    · have hr : ¬ (textF t (readF t l)).1 = l := fun hr => by
        have := readP_text t _ ht r1 gr
        rw [hr] at this
        rw [this] at hp
        exact hp hr
      unfold backF
      rw [if_neg hp, if_neg hr]
  · rfl
/-- what was read has the text that was read -/
theorem parse_has (t : Int) (l : List UInt8) (h : (parseF t l).2 = 0) : textF t (parseF t l).1 = (l, 0) := by
  rw [parseF_eq] at h ⊢
  split at h
  · rename_i ht
    rw [if_pos ht]
    obtain ⟨p1, p2⟩ := readP_in t l
    have gp := text_good t _ ht p2
    unfold backF at h ⊢
    split at h
    · rename_i hh
      rw [if_pos hh]
      exact Prod.ext hh gp
    · exact absurd h (by decide)
  · exact absurd h (by decide)
end Go.Proofs.YtngpbbpnnpfocaaDoor
