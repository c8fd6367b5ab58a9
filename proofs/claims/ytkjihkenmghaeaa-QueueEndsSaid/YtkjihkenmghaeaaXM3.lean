/- Own work (by an AI agent; no person has read it): part of a proof of the seat Ytkjihkenmghaeaa. -/
import Derived.Test.YtkjihkenmghaeaaXM2
set_option linter.unusedSimpArgs false
set_option linter.unusedVariables false
namespace Go.Proofs.Ytkjihkenmghaeaa
open Go.Ab
structure Raw where
  k : Int
  a : Int
  b : Int
  c : Int
def Raw.av (x : Raw) : List AV := [.v (.int .u8 x.k), .v (.int .u8 x.a), .v (.int .u8 x.b), .v (.int .u8 x.c)]
def R0 : Raw := ⟨0, 0, 0, 0⟩
def raws (l : List Raw) : List (List AV) := l.map Raw.av
def Raw.ok (x : Raw) : Prop := (0 ≤ x.k ∧ x.k < 256) ∧ (0 ≤ x.a ∧ x.a < 256) ∧ (0 ≤ x.b ∧ x.b < 256) ∧ (0 ≤ x.c ∧ x.c < 256)
theorem raws_len (l : List Raw) : (raws l).length = l.length := by simp [raws]
theorem raws_4 (l : List Raw) : (∀ e ∈ raws l, e.length = 4) = True := by simp [raws, Raw.av]
theorem raws_getn (l : List Raw) (z : Nat) (h : z < l.length) : (raws l)[z]? = some (l.getD z R0).av := by
  simp [raws, h, List.getD_eq_getElem?_getD]
theorem raws_get' (l : List Raw) (z : Int) (h : 0 ≤ z ∧ z < l.length) : (raws l)[z.toNat]? = some (l.getD z.toNat R0).av := by
  exact raws_getn l z.toNat (by omega)
theorem raws_plain (l : List Raw) : ((raws l).all fun e => e.all AV.plain) = true := by simp [raws, Raw.av, AV.plain]
theorem raw_take (l : List Raw) (i : Nat) (h : i < l.length) : l.take (i + 1) = l.take i ++ [l.getD i R0] := by
  rw [List.take_add_one, List.getElem?_eq_getElem h, List.getD_eq_getElem?_getD, List.getElem?_eq_getElem h]; rfl
theorem raw_ok {l : List Raw} (h : ∀ x ∈ l, x.ok) {i : Nat} (hi : i < l.length) : (l.getD i R0).ok := by
  rw [List.getD_eq_getElem?_getD, List.getElem?_eq_getElem hi]; exact h _ (List.getElem_mem hi)
def Raw.doF (x : Raw) (q : Q) : Dn := Proofs.Ytkjihkenmghaeaa.doF q x.k x.a x.b x.c
/-- the queue behind operations -/
def runF (q : Q) (l : List Raw) : Q := l.foldl (fun q x => (x.doF q).q) q
theorem runF_snoc (q : Q) (l : List Raw) (x : Raw) : runF q (l ++ [x]) = (x.doF (runF q l)).q := by simp [runF]
def q0F (a b c : Int) : Q := ⟨[a % 30, b % 30, c % 30], []⟩
theorem q0_right {a b c : Int} (ha : 0 ≤ a) (hb : 0 ≤ b) (hc : 0 ≤ c) : RightQ (q0F a b c) where
  nq := by simp [q0F]
  nj := by simp [q0F]
  qu := by
    intro i hi
    have hi : i < 3 := hi
    match i, hi with
    | 0, _ => show 0 ≤ a % 30 ∧ a % 30 ≤ _; omega
    | 1, _ => show 0 ≤ b % 30 ∧ b % 30 ≤ _; omega
    | 2, _ => show 0 ≤ c % 30 ∧ c % 30 ≤ _; omega
  job := by intro i hi; simp [q0F] at hi
  dev := by intro i k hi; simp [q0F] at hi
  use := by
    intro t hi
    have hi : t < 3 := hi
    show 0 ≤ _
    match t, hi with
    | 0, _ => show 0 ≤ a % 30; omega
    | 1, _ => show 0 ≤ b % 30; omega
    | 2, _ => show 0 ≤ c % 30; omega
theorem run_right {q : Q} (R : RightQ q) : ∀ l : List Raw, RightQ (runF q l) := by
  intro l
  induction l generalizing q with
  | nil => exact R
  | cons x l ih => exact ih (do_right R x.k x.a x.b x.c)
end Go.Proofs.Ytkjihkenmghaeaa
