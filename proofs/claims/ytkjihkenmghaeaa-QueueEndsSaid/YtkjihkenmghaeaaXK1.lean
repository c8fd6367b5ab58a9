/- Own work (by an AI agent; no person has read it): part of a proof of the seat Ytkjihkenmghaeaa. -/
import Derived.Test.YtkjihkenmghaeaaXTy
import Derived.Test.YtkjihkenmghaeaaXb
set_option linter.unusedSimpArgs false
set_option linter.unusedVariables false
namespace Go.Proofs.Ytkjihkenmghaeaa
open Go.Ab

instance : Glob Try.prog := ⟨fun _ => True, fun _ _ => trivial⟩

structure Job where
  id : Int
  ten : Int
  pri : Int
  ker : Int
  bou : Int
  grp : Int
  s1 : List (List AV)
  s2 : List (List AV)
  s3 : List (List AV)
  sta : Int
  at_ : Int

def Job.av (j : Job) : List AV := [.v (.int .i64 j.id), .v (.int .i64 j.ten), .v (.int .i64 j.pri), .v (.int .i64 j.ker), .v (.int .i64 j.bou), .v (.int .i64 j.grp), .imm false j.s1, .imm false j.s2, .imm false j.s3, .v (.int .i64 j.sta), .v (.int .i64 j.at_)]

def J0 : Job := ⟨0, 0, 0, 0, 0, 0, [], [], [], 0, 0⟩

def ints (l : List Int) : List (List AV) := l.map fun z => [.v (.int .i64 z)]
def jobs (l : List Job) : List (List AV) := l.map Job.av

structure Q where
  quota : List Int
  js : List Job

def Q.av (q : Q) : List AV := [.imm false (ints q.quota), .imm false (jobs q.js)]

theorem jobs_len (l : List Job) : (jobs l).length = l.length := by simp [jobs]
theorem ints_len (l : List Int) : (ints l).length = l.length := by simp [ints]
theorem jobs_get (l : List Job) (i : Nat) : (jobs l)[i]? = (l[i]?).map Job.av := by simp [jobs]
theorem ints_get (l : List Int) (i : Nat) : (ints l)[i]? = (l[i]?).map fun z => [.v (.int .i64 z)] := by simp [ints]
theorem jobs_11 (l : List Job) : (∀ e ∈ jobs l, e.length = 11) = True := by simp [jobs, Job.av]
theorem ints_1 (l : List Int) : (∀ e ∈ ints l, e.length = 1) = True := by simp [ints]

def wrap (n : Int) : Int := IntKind.i64.wrap n
theorem wrap_eq (n : Int) : IntKind.i64.wrap n = wrap n := rfl
theorem wrap_of {n : Int} (h : -9223372036854775808 ≤ n) (h2 : n < 9223372036854775808) : wrap n = n := by
  simp [wrap, IntKind.wrap, IntKind.bits, IntKind.signed]; omega

def withinF (n l m : Int) : Bool := decide (l ≤ n ∧ n ≤ m)

theorem ints_get' (l : List Int) (z : Int) (h : 0 ≤ z ∧ z < l.length) : (ints l)[z.toNat]? = some [.v (.int .i64 (l.getD z.toNat 0))] := by
  have : z.toNat < l.length := by omega
  simp [ints, this, List.getD_eq_getElem?_getD]
theorem ints_getn (l : List Int) (z : Nat) (h : z < l.length) : (ints l)[z]? = some [.v (.int .i64 (l.getD z 0))] := by
  simp [ints, h, List.getD_eq_getElem?_getD]
theorem jobs_get' (l : List Job) (z : Int) (h : 0 ≤ z ∧ z < l.length) : (jobs l)[z.toNat]? = some (l.getD z.toNat J0).av := by
  have : z.toNat < l.length := by omega
  simp [jobs, this, List.getD_eq_getElem?_getD]
theorem jobs_getn (l : List Job) (z : Nat) (h : z < l.length) : (jobs l)[z]? = some (l.getD z J0).av := by
  simp [jobs, h, List.getD_eq_getElem?_getD]

def usedF (t : Int) : List Job → Int → Int
  | [], n => n
  | j :: l, n => usedF t l (if j.ten = t ∧ j.sta = 2 then wrap (n + j.bou) else n)

theorem usedF_snoc (t : Int) (j : Job) : ∀ (l : List Job) (n : Int), usedF t (l ++ [j]) n = if j.ten = t ∧ j.sta = 2 then wrap (usedF t l n + j.bou) else usedF t l n := by
  intro l
  induction l with
  | nil => intro n; rfl
  | cons x l ih => intro n; simp only [List.cons_append, usedF, ih]

theorem take_snoc {α : Type} {l : List α} {i : Nat} {x : α} (h : l[i]? = some x) : l.take (i + 1) = l.take i ++ [x] := by
  rw [List.take_add_one, h]; rfl

theorem take_snoc' (l : List Job) (i : Nat) (h : i < l.length) : l.take (i + 1) = l.take i ++ [l.getD i J0] := by
  rw [List.take_add_one, List.getElem?_eq_getElem h, List.getD_eq_getElem?_getD, List.getElem?_eq_getElem h]; rfl
theorem get_of_lt {α : Type} {l : List α} {i : Nat} (h : i < l.length) : ∃ x, l[i]? = some x := ⟨l[i], by simp [h]⟩

def readyF (q : Q) (j : Job) : Bool := decide (j.sta = 1 ∧ wrap (j.bou + usedF j.ten q.js 0) ≤ q.quota.getD j.ten.toNat 0)

def jobF (q : Q) (i : Int) (j : Job) : Bool := decide (j.id = wrap (i + 1) ∧ 0 ≤ j.ten ∧ j.ten < q.quota.length ∧ 0 ≤ j.pri ∧ j.pri ≤ 9 ∧ 0 ≤ j.ker ∧ 0 ≤ j.bou ∧ j.bou ≤ q.quota.getD j.ten.toNat 0 ∧ 1 ≤ j.sta ∧ j.sta ≤ 4 ∧ (j.sta = 2 → 0 ≤ j.at_ ∧ j.at_ ≤ 99) ∧ (j.sta ≠ 2 → j.at_ = -1))

def tenantF (q : Q) (n : Int) : Bool := decide (0 ≤ n ∧ n < q.quota.length)
def hasF (q : Q) (n : Int) : Bool := decide (1 ≤ n ∧ n ≤ q.js.length)
def rusedF (q : Q) (t : Int) : Int := if 0 ≤ t ∧ t < q.quota.length then usedF t q.js 0 else 0

def takenF' (d : Int) (l : List Job) : Bool := l.any fun j => decide (j.sta = 2 ∧ j.at_ = d)
def takenF (q : Q) (d : Int) : Bool := takenF' d q.js
def rreadyF (q : Q) (j : Job) : Bool := decide (j.sta = 1 ∧ wrap (j.bou + rusedF q j.ten) ≤ q.quota.getD j.ten.toNat 0)
def sameJobF (a b : Job) : Bool := decide (a.grp = b.grp ∧ a.s1.length = b.s1.length ∧ a.s3.length = b.s3.length ∧ a.id = b.id ∧ a.ten = b.ten ∧ a.pri = b.pri ∧ a.ker = b.ker ∧ a.bou = b.bou ∧ a.sta = b.sta ∧ a.at_ = b.at_)
def rawJob (a b c : Int) : Job := ⟨7, a % 5 - 1, b % 11, c % 3, c % 13, a, [], [], [], b % 6, c⟩
def sameF (a b : Q) : Bool := decide (a.quota.length = b.quota.length ∧ (∀ i, i < a.quota.length → a.quota.getD i 0 = b.quota.getD i 0) ∧ a.js.length = b.js.length ∧ ∀ i, i < a.js.length → sameJobF (a.js.getD i J0) (b.js.getD i J0) = true)
structure Dn where
  q : Q
  id : Int
  e : Int
def Dn.av (d : Dn) : List AV := [.imm false (ints d.q.quota), .imm false (jobs d.q.js), .v (.int .i64 d.id), .v (.int .i64 d.e)]
def sameDnF (a b : Dn) : Bool := decide (a.e = b.e ∧ a.id = b.id ∧ sameF a.q b.q = true)
def withF (q : Q) (j : Job) : Dn := ⟨⟨q.quota, q.js.set (j.id - 1).toNat j⟩, 0, 0⟩
theorem takenF'_snoc (d : Int) (l : List Job) (j : Job) : takenF' d (l ++ [j]) = (takenF' d l || decide (j.sta = 2 ∧ j.at_ = d)) := by simp [takenF', List.any_append]
theorem takenF'_get {d : Int} {l : List Job} {i : Nat} (h : i < l.length) (h1 : (l.getD i J0).sta = 2) (h2 : (l.getD i J0).at_ = d) : takenF' d l = true := by
  simp only [takenF', List.any_eq_true, decide_eq_true_eq]
  rw [List.getD_eq_getElem?_getD, List.getElem?_eq_getElem h] at h1 h2
  exact ⟨l[i], List.getElem_mem h, h1, h2⟩
theorem jobs_sc (l : List Job) : (∀ e ∈ jobs l, ∀ x ∈ e, AV.one x = true) = True := by
  simp only [eq_iff_iff, iff_true]
  intro e he x hx
  simp only [jobs, List.mem_map] at he
  obtain ⟨j, _, rfl⟩ := he
  simp only [Job.av, List.mem_cons, List.not_mem_nil, or_false] at hx
  rcases hx with rfl | rfl | rfl | rfl | rfl | rfl | rfl | rfl | rfl | rfl | rfl <;> rfl
theorem ints_sc (l : List Int) : (∀ e ∈ ints l, ∀ x ∈ e, AV.one x = true) = True := by
  simp only [eq_iff_iff, iff_true]
  intro e he x hx
  simp only [ints, List.mem_map] at he
  obtain ⟨j, _, rfl⟩ := he
  simp only [List.mem_cons, List.not_mem_nil, or_false] at hx
  subst hx; rfl
theorem jobs_put (l : List Job) (i : Nat) (a b c d e f : Int) (x y z : List (List AV)) (g h : Int) :
    ((jobs l).modify i fun u => splice u 0 [.v (.int .i64 a), .v (.int .i64 b), .v (.int .i64 c), .v (.int .i64 d), .v (.int .i64 e), .v (.int .i64 f), .imm false x, .imm false y, .imm false z, .v (.int .i64 g), .v (.int .i64 h)]) = jobs (l.set i ⟨a, b, c, d, e, f, x, y, z, g, h⟩) := by
  simp only [jobs, List.map_set]
  refine List.ext_getElem? fun k => ?_
  rw [List.getElem?_modify, List.getElem?_set, List.getElem?_map]
  by_cases hk : i = k
  · subst hk
    by_cases hl : i < l.length
    · simp [hl, Job.av, splice]
    · simp [hl, List.getElem?_eq_none (Nat.le_of_not_lt hl)]
  · simp [hk]
theorem take_jobs (l : List Job) : (jobs l).take l.length = jobs l := by rw [← jobs_len, List.take_length]
theorem take_jobs_set (l : List Job) (i : Nat) (j : Job) : (jobs (l.set i j)).take l.length = jobs (l.set i j) := by
  have := take_jobs (l.set i j)
  rwa [List.length_set] at this
theorem jobs_snoc (l : List Job) (a b c d e f : Int) (x y z : List (List AV)) (g h : Int) :
    jobs l ++ [[.v (.int .i64 a), .v (.int .i64 b), .v (.int .i64 c), .v (.int .i64 d), .v (.int .i64 e), .v (.int .i64 f), .imm false x, .imm false y, .imm false z, .v (.int .i64 g), .v (.int .i64 h)]] = jobs (l ++ [⟨a, b, c, d, e, f, x, y, z, g, h⟩]) := by
  simp [jobs, Job.av]
theorem take_jobs_snoc (l : List Job) (j : Job) : (jobs (l ++ [j])).take (l.length + 1) = jobs (l ++ [j]) := by
  have := take_jobs (l ++ [j])
  rwa [List.length_append] at this
theorem jobs_plain (l : List Job) : ((jobs l).all fun e => e.all AV.plain) = true := by
  simp [jobs, Job.av, AV.plain]
theorem ints_plain (l : List Int) : ((ints l).all fun e => e.all AV.plain) = true := by
  simp [ints, AV.plain]
theorem ints_nil : ints [] = [] := rfl
theorem jobs_nil : jobs [] = [] := rfl

def submitF (q : Q) (j : Job) : Dn :=
  if ¬ (0 ≤ j.ten ∧ j.ten < q.quota.length ∧ 0 ≤ j.pri ∧ j.pri ≤ 9 ∧ 0 ≤ j.ker ∧ 0 ≤ j.bou ∧ j.bou ≤ 1099511627776) then ⟨q, 0, 1⟩
  else if q.quota.getD j.ten.toNat 0 < j.bou then ⟨q, 0, 410⟩
  else if 200 ≤ q.js.length then ⟨q, 0, 2⟩
  else ⟨⟨q.quota, q.js ++ [{ j with id := q.js.length + 1, sta := 1, at_ := -1 }]⟩, q.js.length + 1, 0⟩

def startF (q : Q) (id dev : Int) : Dn :=
  if ¬ (1 ≤ id ∧ id ≤ q.js.length) then ⟨q, 0, 411⟩
  else if ¬ (0 ≤ dev ∧ dev ≤ 99) ∨ takenF q dev = true then ⟨q, 0, 1⟩
  else if (q.js.getD (id - 1).toNat J0).sta ≠ 1 then ⟨q, 0, 430⟩
  else if rreadyF q (q.js.getD (id - 1).toNat J0) = false then ⟨q, 0, 410⟩
  else withF q { q.js.getD (id - 1).toNat J0 with sta := 2, at_ := dev }
def leftF (q : Q) (id sta : Int) (g : Int) (x y z : List (List AV)) : Dn :=
  if ¬ (1 ≤ id ∧ id ≤ q.js.length) then ⟨q, 0, 411⟩
  else if (q.js.getD (id - 1).toNat J0).sta ≠ 2 then ⟨q, 0, 430⟩
  else withF q { q.js.getD (id - 1).toNat J0 with sta := sta, at_ := -1, grp := g, s1 := x, s2 := y, s3 := z }
def cancelF (q : Q) (id : Int) : Dn :=
  if ¬ (1 ≤ id ∧ id ≤ q.js.length) then ⟨q, 0, 411⟩
  else if (q.js.getD (id - 1).toNat J0).sta ≠ 1 ∧ (q.js.getD (id - 1).toNat J0).sta ≠ 2 then ⟨q, 0, 430⟩
  else withF q { q.js.getD (id - 1).toNat J0 with sta := 4, at_ := -1 }

def bestF (q : Q) : Nat → Int
  | 0 => -1
  | i + 1 => if rreadyF q (q.js.getD i J0) = true ∧ (bestF q i < 0 ∨ (q.js.getD (bestF q i).toNat J0).pri < (q.js.getD i J0).pri) then i else bestF q i
theorem bestF_bd (q : Q) : ∀ i, -1 ≤ bestF q i ∧ bestF q i < i := by
  intro i
  induction i with
  | zero => simp [bestF]
  | succ i ih => simp only [bestF]; split <;> omega
def nextF (q : Q) : Dn := if bestF q q.js.length < 0 then ⟨⟨[], []⟩, 0, 4⟩ else ⟨⟨[], []⟩, bestF q q.js.length + 1, 0⟩


theorem tmod_eq (a b : Int) (h : 0 ≤ a) : a.tmod b = a % b := Int.tmod_eq_emod_of_nonneg h
def doF (q : Q) (k a b c : Int) : Dn :=
  if k % 8 = 0 ∨ k % 8 = 1 ∨ k % 8 = 2 then submitF q (rawJob a b c)
  else if k % 8 = 3 ∨ k % 8 = 4 then startF q (a % 12) (b % 4)
  else if k % 8 = 5 then leftF q (a % 12) 1 c [] [] []
  else if k % 8 = 6 then leftF q (a % 12) 3 c [] [] []
  else cancelF q (a % 12)

/-- what the queues here have in common -/
structure Good (q : Q) : Prop where
  n : q.js.length ≤ 1000
  m : q.quota.length ≤ 1000
  id : ∀ i, i < q.js.length → (q.js.getD i J0).id = i + 1
  ten : ∀ i, i < q.js.length → 0 ≤ (q.js.getD i J0).ten ∧ (q.js.getD i J0).ten < q.quota.length

def rjobF (q : Q) (i : Nat) : Bool :=
  let j := q.js.getD i J0
  decide ((j.id = i + 1 ∧ 0 ≤ j.ten ∧ j.ten < q.quota.length ∧ 0 ≤ j.pri ∧ j.pri ≤ 9 ∧ 0 ≤ j.ker ∧ 0 ≤ j.bou ∧ j.bou ≤ q.quota.getD j.ten.toNat 0 ∧ 1 ≤ j.sta ∧ j.sta ≤ 4) ∧ (j.sta = 2 → 0 ≤ j.at_ ∧ j.at_ ≤ 99) ∧ (j.sta ≠ 2 → j.at_ = -1) ∧ (j.sta = 2 → ∀ k, k < i → ¬ ((q.js.getD k J0).sta = 2 ∧ (q.js.getD k J0).at_ = j.at_)))
end Go.Proofs.Ytkjihkenmghaeaa
