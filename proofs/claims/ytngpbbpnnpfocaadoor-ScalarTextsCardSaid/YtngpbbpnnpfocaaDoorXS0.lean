/- Own work (by an AI agent; no person has read it): part of a proof of the seat YtngpbbpnnpfocaaDoor. -/
import Derived.Test.YtngpbbpnnpfocaaDoorXSTy
import Derived.Test.YtngpbbpnnpfocaaDoorXb
import Derived.Test.YtngpbbpnnpfocaaDoorShelf
import Derived.Lib.LaidTab
namespace Go.Proofs.YtngpbbpnnpfocaaDoor
open Go.Ab
open Go.RowKit (Below)

/-- what the package's variables hold, in every world of a run: the library's own (what bytealg found, the powers of ten, the two errors of strconv) -/
def okW (w : World) : Prop := (∃ m, w.cell? ⟨3, 0, none⟩ = some (.int .i64 m)) ∧ Lib.TabIs Tryd.prog w powName .u64 Lib.pow10Tab ∧
  (∃ t p, w.cell? ⟨0, 0, none⟩ = some (.iface t p)) ∧ (∃ t p, w.cell? ⟨1, 0, none⟩ = some (.iface t p))
theorem var_below {n : String} {g : Nat} {x : Array Value} {w w' : World} (hg : Tryd.prog.globalNamed n = some g) (h : w.var? Tryd.prog n = some x) (hb : Below w.heap.size w w') : w'.var? Tryd.prog n = some x := by
  unfold World.var? at h ⊢
  rw [hg] at h ⊢
  simp only [Option.bind_some] at h ⊢
  cases hh : w.heap[g]? with
  | none => rw [hh] at h; cases h
  | some b => rw [hb.block g (lt_of_some hh)]; exact h
theorem okW_mono {w w' : World} (h : okW w) (hb : Below w.heap.size w w') : okW w' := by
  obtain ⟨⟨m, h1⟩, h2, ⟨t, p, h3⟩, ⟨u, q, h4⟩⟩ := h
  exact ⟨⟨m, cell_below hb h1⟩, var_below (g := 2) (by kernel_rfl) h2 hb, ⟨t, p, cell_below hb h3⟩, ⟨u, q, cell_below hb h4⟩⟩
instance : Glob Tryd.prog := ⟨okW, okW_mono⟩

def w32 (n : Int) : Int := IntKind.i32.wrap n
def w64 (n : Int) : Int := IntKind.i64.wrap n
theorem w32_eq (n : Int) : IntKind.i32.wrap n = w32 n := rfl
theorem w64_eq (n : Int) : IntKind.i64.wrap n = w64 n := rfl
def I32 (n : Int) : Prop := -2147483648 ≤ n ∧ n < 2147483648
theorem w32_def (n : Int) : w32 n = (n + 2147483648) % 4294967296 - 2147483648 := by
  simp [w32, IntKind.wrap, IntKind.bits, IntKind.signed]; omega
theorem w64_def (n : Int) : w64 n = (n + 9223372036854775808) % 18446744073709551616 - 9223372036854775808 := by
  simp [w64, IntKind.wrap, IntKind.bits, IntKind.signed]; omega
theorem w64_of {n : Int} (h : -9223372036854775808 ≤ n) (h2 : n < 9223372036854775808) : w64 n = n := by rw [w64_def]; omega
theorem w32_of {n : Int} (h : -2147483648 ≤ n) (h2 : n < 2147483648) : w32 n = n := by rw [w32_def]; omega
theorem w32_in (n : Int) : I32 (w32 n) := by rw [w32_def]; unfold I32; omega
theorem w32_w64 (n : Int) : w32 (w64 n) = w32 n := by
  rw [w32_def, w32_def, w64_def]; omega
theorem mul_bound {a b : Int} (h1 : -2147483648 ≤ a) (h2 : a < 2147483648) (h3 : -2147483648 ≤ b) (h4 : b < 2147483648) : -4611686018427387904 ≤ a * b ∧ a * b ≤ 4611686018427387904 := by
  have e1 : 0 ≤ (a + 2147483648) * (b + 2147483648) := Int.mul_nonneg (by omega) (by omega)
  have e2 : 0 ≤ (2147483648 - a) * (2147483648 - b) := Int.mul_nonneg (by omega) (by omega)
  have e3 : 0 ≤ (a + 2147483648) * (2147483648 - b) := Int.mul_nonneg (by omega) (by omega)
  have e4 : 0 ≤ (2147483648 - a) * (b + 2147483648) := Int.mul_nonneg (by omega) (by omega)
  rw [Int.add_mul, Int.mul_add, Int.mul_add] at e1
  rw [Int.sub_mul, Int.mul_sub, Int.mul_sub] at e2
  rw [Int.add_mul, Int.mul_sub, Int.mul_sub] at e3
  rw [Int.sub_mul, Int.mul_add, Int.mul_add] at e4
  omega
theorem w64_mul {a b : Int} (h1 : -2147483648 ≤ a) (h2 : a < 2147483648) (h3 : -2147483648 ≤ b) (h4 : b < 2147483648) : w64 (a * b) = a * b := by
  have := mul_bound h1 h2 h3 h4
  exact w64_of (by omega) (by omega)

def truthF (b : Bool) : Int := if b then 1 else 0
def quoF (a b : Int) : Int := if b = 0 then 0 else w32 (a.tdiv b)
def remF (a b : Int) : Int := if b = 0 then a else w32 (a.tmod b)
def belF (a b : Int) : Int := if a.tmod b ≠ 0 ∧ ¬ (a.tmod b < 0 ↔ b < 0) then w64 (a.tdiv b - 1) else w64 (a.tdiv b)
def m31 (b : Int) : Int := andK .i32 b 31
theorem m31_nn (b : Int) : (0 ≤ andK .i32 b 31) = True := by
  have h : (BitVec.ofInt 32 b &&& BitVec.ofInt 32 31).toNat ≤ 31 := by
    rw [BitVec.toNat_and]
    exact Nat.le_trans Nat.and_le_right (by decide)
  have e : andK .i32 b 31 = w32 ((BitVec.ofInt 32 b &&& BitVec.ofInt 32 31).toNat : Int) := rfl
  rw [e, w32_of (by omega) (by omega)]; simp
theorem shl64 (a : Int) : shlK .i64 a 16 = w64 (a * 65536) := rfl
theorem shl32 (a : Int) : shlK .i32 a 16 = w32 (a * 65536) := rfl
theorem shr64 (a : Int) : shrK .i64 a 16 = a.fdiv 65536 := rfl
theorem shr32 (a : Int) : shrK .i32 a 16 = a.fdiv 65536 := rfl

def unF (op a : Int) : Int × Int :=
  if op = 3 ∧ 0 ≤ a then (a, 0) else if op = 3 ∨ op = 1 then (w32 (0 - a), 0) else if op = 2 then (notK .i32 a, 0)
  else if op = 4 then (w32 (a * 65536), 0) else if op = 5 then (a.fdiv 65536, 0) else (0, 1)

def cmpF (op a b : Int) : Int × Int :=
  if op = 24 then (truthF (decide (a = b)), 0) else if op = 25 then (truthF (decide (a ≠ b)), 0) else if op = 26 then (truthF (decide (a < b)), 0) else if op = 27 then (truthF (decide (a ≤ b)), 0)
  else if op = 28 then (truthF (decide (b < a)), 0) else if op = 29 then (truthF (decide (b ≤ a)), 0) else (0, 1)

def binF (op a b : Int) : Int × Int :=
  if op = 10 then (w32 (a + b), 0) else if op = 11 then (w32 (a - b), 0) else if op = 12 then (w32 (a * b), 0) else if op = 13 then (quoF a b, 0) else if op = 14 then (remF a b, 0)
  else if op = 15 then (w32 ((a * b).fdiv 65536), 0) else if op = 16 then (if b = 0 then (0, 0) else (w32 (belF (a * 65536) b), 0)) else if op = 17 then (andK .i32 a b, 0) else if op = 18 then (orK .i32 a b, 0)
  else if op = 19 then (xorK .i32 a b, 0) else if op = 20 then (shlK .i32 a (andK .i32 b 31), 0) else if op = 21 then (shrK .i32 a (andK .i32 b 31), 0) else if op = 22 then (if b < a then b else a, 0) else if op = 23 then (if a < b then b else a, 0)
  else cmpF op a b
end Go.Proofs.YtngpbbpnnpfocaaDoor
