/- Own work (by an AI agent; no person has read it): part of a proof of the seat Ytkjihkenmghaeaa. -/
import Derived.Test.YtkjihkenmghaeaaXK1
namespace Go.Proofs.Ytkjihkenmghaeaa
open Go.Ab
theorem withF_eq {q : Q} {j : Job} {id : Int} (h : j.id = id) : withF q j = ⟨⟨q.quota, q.js.set (id - 1).toNat j⟩, 0, 0⟩ := by subst h; rfl
theorem id_at {q : Q} (hid : ∀ i, i < q.js.length → (q.js.getD i J0).id = i + 1) {id : Int} (h : 1 ≤ id ∧ id ≤ q.js.length) : (q.js.getD (id - 1).toNat J0).id = id := by
  rw [hid _ (by omega)]; omega
theorem not_nil {q : Q} {id : Int} (h : 1 ≤ id ∧ id ≤ q.js.length) : q.js ≠ [] := fun h2 => by rw [h2] at h; simp at h; omega
/-- the answer of an operation of the program -/
def Dn.two (d : Dn) : AV := .tup [.agg d.q.av, .v (.int .i64 d.e)]
end Go.Proofs.Ytkjihkenmghaeaa
