/- Own work (by an AI agent; no person has read it): part of a proof of the seat Ytkjihkenmghaeaa. -/
import Derived.Test.YtkjihkenmghaeaaXb
import Derived.Test.YtkjihkenmghaeaaXM3
namespace Go.Proofs.Ytkjihkenmghaeaa
open Go.Ab
set_option linter.unusedVariables false
theorem own : ownKnob Try.prog.godebug = none := by kernel_rfl
instance : Glob Try.checked.prog := inferInstanceAs (Glob Try.prog)
theorem laidOut : laidOutB Try.prog = true := by kernel_rfl
theorem u8_of {a : Int} (w : (Lit.int .u8 a).wf = true) : 0 ≤ a ∧ a < 256 := by
  have : 0 ≤ a ∧ a ≤ 255 := by simpa [Lit.wf, IntKind.min, IntKind.max, IntKind.signed, IntKind.bits] using w
  omega
/-- the forms of the arguments -/
def S22 : Sh := .row (List.replicate 3 (.int .u8))
def S23 : Sh := .slice (.row [.int .u8, .int .u8, .int .u8, .int .u8])
def S24 : Sh := .row (List.replicate 3 (.int .i64))
def S40 : Sh := .row [.int .i64, .int .i64, .int .i64, .int .i64, .int .i64, .row [.row [.int .i64, .slice (.int .i32)], .slice (.slice (.int .i32)), .slice (.row [.int .i64, .slice (.row [.int .i64, .int .i64, .int .i64, .int .i64, .slice (.int .i32), .slice (.slice (.int .i32)), .slice (.int .i32)]), .slice (.slice (.int .i32))])], .int .i64, .int .i64]
theorem open22 {cs : List AV} (h : S22.ok cs) : ∃ a b c : Int, cs = [.v (.int .u8 a), .v (.int .u8 b), .v (.int .u8 c)] ∧ (0 ≤ a ∧ a < 256) ∧ (0 ≤ b ∧ b < 256) ∧ (0 ≤ c ∧ c < 256) := by
  obtain ⟨_, _, rfl, ⟨a, rfl, wa⟩, _, _, rfl, ⟨b, rfl, wb⟩, _, _, rfl, ⟨c, rfl, wc⟩, rfl⟩ := h
  exact ⟨a, b, c, rfl, u8_of wa, u8_of wb, u8_of wc⟩
theorem openRaw {cs : List AV} (h : Sh.ok (.row [.int .u8, .int .u8, .int .u8, .int .u8]) cs) : ∃ x : Raw, cs = x.av ∧ x.ok := by
  obtain ⟨_, _, rfl, ⟨a, rfl, wa⟩, _, _, rfl, ⟨b, rfl, wb⟩, _, _, rfl, ⟨c, rfl, wc⟩, _, _, rfl, ⟨d, rfl, wd⟩, rfl⟩ := h
  exact ⟨⟨a, b, c, d⟩, rfl, u8_of wa, u8_of wb, u8_of wc, u8_of wd⟩
theorem open23 {cs : List AV} (h : S23.ok cs) : ∃ l : List Raw, cs = [.imm false (raws l)] ∧ ∀ x ∈ l, x.ok := by
  obtain ⟨es, rfl, hz, he⟩ := h
  clear hz
  have : ∃ l : List Raw, es = raws l ∧ ∀ x ∈ l, x.ok := by
    induction es with
    | nil => exact ⟨[], rfl, by simp⟩
    | cons e es ih =>
      obtain ⟨l, rfl, hl⟩ := ih fun x hx => he x (List.mem_cons_of_mem _ hx)
      obtain ⟨x, rfl, hx⟩ := openRaw (he e (List.mem_cons_self ..))
      exact ⟨x :: l, rfl, by simpa using ⟨hx, hl⟩⟩
  obtain ⟨l, rfl, hl⟩ := this
  exact ⟨l, rfl, hl⟩
theorem open24 {cs : List AV} (h : S24.ok cs) : ∃ a b c : Int, cs = [.v (.int .i64 a), .v (.int .i64 b), .v (.int .i64 c)] := by
  obtain ⟨_, _, rfl, ⟨a, rfl, wa⟩, _, _, rfl, ⟨b, rfl, wb⟩, _, _, rfl, ⟨c, rfl, wc⟩, rfl⟩ := h
  exact ⟨a, b, c, rfl⟩
def S53 : Sh := .row (List.replicate 2 (.int .u8))
def S59 : Sh := .row [.int .u8, .int .u8, .int .u8, .int .u8]
theorem open53 {cs : List AV} (h : S53.ok cs) : ∃ a b : Int, cs = [.v (.int .u8 a), .v (.int .u8 b)] ∧ (0 ≤ a ∧ a < 256) ∧ (0 ≤ b ∧ b < 256) := by
  obtain ⟨_, _, rfl, ⟨a, rfl, wa⟩, _, _, rfl, ⟨b, rfl, wb⟩, rfl⟩ := h
  exact ⟨a, b, rfl, u8_of wa, u8_of wb⟩
theorem open40 {cs : List AV} (h : S40.ok cs) : ∃ j : Job, cs = j.av := by
  obtain ⟨_, _, rfl, ⟨a, rfl, _⟩, _, _, rfl, ⟨b, rfl, _⟩, _, _, rfl, ⟨c, rfl, _⟩, _, _, rfl, ⟨d, rfl, _⟩, _, _, rfl, ⟨e, rfl, _⟩, _, _, rfl, ⟨_, _, rfl, ⟨_, _, rfl, ⟨f, rfl, _⟩, _, _, rfl, ⟨s1, rfl, _, _⟩, rfl⟩, _, _, rfl, ⟨s2, rfl, _, _⟩, _, _, rfl, ⟨s3, rfl, _, _⟩, rfl⟩, _, _, rfl, ⟨g, rfl, _⟩, _, _, rfl, ⟨i, rfl, _⟩, rfl⟩ := h
  exact ⟨⟨a, b, c, d, e, f, s1, s2, s3, g, i⟩, rfl⟩
end Go.Proofs.Ytkjihkenmghaeaa
