/- Own work (by an AI agent; no person has read it): part of a proof of the seat YtfccigmfcpimgaaDoor. -/
import Derived.Test.YtfccigmfcpimgaaDoorXba
set_option linter.unusedVariables false
section
namespace Go.Proofs.YtfccigmfcpimgaaDoor
open Go.Ab
def S24 : Sh := .row [.slice (.int .u8)]
def S27 : Sh := .row (List.replicate 2 (.row [.int .u8, .int .u8, .int .u8]))
def S28 : Sh := .int .u16
def S50 : Sh := .slice (.row [.int .u8, .int .u8, .int .u8])
def S52 : Sh := .row (List.replicate 2 (.int .u8))
def S4 : Sh := .bool
def S5 : Sh := .int .u8
def S3 : Sh := .int .i64
theorem a8R {es : List (List AV)} (he : ∀ e ∈ es, Sh.ok (.int .u8) e) : ∃ L : List Int, es = dJ L ∧ A5 L := by
 induction es with
 | nil => exact ⟨[], rfl, fun z hz => by simp at hz⟩
 | cons e es ih =>
   obtain ⟨L, rfl, hL⟩ := ih fun x hx => he x (List.mem_cons_of_mem _ hx)
   obtain ⟨a, rfl, wa⟩ := he e (List.mem_cons_self ..)
   refine ⟨a :: L, rfl, fun z hz => ?_⟩
   cases z with
   | zero => exact iI wa
   | succ z => exact hL z (by simpa using hz)
theorem pZ {cs : List AV} (h : S24.ok cs) : ∃ L : List Int, cs = [.b7 false (dJ L)] ∧ A5 L := by
 obtain ⟨_, _, rfl, ⟨es, rfl, _, he⟩, rfl⟩ := h
 obtain ⟨L, rfl, hL⟩ := a8R he
 exact ⟨L, rfl, hL⟩
theorem b5p {cs : List AV} (h : S27.ok cs) : ∃ a b c d e f : Int, cs = [.v (.int .u8 a), .v (.int .u8 b), .v (.int .u8 c), .v (.int .u8 d), .v (.int .u8 e), .v (.int .u8 f)] ∧ u8 a ∧ u8 b ∧ u8 c ∧ u8 d ∧ u8 e ∧ u8 f := by
 obtain ⟨_, _, rfl, ⟨_, _, rfl, ⟨a, rfl, wa⟩, _, _, rfl, ⟨b, rfl, wb⟩, _, _, rfl, ⟨c, rfl, wc⟩, rfl⟩, _, _, rfl, ⟨_, _, rfl, ⟨d, rfl, wd⟩, _, _, rfl, ⟨e, rfl, we⟩, _, _, rfl, ⟨f, rfl, wf⟩, rfl⟩, rfl⟩ := h
 exact ⟨a, b, c, d, e, f, rfl, iI wa, iI wb, iI wc, iI wd, iI we, iI wf⟩
theorem a5L {cs : List AV} (h : S28.ok cs) : ∃ n : Int, cs = [.v (.int .u16 n)] ∧ (0 ≤ n ∧ n < 65536) := by
 obtain ⟨n, rfl, w⟩ := h
 exact ⟨n, rfl, b5D w⟩
theorem b6J {cs : List AV} (h : S5.ok cs) : ∃ n : Int, cs = [.v (.int .u8 n)] ∧ (0 ≤ n ∧ n < 256) := by
 obtain ⟨n, rfl, w⟩ := h
 exact ⟨n, rfl, iI w⟩
theorem b6H {cs : List AV} (h : S3.ok cs) : ∃ n : Int, cs = [.v (.int .i64 n)] ∧ (-9223372036854775808 ≤ n ∧ n < 9223372036854775808) := by
 obtain ⟨n, rfl, w⟩ := h
 exact ⟨n, rfl, b5j w⟩
theorem b6I {cs : List AV} (h : S4.ok cs) : ∃ b : Bool, cs = [.v (.bool b)] := h
theorem b5r {cs : List AV} (h : S52.ok cs) : ∃ a b : Int, cs = [.v (.int .u8 a), .v (.int .u8 b)] ∧ u8 a ∧ u8 b := by
 obtain ⟨_, _, rfl, ⟨a, rfl, wa⟩, _, _, rfl, ⟨b, rfl, wb⟩, rfl⟩ := h
 exact ⟨a, b, rfl, iI wa, iI wb⟩
theorem b5q {cs : List AV} (h : S50.ok cs) : ∃ l : List Ch, cs = [.b7 false (chs l)] ∧ b4U l := by
 obtain ⟨es, rfl, hz, he⟩ := h
 clear hz
 have : ∃ l : List Ch, es = chs l ∧ b4U l := by
   induction es with
   | nil => exact ⟨[], rfl, fun i => by simp [u8]⟩
   | cons e es ih =>
     obtain ⟨l, rfl, hl⟩ := ih fun x hx => he x (List.mem_cons_of_mem _ hx)
     obtain ⟨_, _, rfl, ⟨a, rfl, wa⟩, _, _, rfl, ⟨b, rfl, wb⟩, _, _, rfl, ⟨c, rfl, wc⟩, rfl⟩ := he _ (List.mem_cons_self ..)
     refine ⟨(a, b, c) :: l, rfl, fun i => ?_⟩
     cases i with
     | zero => exact ⟨iI wa, iI wb, iI wc⟩
     | succ i => exact hl i
 obtain ⟨l, rfl, hl⟩ := this
 exact ⟨l, rfl, hl⟩
theorem gK {H : Type} {enc : TypeId × Value → H} {P : Program} {W : World} : ∀ {ts : List TypeId} {vs : List Value} {ds : List (DataW H)} {ps : List MemPlace}, DataW.TrodAll enc P W 0 (fun _ => true) true ts vs ds ps → ds.length = ts.length := by
 intro ts
 induction ts with
 | nil => intro vs ds ps h; obtain ⟨_, rfl, _⟩ := Go.ChangeShapes.trodAll_nil h; rfl
 | cons t ts ih => intro vs ds ps h; obtain ⟨v, vs', d, ds', p, q, rfl, rfl, rfl, _, h2⟩ := Go.ChangeShapes.trodAll_cons h; simp [ih h2]
end Go.Proofs.YtfccigmfcpimgaaDoor
end
