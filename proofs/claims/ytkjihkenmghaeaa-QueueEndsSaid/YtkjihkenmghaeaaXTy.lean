/- Own work (by an AI agent; no person has read it): part of a proof of the seat Ytkjihkenmghaeaa. -/
import Derived.Test.YtkjihkenmghaeaaXb
import Derived.Test.YtkjihkenmghaeaaRows
namespace Go.Proofs.Ytkjihkenmghaeaa
open Go.Ab

def T3 : TI := ⟨1, false, 8, [(.int .i64 0)]⟩
theorem T3_size : T3.size = 1 := rfl
theorem T3_agg : T3.agg = false := rfl
theorem T3_bytes : T3.bytes = 8 := rfl
theorem T3_zero : T3.zero.map AV.ofC = [.v (.int .i64 0)] := rfl
theorem ti_3 : ti Try.prog 3 = some T3 := by kernel_rfl
def T4 : TI := ⟨1, false, 1, [(.bool false)]⟩
theorem T4_size : T4.size = 1 := rfl
theorem T4_agg : T4.agg = false := rfl
theorem T4_bytes : T4.bytes = 1 := rfl
theorem T4_zero : T4.zero.map AV.ofC = [.v (.bool false)] := rfl
theorem ti_4 : ti Try.prog 4 = some T4 := by kernel_rfl
def T5 : TI := ⟨1, false, 1, [(.int .u8 0)]⟩
theorem T5_size : T5.size = 1 := rfl
theorem T5_agg : T5.agg = false := rfl
theorem T5_bytes : T5.bytes = 1 := rfl
theorem T5_zero : T5.zero.map AV.ofC = [.v (.int .u8 0)] := rfl
theorem ti_5 : ti Try.prog 5 = some T5 := by kernel_rfl
def T21 : TI := ⟨1, false, 4, [(.int .i32 0)]⟩
theorem T21_size : T21.size = 1 := rfl
theorem T21_agg : T21.agg = false := rfl
theorem T21_bytes : T21.bytes = 4 := rfl
theorem T21_zero : T21.zero.map AV.ofC = [.v (.int .i32 0)] := rfl
def T22 : TI := ⟨3, true, 3, [(.int .u8 0), (.int .u8 0), (.int .u8 0)]⟩
theorem T22_size : T22.size = 3 := rfl
theorem T22_agg : T22.agg = true := rfl
theorem T22_bytes : T22.bytes = 3 := rfl
theorem T22_zero : T22.zero.map AV.ofC = [.v (.int .u8 0), .v (.int .u8 0), .v (.int .u8 0)] := rfl
theorem ti_22 : ti Try.prog 22 = some T22 := by kernel_rfl
def T23 : TI := ⟨1, false, 24, [(.slice none 0 0)]⟩
theorem T23_size : T23.size = 1 := rfl
theorem T23_agg : T23.agg = false := rfl
theorem T23_bytes : T23.bytes = 24 := rfl
theorem T23_zero : T23.zero.map AV.ofC = [.imm true []] := rfl
theorem ti_23 : ti Try.prog 23 = some T23 := by kernel_rfl
def T24 : TI := ⟨3, true, 24, [(.int .i64 0), (.int .i64 0), (.int .i64 0)]⟩
theorem T24_size : T24.size = 3 := rfl
theorem T24_agg : T24.agg = true := rfl
theorem T24_bytes : T24.bytes = 24 := rfl
theorem T24_zero : T24.zero.map AV.ofC = [.v (.int .i64 0), .v (.int .i64 0), .v (.int .i64 0)] := rfl
theorem ti_24 : ti Try.prog 24 = some T24 := by kernel_rfl
def T26 : TI := ⟨1, false, 24, [(.slice none 0 0)]⟩
theorem T26_size : T26.size = 1 := rfl
theorem T26_agg : T26.agg = false := rfl
theorem T26_bytes : T26.bytes = 24 := rfl
theorem T26_zero : T26.zero.map AV.ofC = [.imm true []] := rfl
theorem ti_26 : ti Try.prog 26 = some T26 := by kernel_rfl
def T27 : TI := ⟨1, false, 24, [(.slice none 0 0)]⟩
theorem T27_size : T27.size = 1 := rfl
theorem T27_agg : T27.agg = false := rfl
theorem T27_bytes : T27.bytes = 24 := rfl
theorem T27_zero : T27.zero.map AV.ofC = [.imm true []] := rfl
theorem ti_27 : ti Try.prog 27 = some T27 := by kernel_rfl
def T29 : TI := ⟨2, true, 48, [(.slice none 0 0), (.slice none 0 0)]⟩
theorem T29_size : T29.size = 2 := rfl
theorem T29_agg : T29.agg = true := rfl
theorem T29_bytes : T29.bytes = 48 := rfl
theorem T29_zero : T29.zero.map AV.ofC = [.imm true [], .imm true []] := rfl
theorem ti_29 : ti Try.prog 29 = some T29 := by kernel_rfl
def T31 : TI := ⟨1, false, 24, [(.slice none 0 0)]⟩
theorem T31_size : T31.size = 1 := rfl
theorem T31_agg : T31.agg = false := rfl
theorem T31_bytes : T31.bytes = 24 := rfl
theorem T31_zero : T31.zero.map AV.ofC = [.imm true []] := rfl
theorem ti_31 : ti Try.prog 31 = some T31 := by kernel_rfl
def T33 : TI := ⟨2, true, 32, [(.int .i64 0), (.slice none 0 0)]⟩
theorem T33_size : T33.size = 2 := rfl
theorem T33_agg : T33.agg = true := rfl
theorem T33_bytes : T33.bytes = 32 := rfl
theorem T33_zero : T33.zero.map AV.ofC = [.v (.int .i64 0), .imm true []] := rfl
theorem ti_33 : ti Try.prog 33 = some T33 := by kernel_rfl
def T35 : TI := ⟨1, false, 24, [(.slice none 0 0)]⟩
theorem T35_size : T35.size = 1 := rfl
theorem T35_agg : T35.agg = false := rfl
theorem T35_bytes : T35.bytes = 24 := rfl
theorem T35_zero : T35.zero.map AV.ofC = [.imm true []] := rfl
def T36 : TI := ⟨1, false, 24, [(.slice none 0 0)]⟩
theorem T36_size : T36.size = 1 := rfl
theorem T36_agg : T36.agg = false := rfl
theorem T36_bytes : T36.bytes = 24 := rfl
theorem T36_zero : T36.zero.map AV.ofC = [.imm true []] := rfl
theorem ti_36 : ti Try.prog 36 = some T36 := by kernel_rfl
def T38 : TI := ⟨4, true, 80, [(.int .i64 0), (.slice none 0 0), (.slice none 0 0), (.slice none 0 0)]⟩
theorem T38_size : T38.size = 4 := rfl
theorem T38_agg : T38.agg = true := rfl
theorem T38_bytes : T38.bytes = 80 := rfl
theorem T38_zero : T38.zero.map AV.ofC = [.v (.int .i64 0), .imm true [], .imm true [], .imm true []] := rfl
theorem ti_38 : ti Try.prog 38 = some T38 := by kernel_rfl
def T40 : TI := ⟨11, true, 136, [(.int .i64 0), (.int .i64 0), (.int .i64 0), (.int .i64 0), (.int .i64 0), (.int .i64 0), (.slice none 0 0), (.slice none 0 0), (.slice none 0 0), (.int .i64 0), (.int .i64 0)]⟩
theorem T40_size : T40.size = 11 := rfl
theorem T40_agg : T40.agg = true := rfl
theorem T40_bytes : T40.bytes = 136 := rfl
theorem T40_zero : T40.zero.map AV.ofC = [.v (.int .i64 0), .v (.int .i64 0), .v (.int .i64 0), .v (.int .i64 0), .v (.int .i64 0), .v (.int .i64 0), .imm true [], .imm true [], .imm true [], .v (.int .i64 0), .v (.int .i64 0)] := rfl
theorem ti_40 : ti Try.prog 40 = some T40 := by kernel_rfl
def T43 : TI := ⟨1, false, 8, [(.int .i64 0)]⟩
theorem T43_size : T43.size = 1 := rfl
theorem T43_agg : T43.agg = false := rfl
theorem T43_bytes : T43.bytes = 8 := rfl
theorem T43_zero : T43.zero.map AV.ofC = [.v (.int .i64 0)] := rfl
theorem ti_43 : ti Try.prog 43 = some T43 := by kernel_rfl
def T45 : TI := ⟨4, true, 64, [(.slice none 0 0), (.slice none 0 0), (.int .i64 0), (.int .i64 0)]⟩
theorem T45_size : T45.size = 4 := rfl
theorem T45_agg : T45.agg = true := rfl
theorem T45_bytes : T45.bytes = 64 := rfl
theorem T45_zero : T45.zero.map AV.ofC = [.imm true [], .imm true [], .v (.int .i64 0), .v (.int .i64 0)] := rfl
theorem ti_45 : ti Try.prog 45 = some T45 := by kernel_rfl
def T53 : TI := ⟨2, true, 2, [(.int .u8 0), (.int .u8 0)]⟩
theorem T53_size : T53.size = 2 := rfl
theorem T53_agg : T53.agg = true := rfl
theorem T53_bytes : T53.bytes = 2 := rfl
theorem T53_zero : T53.zero.map AV.ofC = [.v (.int .u8 0), .v (.int .u8 0)] := rfl
theorem ti_53 : ti Try.prog 53 = some T53 := by kernel_rfl
def T59 : TI := ⟨4, true, 4, [(.int .u8 0), (.int .u8 0), (.int .u8 0), (.int .u8 0)]⟩
theorem T59_size : T59.size = 4 := rfl
theorem T59_agg : T59.agg = true := rfl
theorem T59_bytes : T59.bytes = 4 := rfl
theorem T59_zero : T59.zero.map AV.ofC = [.v (.int .u8 0), .v (.int .u8 0), .v (.int .u8 0), .v (.int .u8 0)] := rfl
theorem ti_59 : ti Try.prog 59 = some T59 := by kernel_rfl
def T65 : TI := ⟨1, false, 8, [(.map none)]⟩
theorem T65_size : T65.size = 1 := rfl
theorem T65_agg : T65.agg = false := rfl
theorem T65_bytes : T65.bytes = 8 := rfl
theorem T65_zero : T65.zero.map AV.ofC = [.v (.map none)] := rfl
theorem ti_65 : ti Try.prog 65 = some T65 := by kernel_rfl
def T80 : TI := ⟨1, false, 8, [.nilFunc]⟩
theorem T80_size : T80.size = 1 := rfl
theorem T80_agg : T80.agg = false := rfl
theorem T80_bytes : T80.bytes = 8 := rfl
theorem T80_zero : T80.zero.map AV.ofC = [.v .nilFunc] := rfl
theorem ti_80 : ti Try.prog 80 = some T80 := by kernel_rfl
def T82 : TI := ⟨1, false, 8, [.nilFunc]⟩
theorem T82_size : T82.size = 1 := rfl
theorem T82_agg : T82.agg = false := rfl
theorem T82_bytes : T82.bytes = 8 := rfl
theorem T82_zero : T82.zero.map AV.ofC = [.v .nilFunc] := rfl
theorem ti_82 : ti Try.prog 82 = some T82 := by kernel_rfl
def T86 : TI := ⟨1, false, 8, [(.pointer none)]⟩
theorem T86_size : T86.size = 1 := rfl
theorem T86_agg : T86.agg = false := rfl
theorem T86_bytes : T86.bytes = 8 := rfl
theorem T86_zero : T86.zero.map AV.ofC = [.v (.pointer none)] := rfl
theorem ti_86 : ti Try.prog 86 = some T86 := by kernel_rfl
def T88 : TI := ⟨1, false, 8, [.nilFunc]⟩
theorem T88_size : T88.size = 1 := rfl
theorem T88_agg : T88.agg = false := rfl
theorem T88_bytes : T88.bytes = 8 := rfl
theorem T88_zero : T88.zero.map AV.ofC = [.v .nilFunc] := rfl
theorem ti_88 : ti Try.prog 88 = some T88 := by kernel_rfl
def T93 : TI := ⟨1, false, 24, [(.slice none 0 0)]⟩
theorem T93_size : T93.size = 1 := rfl
theorem T93_agg : T93.agg = false := rfl
theorem T93_bytes : T93.bytes = 24 := rfl
theorem T93_zero : T93.zero.map AV.ofC = [.imm true []] := rfl
theorem ti_93 : ti Try.prog 93 = some T93 := by kernel_rfl
def T112 : TI := ⟨3, true, 56, [(.int .i64 0), (.slice none 0 0), (.slice none 0 0)]⟩
theorem T112_size : T112.size = 3 := rfl
theorem T112_agg : T112.agg = true := rfl
theorem T112_bytes : T112.bytes = 56 := rfl
theorem T112_zero : T112.zero.map AV.ofC = [.v (.int .i64 0), .imm true [], .imm true []] := rfl
theorem td_3 : td Try.prog 3 = some (.int .i64) := by kernel_rfl
theorem td_4 : td Try.prog 4 = some .other := by kernel_rfl
theorem td_5 : td Try.prog 5 = some (.int .u8) := by kernel_rfl
theorem td_22 : td Try.prog 22 = some (.array 3 T5) := by kernel_rfl
theorem td_23 : td Try.prog 23 = some (.slice T59) := by kernel_rfl
theorem td_24 : td Try.prog 24 = some (.array 3 T3) := by kernel_rfl
theorem td_26 : td Try.prog 26 = some (.slice T3) := by kernel_rfl
theorem td_27 : td Try.prog 27 = some (.slice T40) := by kernel_rfl
theorem td_29 : td Try.prog 29 = some (.struct [(0, T26), (1, T27)]) := by kernel_rfl
theorem td_31 : td Try.prog 31 = some (.slice T21) := by kernel_rfl
theorem td_33 : td Try.prog 33 = some (.struct [(0, T3), (1, T31)]) := by kernel_rfl
theorem td_36 : td Try.prog 36 = some (.slice T112) := by kernel_rfl
theorem td_38 : td Try.prog 38 = some (.struct [(0, T33), (2, T35), (3, T36)]) := by kernel_rfl
theorem td_40 : td Try.prog 40 = some (.struct [(0, T3), (1, T3), (2, T3), (3, T3), (4, T3), (5, T38), (9, T3), (10, T3)]) := by kernel_rfl
theorem td_43 : td Try.prog 43 = some (.int .i64) := by kernel_rfl
theorem td_45 : td Try.prog 45 = some (.struct [(0, T29), (2, T3), (3, T43)]) := by kernel_rfl
theorem td_53 : td Try.prog 53 = some (.array 2 T5) := by kernel_rfl
theorem td_59 : td Try.prog 59 = some (.struct [(0, T5), (1, T5), (2, T5), (3, T5)]) := by kernel_rfl
theorem td_65 : td Try.prog 65 = some .other := by kernel_rfl
theorem td_80 : td Try.prog 80 = some .other := by kernel_rfl
theorem td_82 : td Try.prog 82 = some .other := by kernel_rfl
theorem td_86 : td Try.prog 86 = some .other := by kernel_rfl
theorem td_88 : td Try.prog 88 = some .other := by kernel_rfl
theorem td_93 : td Try.prog 93 = some (.slice T82) := by kernel_rfl
theorem tm_65 : tm Try.prog 65 = some ((.int .i64), (.bool false)) := by kernel_rfl
theorem isb_4 : isBoolT Try.prog 4 = true := by kernel_rfl
end Go.Proofs.Ytkjihkenmghaeaa
