/- Own work (by an AI agent; no person has read it): part of a proof of the seat YtngpbbpnnpfocaaDoor. -/
import Derived.Test.YtngpbbpnnpfocaaDoorXb
import Derived.Test.YtngpbbpnnpfocaaDoorRows
namespace Go.Proofs.YtngpbbpnnpfocaaDoor
open Go.Ab

def T1 : TI := ⟨1, false, 8, [.nilFunc]⟩
theorem T1_size : T1.size = 1 := rfl
theorem T1_agg : T1.agg = false := rfl
theorem T1_bytes : T1.bytes = 8 := rfl
theorem T1_zero : T1.zero.map AV.ofC = [.v .nilFunc] := rfl
theorem ti_1 : ti Tryd.prog 1 = some T1 := by kernel_rfl
def T2 : TI := ⟨1, false, 8, [(.int .i64 0)]⟩
theorem T2_size : T2.size = 1 := rfl
theorem T2_agg : T2.agg = false := rfl
theorem T2_bytes : T2.bytes = 8 := rfl
theorem T2_zero : T2.zero.map AV.ofC = [.v (.int .i64 0)] := rfl
theorem ti_2 : ti Tryd.prog 2 = some T2 := by kernel_rfl
def T3 : TI := ⟨1, false, 8, [(.int .i64 0)]⟩
theorem T3_size : T3.size = 1 := rfl
theorem T3_agg : T3.agg = false := rfl
theorem T3_bytes : T3.bytes = 8 := rfl
theorem T3_zero : T3.zero.map AV.ofC = [.v (.int .i64 0)] := rfl
theorem ti_3 : ti Tryd.prog 3 = some T3 := by kernel_rfl
def T4 : TI := ⟨1, false, 1, [(.bool false)]⟩
theorem T4_size : T4.size = 1 := rfl
theorem T4_agg : T4.agg = false := rfl
theorem T4_bytes : T4.bytes = 1 := rfl
theorem T4_zero : T4.zero.map AV.ofC = [.v (.bool false)] := rfl
theorem ti_4 : ti Tryd.prog 4 = some T4 := by kernel_rfl
def T5 : TI := ⟨1, false, 1, [(.int .u8 0)]⟩
theorem T5_size : T5.size = 1 := rfl
theorem T5_agg : T5.agg = false := rfl
theorem T5_bytes : T5.bytes = 1 := rfl
theorem T5_zero : T5.zero.map AV.ofC = [.v (.int .u8 0)] := rfl
theorem ti_5 : ti Tryd.prog 5 = some T5 := by kernel_rfl
def T6 : TI := ⟨1, false, 1, [(.int .u8 0)]⟩
theorem T6_size : T6.size = 1 := rfl
theorem T6_agg : T6.agg = false := rfl
theorem T6_bytes : T6.bytes = 1 := rfl
theorem T6_zero : T6.zero.map AV.ofC = [.v (.int .u8 0)] := rfl
theorem ti_6 : ti Tryd.prog 6 = some T6 := by kernel_rfl
def T7 : TI := ⟨4, true, 24, [(.int .i64 0), (.int .i64 0), (.bool false), (.int .u8 0)]⟩
theorem T7_size : T7.size = 4 := rfl
theorem T7_agg : T7.agg = true := rfl
theorem T7_bytes : T7.bytes = 24 := rfl
theorem T7_zero : T7.zero.map AV.ofC = [.v (.int .i64 0), .v (.int .i64 0), .v (.bool false), .v (.int .u8 0)] := rfl
theorem ti_7 : ti Tryd.prog 7 = some T7 := by kernel_rfl
def T8 : TI := ⟨4, true, 24, [(.int .i64 0), (.int .i64 0), (.bool false), (.int .u8 0)]⟩
theorem T8_size : T8.size = 4 := rfl
theorem T8_agg : T8.agg = true := rfl
theorem T8_bytes : T8.bytes = 24 := rfl
theorem T8_zero : T8.zero.map AV.ofC = [.v (.int .i64 0), .v (.int .i64 0), .v (.bool false), .v (.int .u8 0)] := rfl
theorem ti_8 : ti Tryd.prog 8 = some T8 := by kernel_rfl
def T9 : TI := ⟨1, false, 16, [(.string ⟨#[]⟩)]⟩
theorem T9_size : T9.size = 1 := rfl
theorem T9_agg : T9.agg = false := rfl
theorem T9_bytes : T9.bytes = 16 := rfl
theorem T9_zero : T9.zero.map AV.ofC = [.v (.string ⟨#[]⟩)] := rfl
theorem ti_9 : ti Tryd.prog 9 = some T9 := by kernel_rfl
def T10 : TI := ⟨1, false, 16, [(.string ⟨#[]⟩)]⟩
theorem T10_size : T10.size = 1 := rfl
theorem T10_agg : T10.agg = false := rfl
theorem T10_bytes : T10.bytes = 16 := rfl
theorem T10_zero : T10.zero.map AV.ofC = [.v (.string ⟨#[]⟩)] := rfl
theorem ti_10 : ti Tryd.prog 10 = some T10 := by kernel_rfl
def T11 : TI := ⟨1, false, 16, [(.string ⟨#[]⟩)]⟩
theorem T11_size : T11.size = 1 := rfl
theorem T11_agg : T11.agg = false := rfl
theorem T11_bytes : T11.bytes = 16 := rfl
theorem T11_zero : T11.zero.map AV.ofC = [.v (.string ⟨#[]⟩)] := rfl
theorem ti_11 : ti Tryd.prog 11 = some T11 := by kernel_rfl
def T12 : TI := ⟨1, false, 8, [(.int .u64 0)]⟩
theorem T12_size : T12.size = 1 := rfl
theorem T12_agg : T12.agg = false := rfl
theorem T12_bytes : T12.bytes = 8 := rfl
theorem T12_zero : T12.zero.map AV.ofC = [.v (.int .u64 0)] := rfl
theorem ti_12 : ti Tryd.prog 12 = some T12 := by kernel_rfl
def T13 : TI := ⟨2, true, 24, [(.string ⟨#[]⟩), (.int .u64 0)]⟩
theorem T13_size : T13.size = 2 := rfl
theorem T13_agg : T13.agg = true := rfl
theorem T13_bytes : T13.bytes = 24 := rfl
theorem T13_zero : T13.zero.map AV.ofC = [.v (.string ⟨#[]⟩), .v (.int .u64 0)] := rfl
theorem ti_13 : ti Tryd.prog 13 = some T13 := by kernel_rfl
def T14 : TI := ⟨2, true, 24, [(.string ⟨#[]⟩), (.int .u64 0)]⟩
theorem T14_size : T14.size = 2 := rfl
theorem T14_agg : T14.agg = true := rfl
theorem T14_bytes : T14.bytes = 24 := rfl
theorem T14_zero : T14.zero.map AV.ofC = [.v (.string ⟨#[]⟩), .v (.int .u64 0)] := rfl
theorem ti_14 : ti Tryd.prog 14 = some T14 := by kernel_rfl
def T15 : TI := ⟨1, false, 8, [(.pointer none)]⟩
theorem T15_size : T15.size = 1 := rfl
theorem T15_agg : T15.agg = false := rfl
theorem T15_bytes : T15.bytes = 8 := rfl
theorem T15_zero : T15.zero.map AV.ofC = [.v (.pointer none)] := rfl
theorem ti_15 : ti Tryd.prog 15 = some T15 := by kernel_rfl
def T16 : TI := ⟨1, false, 8, [(.pointer none)]⟩
theorem T16_size : T16.size = 1 := rfl
theorem T16_agg : T16.agg = false := rfl
theorem T16_bytes : T16.bytes = 8 := rfl
theorem T16_zero : T16.zero.map AV.ofC = [.v (.pointer none)] := rfl
theorem ti_16 : ti Tryd.prog 16 = some T16 := by kernel_rfl
def T17 : TI := ⟨1, false, 8, [(.pointer none)]⟩
theorem T17_size : T17.size = 1 := rfl
theorem T17_agg : T17.agg = false := rfl
theorem T17_bytes : T17.bytes = 8 := rfl
theorem T17_zero : T17.zero.map AV.ofC = [.v (.pointer none)] := rfl
theorem ti_17 : ti Tryd.prog 17 = some T17 := by kernel_rfl
def T18 : TI := ⟨1, true, 8, [(.pointer none)]⟩
theorem T18_size : T18.size = 1 := rfl
theorem T18_agg : T18.agg = true := rfl
theorem T18_bytes : T18.bytes = 8 := rfl
theorem T18_zero : T18.zero.map AV.ofC = [.v (.pointer none)] := rfl
theorem ti_18 : ti Tryd.prog 18 = some T18 := by kernel_rfl
def T19 : TI := ⟨1, true, 8, [(.pointer none)]⟩
theorem T19_size : T19.size = 1 := rfl
theorem T19_agg : T19.agg = true := rfl
theorem T19_bytes : T19.bytes = 8 := rfl
theorem T19_zero : T19.zero.map AV.ofC = [.v (.pointer none)] := rfl
theorem ti_19 : ti Tryd.prog 19 = some T19 := by kernel_rfl
def T20 : TI := ⟨1, false, 16, [.nilIface]⟩
theorem T20_size : T20.size = 1 := rfl
theorem T20_agg : T20.agg = false := rfl
theorem T20_bytes : T20.bytes = 16 := rfl
theorem T20_zero : T20.zero.map AV.ofC = [.v .nilIface] := rfl
theorem ti_20 : ti Tryd.prog 20 = some T20 := by kernel_rfl
def T21 : TI := ⟨1, false, 4, [(.int .i32 0)]⟩
theorem T21_size : T21.size = 1 := rfl
theorem T21_agg : T21.agg = false := rfl
theorem T21_bytes : T21.bytes = 4 := rfl
theorem T21_zero : T21.zero.map AV.ofC = [.v (.int .i32 0)] := rfl
theorem ti_21 : ti Tryd.prog 21 = some T21 := by kernel_rfl
def T22 : TI := ⟨1, false, 8, [.nilFunc]⟩
theorem T22_size : T22.size = 1 := rfl
theorem T22_agg : T22.agg = false := rfl
theorem T22_bytes : T22.bytes = 8 := rfl
theorem T22_zero : T22.zero.map AV.ofC = [.v .nilFunc] := rfl
theorem ti_22 : ti Tryd.prog 22 = some T22 := by kernel_rfl
def T23 : TI := ⟨1, false, 8, [(.int .i64 0)]⟩
theorem T23_size : T23.size = 1 := rfl
theorem T23_agg : T23.agg = false := rfl
theorem T23_bytes : T23.bytes = 8 := rfl
theorem T23_zero : T23.zero.map AV.ofC = [.v (.int .i64 0)] := rfl
theorem ti_23 : ti Tryd.prog 23 = some T23 := by kernel_rfl
def T24 : TI := ⟨2, true, 16, [(.int .i32 0), (.int .i64 0)]⟩
theorem T24_size : T24.size = 2 := rfl
theorem T24_agg : T24.agg = true := rfl
theorem T24_bytes : T24.bytes = 16 := rfl
theorem T24_zero : T24.zero.map AV.ofC = [.v (.int .i32 0), .v (.int .i64 0)] := rfl
theorem ti_24 : ti Tryd.prog 24 = some T24 := by kernel_rfl
def T25 : TI := ⟨2, true, 16, [(.int .i32 0), (.int .i64 0)]⟩
theorem T25_size : T25.size = 2 := rfl
theorem T25_agg : T25.agg = true := rfl
theorem T25_bytes : T25.bytes = 16 := rfl
theorem T25_zero : T25.zero.map AV.ofC = [.v (.int .i32 0), .v (.int .i64 0)] := rfl
theorem ti_25 : ti Tryd.prog 25 = some T25 := by kernel_rfl
def T26 : TI := ⟨1, false, 8, [.nilFunc]⟩
theorem T26_size : T26.size = 1 := rfl
theorem T26_agg : T26.agg = false := rfl
theorem T26_bytes : T26.bytes = 8 := rfl
theorem T26_zero : T26.zero.map AV.ofC = [.v .nilFunc] := rfl
theorem ti_26 : ti Tryd.prog 26 = some T26 := by kernel_rfl
def T27 : TI := ⟨1, false, 8, [.nilFunc]⟩
theorem T27_size : T27.size = 1 := rfl
theorem T27_agg : T27.agg = false := rfl
theorem T27_bytes : T27.bytes = 8 := rfl
theorem T27_zero : T27.zero.map AV.ofC = [.v .nilFunc] := rfl
theorem ti_27 : ti Tryd.prog 27 = some T27 := by kernel_rfl
def T28 : TI := ⟨1, false, 8, [.nilFunc]⟩
theorem T28_size : T28.size = 1 := rfl
theorem T28_agg : T28.agg = false := rfl
theorem T28_bytes : T28.bytes = 8 := rfl
theorem T28_zero : T28.zero.map AV.ofC = [.v .nilFunc] := rfl
theorem ti_28 : ti Tryd.prog 28 = some T28 := by kernel_rfl
def T29 : TI := ⟨1, false, 8, [.nilFunc]⟩
theorem T29_size : T29.size = 1 := rfl
theorem T29_agg : T29.agg = false := rfl
theorem T29_bytes : T29.bytes = 8 := rfl
theorem T29_zero : T29.zero.map AV.ofC = [.v .nilFunc] := rfl
theorem ti_29 : ti Tryd.prog 29 = some T29 := by kernel_rfl
def T30 : TI := ⟨1, false, 8, [.nilFunc]⟩
theorem T30_size : T30.size = 1 := rfl
theorem T30_agg : T30.agg = false := rfl
theorem T30_bytes : T30.bytes = 8 := rfl
theorem T30_zero : T30.zero.map AV.ofC = [.v .nilFunc] := rfl
theorem ti_30 : ti Tryd.prog 30 = some T30 := by kernel_rfl
def T31 : TI := ⟨1, false, 2, [(.int .i16 0)]⟩
theorem T31_size : T31.size = 1 := rfl
theorem T31_agg : T31.agg = false := rfl
theorem T31_bytes : T31.bytes = 2 := rfl
theorem T31_zero : T31.zero.map AV.ofC = [.v (.int .i16 0)] := rfl
theorem ti_31 : ti Tryd.prog 31 = some T31 := by kernel_rfl
def T32 : TI := ⟨1, false, 8, [.nilFunc]⟩
theorem T32_size : T32.size = 1 := rfl
theorem T32_agg : T32.agg = false := rfl
theorem T32_bytes : T32.bytes = 8 := rfl
theorem T32_zero : T32.zero.map AV.ofC = [.v .nilFunc] := rfl
theorem ti_32 : ti Tryd.prog 32 = some T32 := by kernel_rfl
def T33 : TI := ⟨1, false, 8, [(.int .u64 0)]⟩
theorem T33_size : T33.size = 1 := rfl
theorem T33_agg : T33.agg = false := rfl
theorem T33_bytes : T33.bytes = 8 := rfl
theorem T33_zero : T33.zero.map AV.ofC = [.v (.int .u64 0)] := rfl
theorem ti_33 : ti Tryd.prog 33 = some T33 := by kernel_rfl
def T34 : TI := ⟨1, false, 8, [.nilFunc]⟩
theorem T34_size : T34.size = 1 := rfl
theorem T34_agg : T34.agg = false := rfl
theorem T34_bytes : T34.bytes = 8 := rfl
theorem T34_zero : T34.zero.map AV.ofC = [.v .nilFunc] := rfl
theorem ti_34 : ti Tryd.prog 34 = some T34 := by kernel_rfl
def T35 : TI := ⟨2, true, 24, [(.string ⟨#[]⟩), (.int .i64 0)]⟩
theorem T35_size : T35.size = 2 := rfl
theorem T35_agg : T35.agg = true := rfl
theorem T35_bytes : T35.bytes = 24 := rfl
theorem T35_zero : T35.zero.map AV.ofC = [.v (.string ⟨#[]⟩), .v (.int .i64 0)] := rfl
theorem ti_35 : ti Tryd.prog 35 = some T35 := by kernel_rfl
def T36 : TI := ⟨2, true, 24, [(.string ⟨#[]⟩), (.int .i64 0)]⟩
theorem T36_size : T36.size = 2 := rfl
theorem T36_agg : T36.agg = true := rfl
theorem T36_bytes : T36.bytes = 24 := rfl
theorem T36_zero : T36.zero.map AV.ofC = [.v (.string ⟨#[]⟩), .v (.int .i64 0)] := rfl
theorem ti_36 : ti Tryd.prog 36 = some T36 := by kernel_rfl
def T37 : TI := ⟨1, false, 8, [.nilFunc]⟩
theorem T37_size : T37.size = 1 := rfl
theorem T37_agg : T37.agg = false := rfl
theorem T37_bytes : T37.bytes = 8 := rfl
theorem T37_zero : T37.zero.map AV.ofC = [.v .nilFunc] := rfl
theorem ti_37 : ti Tryd.prog 37 = some T37 := by kernel_rfl
def T38 : TI := ⟨1, false, 8, [.nilFunc]⟩
theorem T38_size : T38.size = 1 := rfl
theorem T38_agg : T38.agg = false := rfl
theorem T38_bytes : T38.bytes = 8 := rfl
theorem T38_zero : T38.zero.map AV.ofC = [.v .nilFunc] := rfl
theorem ti_38 : ti Tryd.prog 38 = some T38 := by kernel_rfl
def T39 : TI := ⟨1, false, 8, [.nilFunc]⟩
theorem T39_size : T39.size = 1 := rfl
theorem T39_agg : T39.agg = false := rfl
theorem T39_bytes : T39.bytes = 8 := rfl
theorem T39_zero : T39.zero.map AV.ofC = [.v .nilFunc] := rfl
theorem ti_39 : ti Tryd.prog 39 = some T39 := by kernel_rfl
def T40 : TI := ⟨1, false, 8, [.nilFunc]⟩
theorem T40_size : T40.size = 1 := rfl
theorem T40_agg : T40.agg = false := rfl
theorem T40_bytes : T40.bytes = 8 := rfl
theorem T40_zero : T40.zero.map AV.ofC = [.v .nilFunc] := rfl
theorem ti_40 : ti Tryd.prog 40 = some T40 := by kernel_rfl
def T41 : TI := ⟨2, true, 16, [(.int .i64 0), (.int .i64 0)]⟩
theorem T41_size : T41.size = 2 := rfl
theorem T41_agg : T41.agg = true := rfl
theorem T41_bytes : T41.bytes = 16 := rfl
theorem T41_zero : T41.zero.map AV.ofC = [.v (.int .i64 0), .v (.int .i64 0)] := rfl
theorem ti_41 : ti Tryd.prog 41 = some T41 := by kernel_rfl
def T42 : TI := ⟨2, true, 8, [(.int .i32 0), (.int .i32 0)]⟩
theorem T42_size : T42.size = 2 := rfl
theorem T42_agg : T42.agg = true := rfl
theorem T42_bytes : T42.bytes = 8 := rfl
theorem T42_zero : T42.zero.map AV.ofC = [.v (.int .i32 0), .v (.int .i32 0)] := rfl
theorem ti_42 : ti Tryd.prog 42 = some T42 := by kernel_rfl
def T43 : TI := ⟨2, true, 16, [(.int .i64 0), (.int .i64 0)]⟩
theorem T43_size : T43.size = 2 := rfl
theorem T43_agg : T43.agg = true := rfl
theorem T43_bytes : T43.bytes = 16 := rfl
theorem T43_zero : T43.zero.map AV.ofC = [.v (.int .i64 0), .v (.int .i64 0)] := rfl
theorem ti_43 : ti Tryd.prog 43 = some T43 := by kernel_rfl
def T44 : TI := ⟨2, true, 16, [(.int .i64 0), (.int .i64 0)]⟩
theorem T44_size : T44.size = 2 := rfl
theorem T44_agg : T44.agg = true := rfl
theorem T44_bytes : T44.bytes = 16 := rfl
theorem T44_zero : T44.zero.map AV.ofC = [.v (.int .i64 0), .v (.int .i64 0)] := rfl
theorem ti_44 : ti Tryd.prog 44 = some T44 := by kernel_rfl
def T45 : TI := ⟨1, false, 8, [.nilFunc]⟩
theorem T45_size : T45.size = 1 := rfl
theorem T45_agg : T45.agg = false := rfl
theorem T45_bytes : T45.bytes = 8 := rfl
theorem T45_zero : T45.zero.map AV.ofC = [.v .nilFunc] := rfl
theorem ti_45 : ti Tryd.prog 45 = some T45 := by kernel_rfl
def T46 : TI := ⟨1, false, 8, [.nilFunc]⟩
theorem T46_size : T46.size = 1 := rfl
theorem T46_agg : T46.agg = false := rfl
theorem T46_bytes : T46.bytes = 8 := rfl
theorem T46_zero : T46.zero.map AV.ofC = [.v .nilFunc] := rfl
theorem ti_46 : ti Tryd.prog 46 = some T46 := by kernel_rfl
def T47 : TI := ⟨1, false, 8, [.nilFunc]⟩
theorem T47_size : T47.size = 1 := rfl
theorem T47_agg : T47.agg = false := rfl
theorem T47_bytes : T47.bytes = 8 := rfl
theorem T47_zero : T47.zero.map AV.ofC = [.v .nilFunc] := rfl
theorem ti_47 : ti Tryd.prog 47 = some T47 := by kernel_rfl
def T49 : TI := ⟨1, false, 8, [.nilFunc]⟩
theorem T49_size : T49.size = 1 := rfl
theorem T49_agg : T49.agg = false := rfl
theorem T49_bytes : T49.bytes = 8 := rfl
theorem T49_zero : T49.zero.map AV.ofC = [.v .nilFunc] := rfl
theorem ti_49 : ti Tryd.prog 49 = some T49 := by kernel_rfl
def T50 : TI := ⟨1, false, 8, [.nilFunc]⟩
theorem T50_size : T50.size = 1 := rfl
theorem T50_agg : T50.agg = false := rfl
theorem T50_bytes : T50.bytes = 8 := rfl
theorem T50_zero : T50.zero.map AV.ofC = [.v .nilFunc] := rfl
theorem ti_50 : ti Tryd.prog 50 = some T50 := by kernel_rfl
def T51 : TI := ⟨1, false, 8, [.nilFunc]⟩
theorem T51_size : T51.size = 1 := rfl
theorem T51_agg : T51.agg = false := rfl
theorem T51_bytes : T51.bytes = 8 := rfl
theorem T51_zero : T51.zero.map AV.ofC = [.v .nilFunc] := rfl
theorem ti_51 : ti Tryd.prog 51 = some T51 := by kernel_rfl
def T52 : TI := ⟨1, false, 8, [.nilFunc]⟩
theorem T52_size : T52.size = 1 := rfl
theorem T52_agg : T52.agg = false := rfl
theorem T52_bytes : T52.bytes = 8 := rfl
theorem T52_zero : T52.zero.map AV.ofC = [.v .nilFunc] := rfl
theorem ti_52 : ti Tryd.prog 52 = some T52 := by kernel_rfl
def T53 : TI := ⟨1, false, 8, [.nilFunc]⟩
theorem T53_size : T53.size = 1 := rfl
theorem T53_agg : T53.agg = false := rfl
theorem T53_bytes : T53.bytes = 8 := rfl
theorem T53_zero : T53.zero.map AV.ofC = [.v .nilFunc] := rfl
theorem ti_53 : ti Tryd.prog 53 = some T53 := by kernel_rfl
def T54 : TI := ⟨1, false, 8, [.nilFunc]⟩
theorem T54_size : T54.size = 1 := rfl
theorem T54_agg : T54.agg = false := rfl
theorem T54_bytes : T54.bytes = 8 := rfl
theorem T54_zero : T54.zero.map AV.ofC = [.v .nilFunc] := rfl
theorem ti_54 : ti Tryd.prog 54 = some T54 := by kernel_rfl
def T55 : TI := ⟨1, false, 8, [.nilFunc]⟩
theorem T55_size : T55.size = 1 := rfl
theorem T55_agg : T55.agg = false := rfl
theorem T55_bytes : T55.bytes = 8 := rfl
theorem T55_zero : T55.zero.map AV.ofC = [.v .nilFunc] := rfl
theorem ti_55 : ti Tryd.prog 55 = some T55 := by kernel_rfl
def T56 : TI := ⟨1, false, 8, [.nilFunc]⟩
theorem T56_size : T56.size = 1 := rfl
theorem T56_agg : T56.agg = false := rfl
theorem T56_bytes : T56.bytes = 8 := rfl
theorem T56_zero : T56.zero.map AV.ofC = [.v .nilFunc] := rfl
theorem ti_56 : ti Tryd.prog 56 = some T56 := by kernel_rfl
def T58 : TI := ⟨1, false, 8, [.nilFunc]⟩
theorem T58_size : T58.size = 1 := rfl
theorem T58_agg : T58.agg = false := rfl
theorem T58_bytes : T58.bytes = 8 := rfl
theorem T58_zero : T58.zero.map AV.ofC = [.v .nilFunc] := rfl
theorem ti_58 : ti Tryd.prog 58 = some T58 := by kernel_rfl
def T59 : TI := ⟨1, false, 8, [.nilFunc]⟩
theorem T59_size : T59.size = 1 := rfl
theorem T59_agg : T59.agg = false := rfl
theorem T59_bytes : T59.bytes = 8 := rfl
theorem T59_zero : T59.zero.map AV.ofC = [.v .nilFunc] := rfl
theorem ti_59 : ti Tryd.prog 59 = some T59 := by kernel_rfl
def T60 : TI := ⟨1, false, 8, [.nilFunc]⟩
theorem T60_size : T60.size = 1 := rfl
theorem T60_agg : T60.agg = false := rfl
theorem T60_bytes : T60.bytes = 8 := rfl
theorem T60_zero : T60.zero.map AV.ofC = [.v .nilFunc] := rfl
theorem ti_60 : ti Tryd.prog 60 = some T60 := by kernel_rfl
def T61 : TI := ⟨1, false, 8, [.nilFunc]⟩
theorem T61_size : T61.size = 1 := rfl
theorem T61_agg : T61.agg = false := rfl
theorem T61_bytes : T61.bytes = 8 := rfl
theorem T61_zero : T61.zero.map AV.ofC = [.v .nilFunc] := rfl
theorem ti_61 : ti Tryd.prog 61 = some T61 := by kernel_rfl
def T62 : TI := ⟨1, false, 8, [.nilFunc]⟩
theorem T62_size : T62.size = 1 := rfl
theorem T62_agg : T62.agg = false := rfl
theorem T62_bytes : T62.bytes = 8 := rfl
theorem T62_zero : T62.zero.map AV.ofC = [.v .nilFunc] := rfl
theorem ti_62 : ti Tryd.prog 62 = some T62 := by kernel_rfl
def T64 : TI := ⟨1, false, 8, [.nilFunc]⟩
theorem T64_size : T64.size = 1 := rfl
theorem T64_agg : T64.agg = false := rfl
theorem T64_bytes : T64.bytes = 8 := rfl
theorem T64_zero : T64.zero.map AV.ofC = [.v .nilFunc] := rfl
theorem ti_64 : ti Tryd.prog 64 = some T64 := by kernel_rfl
def T65 : TI := ⟨1, false, 8, [.nilFunc]⟩
theorem T65_size : T65.size = 1 := rfl
theorem T65_agg : T65.agg = false := rfl
theorem T65_bytes : T65.bytes = 8 := rfl
theorem T65_zero : T65.zero.map AV.ofC = [.v .nilFunc] := rfl
theorem ti_65 : ti Tryd.prog 65 = some T65 := by kernel_rfl
def T66 : TI := ⟨1, false, 8, [.nilFunc]⟩
theorem T66_size : T66.size = 1 := rfl
theorem T66_agg : T66.agg = false := rfl
theorem T66_bytes : T66.bytes = 8 := rfl
theorem T66_zero : T66.zero.map AV.ofC = [.v .nilFunc] := rfl
theorem ti_66 : ti Tryd.prog 66 = some T66 := by kernel_rfl
def T67 : TI := ⟨1, false, 4, [(.int .u32 0)]⟩
theorem T67_size : T67.size = 1 := rfl
theorem T67_agg : T67.agg = false := rfl
theorem T67_bytes : T67.bytes = 4 := rfl
theorem T67_zero : T67.zero.map AV.ofC = [.v (.int .u32 0)] := rfl
theorem ti_67 : ti Tryd.prog 67 = some T67 := by kernel_rfl
def T68 : TI := ⟨1, false, 8, [(.int .u64 0)]⟩
theorem T68_size : T68.size = 1 := rfl
theorem T68_agg : T68.agg = false := rfl
theorem T68_bytes : T68.bytes = 8 := rfl
theorem T68_zero : T68.zero.map AV.ofC = [.v (.int .u64 0)] := rfl
theorem ti_68 : ti Tryd.prog 68 = some T68 := by kernel_rfl
def T70 : TI := ⟨1, false, 8, [.nilFunc]⟩
theorem T70_size : T70.size = 1 := rfl
theorem T70_agg : T70.agg = false := rfl
theorem T70_bytes : T70.bytes = 8 := rfl
theorem T70_zero : T70.zero.map AV.ofC = [.v .nilFunc] := rfl
theorem ti_70 : ti Tryd.prog 70 = some T70 := by kernel_rfl
def T71 : TI := ⟨1, false, 8, [.nilFunc]⟩
theorem T71_size : T71.size = 1 := rfl
theorem T71_agg : T71.agg = false := rfl
theorem T71_bytes : T71.bytes = 8 := rfl
theorem T71_zero : T71.zero.map AV.ofC = [.v .nilFunc] := rfl
theorem ti_71 : ti Tryd.prog 71 = some T71 := by kernel_rfl
def T72 : TI := ⟨1, false, 8, [.nilFunc]⟩
theorem T72_size : T72.size = 1 := rfl
theorem T72_agg : T72.agg = false := rfl
theorem T72_bytes : T72.bytes = 8 := rfl
theorem T72_zero : T72.zero.map AV.ofC = [.v .nilFunc] := rfl
theorem ti_72 : ti Tryd.prog 72 = some T72 := by kernel_rfl
def T73 : TI := ⟨1, false, 8, [.nilFunc]⟩
theorem T73_size : T73.size = 1 := rfl
theorem T73_agg : T73.agg = false := rfl
theorem T73_bytes : T73.bytes = 8 := rfl
theorem T73_zero : T73.zero.map AV.ofC = [.v .nilFunc] := rfl
theorem ti_73 : ti Tryd.prog 73 = some T73 := by kernel_rfl
def T74 : TI := ⟨1, false, 16, [.nilIface]⟩
theorem T74_size : T74.size = 1 := rfl
theorem T74_agg : T74.agg = false := rfl
theorem T74_bytes : T74.bytes = 16 := rfl
theorem T74_zero : T74.zero.map AV.ofC = [.v .nilIface] := rfl
theorem ti_74 : ti Tryd.prog 74 = some T74 := by kernel_rfl
def T75 : TI := ⟨1, false, 16, [.nilIface]⟩
theorem T75_size : T75.size = 1 := rfl
theorem T75_agg : T75.agg = false := rfl
theorem T75_bytes : T75.bytes = 16 := rfl
theorem T75_zero : T75.zero.map AV.ofC = [.v .nilIface] := rfl
theorem ti_75 : ti Tryd.prog 75 = some T75 := by kernel_rfl
def T77 : TI := ⟨1, false, 8, [.nilFunc]⟩
theorem T77_size : T77.size = 1 := rfl
theorem T77_agg : T77.agg = false := rfl
theorem T77_bytes : T77.bytes = 8 := rfl
theorem T77_zero : T77.zero.map AV.ofC = [.v .nilFunc] := rfl
theorem ti_77 : ti Tryd.prog 77 = some T77 := by kernel_rfl
def T78 : TI := ⟨1, false, 8, [.nilFunc]⟩
theorem T78_size : T78.size = 1 := rfl
theorem T78_agg : T78.agg = false := rfl
theorem T78_bytes : T78.bytes = 8 := rfl
theorem T78_zero : T78.zero.map AV.ofC = [.v .nilFunc] := rfl
theorem ti_78 : ti Tryd.prog 78 = some T78 := by kernel_rfl
def T80 : TI := ⟨1, false, 8, [.nilFunc]⟩
theorem T80_size : T80.size = 1 := rfl
theorem T80_agg : T80.agg = false := rfl
theorem T80_bytes : T80.bytes = 8 := rfl
theorem T80_zero : T80.zero.map AV.ofC = [.v .nilFunc] := rfl
theorem ti_80 : ti Tryd.prog 80 = some T80 := by kernel_rfl
def T81 : TI := ⟨1, false, 8, [.nilFunc]⟩
theorem T81_size : T81.size = 1 := rfl
theorem T81_agg : T81.agg = false := rfl
theorem T81_bytes : T81.bytes = 8 := rfl
theorem T81_zero : T81.zero.map AV.ofC = [.v .nilFunc] := rfl
theorem ti_81 : ti Tryd.prog 81 = some T81 := by kernel_rfl
def T82 : TI := ⟨1, false, 8, [(.pointer none)]⟩
theorem T82_size : T82.size = 1 := rfl
theorem T82_agg : T82.agg = false := rfl
theorem T82_bytes : T82.bytes = 8 := rfl
theorem T82_zero : T82.zero.map AV.ofC = [.v (.pointer none)] := rfl
theorem ti_82 : ti Tryd.prog 82 = some T82 := by kernel_rfl
def T83 : TI := ⟨1, false, 24, [(.slice none 0 0)]⟩
theorem T83_size : T83.size = 1 := rfl
theorem T83_agg : T83.agg = false := rfl
theorem T83_bytes : T83.bytes = 24 := rfl
theorem T83_zero : T83.zero.map AV.ofC = [.imm true []] := rfl
theorem ti_83 : ti Tryd.prog 83 = some T83 := by kernel_rfl
def T84 : TI := ⟨2, true, 32, [(.pointer none), (.slice none 0 0)]⟩
theorem T84_size : T84.size = 2 := rfl
theorem T84_agg : T84.agg = true := rfl
theorem T84_bytes : T84.bytes = 32 := rfl
theorem T84_zero : T84.zero.map AV.ofC = [.v (.pointer none), .imm true []] := rfl
theorem ti_84 : ti Tryd.prog 84 = some T84 := by kernel_rfl
def T85 : TI := ⟨2, true, 32, [(.pointer none), (.slice none 0 0)]⟩
theorem T85_size : T85.size = 2 := rfl
theorem T85_agg : T85.agg = true := rfl
theorem T85_bytes : T85.bytes = 32 := rfl
theorem T85_zero : T85.zero.map AV.ofC = [.v (.pointer none), .imm true []] := rfl
theorem ti_85 : ti Tryd.prog 85 = some T85 := by kernel_rfl
def T86 : TI := ⟨1, false, 8, [.nilFunc]⟩
theorem T86_size : T86.size = 1 := rfl
theorem T86_agg : T86.agg = false := rfl
theorem T86_bytes : T86.bytes = 8 := rfl
theorem T86_zero : T86.zero.map AV.ofC = [.v .nilFunc] := rfl
theorem ti_86 : ti Tryd.prog 86 = some T86 := by kernel_rfl
def T88 : TI := ⟨1, false, 8, [.nilFunc]⟩
theorem T88_size : T88.size = 1 := rfl
theorem T88_agg : T88.agg = false := rfl
theorem T88_bytes : T88.bytes = 8 := rfl
theorem T88_zero : T88.zero.map AV.ofC = [.v .nilFunc] := rfl
theorem ti_88 : ti Tryd.prog 88 = some T88 := by kernel_rfl
def T89 : TI := ⟨1, false, 8, [.nilFunc]⟩
theorem T89_size : T89.size = 1 := rfl
theorem T89_agg : T89.agg = false := rfl
theorem T89_bytes : T89.bytes = 8 := rfl
theorem T89_zero : T89.zero.map AV.ofC = [.v .nilFunc] := rfl
theorem ti_89 : ti Tryd.prog 89 = some T89 := by kernel_rfl
def T90 : TI := ⟨1, false, 8, [.nilFunc]⟩
theorem T90_size : T90.size = 1 := rfl
theorem T90_agg : T90.agg = false := rfl
theorem T90_bytes : T90.bytes = 8 := rfl
theorem T90_zero : T90.zero.map AV.ofC = [.v .nilFunc] := rfl
theorem ti_90 : ti Tryd.prog 90 = some T90 := by kernel_rfl
def T91 : TI := ⟨1, false, 8, [.nilFunc]⟩
theorem T91_size : T91.size = 1 := rfl
theorem T91_agg : T91.agg = false := rfl
theorem T91_bytes : T91.bytes = 8 := rfl
theorem T91_zero : T91.zero.map AV.ofC = [.v .nilFunc] := rfl
theorem ti_91 : ti Tryd.prog 91 = some T91 := by kernel_rfl
def T93 : TI := ⟨1, false, 8, [.nilFunc]⟩
theorem T93_size : T93.size = 1 := rfl
theorem T93_agg : T93.agg = false := rfl
theorem T93_bytes : T93.bytes = 8 := rfl
theorem T93_zero : T93.zero.map AV.ofC = [.v .nilFunc] := rfl
theorem ti_93 : ti Tryd.prog 93 = some T93 := by kernel_rfl
def T95 : TI := ⟨1, false, 8, [.nilFunc]⟩
theorem T95_size : T95.size = 1 := rfl
theorem T95_agg : T95.agg = false := rfl
theorem T95_bytes : T95.bytes = 8 := rfl
theorem T95_zero : T95.zero.map AV.ofC = [.v .nilFunc] := rfl
theorem ti_95 : ti Tryd.prog 95 = some T95 := by kernel_rfl
def T97 : TI := ⟨1, false, 8, [.nilFunc]⟩
theorem T97_size : T97.size = 1 := rfl
theorem T97_agg : T97.agg = false := rfl
theorem T97_bytes : T97.bytes = 8 := rfl
theorem T97_zero : T97.zero.map AV.ofC = [.v .nilFunc] := rfl
theorem ti_97 : ti Tryd.prog 97 = some T97 := by kernel_rfl
def T98 : TI := ⟨1, false, 8, [(.pointer none)]⟩
theorem T98_size : T98.size = 1 := rfl
theorem T98_agg : T98.agg = false := rfl
theorem T98_bytes : T98.bytes = 8 := rfl
theorem T98_zero : T98.zero.map AV.ofC = [.v (.pointer none)] := rfl
theorem ti_98 : ti Tryd.prog 98 = some T98 := by kernel_rfl
def T99 : TI := ⟨1, false, 8, [(.int .i64 0)]⟩
theorem T99_size : T99.size = 1 := rfl
theorem T99_agg : T99.agg = false := rfl
theorem T99_bytes : T99.bytes = 8 := rfl
theorem T99_zero : T99.zero.map AV.ofC = [.v (.int .i64 0)] := rfl
theorem ti_99 : ti Tryd.prog 99 = some T99 := by kernel_rfl
def T100 : TI := ⟨1, false, 8, [(.pointer none)]⟩
theorem T100_size : T100.size = 1 := rfl
theorem T100_agg : T100.agg = false := rfl
theorem T100_bytes : T100.bytes = 8 := rfl
theorem T100_zero : T100.zero.map AV.ofC = [.v (.pointer none)] := rfl
theorem ti_100 : ti Tryd.prog 100 = some T100 := by kernel_rfl
def T101 : TI := ⟨1, false, 8, [.nilFunc]⟩
theorem T101_size : T101.size = 1 := rfl
theorem T101_agg : T101.agg = false := rfl
theorem T101_bytes : T101.bytes = 8 := rfl
theorem T101_zero : T101.zero.map AV.ofC = [.v .nilFunc] := rfl
theorem ti_101 : ti Tryd.prog 101 = some T101 := by kernel_rfl
def T102 : TI := ⟨1, false, 8, [.nilFunc]⟩
theorem T102_size : T102.size = 1 := rfl
theorem T102_agg : T102.agg = false := rfl
theorem T102_bytes : T102.bytes = 8 := rfl
theorem T102_zero : T102.zero.map AV.ofC = [.v .nilFunc] := rfl
theorem ti_102 : ti Tryd.prog 102 = some T102 := by kernel_rfl
def T103 : TI := ⟨24, true, 24, [(.int .u8 0), (.int .u8 0), (.int .u8 0), (.int .u8 0), (.int .u8 0), (.int .u8 0), (.int .u8 0), (.int .u8 0), (.int .u8 0), (.int .u8 0), (.int .u8 0), (.int .u8 0), (.int .u8 0), (.int .u8 0), (.int .u8 0), (.int .u8 0), (.int .u8 0), (.int .u8 0), (.int .u8 0), (.int .u8 0), (.int .u8 0), (.int .u8 0), (.int .u8 0), (.int .u8 0)]⟩
theorem T103_size : T103.size = 24 := rfl
theorem T103_agg : T103.agg = true := rfl
theorem T103_bytes : T103.bytes = 24 := rfl
theorem T103_zero : T103.zero.map AV.ofC = [.v (.int .u8 0), .v (.int .u8 0), .v (.int .u8 0), .v (.int .u8 0), .v (.int .u8 0), .v (.int .u8 0), .v (.int .u8 0), .v (.int .u8 0), .v (.int .u8 0), .v (.int .u8 0), .v (.int .u8 0), .v (.int .u8 0), .v (.int .u8 0), .v (.int .u8 0), .v (.int .u8 0), .v (.int .u8 0), .v (.int .u8 0), .v (.int .u8 0), .v (.int .u8 0), .v (.int .u8 0), .v (.int .u8 0), .v (.int .u8 0), .v (.int .u8 0), .v (.int .u8 0)] := rfl
theorem ti_103 : ti Tryd.prog 103 = some T103 := by kernel_rfl
def T104 : TI := ⟨1, false, 8, [.nilFunc]⟩
theorem T104_size : T104.size = 1 := rfl
theorem T104_agg : T104.agg = false := rfl
theorem T104_bytes : T104.bytes = 8 := rfl
theorem T104_zero : T104.zero.map AV.ofC = [.v .nilFunc] := rfl
theorem ti_104 : ti Tryd.prog 104 = some T104 := by kernel_rfl
def T105 : TI := ⟨1, false, 8, [.nilFunc]⟩
theorem T105_size : T105.size = 1 := rfl
theorem T105_agg : T105.agg = false := rfl
theorem T105_bytes : T105.bytes = 8 := rfl
theorem T105_zero : T105.zero.map AV.ofC = [.v .nilFunc] := rfl
theorem ti_105 : ti Tryd.prog 105 = some T105 := by kernel_rfl
def T107 : TI := ⟨1, false, 8, [.nilFunc]⟩
theorem T107_size : T107.size = 1 := rfl
theorem T107_agg : T107.agg = false := rfl
theorem T107_bytes : T107.bytes = 8 := rfl
theorem T107_zero : T107.zero.map AV.ofC = [.v .nilFunc] := rfl
theorem ti_107 : ti Tryd.prog 107 = some T107 := by kernel_rfl
def T108 : TI := ⟨1, false, 8, [(.pointer none)]⟩
theorem T108_size : T108.size = 1 := rfl
theorem T108_agg : T108.agg = false := rfl
theorem T108_bytes : T108.bytes = 8 := rfl
theorem T108_zero : T108.zero.map AV.ofC = [.v (.pointer none)] := rfl
theorem ti_108 : ti Tryd.prog 108 = some T108 := by kernel_rfl
def T109 : TI := ⟨1, false, 8, [.nilFunc]⟩
theorem T109_size : T109.size = 1 := rfl
theorem T109_agg : T109.agg = false := rfl
theorem T109_bytes : T109.bytes = 8 := rfl
theorem T109_zero : T109.zero.map AV.ofC = [.v .nilFunc] := rfl
theorem ti_109 : ti Tryd.prog 109 = some T109 := by kernel_rfl
def T110 : TI := ⟨1, false, 8, [.nilFunc]⟩
theorem T110_size : T110.size = 1 := rfl
theorem T110_agg : T110.agg = false := rfl
theorem T110_bytes : T110.bytes = 8 := rfl
theorem T110_zero : T110.zero.map AV.ofC = [.v .nilFunc] := rfl
theorem ti_110 : ti Tryd.prog 110 = some T110 := by kernel_rfl
def T111 : TI := ⟨1, false, 8, [.nilFunc]⟩
theorem T111_size : T111.size = 1 := rfl
theorem T111_agg : T111.agg = false := rfl
theorem T111_bytes : T111.bytes = 8 := rfl
theorem T111_zero : T111.zero.map AV.ofC = [.v .nilFunc] := rfl
theorem ti_111 : ti Tryd.prog 111 = some T111 := by kernel_rfl
def T112 : TI := ⟨1, false, 8, [.nilFunc]⟩
theorem T112_size : T112.size = 1 := rfl
theorem T112_agg : T112.agg = false := rfl
theorem T112_bytes : T112.bytes = 8 := rfl
theorem T112_zero : T112.zero.map AV.ofC = [.v .nilFunc] := rfl
theorem ti_112 : ti Tryd.prog 112 = some T112 := by kernel_rfl
def T113 : TI := ⟨3, true, 48, [(.string ⟨#[]⟩), (.string ⟨#[]⟩), .nilIface]⟩
theorem T113_size : T113.size = 3 := rfl
theorem T113_agg : T113.agg = true := rfl
theorem T113_bytes : T113.bytes = 48 := rfl
theorem T113_zero : T113.zero.map AV.ofC = [.v (.string ⟨#[]⟩), .v (.string ⟨#[]⟩), .v .nilIface] := rfl
theorem ti_113 : ti Tryd.prog 113 = some T113 := by kernel_rfl
def T114 : TI := ⟨3, true, 48, [(.string ⟨#[]⟩), (.string ⟨#[]⟩), .nilIface]⟩
theorem T114_size : T114.size = 3 := rfl
theorem T114_agg : T114.agg = true := rfl
theorem T114_bytes : T114.bytes = 48 := rfl
theorem T114_zero : T114.zero.map AV.ofC = [.v (.string ⟨#[]⟩), .v (.string ⟨#[]⟩), .v .nilIface] := rfl
theorem ti_114 : ti Tryd.prog 114 = some T114 := by kernel_rfl
def T115 : TI := ⟨1, false, 8, [.nilFunc]⟩
theorem T115_size : T115.size = 1 := rfl
theorem T115_agg : T115.agg = false := rfl
theorem T115_bytes : T115.bytes = 8 := rfl
theorem T115_zero : T115.zero.map AV.ofC = [.v .nilFunc] := rfl
theorem ti_115 : ti Tryd.prog 115 = some T115 := by kernel_rfl
def T116 : TI := ⟨1, false, 8, [.nilFunc]⟩
theorem T116_size : T116.size = 1 := rfl
theorem T116_agg : T116.agg = false := rfl
theorem T116_bytes : T116.bytes = 8 := rfl
theorem T116_zero : T116.zero.map AV.ofC = [.v .nilFunc] := rfl
theorem ti_116 : ti Tryd.prog 116 = some T116 := by kernel_rfl
def T117 : TI := ⟨1, false, 8, [.nilFunc]⟩
theorem T117_size : T117.size = 1 := rfl
theorem T117_agg : T117.agg = false := rfl
theorem T117_bytes : T117.bytes = 8 := rfl
theorem T117_zero : T117.zero.map AV.ofC = [.v .nilFunc] := rfl
theorem ti_117 : ti Tryd.prog 117 = some T117 := by kernel_rfl
def T118 : TI := ⟨1, false, 8, [.nilFunc]⟩
theorem T118_size : T118.size = 1 := rfl
theorem T118_agg : T118.agg = false := rfl
theorem T118_bytes : T118.bytes = 8 := rfl
theorem T118_zero : T118.zero.map AV.ofC = [.v .nilFunc] := rfl
theorem ti_118 : ti Tryd.prog 118 = some T118 := by kernel_rfl
def T119 : TI := ⟨1, false, 8, [.nilFunc]⟩
theorem T119_size : T119.size = 1 := rfl
theorem T119_agg : T119.agg = false := rfl
theorem T119_bytes : T119.bytes = 8 := rfl
theorem T119_zero : T119.zero.map AV.ofC = [.v .nilFunc] := rfl
theorem ti_119 : ti Tryd.prog 119 = some T119 := by kernel_rfl
def T120 : TI := ⟨20, true, 160, [(.int .u64 0), (.int .u64 0), (.int .u64 0), (.int .u64 0), (.int .u64 0), (.int .u64 0), (.int .u64 0), (.int .u64 0), (.int .u64 0), (.int .u64 0), (.int .u64 0), (.int .u64 0), (.int .u64 0), (.int .u64 0), (.int .u64 0), (.int .u64 0), (.int .u64 0), (.int .u64 0), (.int .u64 0), (.int .u64 0)]⟩
theorem T120_size : T120.size = 20 := rfl
theorem T120_agg : T120.agg = true := rfl
theorem T120_bytes : T120.bytes = 160 := rfl
theorem T120_zero : T120.zero.map AV.ofC = [.v (.int .u64 0), .v (.int .u64 0), .v (.int .u64 0), .v (.int .u64 0), .v (.int .u64 0), .v (.int .u64 0), .v (.int .u64 0), .v (.int .u64 0), .v (.int .u64 0), .v (.int .u64 0), .v (.int .u64 0), .v (.int .u64 0), .v (.int .u64 0), .v (.int .u64 0), .v (.int .u64 0), .v (.int .u64 0), .v (.int .u64 0), .v (.int .u64 0), .v (.int .u64 0), .v (.int .u64 0)] := rfl
theorem ti_120 : ti Tryd.prog 120 = some T120 := by kernel_rfl
def T122 : TI := ⟨1, false, 8, [.nilFunc]⟩
theorem T122_size : T122.size = 1 := rfl
theorem T122_agg : T122.agg = false := rfl
theorem T122_bytes : T122.bytes = 8 := rfl
theorem T122_zero : T122.zero.map AV.ofC = [.v .nilFunc] := rfl
theorem ti_122 : ti Tryd.prog 122 = some T122 := by kernel_rfl
def T123 : TI := ⟨1, false, 8, [(.pointer none)]⟩
theorem T123_size : T123.size = 1 := rfl
theorem T123_agg : T123.agg = false := rfl
theorem T123_bytes : T123.bytes = 8 := rfl
theorem T123_zero : T123.zero.map AV.ofC = [.v (.pointer none)] := rfl
theorem ti_123 : ti Tryd.prog 123 = some T123 := by kernel_rfl
def T124 : TI := ⟨1, true, 16, [(.string ⟨#[]⟩)]⟩
theorem T124_size : T124.size = 1 := rfl
theorem T124_agg : T124.agg = true := rfl
theorem T124_bytes : T124.bytes = 16 := rfl
theorem T124_zero : T124.zero.map AV.ofC = [.v (.string ⟨#[]⟩)] := rfl
theorem ti_124 : ti Tryd.prog 124 = some T124 := by kernel_rfl
def T125 : TI := ⟨1, true, 16, [(.string ⟨#[]⟩)]⟩
theorem T125_size : T125.size = 1 := rfl
theorem T125_agg : T125.agg = true := rfl
theorem T125_bytes : T125.bytes = 16 := rfl
theorem T125_zero : T125.zero.map AV.ofC = [.v (.string ⟨#[]⟩)] := rfl
theorem ti_125 : ti Tryd.prog 125 = some T125 := by kernel_rfl
def T126 : TI := ⟨1, false, 8, [.nilFunc]⟩
theorem T126_size : T126.size = 1 := rfl
theorem T126_agg : T126.agg = false := rfl
theorem T126_bytes : T126.bytes = 8 := rfl
theorem T126_zero : T126.zero.map AV.ofC = [.v .nilFunc] := rfl
theorem ti_126 : ti Tryd.prog 126 = some T126 := by kernel_rfl
def T127 : TI := ⟨1, false, 8, [.nilFunc]⟩
theorem T127_size : T127.size = 1 := rfl
theorem T127_agg : T127.agg = false := rfl
theorem T127_bytes : T127.bytes = 8 := rfl
theorem T127_zero : T127.zero.map AV.ofC = [.v .nilFunc] := rfl
theorem ti_127 : ti Tryd.prog 127 = some T127 := by kernel_rfl
def T129 : TI := ⟨1, false, 8, [.nilFunc]⟩
theorem T129_size : T129.size = 1 := rfl
theorem T129_agg : T129.agg = false := rfl
theorem T129_bytes : T129.bytes = 8 := rfl
theorem T129_zero : T129.zero.map AV.ofC = [.v .nilFunc] := rfl
theorem ti_129 : ti Tryd.prog 129 = some T129 := by kernel_rfl
def T130 : TI := ⟨32, true, 32, [(.int .u8 0), (.int .u8 0), (.int .u8 0), (.int .u8 0), (.int .u8 0), (.int .u8 0), (.int .u8 0), (.int .u8 0), (.int .u8 0), (.int .u8 0), (.int .u8 0), (.int .u8 0), (.int .u8 0), (.int .u8 0), (.int .u8 0), (.int .u8 0), (.int .u8 0), (.int .u8 0), (.int .u8 0), (.int .u8 0), (.int .u8 0), (.int .u8 0), (.int .u8 0), (.int .u8 0), (.int .u8 0), (.int .u8 0), (.int .u8 0), (.int .u8 0), (.int .u8 0), (.int .u8 0), (.int .u8 0), (.int .u8 0)]⟩
theorem T130_size : T130.size = 32 := rfl
theorem T130_agg : T130.agg = true := rfl
theorem T130_bytes : T130.bytes = 32 := rfl
theorem T130_zero : T130.zero.map AV.ofC = [.v (.int .u8 0), .v (.int .u8 0), .v (.int .u8 0), .v (.int .u8 0), .v (.int .u8 0), .v (.int .u8 0), .v (.int .u8 0), .v (.int .u8 0), .v (.int .u8 0), .v (.int .u8 0), .v (.int .u8 0), .v (.int .u8 0), .v (.int .u8 0), .v (.int .u8 0), .v (.int .u8 0), .v (.int .u8 0), .v (.int .u8 0), .v (.int .u8 0), .v (.int .u8 0), .v (.int .u8 0), .v (.int .u8 0), .v (.int .u8 0), .v (.int .u8 0), .v (.int .u8 0), .v (.int .u8 0), .v (.int .u8 0), .v (.int .u8 0), .v (.int .u8 0), .v (.int .u8 0), .v (.int .u8 0), .v (.int .u8 0), .v (.int .u8 0)] := rfl
theorem ti_130 : ti Tryd.prog 130 = some T130 := by kernel_rfl
def T131 : TI := ⟨64, true, 64, [(.int .u8 0), (.int .u8 0), (.int .u8 0), (.int .u8 0), (.int .u8 0), (.int .u8 0), (.int .u8 0), (.int .u8 0), (.int .u8 0), (.int .u8 0), (.int .u8 0), (.int .u8 0), (.int .u8 0), (.int .u8 0), (.int .u8 0), (.int .u8 0), (.int .u8 0), (.int .u8 0), (.int .u8 0), (.int .u8 0), (.int .u8 0), (.int .u8 0), (.int .u8 0), (.int .u8 0), (.int .u8 0), (.int .u8 0), (.int .u8 0), (.int .u8 0), (.int .u8 0), (.int .u8 0), (.int .u8 0), (.int .u8 0), (.int .u8 0), (.int .u8 0), (.int .u8 0), (.int .u8 0), (.int .u8 0), (.int .u8 0), (.int .u8 0), (.int .u8 0), (.int .u8 0), (.int .u8 0), (.int .u8 0), (.int .u8 0), (.int .u8 0), (.int .u8 0), (.int .u8 0), (.int .u8 0), (.int .u8 0), (.int .u8 0), (.int .u8 0), (.int .u8 0), (.int .u8 0), (.int .u8 0), (.int .u8 0), (.int .u8 0), (.int .u8 0), (.int .u8 0), (.int .u8 0), (.int .u8 0), (.int .u8 0), (.int .u8 0), (.int .u8 0), (.int .u8 0)]⟩
theorem T131_size : T131.size = 64 := rfl
theorem T131_agg : T131.agg = true := rfl
theorem T131_bytes : T131.bytes = 64 := rfl
theorem T131_zero : T131.zero.map AV.ofC = [.v (.int .u8 0), .v (.int .u8 0), .v (.int .u8 0), .v (.int .u8 0), .v (.int .u8 0), .v (.int .u8 0), .v (.int .u8 0), .v (.int .u8 0), .v (.int .u8 0), .v (.int .u8 0), .v (.int .u8 0), .v (.int .u8 0), .v (.int .u8 0), .v (.int .u8 0), .v (.int .u8 0), .v (.int .u8 0), .v (.int .u8 0), .v (.int .u8 0), .v (.int .u8 0), .v (.int .u8 0), .v (.int .u8 0), .v (.int .u8 0), .v (.int .u8 0), .v (.int .u8 0), .v (.int .u8 0), .v (.int .u8 0), .v (.int .u8 0), .v (.int .u8 0), .v (.int .u8 0), .v (.int .u8 0), .v (.int .u8 0), .v (.int .u8 0), .v (.int .u8 0), .v (.int .u8 0), .v (.int .u8 0), .v (.int .u8 0), .v (.int .u8 0), .v (.int .u8 0), .v (.int .u8 0), .v (.int .u8 0), .v (.int .u8 0), .v (.int .u8 0), .v (.int .u8 0), .v (.int .u8 0), .v (.int .u8 0), .v (.int .u8 0), .v (.int .u8 0), .v (.int .u8 0), .v (.int .u8 0), .v (.int .u8 0), .v (.int .u8 0), .v (.int .u8 0), .v (.int .u8 0), .v (.int .u8 0), .v (.int .u8 0), .v (.int .u8 0), .v (.int .u8 0), .v (.int .u8 0), .v (.int .u8 0), .v (.int .u8 0), .v (.int .u8 0), .v (.int .u8 0), .v (.int .u8 0), .v (.int .u8 0)] := rfl
theorem ti_131 : ti Tryd.prog 131 = some T131 := by kernel_rfl
def T132 : TI := ⟨4, true, 40, [(.pointer none), (.pointer none), (.pointer none), (.string ⟨#[]⟩)]⟩
theorem T132_size : T132.size = 4 := rfl
theorem T132_agg : T132.agg = true := rfl
theorem T132_bytes : T132.bytes = 40 := rfl
theorem T132_zero : T132.zero.map AV.ofC = [.v (.pointer none), .v (.pointer none), .v (.pointer none), .v (.string ⟨#[]⟩)] := rfl
theorem ti_132 : ti Tryd.prog 132 = some T132 := by kernel_rfl
def T133 : TI := ⟨4, true, 40, [(.pointer none), (.pointer none), (.pointer none), (.string ⟨#[]⟩)]⟩
theorem T133_size : T133.size = 4 := rfl
theorem T133_agg : T133.agg = true := rfl
theorem T133_bytes : T133.bytes = 40 := rfl
theorem T133_zero : T133.zero.map AV.ofC = [.v (.pointer none), .v (.pointer none), .v (.pointer none), .v (.string ⟨#[]⟩)] := rfl
theorem ti_133 : ti Tryd.prog 133 = some T133 := by kernel_rfl
def T137 : TI := ⟨1, false, 8, [.nilFunc]⟩
theorem T137_size : T137.size = 1 := rfl
theorem T137_agg : T137.agg = false := rfl
theorem T137_bytes : T137.bytes = 8 := rfl
theorem T137_zero : T137.zero.map AV.ofC = [.v .nilFunc] := rfl
theorem ti_137 : ti Tryd.prog 137 = some T137 := by kernel_rfl
def T138 : TI := ⟨1, false, 1, [(.int .u8 0)]⟩
theorem T138_size : T138.size = 1 := rfl
theorem T138_agg : T138.agg = false := rfl
theorem T138_bytes : T138.bytes = 1 := rfl
theorem T138_zero : T138.zero.map AV.ofC = [.v (.int .u8 0)] := rfl
theorem ti_138 : ti Tryd.prog 138 = some T138 := by kernel_rfl
def T139 : TI := ⟨1, false, 1, [(.int .u8 0)]⟩
theorem T139_size : T139.size = 1 := rfl
theorem T139_agg : T139.agg = false := rfl
theorem T139_bytes : T139.bytes = 1 := rfl
theorem T139_zero : T139.zero.map AV.ofC = [.v (.int .u8 0)] := rfl
theorem ti_139 : ti Tryd.prog 139 = some T139 := by kernel_rfl
def T140 : TI := ⟨1, false, 8, [.nilFunc]⟩
theorem T140_size : T140.size = 1 := rfl
theorem T140_agg : T140.agg = false := rfl
theorem T140_bytes : T140.bytes = 8 := rfl
theorem T140_zero : T140.zero.map AV.ofC = [.v .nilFunc] := rfl
theorem ti_140 : ti Tryd.prog 140 = some T140 := by kernel_rfl
def T141 : TI := ⟨1, false, 4, [(.int .i32 0)]⟩
theorem T141_size : T141.size = 1 := rfl
theorem T141_agg : T141.agg = false := rfl
theorem T141_bytes : T141.bytes = 4 := rfl
theorem T141_zero : T141.zero.map AV.ofC = [.v (.int .i32 0)] := rfl
theorem ti_141 : ti Tryd.prog 141 = some T141 := by kernel_rfl
def T142 : TI := ⟨1, false, 4, [(.int .i32 0)]⟩
theorem T142_size : T142.size = 1 := rfl
theorem T142_agg : T142.agg = false := rfl
theorem T142_bytes : T142.bytes = 4 := rfl
theorem T142_zero : T142.zero.map AV.ofC = [.v (.int .i32 0)] := rfl
theorem ti_142 : ti Tryd.prog 142 = some T142 := by kernel_rfl
def T143 : TI := ⟨11, true, 48, [(.int .u64 0), (.int .u64 0), (.int .u32 0), (.int .u8 0), (.int .u8 0), (.int .u8 0), (.int .u8 0), .nilFunc, (.pointer none), (.int .i32 0), (.int .i32 0)]⟩
theorem T143_size : T143.size = 11 := rfl
theorem T143_agg : T143.agg = true := rfl
theorem T143_bytes : T143.bytes = 48 := rfl
theorem T143_zero : T143.zero.map AV.ofC = [.v (.int .u64 0), .v (.int .u64 0), .v (.int .u32 0), .v (.int .u8 0), .v (.int .u8 0), .v (.int .u8 0), .v (.int .u8 0), .v .nilFunc, .v (.pointer none), .v (.int .i32 0), .v (.int .i32 0)] := rfl
theorem ti_143 : ti Tryd.prog 143 = some T143 := by kernel_rfl
def T144 : TI := ⟨11, true, 48, [(.int .u64 0), (.int .u64 0), (.int .u32 0), (.int .u8 0), (.int .u8 0), (.int .u8 0), (.int .u8 0), .nilFunc, (.pointer none), (.int .i32 0), (.int .i32 0)]⟩
theorem T144_size : T144.size = 11 := rfl
theorem T144_agg : T144.agg = true := rfl
theorem T144_bytes : T144.bytes = 48 := rfl
theorem T144_zero : T144.zero.map AV.ofC = [.v (.int .u64 0), .v (.int .u64 0), .v (.int .u32 0), .v (.int .u8 0), .v (.int .u8 0), .v (.int .u8 0), .v (.int .u8 0), .v .nilFunc, .v (.pointer none), .v (.int .i32 0), .v (.int .i32 0)] := rfl
theorem ti_144 : ti Tryd.prog 144 = some T144 := by kernel_rfl
theorem td_1 : td Tryd.prog 1 = some .other := by kernel_rfl
theorem td_2 : td Tryd.prog 2 = some (.int .i64) := by kernel_rfl
theorem td_3 : td Tryd.prog 3 = some (.int .i64) := by kernel_rfl
theorem td_4 : td Tryd.prog 4 = some .other := by kernel_rfl
theorem td_5 : td Tryd.prog 5 = some (.int .u8) := by kernel_rfl
theorem td_6 : td Tryd.prog 6 = some (.int .u8) := by kernel_rfl
theorem td_7 : td Tryd.prog 7 = some (.struct [(0, T2), (1, T3), (2, T4), (3, T6)]) := by kernel_rfl
theorem td_8 : td Tryd.prog 8 = some (.struct [(0, T2), (1, T3), (2, T4), (3, T6)]) := by kernel_rfl
theorem td_9 : td Tryd.prog 9 = some .str := by kernel_rfl
theorem td_10 : td Tryd.prog 10 = some .str := by kernel_rfl
theorem td_11 : td Tryd.prog 11 = some .str := by kernel_rfl
theorem td_12 : td Tryd.prog 12 = some (.int .u64) := by kernel_rfl
theorem td_13 : td Tryd.prog 13 = some (.struct [(0, T9), (1, T12)]) := by kernel_rfl
theorem td_14 : td Tryd.prog 14 = some (.struct [(0, T9), (1, T12)]) := by kernel_rfl
theorem td_15 : td Tryd.prog 15 = some .other := by kernel_rfl
theorem td_16 : td Tryd.prog 16 = some .other := by kernel_rfl
theorem td_17 : td Tryd.prog 17 = some .other := by kernel_rfl
theorem td_18 : td Tryd.prog 18 = some (.struct [(0, T17)]) := by kernel_rfl
theorem td_19 : td Tryd.prog 19 = some (.struct [(0, T17)]) := by kernel_rfl
theorem td_20 : td Tryd.prog 20 = some .other := by kernel_rfl
theorem td_21 : td Tryd.prog 21 = some (.int .i32) := by kernel_rfl
theorem td_22 : td Tryd.prog 22 = some .other := by kernel_rfl
theorem td_23 : td Tryd.prog 23 = some (.int .i64) := by kernel_rfl
theorem td_24 : td Tryd.prog 24 = some (.struct [(0, T21), (1, T23)]) := by kernel_rfl
theorem td_25 : td Tryd.prog 25 = some (.struct [(0, T21), (1, T23)]) := by kernel_rfl
theorem td_26 : td Tryd.prog 26 = some .other := by kernel_rfl
theorem td_27 : td Tryd.prog 27 = some .other := by kernel_rfl
theorem td_28 : td Tryd.prog 28 = some .other := by kernel_rfl
theorem td_29 : td Tryd.prog 29 = some .other := by kernel_rfl
theorem td_30 : td Tryd.prog 30 = some .other := by kernel_rfl
theorem td_31 : td Tryd.prog 31 = some (.int .i16) := by kernel_rfl
theorem td_32 : td Tryd.prog 32 = some .other := by kernel_rfl
theorem td_33 : td Tryd.prog 33 = some (.int .u64) := by kernel_rfl
theorem td_34 : td Tryd.prog 34 = some .other := by kernel_rfl
theorem td_35 : td Tryd.prog 35 = some (.struct [(0, T9), (1, T23)]) := by kernel_rfl
theorem td_36 : td Tryd.prog 36 = some (.struct [(0, T9), (1, T23)]) := by kernel_rfl
theorem td_37 : td Tryd.prog 37 = some .other := by kernel_rfl
theorem td_38 : td Tryd.prog 38 = some .other := by kernel_rfl
theorem td_39 : td Tryd.prog 39 = some .other := by kernel_rfl
theorem td_40 : td Tryd.prog 40 = some .other := by kernel_rfl
theorem td_41 : td Tryd.prog 41 = some (.array 2 T3) := by kernel_rfl
theorem td_42 : td Tryd.prog 42 = some (.array 2 T21) := by kernel_rfl
theorem td_43 : td Tryd.prog 43 = some (.struct [(0, T3), (1, T23)]) := by kernel_rfl
theorem td_44 : td Tryd.prog 44 = some (.struct [(0, T3), (1, T23)]) := by kernel_rfl
theorem td_45 : td Tryd.prog 45 = some .other := by kernel_rfl
theorem td_46 : td Tryd.prog 46 = some .other := by kernel_rfl
theorem td_47 : td Tryd.prog 47 = some .other := by kernel_rfl
theorem td_49 : td Tryd.prog 49 = some .other := by kernel_rfl
theorem td_50 : td Tryd.prog 50 = some .other := by kernel_rfl
theorem td_51 : td Tryd.prog 51 = some .other := by kernel_rfl
theorem td_52 : td Tryd.prog 52 = some .other := by kernel_rfl
theorem td_53 : td Tryd.prog 53 = some .other := by kernel_rfl
theorem td_54 : td Tryd.prog 54 = some .other := by kernel_rfl
theorem td_55 : td Tryd.prog 55 = some .other := by kernel_rfl
theorem td_56 : td Tryd.prog 56 = some .other := by kernel_rfl
theorem td_58 : td Tryd.prog 58 = some .other := by kernel_rfl
theorem td_59 : td Tryd.prog 59 = some .other := by kernel_rfl
theorem td_60 : td Tryd.prog 60 = some .other := by kernel_rfl
theorem td_61 : td Tryd.prog 61 = some .other := by kernel_rfl
theorem td_62 : td Tryd.prog 62 = some .other := by kernel_rfl
theorem td_64 : td Tryd.prog 64 = some .other := by kernel_rfl
theorem td_65 : td Tryd.prog 65 = some .other := by kernel_rfl
theorem td_66 : td Tryd.prog 66 = some .other := by kernel_rfl
theorem td_67 : td Tryd.prog 67 = some (.int .u32) := by kernel_rfl
theorem td_68 : td Tryd.prog 68 = some (.int .u64) := by kernel_rfl
theorem td_70 : td Tryd.prog 70 = some .other := by kernel_rfl
theorem td_71 : td Tryd.prog 71 = some .other := by kernel_rfl
theorem td_72 : td Tryd.prog 72 = some .other := by kernel_rfl
theorem td_73 : td Tryd.prog 73 = some .other := by kernel_rfl
theorem td_74 : td Tryd.prog 74 = some .other := by kernel_rfl
theorem td_75 : td Tryd.prog 75 = some .other := by kernel_rfl
theorem td_77 : td Tryd.prog 77 = some .other := by kernel_rfl
theorem td_78 : td Tryd.prog 78 = some .other := by kernel_rfl
theorem td_80 : td Tryd.prog 80 = some .other := by kernel_rfl
theorem td_81 : td Tryd.prog 81 = some .other := by kernel_rfl
theorem td_82 : td Tryd.prog 82 = some .other := by kernel_rfl
theorem td_83 : td Tryd.prog 83 = some (.slice T5) := by kernel_rfl
theorem td_84 : td Tryd.prog 84 = some (.struct [(0, T82), (1, T83)]) := by kernel_rfl
theorem td_85 : td Tryd.prog 85 = some (.struct [(0, T82), (1, T83)]) := by kernel_rfl
theorem td_86 : td Tryd.prog 86 = some .other := by kernel_rfl
theorem td_88 : td Tryd.prog 88 = some .other := by kernel_rfl
theorem td_89 : td Tryd.prog 89 = some .other := by kernel_rfl
theorem td_90 : td Tryd.prog 90 = some .other := by kernel_rfl
theorem td_91 : td Tryd.prog 91 = some .other := by kernel_rfl
theorem td_93 : td Tryd.prog 93 = some .other := by kernel_rfl
theorem td_95 : td Tryd.prog 95 = some .other := by kernel_rfl
theorem td_97 : td Tryd.prog 97 = some .other := by kernel_rfl
theorem td_98 : td Tryd.prog 98 = some .other := by kernel_rfl
theorem td_99 : td Tryd.prog 99 = some (.int .i64) := by kernel_rfl
theorem td_100 : td Tryd.prog 100 = some .other := by kernel_rfl
theorem td_101 : td Tryd.prog 101 = some .other := by kernel_rfl
theorem td_102 : td Tryd.prog 102 = some .other := by kernel_rfl
theorem td_103 : td Tryd.prog 103 = some (.array 24 T5) := by kernel_rfl
theorem td_104 : td Tryd.prog 104 = some .other := by kernel_rfl
theorem td_105 : td Tryd.prog 105 = some .other := by kernel_rfl
theorem td_107 : td Tryd.prog 107 = some .other := by kernel_rfl
theorem td_109 : td Tryd.prog 109 = some .other := by kernel_rfl
theorem td_110 : td Tryd.prog 110 = some .other := by kernel_rfl
theorem td_111 : td Tryd.prog 111 = some .other := by kernel_rfl
theorem td_112 : td Tryd.prog 112 = some .other := by kernel_rfl
theorem td_113 : td Tryd.prog 113 = some (.struct [(0, T9), (1, T9), (2, T75)]) := by kernel_rfl
theorem td_114 : td Tryd.prog 114 = some (.struct [(0, T9), (1, T9), (2, T75)]) := by kernel_rfl
theorem td_115 : td Tryd.prog 115 = some .other := by kernel_rfl
theorem td_116 : td Tryd.prog 116 = some .other := by kernel_rfl
theorem td_117 : td Tryd.prog 117 = some .other := by kernel_rfl
theorem td_118 : td Tryd.prog 118 = some .other := by kernel_rfl
theorem td_119 : td Tryd.prog 119 = some .other := by kernel_rfl
theorem td_120 : td Tryd.prog 120 = some (.array 20 T68) := by kernel_rfl
theorem td_121 : td Tryd.prog 121 = some (.array 65 T5) := by kernel_rfl
theorem td_122 : td Tryd.prog 122 = some .other := by kernel_rfl
theorem td_123 : td Tryd.prog 123 = some .other := by kernel_rfl
theorem td_124 : td Tryd.prog 124 = some (.struct [(0, T9)]) := by kernel_rfl
theorem td_125 : td Tryd.prog 125 = some (.struct [(0, T9)]) := by kernel_rfl
theorem td_126 : td Tryd.prog 126 = some .other := by kernel_rfl
theorem td_127 : td Tryd.prog 127 = some .other := by kernel_rfl
theorem td_129 : td Tryd.prog 129 = some .other := by kernel_rfl
theorem td_130 : td Tryd.prog 130 = some (.array 32 T5) := by kernel_rfl
theorem td_131 : td Tryd.prog 131 = some (.array 64 T5) := by kernel_rfl
theorem td_132 : td Tryd.prog 132 = some (.struct [(0, T17), (1, T17), (2, T17), (3, T9)]) := by kernel_rfl
theorem td_133 : td Tryd.prog 133 = some (.struct [(0, T17), (1, T17), (2, T17), (3, T9)]) := by kernel_rfl
theorem td_134 : td Tryd.prog 134 = some (.array 0 T16) := by kernel_rfl
theorem td_137 : td Tryd.prog 137 = some .other := by kernel_rfl
theorem td_138 : td Tryd.prog 138 = some (.int .u8) := by kernel_rfl
theorem td_139 : td Tryd.prog 139 = some (.int .u8) := by kernel_rfl
theorem td_140 : td Tryd.prog 140 = some .other := by kernel_rfl
theorem td_141 : td Tryd.prog 141 = some (.int .i32) := by kernel_rfl
theorem td_142 : td Tryd.prog 142 = some (.int .i32) := by kernel_rfl
theorem td_143 : td Tryd.prog 143 = some (.struct [(0, T12), (1, T12), (2, T67), (3, T138), (4, T5), (5, T5), (6, T139), (7, T140), (8, T98), (9, T141), (10, T142)]) := by kernel_rfl
theorem td_144 : td Tryd.prog 144 = some (.struct [(0, T12), (1, T12), (2, T67), (3, T138), (4, T5), (5, T5), (6, T139), (7, T140), (8, T98), (9, T141), (10, T142)]) := by kernel_rfl
theorem isb_4 : isBoolT Tryd.prog 4 = true := by kernel_rfl
theorem pl_25 : plC Tryd.prog 25 = some [.int .i32, .int .i64] := by kernel_rfl
theorem pl_36 : plC Tryd.prog 36 = some [.str, .int .i64] := by kernel_rfl
theorem pl_41 : plC Tryd.prog 41 = some [.int .i64, .int .i64] := by kernel_rfl
theorem pl_42 : plC Tryd.prog 42 = some [.int .i32, .int .i32] := by kernel_rfl
theorem pl_44 : plC Tryd.prog 44 = some [.int .i64, .int .i64] := by kernel_rfl
theorem pl_103 : plC Tryd.prog 103 = some [.int .u8, .int .u8, .int .u8, .int .u8, .int .u8, .int .u8, .int .u8, .int .u8, .int .u8, .int .u8, .int .u8, .int .u8, .int .u8, .int .u8, .int .u8, .int .u8, .int .u8, .int .u8, .int .u8, .int .u8, .int .u8, .int .u8, .int .u8, .int .u8] := by kernel_rfl
theorem pl_120 : plC Tryd.prog 120 = some [.int .u64, .int .u64, .int .u64, .int .u64, .int .u64, .int .u64, .int .u64, .int .u64, .int .u64, .int .u64, .int .u64, .int .u64, .int .u64, .int .u64, .int .u64, .int .u64, .int .u64, .int .u64, .int .u64, .int .u64] := by kernel_rfl
theorem pl_130 : plC Tryd.prog 130 = some [.int .u8, .int .u8, .int .u8, .int .u8, .int .u8, .int .u8, .int .u8, .int .u8, .int .u8, .int .u8, .int .u8, .int .u8, .int .u8, .int .u8, .int .u8, .int .u8, .int .u8, .int .u8, .int .u8, .int .u8, .int .u8, .int .u8, .int .u8, .int .u8, .int .u8, .int .u8, .int .u8, .int .u8, .int .u8, .int .u8, .int .u8, .int .u8] := by kernel_rfl
theorem pl_131 : plC Tryd.prog 131 = some [.int .u8, .int .u8, .int .u8, .int .u8, .int .u8, .int .u8, .int .u8, .int .u8, .int .u8, .int .u8, .int .u8, .int .u8, .int .u8, .int .u8, .int .u8, .int .u8, .int .u8, .int .u8, .int .u8, .int .u8, .int .u8, .int .u8, .int .u8, .int .u8, .int .u8, .int .u8, .int .u8, .int .u8, .int .u8, .int .u8, .int .u8, .int .u8, .int .u8, .int .u8, .int .u8, .int .u8, .int .u8, .int .u8, .int .u8, .int .u8, .int .u8, .int .u8, .int .u8, .int .u8, .int .u8, .int .u8, .int .u8, .int .u8, .int .u8, .int .u8, .int .u8, .int .u8, .int .u8, .int .u8, .int .u8, .int .u8, .int .u8, .int .u8, .int .u8, .int .u8, .int .u8, .int .u8, .int .u8, .int .u8] := by kernel_rfl
end Go.Proofs.YtngpbbpnnpfocaaDoor
