/- The tables of the seat for the evaluator, printed by gen_tab.py. -/
import Derived.Test.YtmhajfnfjjbflaaGreatDoorProg
import Derived.Test.YtmhajfnfjjbflaaGreatDoorEvone
namespace Go.Proofs.YtmhajfnfjjbflaaGreatDoor.Ev
open Go Go.Proofs
set_option maxRecDepth 100000
noncomputable def ti_1 : TI := { kind := TK.fn, size := 1, bytes := 8, zero := [AV.nilf], zg := false }
noncomputable def ti_2 : TI := { kind := TK.int IntKind.i64, size := 1, bytes := 8, zero := [AV.int IntKind.i64 (Int.ofNat 0)], zg := false }
noncomputable def ti_3 : TI := { kind := TK.int IntKind.i64, size := 1, bytes := 8, zero := [AV.int IntKind.i64 (Int.ofNat 0)], zg := false }
noncomputable def ti_4 : TI := { kind := TK.bool, size := 1, bytes := 1, zero := [AV.bool false], zg := false }
noncomputable def ti_5 : TI := { kind := TK.int IntKind.u8, size := 1, bytes := 1, zero := [AV.int IntKind.u8 (Int.ofNat 0)], zg := false }
noncomputable def ti_6 : TI := { kind := TK.int IntKind.u8, size := 1, bytes := 1, zero := [AV.int IntKind.u8 (Int.ofNat 0)], zg := false }
noncomputable def ti_7 : TI := { kind := TK.st [(0, 2), (1, 3), (2, 4), (3, 6)], size := 4, bytes := 24, zero := [AV.int IntKind.i64 (Int.ofNat 0), AV.int IntKind.i64 (Int.ofNat 0), AV.bool false, AV.int IntKind.u8 (Int.ofNat 0)], zg := true }
noncomputable def ti_8 : TI := { kind := TK.st [(0, 2), (1, 3), (2, 4), (3, 6)], size := 4, bytes := 24, zero := [AV.int IntKind.i64 (Int.ofNat 0), AV.int IntKind.i64 (Int.ofNat 0), AV.bool false, AV.int IntKind.u8 (Int.ofNat 0)], zg := true }
noncomputable def ti_9 : TI := { kind := TK.str, size := 1, bytes := 16, zero := [AV.str { len := 0, val := 0 }], zg := false }
noncomputable def ti_10 : TI := { kind := TK.str, size := 1, bytes := 16, zero := [AV.str { len := 0, val := 0 }], zg := false }
noncomputable def ti_11 : TI := { kind := TK.str, size := 1, bytes := 16, zero := [AV.str { len := 0, val := 0 }], zg := false }
noncomputable def ti_12 : TI := { kind := TK.int IntKind.u64, size := 1, bytes := 8, zero := [AV.int IntKind.u64 (Int.ofNat 0)], zg := false }
noncomputable def ti_13 : TI := { kind := TK.st [(0, 9), (1, 12)], size := 2, bytes := 24, zero := [AV.str { len := 0, val := 0 }, AV.int IntKind.u64 (Int.ofNat 0)], zg := true }
noncomputable def ti_14 : TI := { kind := TK.st [(0, 9), (1, 12)], size := 2, bytes := 24, zero := [AV.str { len := 0, val := 0 }, AV.int IntKind.u64 (Int.ofNat 0)], zg := true }
noncomputable def ti_15 : TI := { kind := TK.ptr 417, size := 1, bytes := 8, zero := [AV.nilp], zg := false }
noncomputable def ti_16 : TI := { kind := TK.ptr 420, size := 1, bytes := 8, zero := [AV.nilp], zg := false }
noncomputable def ti_17 : TI := { kind := TK.ptr 427, size := 1, bytes := 8, zero := [AV.nilp], zg := false }
noncomputable def ti_18 : TI := { kind := TK.st [(0, 17)], size := 1, bytes := 8, zero := [AV.nilp], zg := true }
noncomputable def ti_19 : TI := { kind := TK.st [(0, 17)], size := 1, bytes := 8, zero := [AV.nilp], zg := true }
noncomputable def ti_20 : TI := { kind := TK.ifc, size := 1, bytes := 16, zero := [AV.nili], zg := false }
noncomputable def ti_21 : TI := { kind := TK.int IntKind.i32, size := 1, bytes := 4, zero := [AV.int IntKind.i32 (Int.ofNat 0)], zg := false }
noncomputable def ti_22 : TI := { kind := TK.fn, size := 1, bytes := 8, zero := [AV.nilf], zg := false }
noncomputable def ti_23 : TI := { kind := TK.int IntKind.u64, size := 1, bytes := 8, zero := [AV.int IntKind.u64 (Int.ofNat 0)], zg := false }
noncomputable def ti_24 : TI := { kind := TK.sl 5, size := 1, bytes := 24, zero := [AV.nils], zg := false }
noncomputable def ti_25 : TI := { kind := TK.ptr 115, size := 1, bytes := 8, zero := [AV.nilp], zg := false }
noncomputable def ti_26 : TI := { kind := TK.fn, size := 1, bytes := 8, zero := [AV.nilf], zg := false }
noncomputable def ti_27 : TI := { kind := TK.sl 9, size := 1, bytes := 24, zero := [AV.nils], zg := false }
noncomputable def ti_28 : TI := { kind := TK.st [(0, 9), (1, 9), (2, 9), (3, 27)], size := 4, bytes := 72, zero := [AV.str { len := 0, val := 0 }, AV.str { len := 0, val := 0 }, AV.str { len := 0, val := 0 }, AV.nils], zg := true }
noncomputable def ti_29 : TI := { kind := TK.st [(0, 9), (1, 9), (2, 9), (3, 27)], size := 4, bytes := 72, zero := [AV.str { len := 0, val := 0 }, AV.str { len := 0, val := 0 }, AV.str { len := 0, val := 0 }, AV.nils], zg := true }
noncomputable def ti_30 : TI := { kind := TK.fn, size := 1, bytes := 8, zero := [AV.nilf], zg := false }
noncomputable def ti_31 : TI := { kind := TK.st [(0, 24), (1, 4)], size := 2, bytes := 32, zero := [AV.nils, AV.bool false], zg := true }
noncomputable def ti_32 : TI := { kind := TK.st [(0, 24), (1, 4)], size := 2, bytes := 32, zero := [AV.nils, AV.bool false], zg := true }
noncomputable def ti_33 : TI := { kind := TK.sl 32, size := 1, bytes := 24, zero := [AV.nils], zg := false }
noncomputable def ti_34 : TI := { kind := TK.sl 59, size := 1, bytes := 24, zero := [AV.nils], zg := false }
noncomputable def ti_36 : TI := { kind := TK.fn, size := 1, bytes := 8, zero := [AV.nilf], zg := false }
noncomputable def ti_37 : TI := { kind := TK.ptr 55, size := 1, bytes := 8, zero := [AV.nilp], zg := false }
noncomputable def ti_38 : TI := { kind := TK.st [], size := 0, bytes := 0, zero := [], zg := true }
noncomputable def ti_39 : TI := { kind := TK.st [], size := 0, bytes := 0, zero := [], zg := true }
noncomputable def ti_40 : TI := { kind := TK.st [], size := 0, bytes := 0, zero := [], zg := true }
noncomputable def ti_41 : TI := { kind := TK.int IntKind.u32, size := 1, bytes := 4, zero := [AV.int IntKind.u32 (Int.ofNat 0)], zg := false }
noncomputable def ti_42 : TI := { kind := TK.st [(0, 40), (0, 41)], size := 1, bytes := 4, zero := [AV.int IntKind.u32 (Int.ofNat 0)], zg := true }
noncomputable def ti_43 : TI := { kind := TK.st [(0, 40), (0, 41)], size := 1, bytes := 4, zero := [AV.int IntKind.u32 (Int.ofNat 0)], zg := true }
noncomputable def ti_44 : TI := { kind := TK.st [(0, 21), (1, 41)], size := 2, bytes := 8, zero := [AV.int IntKind.i32 (Int.ofNat 0), AV.int IntKind.u32 (Int.ofNat 0)], zg := true }
noncomputable def ti_45 : TI := { kind := TK.st [(0, 21), (1, 41)], size := 2, bytes := 8, zero := [AV.int IntKind.i32 (Int.ofNat 0), AV.int IntKind.u32 (Int.ofNat 0)], zg := true }
noncomputable def ti_46 : TI := { kind := TK.st [(0, 39), (0, 45)], size := 2, bytes := 8, zero := [AV.int IntKind.i32 (Int.ofNat 0), AV.int IntKind.u32 (Int.ofNat 0)], zg := true }
noncomputable def ti_47 : TI := { kind := TK.st [(0, 39), (0, 45)], size := 2, bytes := 8, zero := [AV.int IntKind.i32 (Int.ofNat 0), AV.int IntKind.u32 (Int.ofNat 0)], zg := true }
noncomputable def ti_48 : TI := { kind := TK.st [(0, 39), (0, 43), (1, 47)], size := 3, bytes := 12, zero := [AV.int IntKind.u32 (Int.ofNat 0), AV.int IntKind.i32 (Int.ofNat 0), AV.int IntKind.u32 (Int.ofNat 0)], zg := true }
noncomputable def ti_49 : TI := { kind := TK.st [(0, 39), (0, 43), (1, 47)], size := 3, bytes := 12, zero := [AV.int IntKind.u32 (Int.ofNat 0), AV.int IntKind.i32 (Int.ofNat 0), AV.int IntKind.u32 (Int.ofNat 0)], zg := true }
noncomputable def ti_50 : TI := { kind := TK.st [], size := 0, bytes := 0, zero := [], zg := true }
noncomputable def ti_51 : TI := { kind := TK.st [(0, 40), (0, 50), (0, 2)], size := 1, bytes := 8, zero := [AV.int IntKind.i64 (Int.ofNat 0)], zg := true }
noncomputable def ti_52 : TI := { kind := TK.st [(0, 40), (0, 50), (0, 2)], size := 1, bytes := 8, zero := [AV.int IntKind.i64 (Int.ofNat 0)], zg := true }
noncomputable def ti_53 : TI := { kind := TK.map 9 9, size := 1, bytes := 8, zero := [AV.nilm], zg := false }
noncomputable def ti_54 : TI := { kind := TK.st [(0, 49), (3, 52), (4, 53), (5, 53)], size := 6, bytes := 40, zero := [AV.int IntKind.u32 (Int.ofNat 0), AV.int IntKind.i32 (Int.ofNat 0), AV.int IntKind.u32 (Int.ofNat 0), AV.int IntKind.i64 (Int.ofNat 0), AV.nilm, AV.nilm], zg := true }
noncomputable def ti_55 : TI := { kind := TK.st [(0, 49), (3, 52), (4, 53), (5, 53)], size := 6, bytes := 40, zero := [AV.int IntKind.u32 (Int.ofNat 0), AV.int IntKind.i32 (Int.ofNat 0), AV.int IntKind.u32 (Int.ofNat 0), AV.int IntKind.i64 (Int.ofNat 0), AV.nilm, AV.nilm], zg := true }
noncomputable def ti_56 : TI := { kind := TK.fn, size := 1, bytes := 8, zero := [AV.nilf], zg := false }
noncomputable def ti_57 : TI := { kind := TK.int IntKind.i64, size := 1, bytes := 8, zero := [AV.int IntKind.i64 (Int.ofNat 0)], zg := false }
noncomputable def ti_58 : TI := { kind := TK.st [(0, 57), (1, 9)], size := 2, bytes := 24, zero := [AV.int IntKind.i64 (Int.ofNat 0), AV.str { len := 0, val := 0 }], zg := true }
noncomputable def ti_59 : TI := { kind := TK.st [(0, 57), (1, 9)], size := 2, bytes := 24, zero := [AV.int IntKind.i64 (Int.ofNat 0), AV.str { len := 0, val := 0 }], zg := true }
noncomputable def ti_60 : TI := { kind := TK.fn, size := 1, bytes := 8, zero := [AV.nilf], zg := false }
noncomputable def ti_61 : TI := { kind := TK.fn, size := 1, bytes := 8, zero := [AV.nilf], zg := false }
noncomputable def ti_62 : TI := { kind := TK.int IntKind.i64, size := 1, bytes := 8, zero := [AV.int IntKind.i64 (Int.ofNat 0)], zg := false }
noncomputable def ti_63 : TI := { kind := TK.st [(0, 4), (1, 9), (2, 3)], size := 3, bytes := 32, zero := [AV.bool false, AV.str { len := 0, val := 0 }, AV.int IntKind.i64 (Int.ofNat 0)], zg := true }
noncomputable def ti_64 : TI := { kind := TK.st [(0, 4), (1, 9), (2, 3)], size := 3, bytes := 32, zero := [AV.bool false, AV.str { len := 0, val := 0 }, AV.int IntKind.i64 (Int.ofNat 0)], zg := true }
noncomputable def ti_65 : TI := { kind := TK.st [(0, 3), (1, 3), (2, 3), (3, 4), (4, 4)], size := 5, bytes := 32, zero := [AV.int IntKind.i64 (Int.ofNat 0), AV.int IntKind.i64 (Int.ofNat 0), AV.int IntKind.i64 (Int.ofNat 0), AV.bool false, AV.bool false], zg := true }
noncomputable def ti_66 : TI := { kind := TK.st [(0, 3), (1, 3), (2, 3), (3, 4), (4, 4)], size := 5, bytes := 32, zero := [AV.int IntKind.i64 (Int.ofNat 0), AV.int IntKind.i64 (Int.ofNat 0), AV.int IntKind.i64 (Int.ofNat 0), AV.bool false, AV.bool false], zg := true }
noncomputable def ti_67 : TI := { kind := TK.int IntKind.i64, size := 1, bytes := 8, zero := [AV.int IntKind.i64 (Int.ofNat 0)], zg := false }
noncomputable def ti_68 : TI := { kind := TK.st [(0, 62), (1, 9), (2, 64), (5, 66), (10, 2), (11, 67)], size := 12, bytes := 104, zero := [AV.int IntKind.i64 (Int.ofNat 0), AV.str { len := 0, val := 0 }, AV.bool false, AV.str { len := 0, val := 0 }, AV.int IntKind.i64 (Int.ofNat 0), AV.int IntKind.i64 (Int.ofNat 0), AV.int IntKind.i64 (Int.ofNat 0), AV.int IntKind.i64 (Int.ofNat 0), AV.bool false, AV.bool false, AV.int IntKind.i64 (Int.ofNat 0), AV.int IntKind.i64 (Int.ofNat 0)], zg := true }
noncomputable def ti_69 : TI := { kind := TK.st [(0, 62), (1, 9), (2, 64), (5, 66), (10, 2), (11, 67)], size := 12, bytes := 104, zero := [AV.int IntKind.i64 (Int.ofNat 0), AV.str { len := 0, val := 0 }, AV.bool false, AV.str { len := 0, val := 0 }, AV.int IntKind.i64 (Int.ofNat 0), AV.int IntKind.i64 (Int.ofNat 0), AV.int IntKind.i64 (Int.ofNat 0), AV.int IntKind.i64 (Int.ofNat 0), AV.bool false, AV.bool false, AV.int IntKind.i64 (Int.ofNat 0), AV.int IntKind.i64 (Int.ofNat 0)], zg := true }
noncomputable def ti_70 : TI := { kind := TK.fn, size := 1, bytes := 8, zero := [AV.nilf], zg := false }
noncomputable def ti_71 : TI := { kind := TK.map 9 69, size := 1, bytes := 8, zero := [AV.nilm], zg := false }
noncomputable def ti_72 : TI := { kind := TK.fn, size := 1, bytes := 8, zero := [AV.nilf], zg := false }
noncomputable def ti_73 : TI := { kind := TK.fn, size := 1, bytes := 8, zero := [AV.nilf], zg := false }
noncomputable def ti_74 : TI := { kind := TK.fn, size := 1, bytes := 8, zero := [AV.nilf], zg := false }
noncomputable def ti_75 : TI := { kind := TK.fn, size := 1, bytes := 8, zero := [AV.nilf], zg := false }
noncomputable def ti_76 : TI := { kind := TK.fn, size := 1, bytes := 8, zero := [AV.nilf], zg := false }
noncomputable def ti_77 : TI := { kind := TK.fn, size := 1, bytes := 8, zero := [AV.nilf], zg := false }
noncomputable def ti_79 : TI := { kind := TK.fn, size := 1, bytes := 8, zero := [AV.nilf], zg := false }
noncomputable def ti_80 : TI := { kind := TK.int IntKind.i64, size := 1, bytes := 8, zero := [AV.int IntKind.i64 (Int.ofNat 0)], zg := false }
noncomputable def ti_81 : TI := { kind := TK.sl 150, size := 1, bytes := 24, zero := [AV.nils], zg := false }
noncomputable def ti_82 : TI := { kind := TK.sl 123, size := 1, bytes := 24, zero := [AV.nils], zg := false }
noncomputable def ti_83 : TI := { kind := TK.st [(0, 80), (1, 3), (2, 9), (3, 9), (4, 81), (5, 82), (6, 3), (7, 3)], size := 8, bytes := 112, zero := [AV.int IntKind.i64 (Int.ofNat 0), AV.int IntKind.i64 (Int.ofNat 0), AV.str { len := 0, val := 0 }, AV.str { len := 0, val := 0 }, AV.nils, AV.nils, AV.int IntKind.i64 (Int.ofNat 0), AV.int IntKind.i64 (Int.ofNat 0)], zg := true }
noncomputable def ti_84 : TI := { kind := TK.st [(0, 80), (1, 3), (2, 9), (3, 9), (4, 81), (5, 82), (6, 3), (7, 3)], size := 8, bytes := 112, zero := [AV.int IntKind.i64 (Int.ofNat 0), AV.int IntKind.i64 (Int.ofNat 0), AV.str { len := 0, val := 0 }, AV.str { len := 0, val := 0 }, AV.nils, AV.nils, AV.int IntKind.i64 (Int.ofNat 0), AV.int IntKind.i64 (Int.ofNat 0)], zg := true }
noncomputable def ti_86 : TI := { kind := TK.fn, size := 1, bytes := 8, zero := [AV.nilf], zg := false }
noncomputable def ti_88 : TI := { kind := TK.fn, size := 1, bytes := 8, zero := [AV.nilf], zg := false }
noncomputable def ti_89 : TI := { kind := TK.ptr 92, size := 1, bytes := 8, zero := [AV.nilp], zg := false }
noncomputable def ti_90 : TI := { kind := TK.map 9 4, size := 1, bytes := 8, zero := [AV.nilm], zg := false }
noncomputable def ti_91 : TI := { kind := TK.st [(0, 25), (1, 37), (2, 9), (3, 71), (4, 90), (5, 3), (6, 34)], size := 7, bytes := 80, zero := [AV.nilp, AV.nilp, AV.str { len := 0, val := 0 }, AV.nilm, AV.nilm, AV.int IntKind.i64 (Int.ofNat 0), AV.nils], zg := true }
noncomputable def ti_92 : TI := { kind := TK.st [(0, 25), (1, 37), (2, 9), (3, 71), (4, 90), (5, 3), (6, 34)], size := 7, bytes := 80, zero := [AV.nilp, AV.nilp, AV.str { len := 0, val := 0 }, AV.nilm, AV.nilm, AV.int IntKind.i64 (Int.ofNat 0), AV.nils], zg := true }
noncomputable def ti_94 : TI := { kind := TK.fn, size := 1, bytes := 8, zero := [AV.nilf], zg := false }
noncomputable def ti_95 : TI := { kind := TK.fn, size := 1, bytes := 8, zero := [AV.nilf], zg := false }
noncomputable def ti_96 : TI := { kind := TK.arr 10 9, size := 10, bytes := 160, zero := [AV.str { len := 0, val := 0 }, AV.str { len := 0, val := 0 }, AV.str { len := 0, val := 0 }, AV.str { len := 0, val := 0 }, AV.str { len := 0, val := 0 }, AV.str { len := 0, val := 0 }, AV.str { len := 0, val := 0 }, AV.str { len := 0, val := 0 }, AV.str { len := 0, val := 0 }, AV.str { len := 0, val := 0 }], zg := true }
noncomputable def ti_97 : TI := { kind := TK.sl 111, size := 1, bytes := 24, zero := [AV.nils], zg := false }
noncomputable def ti_98 : TI := { kind := TK.int IntKind.i64, size := 1, bytes := 8, zero := [AV.int IntKind.i64 (Int.ofNat 0)], zg := false }
noncomputable def ti_100 : TI := { kind := TK.fn, size := 1, bytes := 8, zero := [AV.nilf], zg := false }
noncomputable def ti_101 : TI := { kind := TK.sl 106, size := 1, bytes := 24, zero := [AV.nils], zg := false }
noncomputable def ti_102 : TI := { kind := TK.fn, size := 1, bytes := 8, zero := [AV.nilf], zg := false }
noncomputable def ti_103 : TI := { kind := TK.st [(0, 9), (1, 34), (2, 9)], size := 3, bytes := 56, zero := [AV.str { len := 0, val := 0 }, AV.nils, AV.str { len := 0, val := 0 }], zg := true }
noncomputable def ti_104 : TI := { kind := TK.st [(0, 9), (1, 34), (2, 9)], size := 3, bytes := 56, zero := [AV.str { len := 0, val := 0 }, AV.nils, AV.str { len := 0, val := 0 }], zg := true }
noncomputable def ti_105 : TI := { kind := TK.st [(0, 98), (1, 27), (2, 3), (3, 104), (6, 4)], size := 7, bytes := 104, zero := [AV.int IntKind.i64 (Int.ofNat 0), AV.nils, AV.int IntKind.i64 (Int.ofNat 0), AV.str { len := 0, val := 0 }, AV.nils, AV.str { len := 0, val := 0 }, AV.bool false], zg := true }
noncomputable def ti_106 : TI := { kind := TK.st [(0, 98), (1, 27), (2, 3), (3, 104), (6, 4)], size := 7, bytes := 104, zero := [AV.int IntKind.i64 (Int.ofNat 0), AV.nils, AV.int IntKind.i64 (Int.ofNat 0), AV.str { len := 0, val := 0 }, AV.nils, AV.str { len := 0, val := 0 }, AV.bool false], zg := true }
noncomputable def ti_107 : TI := { kind := TK.fn, size := 1, bytes := 8, zero := [AV.nilf], zg := false }
noncomputable def ti_108 : TI := { kind := TK.int IntKind.i64, size := 1, bytes := 8, zero := [AV.int IntKind.i64 (Int.ofNat 0)], zg := false }
noncomputable def ti_109 : TI := { kind := TK.sl 165, size := 1, bytes := 24, zero := [AV.nils], zg := false }
noncomputable def ti_110 : TI := { kind := TK.st [(0, 108), (1, 9), (2, 9), (3, 4), (4, 27), (5, 9), (6, 9), (7, 109)], size := 8, bytes := 128, zero := [AV.int IntKind.i64 (Int.ofNat 0), AV.str { len := 0, val := 0 }, AV.str { len := 0, val := 0 }, AV.bool false, AV.nils, AV.str { len := 0, val := 0 }, AV.str { len := 0, val := 0 }, AV.nils], zg := true }
noncomputable def ti_111 : TI := { kind := TK.st [(0, 108), (1, 9), (2, 9), (3, 4), (4, 27), (5, 9), (6, 9), (7, 109)], size := 8, bytes := 128, zero := [AV.int IntKind.i64 (Int.ofNat 0), AV.str { len := 0, val := 0 }, AV.str { len := 0, val := 0 }, AV.bool false, AV.nils, AV.str { len := 0, val := 0 }, AV.str { len := 0, val := 0 }, AV.nils], zg := true }
noncomputable def ti_112 : TI := { kind := TK.fn, size := 1, bytes := 8, zero := [AV.nilf], zg := false }
noncomputable def ti_113 : TI := { kind := TK.map 9 84, size := 1, bytes := 8, zero := [AV.nilm], zg := false }
noncomputable def ti_114 : TI := { kind := TK.st [(0, 29), (4, 113), (5, 113)], size := 6, bytes := 88, zero := [AV.str { len := 0, val := 0 }, AV.str { len := 0, val := 0 }, AV.str { len := 0, val := 0 }, AV.nils, AV.nilm, AV.nilm], zg := true }
noncomputable def ti_115 : TI := { kind := TK.st [(0, 29), (4, 113), (5, 113)], size := 6, bytes := 88, zero := [AV.str { len := 0, val := 0 }, AV.str { len := 0, val := 0 }, AV.str { len := 0, val := 0 }, AV.nils, AV.nilm, AV.nilm], zg := true }
noncomputable def ti_116 : TI := { kind := TK.sl 84, size := 1, bytes := 24, zero := [AV.nils], zg := false }
noncomputable def ti_117 : TI := { kind := TK.fn, size := 1, bytes := 8, zero := [AV.nilf], zg := false }
noncomputable def ti_118 : TI := { kind := TK.fn, size := 1, bytes := 8, zero := [AV.nilf], zg := false }
noncomputable def ti_119 : TI := { kind := TK.fn, size := 1, bytes := 8, zero := [AV.nilf], zg := false }
noncomputable def ti_120 : TI := { kind := TK.fn, size := 1, bytes := 8, zero := [AV.nilf], zg := false }
noncomputable def ti_121 : TI := { kind := TK.fn, size := 1, bytes := 8, zero := [AV.nilf], zg := false }
noncomputable def ti_122 : TI := { kind := TK.st [(0, 9), (1, 81)], size := 2, bytes := 40, zero := [AV.str { len := 0, val := 0 }, AV.nils], zg := true }
noncomputable def ti_123 : TI := { kind := TK.st [(0, 9), (1, 81)], size := 2, bytes := 40, zero := [AV.str { len := 0, val := 0 }, AV.nils], zg := true }
noncomputable def ti_124 : TI := { kind := TK.fn, size := 1, bytes := 8, zero := [AV.nilf], zg := false }
noncomputable def ti_125 : TI := { kind := TK.fn, size := 1, bytes := 8, zero := [AV.nilf], zg := false }
noncomputable def ti_126 : TI := { kind := TK.fn, size := 1, bytes := 8, zero := [AV.nilf], zg := false }
noncomputable def ti_127 : TI := { kind := TK.ptr 129, size := 1, bytes := 8, zero := [AV.nilp], zg := false }
noncomputable def ti_128 : TI := { kind := TK.st [(0, 9), (1, 3), (2, 4)], size := 3, bytes := 32, zero := [AV.str { len := 0, val := 0 }, AV.int IntKind.i64 (Int.ofNat 0), AV.bool false], zg := true }
noncomputable def ti_129 : TI := { kind := TK.st [(0, 9), (1, 3), (2, 4)], size := 3, bytes := 32, zero := [AV.str { len := 0, val := 0 }, AV.int IntKind.i64 (Int.ofNat 0), AV.bool false], zg := true }
noncomputable def ti_130 : TI := { kind := TK.fn, size := 1, bytes := 8, zero := [AV.nilf], zg := false }
noncomputable def ti_131 : TI := { kind := TK.ptr 172, size := 1, bytes := 8, zero := [AV.nilp], zg := false }
noncomputable def ti_132 : TI := { kind := TK.fn, size := 1, bytes := 8, zero := [AV.nilf], zg := false }
noncomputable def ti_133 : TI := { kind := TK.fn, size := 1, bytes := 8, zero := [AV.nilf], zg := false }
noncomputable def ti_134 : TI := { kind := TK.str, size := 1, bytes := 16, zero := [AV.str { len := 0, val := 0 }], zg := false }
noncomputable def ti_135 : TI := { kind := TK.ifc, size := 1, bytes := 16, zero := [AV.nili], zg := false }
noncomputable def ti_136 : TI := { kind := TK.ifc, size := 1, bytes := 16, zero := [AV.nili], zg := false }
noncomputable def ti_137 : TI := { kind := TK.st [(0, 106)], size := 7, bytes := 104, zero := [AV.int IntKind.i64 (Int.ofNat 0), AV.nils, AV.int IntKind.i64 (Int.ofNat 0), AV.str { len := 0, val := 0 }, AV.nils, AV.str { len := 0, val := 0 }, AV.bool false], zg := true }
noncomputable def ti_138 : TI := { kind := TK.st [(0, 106)], size := 7, bytes := 104, zero := [AV.int IntKind.i64 (Int.ofNat 0), AV.nils, AV.int IntKind.i64 (Int.ofNat 0), AV.str { len := 0, val := 0 }, AV.nils, AV.str { len := 0, val := 0 }, AV.bool false], zg := true }
noncomputable def ti_139 : TI := { kind := TK.fn, size := 1, bytes := 8, zero := [AV.nilf], zg := false }
noncomputable def ti_140 : TI := { kind := TK.arr 5 9, size := 5, bytes := 80, zero := [AV.str { len := 0, val := 0 }, AV.str { len := 0, val := 0 }, AV.str { len := 0, val := 0 }, AV.str { len := 0, val := 0 }, AV.str { len := 0, val := 0 }], zg := true }
noncomputable def ti_141 : TI := { kind := TK.fn, size := 1, bytes := 8, zero := [AV.nilf], zg := false }
noncomputable def ti_142 : TI := { kind := TK.fn, size := 1, bytes := 8, zero := [AV.nilf], zg := false }
noncomputable def ti_143 : TI := { kind := TK.fn, size := 1, bytes := 8, zero := [AV.nilf], zg := false }
noncomputable def ti_145 : TI := { kind := TK.fn, size := 1, bytes := 8, zero := [AV.nilf], zg := false }
noncomputable def ti_146 : TI := { kind := TK.fn, size := 1, bytes := 8, zero := [AV.nilf], zg := false }
noncomputable def ti_147 : TI := { kind := TK.fn, size := 1, bytes := 8, zero := [AV.nilf], zg := false }
noncomputable def ti_148 : TI := { kind := TK.ptr 156, size := 1, bytes := 8, zero := [AV.nilp], zg := false }
noncomputable def ti_149 : TI := { kind := TK.st [(0, 9), (1, 148)], size := 2, bytes := 24, zero := [AV.str { len := 0, val := 0 }, AV.nilp], zg := true }
noncomputable def ti_150 : TI := { kind := TK.st [(0, 9), (1, 148)], size := 2, bytes := 24, zero := [AV.str { len := 0, val := 0 }, AV.nilp], zg := true }
noncomputable def ti_151 : TI := { kind := TK.fn, size := 1, bytes := 8, zero := [AV.nilf], zg := false }
noncomputable def ti_152 : TI := { kind := TK.int IntKind.i64, size := 1, bytes := 8, zero := [AV.int IntKind.i64 (Int.ofNat 0)], zg := false }
noncomputable def ti_153 : TI := { kind := TK.sl 239, size := 1, bytes := 24, zero := [AV.nils], zg := false }
noncomputable def ti_154 : TI := { kind := TK.sl 242, size := 1, bytes := 24, zero := [AV.nils], zg := false }
noncomputable def ti_155 : TI := { kind := TK.st [(0, 152), (1, 9), (2, 9), (3, 9), (4, 153), (5, 148), (6, 154)], size := 7, bytes := 112, zero := [AV.int IntKind.i64 (Int.ofNat 0), AV.str { len := 0, val := 0 }, AV.str { len := 0, val := 0 }, AV.str { len := 0, val := 0 }, AV.nils, AV.nilp, AV.nils], zg := true }
noncomputable def ti_156 : TI := { kind := TK.st [(0, 152), (1, 9), (2, 9), (3, 9), (4, 153), (5, 148), (6, 154)], size := 7, bytes := 112, zero := [AV.int IntKind.i64 (Int.ofNat 0), AV.str { len := 0, val := 0 }, AV.str { len := 0, val := 0 }, AV.str { len := 0, val := 0 }, AV.nils, AV.nilp, AV.nils], zg := true }
noncomputable def ti_157 : TI := { kind := TK.arr 24 5, size := 24, bytes := 24, zero := List.replicate 24 (AV.int IntKind.u8 (Int.ofNat 0)), zg := true }
noncomputable def ti_158 : TI := { kind := TK.int IntKind.u64, size := 1, bytes := 8, zero := [AV.int IntKind.u64 (Int.ofNat 0)], zg := false }
noncomputable def ti_159 : TI := { kind := TK.fn, size := 1, bytes := 8, zero := [AV.nilf], zg := false }
noncomputable def ti_160 : TI := { kind := TK.fn, size := 1, bytes := 8, zero := [AV.nilf], zg := false }
noncomputable def ti_162 : TI := { kind := TK.fn, size := 1, bytes := 8, zero := [AV.nilf], zg := false }
noncomputable def ti_163 : TI := { kind := TK.fn, size := 1, bytes := 8, zero := [AV.nilf], zg := false }
noncomputable def ti_164 : TI := { kind := TK.st [(0, 9), (1, 62), (2, 9)], size := 3, bytes := 40, zero := [AV.str { len := 0, val := 0 }, AV.int IntKind.i64 (Int.ofNat 0), AV.str { len := 0, val := 0 }], zg := true }
noncomputable def ti_165 : TI := { kind := TK.st [(0, 9), (1, 62), (2, 9)], size := 3, bytes := 40, zero := [AV.str { len := 0, val := 0 }, AV.int IntKind.i64 (Int.ofNat 0), AV.str { len := 0, val := 0 }], zg := true }
noncomputable def ti_166 : TI := { kind := TK.fn, size := 1, bytes := 8, zero := [AV.nilf], zg := false }
noncomputable def ti_168 : TI := { kind := TK.fn, size := 1, bytes := 8, zero := [AV.nilf], zg := false }
noncomputable def ti_169 : TI := { kind := TK.sl 25, size := 1, bytes := 24, zero := [AV.nils], zg := false }
noncomputable def ti_170 : TI := { kind := TK.sl 29, size := 1, bytes := 24, zero := [AV.nils], zg := false }
noncomputable def ti_171 : TI := { kind := TK.st [(0, 37), (1, 169), (2, 170), (3, 29), (7, 4)], size := 8, bytes := 136, zero := [AV.nilp, AV.nils, AV.nils, AV.str { len := 0, val := 0 }, AV.str { len := 0, val := 0 }, AV.str { len := 0, val := 0 }, AV.nils, AV.bool false], zg := true }
noncomputable def ti_172 : TI := { kind := TK.st [(0, 37), (1, 169), (2, 170), (3, 29), (7, 4)], size := 8, bytes := 136, zero := [AV.nilp, AV.nils, AV.nils, AV.str { len := 0, val := 0 }, AV.str { len := 0, val := 0 }, AV.str { len := 0, val := 0 }, AV.nils, AV.bool false], zg := true }
noncomputable def ti_174 : TI := { kind := TK.fn, size := 1, bytes := 8, zero := [AV.nilf], zg := false }
noncomputable def ti_175 : TI := { kind := TK.fn, size := 1, bytes := 8, zero := [AV.nilf], zg := false }
noncomputable def ti_177 : TI := { kind := TK.fn, size := 1, bytes := 8, zero := [AV.nilf], zg := false }
noncomputable def ti_178 : TI := { kind := TK.fn, size := 1, bytes := 8, zero := [AV.nilf], zg := false }
noncomputable def ti_179 : TI := { kind := TK.fn, size := 1, bytes := 8, zero := [AV.nilf], zg := false }
noncomputable def ti_180 : TI := { kind := TK.fn, size := 1, bytes := 8, zero := [AV.nilf], zg := false }
noncomputable def ti_181 : TI := { kind := TK.fn, size := 1, bytes := 8, zero := [AV.nilf], zg := false }
noncomputable def ti_183 : TI := { kind := TK.fn, size := 1, bytes := 8, zero := [AV.nilf], zg := false }
noncomputable def ti_184 : TI := { kind := TK.fn, size := 1, bytes := 8, zero := [AV.nilf], zg := false }
noncomputable def ti_185 : TI := { kind := TK.fn, size := 1, bytes := 8, zero := [AV.nilf], zg := false }
noncomputable def ti_186 : TI := { kind := TK.fn, size := 1, bytes := 8, zero := [AV.nilf], zg := false }
noncomputable def ti_187 : TI := { kind := TK.fn, size := 1, bytes := 8, zero := [AV.nilf], zg := false }
noncomputable def ti_188 : TI := { kind := TK.arr 20 158, size := 20, bytes := 160, zero := List.replicate 20 (AV.int IntKind.u64 (Int.ofNat 0)), zg := true }
noncomputable def ti_189 : TI := { kind := TK.arr 65 5, size := 65, bytes := 65, zero := List.replicate 65 (AV.int IntKind.u8 (Int.ofNat 0)), zg := true }
noncomputable def ti_190 : TI := { kind := TK.fn, size := 1, bytes := 8, zero := [AV.nilf], zg := false }
noncomputable def ti_192 : TI := { kind := TK.fn, size := 1, bytes := 8, zero := [AV.nilf], zg := false }
noncomputable def ti_194 : TI := { kind := TK.fn, size := 1, bytes := 8, zero := [AV.nilf], zg := false }
noncomputable def ti_196 : TI := { kind := TK.fn, size := 1, bytes := 8, zero := [AV.nilf], zg := false }
noncomputable def ti_197 : TI := { kind := TK.fn, size := 1, bytes := 8, zero := [AV.nilf], zg := false }
noncomputable def ti_199 : TI := { kind := TK.fn, size := 1, bytes := 8, zero := [AV.nilf], zg := false }
noncomputable def ti_200 : TI := { kind := TK.fn, size := 1, bytes := 8, zero := [AV.nilf], zg := false }
noncomputable def ti_202 : TI := { kind := TK.fn, size := 1, bytes := 8, zero := [AV.nilf], zg := false }
noncomputable def ti_203 : TI := { kind := TK.fn, size := 1, bytes := 8, zero := [AV.nilf], zg := false }
noncomputable def ti_205 : TI := { kind := TK.fn, size := 1, bytes := 8, zero := [AV.nilf], zg := false }
noncomputable def ti_207 : TI := { kind := TK.fn, size := 1, bytes := 8, zero := [AV.nilf], zg := false }
noncomputable def ti_209 : TI := { kind := TK.fn, size := 1, bytes := 8, zero := [AV.nilf], zg := false }
noncomputable def ti_210 : TI := { kind := TK.arr 256 5, size := 256, bytes := 256, zero := List.replicate 256 (AV.int IntKind.u8 (Int.ofNat 0)), zg := true }
noncomputable def ti_211 : TI := { kind := TK.st [(0, 5), (1, 5)], size := 2, bytes := 2, zero := [AV.int IntKind.u8 (Int.ofNat 0), AV.int IntKind.u8 (Int.ofNat 0)], zg := true }
noncomputable def ti_212 : TI := { kind := TK.st [(0, 5), (1, 5)], size := 2, bytes := 2, zero := [AV.int IntKind.u8 (Int.ofNat 0), AV.int IntKind.u8 (Int.ofNat 0)], zg := true }
noncomputable def ti_213 : TI := { kind := TK.arr 16 212, size := 32, bytes := 32, zero := List.replicate 32 (AV.int IntKind.u8 (Int.ofNat 0)), zg := true }
noncomputable def ti_214 : TI := { kind := TK.fn, size := 1, bytes := 8, zero := [AV.nilf], zg := false }
noncomputable def ti_215 : TI := { kind := TK.fn, size := 1, bytes := 8, zero := [AV.nilf], zg := false }
noncomputable def ti_216 : TI := { kind := TK.fn, size := 1, bytes := 8, zero := [AV.nilf], zg := false }
noncomputable def ti_217 : TI := { kind := TK.fn, size := 1, bytes := 8, zero := [AV.nilf], zg := false }
noncomputable def ti_218 : TI := { kind := TK.fn, size := 1, bytes := 8, zero := [AV.nilf], zg := false }
noncomputable def ti_219 : TI := { kind := TK.ifc, size := 1, bytes := 16, zero := [AV.nili], zg := false }
noncomputable def ti_220 : TI := { kind := TK.ifc, size := 1, bytes := 16, zero := [AV.nili], zg := false }
noncomputable def ti_222 : TI := { kind := TK.fn, size := 1, bytes := 8, zero := [AV.nilf], zg := false }
noncomputable def ti_223 : TI := { kind := TK.fn, size := 1, bytes := 8, zero := [AV.nilf], zg := false }
noncomputable def ti_225 : TI := { kind := TK.fn, size := 1, bytes := 8, zero := [AV.nilf], zg := false }
noncomputable def ti_226 : TI := { kind := TK.fn, size := 1, bytes := 8, zero := [AV.nilf], zg := false }
noncomputable def ti_227 : TI := { kind := TK.fn, size := 1, bytes := 8, zero := [AV.nilf], zg := false }
noncomputable def ti_228 : TI := { kind := TK.fn, size := 1, bytes := 8, zero := [AV.nilf], zg := false }
noncomputable def ti_230 : TI := { kind := TK.fn, size := 1, bytes := 8, zero := [AV.nilf], zg := false }
noncomputable def ti_231 : TI := { kind := TK.fn, size := 1, bytes := 8, zero := [AV.nilf], zg := false }
noncomputable def ti_232 : TI := { kind := TK.fn, size := 1, bytes := 8, zero := [AV.nilf], zg := false }
noncomputable def ti_233 : TI := { kind := TK.fn, size := 1, bytes := 8, zero := [AV.nilf], zg := false }
noncomputable def ti_234 : TI := { kind := TK.fn, size := 1, bytes := 8, zero := [AV.nilf], zg := false }
noncomputable def ti_235 : TI := { kind := TK.fn, size := 1, bytes := 8, zero := [AV.nilf], zg := false }
noncomputable def ti_236 : TI := { kind := TK.fn, size := 1, bytes := 8, zero := [AV.nilf], zg := false }
noncomputable def ti_237 : TI := { kind := TK.fn, size := 1, bytes := 8, zero := [AV.nilf], zg := false }
noncomputable def ti_238 : TI := { kind := TK.st [(0, 9), (1, 156)], size := 8, bytes := 128, zero := [AV.str { len := 0, val := 0 }, AV.int IntKind.i64 (Int.ofNat 0), AV.str { len := 0, val := 0 }, AV.str { len := 0, val := 0 }, AV.str { len := 0, val := 0 }, AV.nils, AV.nilp, AV.nils], zg := true }
noncomputable def ti_239 : TI := { kind := TK.st [(0, 9), (1, 156)], size := 8, bytes := 128, zero := [AV.str { len := 0, val := 0 }, AV.int IntKind.i64 (Int.ofNat 0), AV.str { len := 0, val := 0 }, AV.str { len := 0, val := 0 }, AV.str { len := 0, val := 0 }, AV.nils, AV.nilp, AV.nils], zg := true }
noncomputable def ti_240 : TI := { kind := TK.fn, size := 1, bytes := 8, zero := [AV.nilf], zg := false }
noncomputable def ti_241 : TI := { kind := TK.st [(0, 9), (1, 4), (2, 81)], size := 3, bytes := 48, zero := [AV.str { len := 0, val := 0 }, AV.bool false, AV.nils], zg := true }
noncomputable def ti_242 : TI := { kind := TK.st [(0, 9), (1, 4), (2, 81)], size := 3, bytes := 48, zero := [AV.str { len := 0, val := 0 }, AV.bool false, AV.nils], zg := true }
noncomputable def ti_243 : TI := { kind := TK.fn, size := 1, bytes := 8, zero := [AV.nilf], zg := false }
noncomputable def ti_245 : TI := { kind := TK.fn, size := 1, bytes := 8, zero := [AV.nilf], zg := false }
noncomputable def ti_246 : TI := { kind := TK.fn, size := 1, bytes := 8, zero := [AV.nilf], zg := false }
noncomputable def ti_247 : TI := { kind := TK.st [(0, 3), (1, 3), (2, 3), (3, 3), (4, 3), (5, 3), (6, 3)], size := 7, bytes := 56, zero := [AV.int IntKind.i64 (Int.ofNat 0), AV.int IntKind.i64 (Int.ofNat 0), AV.int IntKind.i64 (Int.ofNat 0), AV.int IntKind.i64 (Int.ofNat 0), AV.int IntKind.i64 (Int.ofNat 0), AV.int IntKind.i64 (Int.ofNat 0), AV.int IntKind.i64 (Int.ofNat 0)], zg := true }
noncomputable def ti_248 : TI := { kind := TK.st [(0, 3), (1, 3), (2, 3), (3, 3), (4, 3), (5, 3), (6, 3)], size := 7, bytes := 56, zero := [AV.int IntKind.i64 (Int.ofNat 0), AV.int IntKind.i64 (Int.ofNat 0), AV.int IntKind.i64 (Int.ofNat 0), AV.int IntKind.i64 (Int.ofNat 0), AV.int IntKind.i64 (Int.ofNat 0), AV.int IntKind.i64 (Int.ofNat 0), AV.int IntKind.i64 (Int.ofNat 0)], zg := true }
noncomputable def ti_249 : TI := { kind := TK.fn, size := 1, bytes := 8, zero := [AV.nilf], zg := false }
noncomputable def ti_250 : TI := { kind := TK.fn, size := 1, bytes := 8, zero := [AV.nilf], zg := false }
noncomputable def ti_251 : TI := { kind := TK.arr 32 5, size := 32, bytes := 32, zero := List.replicate 32 (AV.int IntKind.u8 (Int.ofNat 0)), zg := true }
noncomputable def ti_252 : TI := { kind := TK.arr 64 5, size := 64, bytes := 64, zero := List.replicate 64 (AV.int IntKind.u8 (Int.ofNat 0)), zg := true }
noncomputable def ti_253 : TI := { kind := TK.fn, size := 1, bytes := 8, zero := [AV.nilf], zg := false }
noncomputable def ti_255 : TI := { kind := TK.fn, size := 1, bytes := 8, zero := [AV.nilf], zg := false }
noncomputable def ti_256 : TI := { kind := TK.fn, size := 1, bytes := 8, zero := [AV.nilf], zg := false }
noncomputable def ti_257 : TI := { kind := TK.fn, size := 1, bytes := 8, zero := [AV.nilf], zg := false }
noncomputable def ti_258 : TI := { kind := TK.fn, size := 1, bytes := 8, zero := [AV.nilf], zg := false }
noncomputable def ti_259 : TI := { kind := TK.fn, size := 1, bytes := 8, zero := [AV.nilf], zg := false }
noncomputable def ti_260 : TI := { kind := TK.fn, size := 1, bytes := 8, zero := [AV.nilf], zg := false }
noncomputable def ti_261 : TI := { kind := TK.fn, size := 1, bytes := 8, zero := [AV.nilf], zg := false }
noncomputable def ti_262 : TI := { kind := TK.fn, size := 1, bytes := 8, zero := [AV.nilf], zg := false }
noncomputable def ti_263 : TI := { kind := TK.st [(0, 9)], size := 1, bytes := 16, zero := [AV.str { len := 0, val := 0 }], zg := true }
noncomputable def ti_264 : TI := { kind := TK.st [(0, 9)], size := 1, bytes := 16, zero := [AV.str { len := 0, val := 0 }], zg := true }
noncomputable def ti_265 : TI := { kind := TK.fn, size := 1, bytes := 8, zero := [AV.nilf], zg := false }
noncomputable def ti_267 : TI := { kind := TK.fn, size := 1, bytes := 8, zero := [AV.nilf], zg := false }
noncomputable def ti_269 : TI := { kind := TK.fn, size := 1, bytes := 8, zero := [AV.nilf], zg := false }
noncomputable def ti_270 : TI := { kind := TK.fn, size := 1, bytes := 8, zero := [AV.nilf], zg := false }
noncomputable def ti_271 : TI := { kind := TK.fn, size := 1, bytes := 8, zero := [AV.nilf], zg := false }
noncomputable def ti_272 : TI := { kind := TK.int IntKind.i64, size := 1, bytes := 8, zero := [AV.int IntKind.i64 (Int.ofNat 0)], zg := false }
noncomputable def ti_273 : TI := { kind := TK.fn, size := 1, bytes := 8, zero := [AV.nilf], zg := false }
noncomputable def ti_274 : TI := { kind := TK.fn, size := 1, bytes := 8, zero := [AV.nilf], zg := false }
noncomputable def ti_275 : TI := { kind := TK.fn, size := 1, bytes := 8, zero := [AV.nilf], zg := false }
noncomputable def ti_276 : TI := { kind := TK.int IntKind.i8, size := 1, bytes := 1, zero := [AV.int IntKind.i8 (Int.ofNat 0)], zg := false }
noncomputable def ti_277 : TI := { kind := TK.int IntKind.i8, size := 1, bytes := 1, zero := [AV.int IntKind.i8 (Int.ofNat 0)], zg := false }
noncomputable def ti_278 : TI := { kind := TK.st [(0, 24), (1, 3), (2, 277)], size := 3, bytes := 40, zero := [AV.nils, AV.int IntKind.i64 (Int.ofNat 0), AV.int IntKind.i8 (Int.ofNat 0)], zg := true }
noncomputable def ti_279 : TI := { kind := TK.st [(0, 24), (1, 3), (2, 277)], size := 3, bytes := 40, zero := [AV.nils, AV.int IntKind.i64 (Int.ofNat 0), AV.int IntKind.i8 (Int.ofNat 0)], zg := true }
noncomputable def ti_280 : TI := { kind := TK.fn, size := 1, bytes := 8, zero := [AV.nilf], zg := false }
noncomputable def ti_282 : TI := { kind := TK.fn, size := 1, bytes := 8, zero := [AV.nilf], zg := false }
noncomputable def ti_283 : TI := { kind := TK.fn, size := 1, bytes := 8, zero := [AV.nilf], zg := false }
noncomputable def ti_284 : TI := { kind := TK.int IntKind.i64, size := 1, bytes := 8, zero := [AV.int IntKind.i64 (Int.ofNat 0)], zg := false }
noncomputable def ti_285 : TI := { kind := TK.ptr 335, size := 1, bytes := 8, zero := [AV.nilp], zg := false }
noncomputable def ti_286 : TI := { kind := TK.fn, size := 1, bytes := 8, zero := [AV.nilf], zg := false }
noncomputable def ti_287 : TI := { kind := TK.fn, size := 1, bytes := 8, zero := [AV.nilf], zg := false }
noncomputable def ti_288 : TI := { kind := TK.fn, size := 1, bytes := 8, zero := [AV.nilf], zg := false }
noncomputable def ti_289 : TI := { kind := TK.arr 256 4, size := 256, bytes := 256, zero := List.replicate 256 (AV.bool false), zg := true }
noncomputable def ti_290 : TI := { kind := TK.arr 256 4, size := 256, bytes := 256, zero := List.replicate 256 (AV.bool false), zg := true }
noncomputable def ti_292 : TI := { kind := TK.fn, size := 1, bytes := 8, zero := [AV.nilf], zg := false }
noncomputable def ti_293 : TI := { kind := TK.fn, size := 1, bytes := 8, zero := [AV.nilf], zg := false }
noncomputable def ti_294 : TI := { kind := TK.ptr 290, size := 1, bytes := 8, zero := [AV.nilp], zg := false }
noncomputable def ti_296 : TI := { kind := TK.fn, size := 1, bytes := 8, zero := [AV.nilf], zg := false }
noncomputable def ti_297 : TI := { kind := TK.ptr 299, size := 1, bytes := 8, zero := [AV.nilp], zg := false }
noncomputable def ti_298 : TI := { kind := TK.st [(0, 297), (1, 24)], size := 2, bytes := 32, zero := [AV.nilp, AV.nils], zg := true }
noncomputable def ti_299 : TI := { kind := TK.st [(0, 297), (1, 24)], size := 2, bytes := 32, zero := [AV.nilp, AV.nils], zg := true }
noncomputable def ti_300 : TI := { kind := TK.fn, size := 1, bytes := 8, zero := [AV.nilf], zg := false }
noncomputable def ti_302 : TI := { kind := TK.fn, size := 1, bytes := 8, zero := [AV.nilf], zg := false }
noncomputable def ti_303 : TI := { kind := TK.fn, size := 1, bytes := 8, zero := [AV.nilf], zg := false }
noncomputable def ti_304 : TI := { kind := TK.fn, size := 1, bytes := 8, zero := [AV.nilf], zg := false }
noncomputable def ti_305 : TI := { kind := TK.fn, size := 1, bytes := 8, zero := [AV.nilf], zg := false }
noncomputable def ti_306 : TI := { kind := TK.st [(0, 3), (1, 3), (2, 81)], size := 3, bytes := 40, zero := [AV.int IntKind.i64 (Int.ofNat 0), AV.int IntKind.i64 (Int.ofNat 0), AV.nils], zg := true }
noncomputable def ti_307 : TI := { kind := TK.st [(0, 3), (1, 3), (2, 81)], size := 3, bytes := 40, zero := [AV.int IntKind.i64 (Int.ofNat 0), AV.int IntKind.i64 (Int.ofNat 0), AV.nils], zg := true }
noncomputable def ti_308 : TI := { kind := TK.sl 307, size := 1, bytes := 24, zero := [AV.nils], zg := false }
noncomputable def ti_309 : TI := { kind := TK.fn, size := 1, bytes := 8, zero := [AV.nilf], zg := false }
noncomputable def ti_311 : TI := { kind := TK.fn, size := 1, bytes := 8, zero := [AV.nilf], zg := false }
noncomputable def ti_312 : TI := { kind := TK.fn, size := 1, bytes := 8, zero := [AV.nilf], zg := false }
noncomputable def ti_313 : TI := { kind := TK.sl 317, size := 1, bytes := 24, zero := [AV.nils], zg := false }
noncomputable def ti_314 : TI := { kind := TK.fn, size := 1, bytes := 8, zero := [AV.nilf], zg := false }
noncomputable def ti_315 : TI := { kind := TK.fn, size := 1, bytes := 8, zero := [AV.nilf], zg := false }
noncomputable def ti_316 : TI := { kind := TK.st [(0, 9), (1, 315)], size := 2, bytes := 24, zero := [AV.str { len := 0, val := 0 }, AV.nilf], zg := true }
noncomputable def ti_317 : TI := { kind := TK.st [(0, 9), (1, 315)], size := 2, bytes := 24, zero := [AV.str { len := 0, val := 0 }, AV.nilf], zg := true }
noncomputable def ti_318 : TI := { kind := TK.fn, size := 1, bytes := 8, zero := [AV.nilf], zg := false }
noncomputable def ti_319 : TI := { kind := TK.st [(0, 9), (1, 3), (2, 4)], size := 3, bytes := 32, zero := [AV.str { len := 0, val := 0 }, AV.int IntKind.i64 (Int.ofNat 0), AV.bool false], zg := true }
noncomputable def ti_320 : TI := { kind := TK.st [(0, 9), (1, 3), (2, 4)], size := 3, bytes := 32, zero := [AV.str { len := 0, val := 0 }, AV.int IntKind.i64 (Int.ofNat 0), AV.bool false], zg := true }
noncomputable def ti_321 : TI := { kind := TK.fn, size := 1, bytes := 8, zero := [AV.nilf], zg := false }
noncomputable def ti_322 : TI := { kind := TK.fn, size := 1, bytes := 8, zero := [AV.nilf], zg := false }
noncomputable def ti_323 : TI := { kind := TK.fn, size := 1, bytes := 8, zero := [AV.nilf], zg := false }
noncomputable def ti_324 : TI := { kind := TK.arr 10 272, size := 10, bytes := 80, zero := [AV.int IntKind.i64 (Int.ofNat 0), AV.int IntKind.i64 (Int.ofNat 0), AV.int IntKind.i64 (Int.ofNat 0), AV.int IntKind.i64 (Int.ofNat 0), AV.int IntKind.i64 (Int.ofNat 0), AV.int IntKind.i64 (Int.ofNat 0), AV.int IntKind.i64 (Int.ofNat 0), AV.int IntKind.i64 (Int.ofNat 0), AV.int IntKind.i64 (Int.ofNat 0), AV.int IntKind.i64 (Int.ofNat 0)], zg := true }
noncomputable def ti_325 : TI := { kind := TK.arr 6 9, size := 6, bytes := 96, zero := [AV.str { len := 0, val := 0 }, AV.str { len := 0, val := 0 }, AV.str { len := 0, val := 0 }, AV.str { len := 0, val := 0 }, AV.str { len := 0, val := 0 }, AV.str { len := 0, val := 0 }], zg := true }
noncomputable def ti_326 : TI := { kind := TK.ptr 49, size := 1, bytes := 8, zero := [AV.nilp], zg := false }
noncomputable def ti_327 : TI := { kind := TK.ptr 52, size := 1, bytes := 8, zero := [AV.nilp], zg := false }
noncomputable def ti_328 : TI := { kind := TK.fn, size := 1, bytes := 8, zero := [AV.nilf], zg := false }
noncomputable def ti_329 : TI := { kind := TK.ptr 2, size := 1, bytes := 8, zero := [AV.nilp], zg := false }
noncomputable def ti_330 : TI := { kind := TK.fn, size := 1, bytes := 8, zero := [AV.nilf], zg := false }
noncomputable def ti_331 : TI := { kind := TK.ptr 279, size := 1, bytes := 8, zero := [AV.nilp], zg := false }
noncomputable def ti_332 : TI := { kind := TK.fn, size := 1, bytes := 8, zero := [AV.nilf], zg := false }
noncomputable def ti_333 : TI := { kind := TK.fn, size := 1, bytes := 8, zero := [AV.nilf], zg := false }
noncomputable def ti_334 : TI := { kind := TK.st [(0, 9), (1, 9), (2, 220)], size := 3, bytes := 48, zero := [AV.str { len := 0, val := 0 }, AV.str { len := 0, val := 0 }, AV.nili], zg := true }
noncomputable def ti_335 : TI := { kind := TK.st [(0, 9), (1, 9), (2, 220)], size := 3, bytes := 48, zero := [AV.str { len := 0, val := 0 }, AV.str { len := 0, val := 0 }, AV.nili], zg := true }
noncomputable def ti_336 : TI := { kind := TK.fn, size := 1, bytes := 8, zero := [AV.nilf], zg := false }
noncomputable def ti_337 : TI := { kind := TK.fn, size := 1, bytes := 8, zero := [AV.nilf], zg := false }
noncomputable def ti_338 : TI := { kind := TK.fn, size := 1, bytes := 8, zero := [AV.nilf], zg := false }
noncomputable def ti_339 : TI := { kind := TK.fn, size := 1, bytes := 8, zero := [AV.nilf], zg := false }
noncomputable def ti_341 : TI := { kind := TK.fn, size := 1, bytes := 8, zero := [AV.nilf], zg := false }
noncomputable def ti_342 : TI := { kind := TK.ptr 5, size := 1, bytes := 8, zero := [AV.nilp], zg := false }
noncomputable def ti_343 : TI := { kind := TK.fn, size := 1, bytes := 8, zero := [AV.nilf], zg := false }
noncomputable def ti_345 : TI := { kind := TK.fn, size := 1, bytes := 8, zero := [AV.nilf], zg := false }
noncomputable def ti_346 : TI := { kind := TK.fn, size := 1, bytes := 8, zero := [AV.nilf], zg := false }
noncomputable def ti_347 : TI := { kind := TK.ptr 66, size := 1, bytes := 8, zero := [AV.nilp], zg := false }
noncomputable def ti_348 : TI := { kind := TK.fn, size := 1, bytes := 8, zero := [AV.nilf], zg := false }
noncomputable def ti_349 : TI := { kind := TK.fn, size := 1, bytes := 8, zero := [AV.nilf], zg := false }
noncomputable def ti_350 : TI := { kind := TK.fn, size := 1, bytes := 8, zero := [AV.nilf], zg := false }
noncomputable def ti_351 : TI := { kind := TK.fn, size := 1, bytes := 8, zero := [AV.nilf], zg := false }
noncomputable def ti_352 : TI := { kind := TK.ptr 43, size := 1, bytes := 8, zero := [AV.nilp], zg := false }
noncomputable def ti_353 : TI := { kind := TK.fn, size := 1, bytes := 8, zero := [AV.nilf], zg := false }
noncomputable def ti_354 : TI := { kind := TK.ptr 41, size := 1, bytes := 8, zero := [AV.nilp], zg := false }
noncomputable def ti_355 : TI := { kind := TK.fn, size := 1, bytes := 8, zero := [AV.nilf], zg := false }
noncomputable def ti_356 : TI := { kind := TK.fn, size := 1, bytes := 8, zero := [AV.nilf], zg := false }
noncomputable def ti_357 : TI := { kind := TK.ptr 359, size := 1, bytes := 8, zero := [AV.nilp], zg := false }
noncomputable def ti_358 : TI := { kind := TK.st [(0, 9)], size := 1, bytes := 16, zero := [AV.str { len := 0, val := 0 }], zg := true }
noncomputable def ti_359 : TI := { kind := TK.st [(0, 9)], size := 1, bytes := 16, zero := [AV.str { len := 0, val := 0 }], zg := true }
noncomputable def ti_360 : TI := { kind := TK.fn, size := 1, bytes := 8, zero := [AV.nilf], zg := false }
noncomputable def ti_361 : TI := { kind := TK.uptr, size := 1, bytes := 8, zero := [AV.nilp], zg := false }
noncomputable def ti_362 : TI := { kind := TK.fn, size := 1, bytes := 8, zero := [AV.nilf], zg := false }
noncomputable def ti_363 : TI := { kind := TK.fn, size := 1, bytes := 8, zero := [AV.nilf], zg := false }
noncomputable def ti_365 : TI := { kind := TK.fn, size := 1, bytes := 8, zero := [AV.nilf], zg := false }
noncomputable def ti_366 : TI := { kind := TK.fn, size := 1, bytes := 8, zero := [AV.nilf], zg := false }
noncomputable def ti_367 : TI := { kind := TK.sl 3, size := 1, bytes := 24, zero := [AV.nils], zg := false }
noncomputable def ti_368 : TI := { kind := TK.fn, size := 1, bytes := 8, zero := [AV.nilf], zg := false }
noncomputable def ti_369 : TI := { kind := TK.sl 371, size := 1, bytes := 24, zero := [AV.nils], zg := false }
noncomputable def ti_370 : TI := { kind := TK.st [(0, 3), (1, 3)], size := 2, bytes := 16, zero := [AV.int IntKind.i64 (Int.ofNat 0), AV.int IntKind.i64 (Int.ofNat 0)], zg := true }
noncomputable def ti_371 : TI := { kind := TK.st [(0, 3), (1, 3)], size := 2, bytes := 16, zero := [AV.int IntKind.i64 (Int.ofNat 0), AV.int IntKind.i64 (Int.ofNat 0)], zg := true }
noncomputable def ti_372 : TI := { kind := TK.fn, size := 1, bytes := 8, zero := [AV.nilf], zg := false }
noncomputable def ti_373 : TI := { kind := TK.ptr 383, size := 1, bytes := 8, zero := [AV.nilp], zg := false }
noncomputable def ti_374 : TI := { kind := TK.ptr 47, size := 1, bytes := 8, zero := [AV.nilp], zg := false }
noncomputable def ti_375 : TI := { kind := TK.fn, size := 1, bytes := 8, zero := [AV.nilf], zg := false }
noncomputable def ti_376 : TI := { kind := TK.fn, size := 1, bytes := 8, zero := [AV.nilf], zg := false }
noncomputable def ti_377 : TI := { kind := TK.fn, size := 1, bytes := 8, zero := [AV.nilf], zg := false }
noncomputable def ti_379 : TI := { kind := TK.fn, size := 1, bytes := 8, zero := [AV.nilf], zg := false }
noncomputable def ti_380 : TI := { kind := TK.sl 386, size := 1, bytes := 24, zero := [AV.nils], zg := false }
noncomputable def ti_381 : TI := { kind := TK.sl 389, size := 1, bytes := 24, zero := [AV.nils], zg := false }
noncomputable def ti_382 : TI := { kind := TK.st [(0, 380), (1, 381), (2, 3)], size := 3, bytes := 56, zero := [AV.nils, AV.nils, AV.int IntKind.i64 (Int.ofNat 0)], zg := true }
noncomputable def ti_383 : TI := { kind := TK.st [(0, 380), (1, 381), (2, 3)], size := 3, bytes := 56, zero := [AV.nils, AV.nils, AV.int IntKind.i64 (Int.ofNat 0)], zg := true }
noncomputable def ti_384 : TI := { kind := TK.int IntKind.u16, size := 1, bytes := 2, zero := [AV.int IntKind.u16 (Int.ofNat 0)], zg := false }
noncomputable def ti_385 : TI := { kind := TK.st [(0, 384), (1, 384), (2, 384)], size := 3, bytes := 6, zero := [AV.int IntKind.u16 (Int.ofNat 0), AV.int IntKind.u16 (Int.ofNat 0), AV.int IntKind.u16 (Int.ofNat 0)], zg := true }
noncomputable def ti_386 : TI := { kind := TK.st [(0, 384), (1, 384), (2, 384)], size := 3, bytes := 6, zero := [AV.int IntKind.u16 (Int.ofNat 0), AV.int IntKind.u16 (Int.ofNat 0), AV.int IntKind.u16 (Int.ofNat 0)], zg := true }
noncomputable def ti_387 : TI := { kind := TK.fn, size := 1, bytes := 8, zero := [AV.nilf], zg := false }
noncomputable def ti_388 : TI := { kind := TK.st [(0, 41), (1, 41), (2, 41)], size := 3, bytes := 12, zero := [AV.int IntKind.u32 (Int.ofNat 0), AV.int IntKind.u32 (Int.ofNat 0), AV.int IntKind.u32 (Int.ofNat 0)], zg := true }
noncomputable def ti_389 : TI := { kind := TK.st [(0, 41), (1, 41), (2, 41)], size := 3, bytes := 12, zero := [AV.int IntKind.u32 (Int.ofNat 0), AV.int IntKind.u32 (Int.ofNat 0), AV.int IntKind.u32 (Int.ofNat 0)], zg := true }
noncomputable def ti_390 : TI := { kind := TK.fn, size := 1, bytes := 8, zero := [AV.nilf], zg := false }
noncomputable def ti_391 : TI := { kind := TK.ptr 45, size := 1, bytes := 8, zero := [AV.nilp], zg := false }
noncomputable def ti_392 : TI := { kind := TK.fn, size := 1, bytes := 8, zero := [AV.nilf], zg := false }
noncomputable def ti_393 : TI := { kind := TK.ptr 21, size := 1, bytes := 8, zero := [AV.nilp], zg := false }
noncomputable def ti_394 : TI := { kind := TK.fn, size := 1, bytes := 8, zero := [AV.nilf], zg := false }
noncomputable def ti_395 : TI := { kind := TK.fn, size := 1, bytes := 8, zero := [AV.nilf], zg := false }
noncomputable def ti_396 : TI := { kind := TK.fn, size := 1, bytes := 8, zero := [AV.nilf], zg := false }
noncomputable def ti_397 : TI := { kind := TK.fn, size := 1, bytes := 8, zero := [AV.nilf], zg := false }
noncomputable def ti_399 : TI := { kind := TK.fn, size := 1, bytes := 8, zero := [AV.nilf], zg := false }
noncomputable def ti_400 : TI := { kind := TK.ptr 386, size := 1, bytes := 8, zero := [AV.nilp], zg := false }
noncomputable def ti_401 : TI := { kind := TK.ptr 389, size := 1, bytes := 8, zero := [AV.nilp], zg := false }
noncomputable def ti_402 : TI := { kind := TK.fn, size := 1, bytes := 8, zero := [AV.nilf], zg := false }
noncomputable def ti_403 : TI := { kind := TK.fn, size := 1, bytes := 8, zero := [AV.nilf], zg := false }
noncomputable def ti_404 : TI := { kind := TK.fn, size := 1, bytes := 8, zero := [AV.nilf], zg := false }
noncomputable def ti_405 : TI := { kind := TK.fn, size := 1, bytes := 8, zero := [AV.nilf], zg := false }
noncomputable def ti_407 : TI := { kind := TK.fn, size := 1, bytes := 8, zero := [AV.nilf], zg := false }
noncomputable def ti_409 : TI := { kind := TK.fn, size := 1, bytes := 8, zero := [AV.nilf], zg := false }
noncomputable def ti_410 : TI := { kind := TK.fn, size := 1, bytes := 8, zero := [AV.nilf], zg := false }
noncomputable def ti_412 : TI := { kind := TK.fn, size := 1, bytes := 8, zero := [AV.nilf], zg := false }
noncomputable def ti_413 : TI := { kind := TK.fn, size := 1, bytes := 8, zero := [AV.nilf], zg := false }
noncomputable def ti_414 : TI := { kind := TK.fn, size := 1, bytes := 8, zero := [AV.nilf], zg := false }
noncomputable def ti_415 : TI := { kind := TK.fn, size := 1, bytes := 8, zero := [AV.nilf], zg := false }
noncomputable def ti_416 : TI := { kind := TK.st [(0, 17), (1, 17), (2, 17), (3, 9)], size := 4, bytes := 40, zero := [AV.nilp, AV.nilp, AV.nilp, AV.str { len := 0, val := 0 }], zg := true }
noncomputable def ti_417 : TI := { kind := TK.st [(0, 17), (1, 17), (2, 17), (3, 9)], size := 4, bytes := 40, zero := [AV.nilp, AV.nilp, AV.nilp, AV.str { len := 0, val := 0 }], zg := true }
noncomputable def ti_418 : TI := { kind := TK.arr 0 16, size := 0, bytes := 0, zero := [], zg := true }
noncomputable def ti_419 : TI := { kind := TK.st [(0, 418)], size := 0, bytes := 0, zero := [], zg := true }
noncomputable def ti_420 : TI := { kind := TK.st [(0, 418)], size := 0, bytes := 0, zero := [], zg := true }
noncomputable def ti_421 : TI := { kind := TK.int IntKind.u8, size := 1, bytes := 1, zero := [AV.int IntKind.u8 (Int.ofNat 0)], zg := false }
noncomputable def ti_422 : TI := { kind := TK.int IntKind.u8, size := 1, bytes := 1, zero := [AV.int IntKind.u8 (Int.ofNat 0)], zg := false }
noncomputable def ti_423 : TI := { kind := TK.fn, size := 1, bytes := 8, zero := [AV.nilf], zg := false }
noncomputable def ti_424 : TI := { kind := TK.int IntKind.i32, size := 1, bytes := 4, zero := [AV.int IntKind.i32 (Int.ofNat 0)], zg := false }
noncomputable def ti_425 : TI := { kind := TK.int IntKind.i32, size := 1, bytes := 4, zero := [AV.int IntKind.i32 (Int.ofNat 0)], zg := false }
noncomputable def ti_426 : TI := { kind := TK.st [(0, 12), (1, 12), (2, 41), (3, 421), (4, 5), (5, 5), (6, 422), (7, 423), (8, 342), (9, 424), (10, 425)], size := 11, bytes := 48, zero := [AV.int IntKind.u64 (Int.ofNat 0), AV.int IntKind.u64 (Int.ofNat 0), AV.int IntKind.u32 (Int.ofNat 0), AV.int IntKind.u8 (Int.ofNat 0), AV.int IntKind.u8 (Int.ofNat 0), AV.int IntKind.u8 (Int.ofNat 0), AV.int IntKind.u8 (Int.ofNat 0), AV.nilf, AV.nilp, AV.int IntKind.i32 (Int.ofNat 0), AV.int IntKind.i32 (Int.ofNat 0)], zg := true }
noncomputable def ti_427 : TI := { kind := TK.st [(0, 12), (1, 12), (2, 41), (3, 421), (4, 5), (5, 5), (6, 422), (7, 423), (8, 342), (9, 424), (10, 425)], size := 11, bytes := 48, zero := [AV.int IntKind.u64 (Int.ofNat 0), AV.int IntKind.u64 (Int.ofNat 0), AV.int IntKind.u32 (Int.ofNat 0), AV.int IntKind.u8 (Int.ofNat 0), AV.int IntKind.u8 (Int.ofNat 0), AV.int IntKind.u8 (Int.ofNat 0), AV.int IntKind.u8 (Int.ofNat 0), AV.nilf, AV.nilp, AV.int IntKind.i32 (Int.ofNat 0), AV.int IntKind.i32 (Int.ofNat 0)], zg := true }
noncomputable def ti_428 : TI := { kind := TK.fn, size := 1, bytes := 8, zero := [AV.nilf], zg := false }
noncomputable def tiT_rllllllll : T TI := T.n (T.e : T TI) (some ti_255 : Option TI) (T.e : T TI)
noncomputable def tiT_rlllllllr : T TI := T.n (T.e : T TI) (some ti_383 : Option TI) (T.e : T TI)
noncomputable def tiT_rlllllll : T TI := T.n tiT_rllllllll (some ti_127 : Option TI) tiT_rlllllllr
noncomputable def tiT_rllllllrl : T TI := T.n (T.e : T TI) (some ti_319 : Option TI) (T.e : T TI)
noncomputable def tiT_rllllllr : T TI := T.n tiT_rllllllrl (none : Option TI) (T.e : T TI)
noncomputable def tiT_rllllll : T TI := T.n tiT_rlllllll (some ti_63 : Option TI) tiT_rllllllr
noncomputable def tiT_rlllllrll : T TI := T.n (T.e : T TI) (some ti_287 : Option TI) (T.e : T TI)
noncomputable def tiT_rlllllrlr : T TI := T.n (T.e : T TI) (some ti_415 : Option TI) (T.e : T TI)
noncomputable def tiT_rlllllrl : T TI := T.n tiT_rlllllrll (some ti_159 : Option TI) tiT_rlllllrlr
noncomputable def tiT_rlllllrrl : T TI := T.n (T.e : T TI) (some ti_351 : Option TI) (T.e : T TI)
noncomputable def tiT_rlllllrr : T TI := T.n tiT_rlllllrrl (some ti_223 : Option TI) (T.e : T TI)
noncomputable def tiT_rlllllr : T TI := T.n tiT_rlllllrl (some ti_95 : Option TI) tiT_rlllllrr
noncomputable def tiT_rlllll : T TI := T.n tiT_rllllll (some ti_31 : Option TI) tiT_rlllllr
noncomputable def tiT_rllllrlll : T TI := T.n (T.e : T TI) (some ti_271 : Option TI) (T.e : T TI)
noncomputable def tiT_rllllrllr : T TI := T.n (T.e : T TI) (some ti_399 : Option TI) (T.e : T TI)
noncomputable def tiT_rllllrll : T TI := T.n tiT_rllllrlll (some ti_143 : Option TI) tiT_rllllrllr
noncomputable def tiT_rllllrlrl : T TI := T.n (T.e : T TI) (some ti_335 : Option TI) (T.e : T TI)
noncomputable def tiT_rllllrlr : T TI := T.n tiT_rllllrlrl (some ti_207 : Option TI) (T.e : T TI)
noncomputable def tiT_rllllrl : T TI := T.n tiT_rllllrll (some ti_79 : Option TI) tiT_rllllrlr
noncomputable def tiT_rllllrrll : T TI := T.n (T.e : T TI) (some ti_303 : Option TI) (T.e : T TI)
noncomputable def tiT_rllllrrl : T TI := T.n tiT_rllllrrll (some ti_175 : Option TI) (T.e : T TI)
noncomputable def tiT_rllllrrrl : T TI := T.n (T.e : T TI) (some ti_367 : Option TI) (T.e : T TI)
noncomputable def tiT_rllllrrr : T TI := T.n tiT_rllllrrrl (some ti_239 : Option TI) (T.e : T TI)
noncomputable def tiT_rllllrr : T TI := T.n tiT_rllllrrl (some ti_111 : Option TI) tiT_rllllrrr
noncomputable def tiT_rllllr : T TI := T.n tiT_rllllrl (some ti_47 : Option TI) tiT_rllllrr
noncomputable def tiT_rllll : T TI := T.n tiT_rlllll (some ti_15 : Option TI) tiT_rllllr
noncomputable def tiT_rlllrllll : T TI := T.n (T.e : T TI) (some ti_263 : Option TI) (T.e : T TI)
noncomputable def tiT_rlllrlllr : T TI := T.n (T.e : T TI) (some ti_391 : Option TI) (T.e : T TI)
noncomputable def tiT_rlllrlll : T TI := T.n tiT_rlllrllll (some ti_135 : Option TI) tiT_rlllrlllr
noncomputable def tiT_rlllrllrl : T TI := T.n (T.e : T TI) (some ti_327 : Option TI) (T.e : T TI)
noncomputable def tiT_rlllrllr : T TI := T.n tiT_rlllrllrl (some ti_199 : Option TI) (T.e : T TI)
noncomputable def tiT_rlllrll : T TI := T.n tiT_rlllrlll (some ti_71 : Option TI) tiT_rlllrllr
noncomputable def tiT_rlllrlrlr : T TI := T.n (T.e : T TI) (some ti_423 : Option TI) (T.e : T TI)
noncomputable def tiT_rlllrlrl : T TI := T.n (T.e : T TI) (none : Option TI) tiT_rlllrlrlr
noncomputable def tiT_rlllrlrrl : T TI := T.n (T.e : T TI) (some ti_359 : Option TI) (T.e : T TI)
noncomputable def tiT_rlllrlrr : T TI := T.n tiT_rlllrlrrl (some ti_231 : Option TI) (T.e : T TI)
noncomputable def tiT_rlllrlr : T TI := T.n tiT_rlllrlrl (some ti_103 : Option TI) tiT_rlllrlrr
noncomputable def tiT_rlllrl : T TI := T.n tiT_rlllrll (some ti_39 : Option TI) tiT_rlllrlr
noncomputable def tiT_rlllrrlll : T TI := T.n (T.e : T TI) (some ti_279 : Option TI) (T.e : T TI)
noncomputable def tiT_rlllrrllr : T TI := T.n (T.e : T TI) (some ti_407 : Option TI) (T.e : T TI)
noncomputable def tiT_rlllrrll : T TI := T.n tiT_rlllrrlll (some ti_151 : Option TI) tiT_rlllrrllr
noncomputable def tiT_rlllrrlrl : T TI := T.n (T.e : T TI) (some ti_343 : Option TI) (T.e : T TI)
noncomputable def tiT_rlllrrlr : T TI := T.n tiT_rlllrrlrl (some ti_215 : Option TI) (T.e : T TI)
noncomputable def tiT_rlllrrl : T TI := T.n tiT_rlllrrll (none : Option TI) tiT_rlllrrlr
noncomputable def tiT_rlllrrrll : T TI := T.n (T.e : T TI) (some ti_311 : Option TI) (T.e : T TI)
noncomputable def tiT_rlllrrrl : T TI := T.n tiT_rlllrrrll (some ti_183 : Option TI) (T.e : T TI)
noncomputable def tiT_rlllrrrrl : T TI := T.n (T.e : T TI) (some ti_375 : Option TI) (T.e : T TI)
noncomputable def tiT_rlllrrrr : T TI := T.n tiT_rlllrrrrl (some ti_247 : Option TI) (T.e : T TI)
noncomputable def tiT_rlllrrr : T TI := T.n tiT_rlllrrrl (some ti_119 : Option TI) tiT_rlllrrrr
noncomputable def tiT_rlllrr : T TI := T.n tiT_rlllrrl (some ti_55 : Option TI) tiT_rlllrrr
noncomputable def tiT_rlllr : T TI := T.n tiT_rlllrl (some ti_23 : Option TI) tiT_rlllrr
noncomputable def tiT_rlll : T TI := T.n tiT_rllll (some ti_7 : Option TI) tiT_rlllr
noncomputable def tiT_rllrlllll : T TI := T.n (T.e : T TI) (some ti_259 : Option TI) (T.e : T TI)
noncomputable def tiT_rllrllllr : T TI := T.n (T.e : T TI) (some ti_387 : Option TI) (T.e : T TI)
noncomputable def tiT_rllrllll : T TI := T.n tiT_rllrlllll (some ti_131 : Option TI) tiT_rllrllllr
noncomputable def tiT_rllrlllrl : T TI := T.n (T.e : T TI) (some ti_323 : Option TI) (T.e : T TI)
noncomputable def tiT_rllrlllr : T TI := T.n tiT_rllrlllrl (none : Option TI) (T.e : T TI)
noncomputable def tiT_rllrlll : T TI := T.n tiT_rllrllll (some ti_67 : Option TI) tiT_rllrlllr
noncomputable def tiT_rllrllrlr : T TI := T.n (T.e : T TI) (some ti_419 : Option TI) (T.e : T TI)
noncomputable def tiT_rllrllrl : T TI := T.n (T.e : T TI) (some ti_163 : Option TI) tiT_rllrllrlr
noncomputable def tiT_rllrllrrl : T TI := T.n (T.e : T TI) (some ti_355 : Option TI) (T.e : T TI)
noncomputable def tiT_rllrllrr : T TI := T.n tiT_rllrllrrl (some ti_227 : Option TI) (T.e : T TI)
noncomputable def tiT_rllrllr : T TI := T.n tiT_rllrllrl (none : Option TI) tiT_rllrllrr
noncomputable def tiT_rllrll : T TI := T.n tiT_rllrlll (none : Option TI) tiT_rllrllr
noncomputable def tiT_rllrlrlll : T TI := T.n (T.e : T TI) (some ti_275 : Option TI) (T.e : T TI)
noncomputable def tiT_rllrlrllr : T TI := T.n (T.e : T TI) (some ti_403 : Option TI) (T.e : T TI)
noncomputable def tiT_rllrlrll : T TI := T.n tiT_rllrlrlll (some ti_147 : Option TI) tiT_rllrlrllr
noncomputable def tiT_rllrlrlrl : T TI := T.n (T.e : T TI) (some ti_339 : Option TI) (T.e : T TI)
noncomputable def tiT_rllrlrlr : T TI := T.n tiT_rllrlrlrl (some ti_211 : Option TI) (T.e : T TI)
noncomputable def tiT_rllrlrl : T TI := T.n tiT_rllrlrll (some ti_83 : Option TI) tiT_rllrlrlr
noncomputable def tiT_rllrlrrll : T TI := T.n (T.e : T TI) (some ti_307 : Option TI) (T.e : T TI)
noncomputable def tiT_rllrlrrl : T TI := T.n tiT_rllrlrrll (some ti_179 : Option TI) (T.e : T TI)
noncomputable def tiT_rllrlrrrl : T TI := T.n (T.e : T TI) (some ti_371 : Option TI) (T.e : T TI)
noncomputable def tiT_rllrlrrr : T TI := T.n tiT_rllrlrrrl (some ti_243 : Option TI) (T.e : T TI)
noncomputable def tiT_rllrlrr : T TI := T.n tiT_rllrlrrl (some ti_115 : Option TI) tiT_rllrlrrr
noncomputable def tiT_rllrlr : T TI := T.n tiT_rllrlrl (some ti_51 : Option TI) tiT_rllrlrr
noncomputable def tiT_rllrl : T TI := T.n tiT_rllrll (some ti_19 : Option TI) tiT_rllrlr
noncomputable def tiT_rllrrllll : T TI := T.n (T.e : T TI) (some ti_267 : Option TI) (T.e : T TI)
noncomputable def tiT_rllrrlllr : T TI := T.n (T.e : T TI) (some ti_395 : Option TI) (T.e : T TI)
noncomputable def tiT_rllrrlll : T TI := T.n tiT_rllrrllll (some ti_139 : Option TI) tiT_rllrrlllr
noncomputable def tiT_rllrrllrl : T TI := T.n (T.e : T TI) (some ti_331 : Option TI) (T.e : T TI)
noncomputable def tiT_rllrrllr : T TI := T.n tiT_rllrrllrl (some ti_203 : Option TI) (T.e : T TI)
noncomputable def tiT_rllrrll : T TI := T.n tiT_rllrrlll (some ti_75 : Option TI) tiT_rllrrllr
noncomputable def tiT_rllrrlrll : T TI := T.n (T.e : T TI) (some ti_299 : Option TI) (T.e : T TI)
noncomputable def tiT_rllrrlrlr : T TI := T.n (T.e : T TI) (some ti_427 : Option TI) (T.e : T TI)
noncomputable def tiT_rllrrlrl : T TI := T.n tiT_rllrrlrll (some ti_171 : Option TI) tiT_rllrrlrlr
noncomputable def tiT_rllrrlrrl : T TI := T.n (T.e : T TI) (some ti_363 : Option TI) (T.e : T TI)
noncomputable def tiT_rllrrlrr : T TI := T.n tiT_rllrrlrrl (some ti_235 : Option TI) (T.e : T TI)
noncomputable def tiT_rllrrlr : T TI := T.n tiT_rllrrlrl (some ti_107 : Option TI) tiT_rllrrlrr
noncomputable def tiT_rllrrl : T TI := T.n tiT_rllrrll (some ti_43 : Option TI) tiT_rllrrlr
noncomputable def tiT_rllrrrlll : T TI := T.n (T.e : T TI) (some ti_283 : Option TI) (T.e : T TI)
noncomputable def tiT_rllrrrll : T TI := T.n tiT_rllrrrlll (some ti_155 : Option TI) (T.e : T TI)
noncomputable def tiT_rllrrrlrl : T TI := T.n (T.e : T TI) (some ti_347 : Option TI) (T.e : T TI)
noncomputable def tiT_rllrrrlr : T TI := T.n tiT_rllrrrlrl (some ti_219 : Option TI) (T.e : T TI)
noncomputable def tiT_rllrrrl : T TI := T.n tiT_rllrrrll (some ti_91 : Option TI) tiT_rllrrrlr
noncomputable def tiT_rllrrrrll : T TI := T.n (T.e : T TI) (some ti_315 : Option TI) (T.e : T TI)
noncomputable def tiT_rllrrrrl : T TI := T.n tiT_rllrrrrll (some ti_187 : Option TI) (T.e : T TI)
noncomputable def tiT_rllrrrrrl : T TI := T.n (T.e : T TI) (some ti_379 : Option TI) (T.e : T TI)
noncomputable def tiT_rllrrrrr : T TI := T.n tiT_rllrrrrrl (some ti_251 : Option TI) (T.e : T TI)
noncomputable def tiT_rllrrrr : T TI := T.n tiT_rllrrrrl (some ti_123 : Option TI) tiT_rllrrrrr
noncomputable def tiT_rllrrr : T TI := T.n tiT_rllrrrl (some ti_59 : Option TI) tiT_rllrrrr
noncomputable def tiT_rllrr : T TI := T.n tiT_rllrrl (some ti_27 : Option TI) tiT_rllrrr
noncomputable def tiT_rllr : T TI := T.n tiT_rllrl (some ti_11 : Option TI) tiT_rllrr
noncomputable def tiT_rll : T TI := T.n tiT_rlll (some ti_3 : Option TI) tiT_rllr
noncomputable def tiT_rlrllllll : T TI := T.n (T.e : T TI) (some ti_257 : Option TI) (T.e : T TI)
noncomputable def tiT_rlrlllllr : T TI := T.n (T.e : T TI) (some ti_385 : Option TI) (T.e : T TI)
noncomputable def tiT_rlrlllll : T TI := T.n tiT_rlrllllll (some ti_129 : Option TI) tiT_rlrlllllr
noncomputable def tiT_rlrllllrl : T TI := T.n (T.e : T TI) (some ti_321 : Option TI) (T.e : T TI)
noncomputable def tiT_rlrllllr : T TI := T.n tiT_rlrllllrl (none : Option TI) (T.e : T TI)
noncomputable def tiT_rlrllll : T TI := T.n tiT_rlrlllll (some ti_65 : Option TI) tiT_rlrllllr
noncomputable def tiT_rlrlllrll : T TI := T.n (T.e : T TI) (some ti_289 : Option TI) (T.e : T TI)
noncomputable def tiT_rlrlllrlr : T TI := T.n (T.e : T TI) (some ti_417 : Option TI) (T.e : T TI)
noncomputable def tiT_rlrlllrl : T TI := T.n tiT_rlrlllrll (none : Option TI) tiT_rlrlllrlr
noncomputable def tiT_rlrlllrrl : T TI := T.n (T.e : T TI) (some ti_353 : Option TI) (T.e : T TI)
noncomputable def tiT_rlrlllrr : T TI := T.n tiT_rlrlllrrl (some ti_225 : Option TI) (T.e : T TI)
noncomputable def tiT_rlrlllr : T TI := T.n tiT_rlrlllrl (some ti_97 : Option TI) tiT_rlrlllrr
noncomputable def tiT_rlrlll : T TI := T.n tiT_rlrllll (some ti_33 : Option TI) tiT_rlrlllr
noncomputable def tiT_rlrllrlll : T TI := T.n (T.e : T TI) (some ti_273 : Option TI) (T.e : T TI)
noncomputable def tiT_rlrllrllr : T TI := T.n (T.e : T TI) (some ti_401 : Option TI) (T.e : T TI)
noncomputable def tiT_rlrllrll : T TI := T.n tiT_rlrllrlll (some ti_145 : Option TI) tiT_rlrllrllr
noncomputable def tiT_rlrllrlrl : T TI := T.n (T.e : T TI) (some ti_337 : Option TI) (T.e : T TI)
noncomputable def tiT_rlrllrlr : T TI := T.n tiT_rlrllrlrl (some ti_209 : Option TI) (T.e : T TI)
noncomputable def tiT_rlrllrl : T TI := T.n tiT_rlrllrll (some ti_81 : Option TI) tiT_rlrllrlr
noncomputable def tiT_rlrllrrll : T TI := T.n (T.e : T TI) (some ti_305 : Option TI) (T.e : T TI)
noncomputable def tiT_rlrllrrl : T TI := T.n tiT_rlrllrrll (some ti_177 : Option TI) (T.e : T TI)
noncomputable def tiT_rlrllrrrl : T TI := T.n (T.e : T TI) (some ti_369 : Option TI) (T.e : T TI)
noncomputable def tiT_rlrllrrr : T TI := T.n tiT_rlrllrrrl (some ti_241 : Option TI) (T.e : T TI)
noncomputable def tiT_rlrllrr : T TI := T.n tiT_rlrllrrl (some ti_113 : Option TI) tiT_rlrllrrr
noncomputable def tiT_rlrllr : T TI := T.n tiT_rlrllrl (some ti_49 : Option TI) tiT_rlrllrr
noncomputable def tiT_rlrll : T TI := T.n tiT_rlrlll (some ti_17 : Option TI) tiT_rlrllr
noncomputable def tiT_rlrlrllll : T TI := T.n (T.e : T TI) (some ti_265 : Option TI) (T.e : T TI)
noncomputable def tiT_rlrlrlllr : T TI := T.n (T.e : T TI) (some ti_393 : Option TI) (T.e : T TI)
noncomputable def tiT_rlrlrlll : T TI := T.n tiT_rlrlrllll (some ti_137 : Option TI) tiT_rlrlrlllr
noncomputable def tiT_rlrlrllrl : T TI := T.n (T.e : T TI) (some ti_329 : Option TI) (T.e : T TI)
noncomputable def tiT_rlrlrllr : T TI := T.n tiT_rlrlrllrl (none : Option TI) (T.e : T TI)
noncomputable def tiT_rlrlrll : T TI := T.n tiT_rlrlrlll (some ti_73 : Option TI) tiT_rlrlrllr
noncomputable def tiT_rlrlrlrll : T TI := T.n (T.e : T TI) (some ti_297 : Option TI) (T.e : T TI)
noncomputable def tiT_rlrlrlrlr : T TI := T.n (T.e : T TI) (some ti_425 : Option TI) (T.e : T TI)
noncomputable def tiT_rlrlrlrl : T TI := T.n tiT_rlrlrlrll (some ti_169 : Option TI) tiT_rlrlrlrlr
noncomputable def tiT_rlrlrlrrl : T TI := T.n (T.e : T TI) (some ti_361 : Option TI) (T.e : T TI)
noncomputable def tiT_rlrlrlrr : T TI := T.n tiT_rlrlrlrrl (some ti_233 : Option TI) (T.e : T TI)
noncomputable def tiT_rlrlrlr : T TI := T.n tiT_rlrlrlrl (some ti_105 : Option TI) tiT_rlrlrlrr
noncomputable def tiT_rlrlrl : T TI := T.n tiT_rlrlrll (some ti_41 : Option TI) tiT_rlrlrlr
noncomputable def tiT_rlrlrrllr : T TI := T.n (T.e : T TI) (some ti_409 : Option TI) (T.e : T TI)
noncomputable def tiT_rlrlrrll : T TI := T.n (T.e : T TI) (some ti_153 : Option TI) tiT_rlrlrrllr
noncomputable def tiT_rlrlrrlrl : T TI := T.n (T.e : T TI) (some ti_345 : Option TI) (T.e : T TI)
noncomputable def tiT_rlrlrrlr : T TI := T.n tiT_rlrlrrlrl (some ti_217 : Option TI) (T.e : T TI)
noncomputable def tiT_rlrlrrl : T TI := T.n tiT_rlrlrrll (some ti_89 : Option TI) tiT_rlrlrrlr
noncomputable def tiT_rlrlrrrll : T TI := T.n (T.e : T TI) (some ti_313 : Option TI) (T.e : T TI)
noncomputable def tiT_rlrlrrrl : T TI := T.n tiT_rlrlrrrll (some ti_185 : Option TI) (T.e : T TI)
noncomputable def tiT_rlrlrrrrl : T TI := T.n (T.e : T TI) (some ti_377 : Option TI) (T.e : T TI)
noncomputable def tiT_rlrlrrrr : T TI := T.n tiT_rlrlrrrrl (some ti_249 : Option TI) (T.e : T TI)
noncomputable def tiT_rlrlrrr : T TI := T.n tiT_rlrlrrrl (some ti_121 : Option TI) tiT_rlrlrrrr
noncomputable def tiT_rlrlrr : T TI := T.n tiT_rlrlrrl (some ti_57 : Option TI) tiT_rlrlrrr
noncomputable def tiT_rlrlr : T TI := T.n tiT_rlrlrl (some ti_25 : Option TI) tiT_rlrlrr
noncomputable def tiT_rlrl : T TI := T.n tiT_rlrll (some ti_9 : Option TI) tiT_rlrlr
noncomputable def tiT_rlrrlllll : T TI := T.n (T.e : T TI) (some ti_261 : Option TI) (T.e : T TI)
noncomputable def tiT_rlrrllllr : T TI := T.n (T.e : T TI) (some ti_389 : Option TI) (T.e : T TI)
noncomputable def tiT_rlrrllll : T TI := T.n tiT_rlrrlllll (some ti_133 : Option TI) tiT_rlrrllllr
noncomputable def tiT_rlrrlllrl : T TI := T.n (T.e : T TI) (some ti_325 : Option TI) (T.e : T TI)
noncomputable def tiT_rlrrlllr : T TI := T.n tiT_rlrrlllrl (some ti_197 : Option TI) (T.e : T TI)
noncomputable def tiT_rlrrlll : T TI := T.n tiT_rlrrllll (some ti_69 : Option TI) tiT_rlrrlllr
noncomputable def tiT_rlrrllrll : T TI := T.n (T.e : T TI) (some ti_293 : Option TI) (T.e : T TI)
noncomputable def tiT_rlrrllrlr : T TI := T.n (T.e : T TI) (some ti_421 : Option TI) (T.e : T TI)
noncomputable def tiT_rlrrllrl : T TI := T.n tiT_rlrrllrll (some ti_165 : Option TI) tiT_rlrrllrlr
noncomputable def tiT_rlrrllrrl : T TI := T.n (T.e : T TI) (some ti_357 : Option TI) (T.e : T TI)
noncomputable def tiT_rlrrllrr : T TI := T.n tiT_rlrrllrrl (none : Option TI) (T.e : T TI)
noncomputable def tiT_rlrrllr : T TI := T.n tiT_rlrrllrl (some ti_101 : Option TI) tiT_rlrrllrr
noncomputable def tiT_rlrrll : T TI := T.n tiT_rlrrlll (some ti_37 : Option TI) tiT_rlrrllr
noncomputable def tiT_rlrrlrlll : T TI := T.n (T.e : T TI) (some ti_277 : Option TI) (T.e : T TI)
noncomputable def tiT_rlrrlrllr : T TI := T.n (T.e : T TI) (some ti_405 : Option TI) (T.e : T TI)
noncomputable def tiT_rlrrlrll : T TI := T.n tiT_rlrrlrlll (some ti_149 : Option TI) tiT_rlrrlrllr
noncomputable def tiT_rlrrlrlrl : T TI := T.n (T.e : T TI) (some ti_341 : Option TI) (T.e : T TI)
noncomputable def tiT_rlrrlrlr : T TI := T.n tiT_rlrrlrlrl (some ti_213 : Option TI) (T.e : T TI)
noncomputable def tiT_rlrrlrl : T TI := T.n tiT_rlrrlrll (none : Option TI) tiT_rlrrlrlr
noncomputable def tiT_rlrrlrrll : T TI := T.n (T.e : T TI) (some ti_309 : Option TI) (T.e : T TI)
noncomputable def tiT_rlrrlrrl : T TI := T.n tiT_rlrrlrrll (some ti_181 : Option TI) (T.e : T TI)
noncomputable def tiT_rlrrlrrrl : T TI := T.n (T.e : T TI) (some ti_373 : Option TI) (T.e : T TI)
noncomputable def tiT_rlrrlrrr : T TI := T.n tiT_rlrrlrrrl (some ti_245 : Option TI) (T.e : T TI)
noncomputable def tiT_rlrrlrr : T TI := T.n tiT_rlrrlrrl (some ti_117 : Option TI) tiT_rlrrlrrr
noncomputable def tiT_rlrrlr : T TI := T.n tiT_rlrrlrl (some ti_53 : Option TI) tiT_rlrrlrr
noncomputable def tiT_rlrrl : T TI := T.n tiT_rlrrll (some ti_21 : Option TI) tiT_rlrrlr
noncomputable def tiT_rlrrrllll : T TI := T.n (T.e : T TI) (some ti_269 : Option TI) (T.e : T TI)
noncomputable def tiT_rlrrrlllr : T TI := T.n (T.e : T TI) (some ti_397 : Option TI) (T.e : T TI)
noncomputable def tiT_rlrrrlll : T TI := T.n tiT_rlrrrllll (some ti_141 : Option TI) tiT_rlrrrlllr
noncomputable def tiT_rlrrrllrl : T TI := T.n (T.e : T TI) (some ti_333 : Option TI) (T.e : T TI)
noncomputable def tiT_rlrrrllr : T TI := T.n tiT_rlrrrllrl (some ti_205 : Option TI) (T.e : T TI)
noncomputable def tiT_rlrrrll : T TI := T.n tiT_rlrrrlll (some ti_77 : Option TI) tiT_rlrrrllr
noncomputable def tiT_rlrrrlrrl : T TI := T.n (T.e : T TI) (some ti_365 : Option TI) (T.e : T TI)
noncomputable def tiT_rlrrrlrr : T TI := T.n tiT_rlrrrlrrl (some ti_237 : Option TI) (T.e : T TI)
noncomputable def tiT_rlrrrlr : T TI := T.n (T.e : T TI) (some ti_109 : Option TI) tiT_rlrrrlrr
noncomputable def tiT_rlrrrl : T TI := T.n tiT_rlrrrll (some ti_45 : Option TI) tiT_rlrrrlr
noncomputable def tiT_rlrrrrlll : T TI := T.n (T.e : T TI) (some ti_285 : Option TI) (T.e : T TI)
noncomputable def tiT_rlrrrrllr : T TI := T.n (T.e : T TI) (some ti_413 : Option TI) (T.e : T TI)
noncomputable def tiT_rlrrrrll : T TI := T.n tiT_rlrrrrlll (some ti_157 : Option TI) tiT_rlrrrrllr
noncomputable def tiT_rlrrrrlrl : T TI := T.n (T.e : T TI) (some ti_349 : Option TI) (T.e : T TI)
noncomputable def tiT_rlrrrrlr : T TI := T.n tiT_rlrrrrlrl (none : Option TI) (T.e : T TI)
noncomputable def tiT_rlrrrrl : T TI := T.n tiT_rlrrrrll (none : Option TI) tiT_rlrrrrlr
noncomputable def tiT_rlrrrrrll : T TI := T.n (T.e : T TI) (some ti_317 : Option TI) (T.e : T TI)
noncomputable def tiT_rlrrrrrl : T TI := T.n tiT_rlrrrrrll (some ti_189 : Option TI) (T.e : T TI)
noncomputable def tiT_rlrrrrrrl : T TI := T.n (T.e : T TI) (some ti_381 : Option TI) (T.e : T TI)
noncomputable def tiT_rlrrrrrr : T TI := T.n tiT_rlrrrrrrl (some ti_253 : Option TI) (T.e : T TI)
noncomputable def tiT_rlrrrrr : T TI := T.n tiT_rlrrrrrl (some ti_125 : Option TI) tiT_rlrrrrrr
noncomputable def tiT_rlrrrr : T TI := T.n tiT_rlrrrrl (some ti_61 : Option TI) tiT_rlrrrrr
noncomputable def tiT_rlrrr : T TI := T.n tiT_rlrrrl (some ti_29 : Option TI) tiT_rlrrrr
noncomputable def tiT_rlrr : T TI := T.n tiT_rlrrl (some ti_13 : Option TI) tiT_rlrrr
noncomputable def tiT_rlr : T TI := T.n tiT_rlrl (some ti_5 : Option TI) tiT_rlrr
noncomputable def tiT_rl : T TI := T.n tiT_rll (some ti_1 : Option TI) tiT_rlr
noncomputable def tiT_rrlllllll : T TI := T.n (T.e : T TI) (some ti_256 : Option TI) (T.e : T TI)
noncomputable def tiT_rrllllllr : T TI := T.n (T.e : T TI) (some ti_384 : Option TI) (T.e : T TI)
noncomputable def tiT_rrllllll : T TI := T.n tiT_rrlllllll (some ti_128 : Option TI) tiT_rrllllllr
noncomputable def tiT_rrlllllrl : T TI := T.n (T.e : T TI) (some ti_320 : Option TI) (T.e : T TI)
noncomputable def tiT_rrlllllr : T TI := T.n tiT_rrlllllrl (some ti_192 : Option TI) (T.e : T TI)
noncomputable def tiT_rrlllll : T TI := T.n tiT_rrllllll (some ti_64 : Option TI) tiT_rrlllllr
noncomputable def tiT_rrllllrll : T TI := T.n (T.e : T TI) (some ti_288 : Option TI) (T.e : T TI)
noncomputable def tiT_rrllllrlr : T TI := T.n (T.e : T TI) (some ti_416 : Option TI) (T.e : T TI)
noncomputable def tiT_rrllllrl : T TI := T.n tiT_rrllllrll (some ti_160 : Option TI) tiT_rrllllrlr
noncomputable def tiT_rrllllrrl : T TI := T.n (T.e : T TI) (some ti_352 : Option TI) (T.e : T TI)
noncomputable def tiT_rrllllrr : T TI := T.n tiT_rrllllrrl (none : Option TI) (T.e : T TI)
noncomputable def tiT_rrllllr : T TI := T.n tiT_rrllllrl (some ti_96 : Option TI) tiT_rrllllrr
noncomputable def tiT_rrllll : T TI := T.n tiT_rrlllll (some ti_32 : Option TI) tiT_rrllllr
noncomputable def tiT_rrlllrlll : T TI := T.n (T.e : T TI) (some ti_272 : Option TI) (T.e : T TI)
noncomputable def tiT_rrlllrllr : T TI := T.n (T.e : T TI) (some ti_400 : Option TI) (T.e : T TI)
noncomputable def tiT_rrlllrll : T TI := T.n tiT_rrlllrlll (none : Option TI) tiT_rrlllrllr
noncomputable def tiT_rrlllrlrl : T TI := T.n (T.e : T TI) (some ti_336 : Option TI) (T.e : T TI)
noncomputable def tiT_rrlllrlr : T TI := T.n tiT_rrlllrlrl (none : Option TI) (T.e : T TI)
noncomputable def tiT_rrlllrl : T TI := T.n tiT_rrlllrll (some ti_80 : Option TI) tiT_rrlllrlr
noncomputable def tiT_rrlllrrll : T TI := T.n (T.e : T TI) (some ti_304 : Option TI) (T.e : T TI)
noncomputable def tiT_rrlllrrl : T TI := T.n tiT_rrlllrrll (none : Option TI) (T.e : T TI)
noncomputable def tiT_rrlllrrrl : T TI := T.n (T.e : T TI) (some ti_368 : Option TI) (T.e : T TI)
noncomputable def tiT_rrlllrrr : T TI := T.n tiT_rrlllrrrl (some ti_240 : Option TI) (T.e : T TI)
noncomputable def tiT_rrlllrr : T TI := T.n tiT_rrlllrrl (some ti_112 : Option TI) tiT_rrlllrrr
noncomputable def tiT_rrlllr : T TI := T.n tiT_rrlllrl (some ti_48 : Option TI) tiT_rrlllrr
noncomputable def tiT_rrlll : T TI := T.n tiT_rrllll (some ti_16 : Option TI) tiT_rrlllr
noncomputable def tiT_rrllrllll : T TI := T.n (T.e : T TI) (some ti_264 : Option TI) (T.e : T TI)
noncomputable def tiT_rrllrlllr : T TI := T.n (T.e : T TI) (some ti_392 : Option TI) (T.e : T TI)
noncomputable def tiT_rrllrlll : T TI := T.n tiT_rrllrllll (some ti_136 : Option TI) tiT_rrllrlllr
noncomputable def tiT_rrllrllrl : T TI := T.n (T.e : T TI) (some ti_328 : Option TI) (T.e : T TI)
noncomputable def tiT_rrllrllr : T TI := T.n tiT_rrllrllrl (some ti_200 : Option TI) (T.e : T TI)
noncomputable def tiT_rrllrll : T TI := T.n tiT_rrllrlll (some ti_72 : Option TI) tiT_rrllrllr
noncomputable def tiT_rrllrlrll : T TI := T.n (T.e : T TI) (some ti_296 : Option TI) (T.e : T TI)
noncomputable def tiT_rrllrlrlr : T TI := T.n (T.e : T TI) (some ti_424 : Option TI) (T.e : T TI)
noncomputable def tiT_rrllrlrl : T TI := T.n tiT_rrllrlrll (some ti_168 : Option TI) tiT_rrllrlrlr
noncomputable def tiT_rrllrlrrl : T TI := T.n (T.e : T TI) (some ti_360 : Option TI) (T.e : T TI)
noncomputable def tiT_rrllrlrr : T TI := T.n tiT_rrllrlrrl (some ti_232 : Option TI) (T.e : T TI)
noncomputable def tiT_rrllrlr : T TI := T.n tiT_rrllrlrl (some ti_104 : Option TI) tiT_rrllrlrr
noncomputable def tiT_rrllrl : T TI := T.n tiT_rrllrll (some ti_40 : Option TI) tiT_rrllrlr
noncomputable def tiT_rrllrrlll : T TI := T.n (T.e : T TI) (some ti_280 : Option TI) (T.e : T TI)
noncomputable def tiT_rrllrrll : T TI := T.n tiT_rrllrrlll (some ti_152 : Option TI) (T.e : T TI)
noncomputable def tiT_rrllrrlr : T TI := T.n (T.e : T TI) (some ti_216 : Option TI) (T.e : T TI)
noncomputable def tiT_rrllrrl : T TI := T.n tiT_rrllrrll (some ti_88 : Option TI) tiT_rrllrrlr
noncomputable def tiT_rrllrrrll : T TI := T.n (T.e : T TI) (some ti_312 : Option TI) (T.e : T TI)
noncomputable def tiT_rrllrrrl : T TI := T.n tiT_rrllrrrll (some ti_184 : Option TI) (T.e : T TI)
noncomputable def tiT_rrllrrrrl : T TI := T.n (T.e : T TI) (some ti_376 : Option TI) (T.e : T TI)
noncomputable def tiT_rrllrrrr : T TI := T.n tiT_rrllrrrrl (some ti_248 : Option TI) (T.e : T TI)
noncomputable def tiT_rrllrrr : T TI := T.n tiT_rrllrrrl (some ti_120 : Option TI) tiT_rrllrrrr
noncomputable def tiT_rrllrr : T TI := T.n tiT_rrllrrl (some ti_56 : Option TI) tiT_rrllrrr
noncomputable def tiT_rrllr : T TI := T.n tiT_rrllrl (some ti_24 : Option TI) tiT_rrllrr
noncomputable def tiT_rrll : T TI := T.n tiT_rrlll (some ti_8 : Option TI) tiT_rrllr
noncomputable def tiT_rrlrlllll : T TI := T.n (T.e : T TI) (some ti_260 : Option TI) (T.e : T TI)
noncomputable def tiT_rrlrllllr : T TI := T.n (T.e : T TI) (some ti_388 : Option TI) (T.e : T TI)
noncomputable def tiT_rrlrllll : T TI := T.n tiT_rrlrlllll (some ti_132 : Option TI) tiT_rrlrllllr
noncomputable def tiT_rrlrlllrl : T TI := T.n (T.e : T TI) (some ti_324 : Option TI) (T.e : T TI)
noncomputable def tiT_rrlrlllr : T TI := T.n tiT_rrlrlllrl (some ti_196 : Option TI) (T.e : T TI)
noncomputable def tiT_rrlrlll : T TI := T.n tiT_rrlrllll (some ti_68 : Option TI) tiT_rrlrlllr
noncomputable def tiT_rrlrllrll : T TI := T.n (T.e : T TI) (some ti_292 : Option TI) (T.e : T TI)
noncomputable def tiT_rrlrllrlr : T TI := T.n (T.e : T TI) (some ti_420 : Option TI) (T.e : T TI)
noncomputable def tiT_rrlrllrl : T TI := T.n tiT_rrlrllrll (some ti_164 : Option TI) tiT_rrlrllrlr
noncomputable def tiT_rrlrllrrl : T TI := T.n (T.e : T TI) (some ti_356 : Option TI) (T.e : T TI)
noncomputable def tiT_rrlrllrr : T TI := T.n tiT_rrlrllrrl (some ti_228 : Option TI) (T.e : T TI)
noncomputable def tiT_rrlrllr : T TI := T.n tiT_rrlrllrl (some ti_100 : Option TI) tiT_rrlrllrr
noncomputable def tiT_rrlrll : T TI := T.n tiT_rrlrlll (some ti_36 : Option TI) tiT_rrlrllr
noncomputable def tiT_rrlrlrlll : T TI := T.n (T.e : T TI) (some ti_276 : Option TI) (T.e : T TI)
noncomputable def tiT_rrlrlrllr : T TI := T.n (T.e : T TI) (some ti_404 : Option TI) (T.e : T TI)
noncomputable def tiT_rrlrlrll : T TI := T.n tiT_rrlrlrlll (some ti_148 : Option TI) tiT_rrlrlrllr
noncomputable def tiT_rrlrlrlr : T TI := T.n (T.e : T TI) (some ti_212 : Option TI) (T.e : T TI)
noncomputable def tiT_rrlrlrl : T TI := T.n tiT_rrlrlrll (some ti_84 : Option TI) tiT_rrlrlrlr
noncomputable def tiT_rrlrlrrll : T TI := T.n (T.e : T TI) (some ti_308 : Option TI) (T.e : T TI)
noncomputable def tiT_rrlrlrrl : T TI := T.n tiT_rrlrlrrll (some ti_180 : Option TI) (T.e : T TI)
noncomputable def tiT_rrlrlrrrl : T TI := T.n (T.e : T TI) (some ti_372 : Option TI) (T.e : T TI)
noncomputable def tiT_rrlrlrrr : T TI := T.n tiT_rrlrlrrrl (none : Option TI) (T.e : T TI)
noncomputable def tiT_rrlrlrr : T TI := T.n tiT_rrlrlrrl (some ti_116 : Option TI) tiT_rrlrlrrr
noncomputable def tiT_rrlrlr : T TI := T.n tiT_rrlrlrl (some ti_52 : Option TI) tiT_rrlrlrr
noncomputable def tiT_rrlrl : T TI := T.n tiT_rrlrll (some ti_20 : Option TI) tiT_rrlrlr
noncomputable def tiT_rrlrrlllr : T TI := T.n (T.e : T TI) (some ti_396 : Option TI) (T.e : T TI)
noncomputable def tiT_rrlrrlll : T TI := T.n (T.e : T TI) (some ti_140 : Option TI) tiT_rrlrrlllr
noncomputable def tiT_rrlrrllrl : T TI := T.n (T.e : T TI) (some ti_332 : Option TI) (T.e : T TI)
noncomputable def tiT_rrlrrllr : T TI := T.n tiT_rrlrrllrl (none : Option TI) (T.e : T TI)
noncomputable def tiT_rrlrrll : T TI := T.n tiT_rrlrrlll (some ti_76 : Option TI) tiT_rrlrrllr
noncomputable def tiT_rrlrrlrll : T TI := T.n (T.e : T TI) (some ti_300 : Option TI) (T.e : T TI)
noncomputable def tiT_rrlrrlrlr : T TI := T.n (T.e : T TI) (some ti_428 : Option TI) (T.e : T TI)
noncomputable def tiT_rrlrrlrl : T TI := T.n tiT_rrlrrlrll (some ti_172 : Option TI) tiT_rrlrrlrlr
noncomputable def tiT_rrlrrlrr : T TI := T.n (T.e : T TI) (some ti_236 : Option TI) (T.e : T TI)
noncomputable def tiT_rrlrrlr : T TI := T.n tiT_rrlrrlrl (some ti_108 : Option TI) tiT_rrlrrlrr
noncomputable def tiT_rrlrrl : T TI := T.n tiT_rrlrrll (some ti_44 : Option TI) tiT_rrlrrlr
noncomputable def tiT_rrlrrrlll : T TI := T.n (T.e : T TI) (some ti_284 : Option TI) (T.e : T TI)
noncomputable def tiT_rrlrrrllr : T TI := T.n (T.e : T TI) (some ti_412 : Option TI) (T.e : T TI)
noncomputable def tiT_rrlrrrll : T TI := T.n tiT_rrlrrrlll (some ti_156 : Option TI) tiT_rrlrrrllr
noncomputable def tiT_rrlrrrlrl : T TI := T.n (T.e : T TI) (some ti_348 : Option TI) (T.e : T TI)
noncomputable def tiT_rrlrrrlr : T TI := T.n tiT_rrlrrrlrl (some ti_220 : Option TI) (T.e : T TI)
noncomputable def tiT_rrlrrrl : T TI := T.n tiT_rrlrrrll (some ti_92 : Option TI) tiT_rrlrrrlr
noncomputable def tiT_rrlrrrrll : T TI := T.n (T.e : T TI) (some ti_316 : Option TI) (T.e : T TI)
noncomputable def tiT_rrlrrrrl : T TI := T.n tiT_rrlrrrrll (some ti_188 : Option TI) (T.e : T TI)
noncomputable def tiT_rrlrrrrrl : T TI := T.n (T.e : T TI) (some ti_380 : Option TI) (T.e : T TI)
noncomputable def tiT_rrlrrrrr : T TI := T.n tiT_rrlrrrrrl (some ti_252 : Option TI) (T.e : T TI)
noncomputable def tiT_rrlrrrr : T TI := T.n tiT_rrlrrrrl (some ti_124 : Option TI) tiT_rrlrrrrr
noncomputable def tiT_rrlrrr : T TI := T.n tiT_rrlrrrl (some ti_60 : Option TI) tiT_rrlrrrr
noncomputable def tiT_rrlrr : T TI := T.n tiT_rrlrrl (some ti_28 : Option TI) tiT_rrlrrr
noncomputable def tiT_rrlr : T TI := T.n tiT_rrlrl (some ti_12 : Option TI) tiT_rrlrr
noncomputable def tiT_rrl : T TI := T.n tiT_rrll (some ti_4 : Option TI) tiT_rrlr
noncomputable def tiT_rrrllllll : T TI := T.n (T.e : T TI) (some ti_258 : Option TI) (T.e : T TI)
noncomputable def tiT_rrrlllllr : T TI := T.n (T.e : T TI) (some ti_386 : Option TI) (T.e : T TI)
noncomputable def tiT_rrrlllll : T TI := T.n tiT_rrrllllll (some ti_130 : Option TI) tiT_rrrlllllr
noncomputable def tiT_rrrllllrl : T TI := T.n (T.e : T TI) (some ti_322 : Option TI) (T.e : T TI)
noncomputable def tiT_rrrllllr : T TI := T.n tiT_rrrllllrl (some ti_194 : Option TI) (T.e : T TI)
noncomputable def tiT_rrrllll : T TI := T.n tiT_rrrlllll (some ti_66 : Option TI) tiT_rrrllllr
noncomputable def tiT_rrrlllrll : T TI := T.n (T.e : T TI) (some ti_290 : Option TI) (T.e : T TI)
noncomputable def tiT_rrrlllrlr : T TI := T.n (T.e : T TI) (some ti_418 : Option TI) (T.e : T TI)
noncomputable def tiT_rrrlllrl : T TI := T.n tiT_rrrlllrll (some ti_162 : Option TI) tiT_rrrlllrlr
noncomputable def tiT_rrrlllrrl : T TI := T.n (T.e : T TI) (some ti_354 : Option TI) (T.e : T TI)
noncomputable def tiT_rrrlllrr : T TI := T.n tiT_rrrlllrrl (some ti_226 : Option TI) (T.e : T TI)
noncomputable def tiT_rrrlllr : T TI := T.n tiT_rrrlllrl (some ti_98 : Option TI) tiT_rrrlllrr
noncomputable def tiT_rrrlll : T TI := T.n tiT_rrrllll (some ti_34 : Option TI) tiT_rrrlllr
noncomputable def tiT_rrrllrlll : T TI := T.n (T.e : T TI) (some ti_274 : Option TI) (T.e : T TI)
noncomputable def tiT_rrrllrllr : T TI := T.n (T.e : T TI) (some ti_402 : Option TI) (T.e : T TI)
noncomputable def tiT_rrrllrll : T TI := T.n tiT_rrrllrlll (some ti_146 : Option TI) tiT_rrrllrllr
noncomputable def tiT_rrrllrlrl : T TI := T.n (T.e : T TI) (some ti_338 : Option TI) (T.e : T TI)
noncomputable def tiT_rrrllrlr : T TI := T.n tiT_rrrllrlrl (some ti_210 : Option TI) (T.e : T TI)
noncomputable def tiT_rrrllrl : T TI := T.n tiT_rrrllrll (some ti_82 : Option TI) tiT_rrrllrlr
noncomputable def tiT_rrrllrrll : T TI := T.n (T.e : T TI) (some ti_306 : Option TI) (T.e : T TI)
noncomputable def tiT_rrrllrrl : T TI := T.n tiT_rrrllrrll (some ti_178 : Option TI) (T.e : T TI)
noncomputable def tiT_rrrllrrrl : T TI := T.n (T.e : T TI) (some ti_370 : Option TI) (T.e : T TI)
noncomputable def tiT_rrrllrrr : T TI := T.n tiT_rrrllrrrl (some ti_242 : Option TI) (T.e : T TI)
noncomputable def tiT_rrrllrr : T TI := T.n tiT_rrrllrrl (some ti_114 : Option TI) tiT_rrrllrrr
noncomputable def tiT_rrrllr : T TI := T.n tiT_rrrllrl (some ti_50 : Option TI) tiT_rrrllrr
noncomputable def tiT_rrrll : T TI := T.n tiT_rrrlll (some ti_18 : Option TI) tiT_rrrllr
noncomputable def tiT_rrrlrlllr : T TI := T.n (T.e : T TI) (some ti_394 : Option TI) (T.e : T TI)
noncomputable def tiT_rrrlrlll : T TI := T.n (T.e : T TI) (some ti_138 : Option TI) tiT_rrrlrlllr
noncomputable def tiT_rrrlrllrl : T TI := T.n (T.e : T TI) (some ti_330 : Option TI) (T.e : T TI)
noncomputable def tiT_rrrlrllr : T TI := T.n tiT_rrrlrllrl (some ti_202 : Option TI) (T.e : T TI)
noncomputable def tiT_rrrlrll : T TI := T.n tiT_rrrlrlll (some ti_74 : Option TI) tiT_rrrlrllr
noncomputable def tiT_rrrlrlrll : T TI := T.n (T.e : T TI) (some ti_298 : Option TI) (T.e : T TI)
noncomputable def tiT_rrrlrlrlr : T TI := T.n (T.e : T TI) (some ti_426 : Option TI) (T.e : T TI)
noncomputable def tiT_rrrlrlrl : T TI := T.n tiT_rrrlrlrll (some ti_170 : Option TI) tiT_rrrlrlrlr
noncomputable def tiT_rrrlrlrrl : T TI := T.n (T.e : T TI) (some ti_362 : Option TI) (T.e : T TI)
noncomputable def tiT_rrrlrlrr : T TI := T.n tiT_rrrlrlrrl (some ti_234 : Option TI) (T.e : T TI)
noncomputable def tiT_rrrlrlr : T TI := T.n tiT_rrrlrlrl (some ti_106 : Option TI) tiT_rrrlrlrr
noncomputable def tiT_rrrlrl : T TI := T.n tiT_rrrlrll (some ti_42 : Option TI) tiT_rrrlrlr
noncomputable def tiT_rrrlrrlll : T TI := T.n (T.e : T TI) (some ti_282 : Option TI) (T.e : T TI)
noncomputable def tiT_rrrlrrllr : T TI := T.n (T.e : T TI) (some ti_410 : Option TI) (T.e : T TI)
noncomputable def tiT_rrrlrrll : T TI := T.n tiT_rrrlrrlll (some ti_154 : Option TI) tiT_rrrlrrllr
noncomputable def tiT_rrrlrrlrl : T TI := T.n (T.e : T TI) (some ti_346 : Option TI) (T.e : T TI)
noncomputable def tiT_rrrlrrlr : T TI := T.n tiT_rrrlrrlrl (some ti_218 : Option TI) (T.e : T TI)
noncomputable def tiT_rrrlrrl : T TI := T.n tiT_rrrlrrll (some ti_90 : Option TI) tiT_rrrlrrlr
noncomputable def tiT_rrrlrrrll : T TI := T.n (T.e : T TI) (some ti_314 : Option TI) (T.e : T TI)
noncomputable def tiT_rrrlrrrl : T TI := T.n tiT_rrrlrrrll (some ti_186 : Option TI) (T.e : T TI)
noncomputable def tiT_rrrlrrrr : T TI := T.n (T.e : T TI) (some ti_250 : Option TI) (T.e : T TI)
noncomputable def tiT_rrrlrrr : T TI := T.n tiT_rrrlrrrl (some ti_122 : Option TI) tiT_rrrlrrrr
noncomputable def tiT_rrrlrr : T TI := T.n tiT_rrrlrrl (some ti_58 : Option TI) tiT_rrrlrrr
noncomputable def tiT_rrrlr : T TI := T.n tiT_rrrlrl (some ti_26 : Option TI) tiT_rrrlrr
noncomputable def tiT_rrrl : T TI := T.n tiT_rrrll (some ti_10 : Option TI) tiT_rrrlr
noncomputable def tiT_rrrrlllll : T TI := T.n (T.e : T TI) (some ti_262 : Option TI) (T.e : T TI)
noncomputable def tiT_rrrrllllr : T TI := T.n (T.e : T TI) (some ti_390 : Option TI) (T.e : T TI)
noncomputable def tiT_rrrrllll : T TI := T.n tiT_rrrrlllll (some ti_134 : Option TI) tiT_rrrrllllr
noncomputable def tiT_rrrrlllrl : T TI := T.n (T.e : T TI) (some ti_326 : Option TI) (T.e : T TI)
noncomputable def tiT_rrrrlllr : T TI := T.n tiT_rrrrlllrl (none : Option TI) (T.e : T TI)
noncomputable def tiT_rrrrlll : T TI := T.n tiT_rrrrllll (some ti_70 : Option TI) tiT_rrrrlllr
noncomputable def tiT_rrrrllrll : T TI := T.n (T.e : T TI) (some ti_294 : Option TI) (T.e : T TI)
noncomputable def tiT_rrrrllrlr : T TI := T.n (T.e : T TI) (some ti_422 : Option TI) (T.e : T TI)
noncomputable def tiT_rrrrllrl : T TI := T.n tiT_rrrrllrll (some ti_166 : Option TI) tiT_rrrrllrlr
noncomputable def tiT_rrrrllrrl : T TI := T.n (T.e : T TI) (some ti_358 : Option TI) (T.e : T TI)
noncomputable def tiT_rrrrllrr : T TI := T.n tiT_rrrrllrrl (some ti_230 : Option TI) (T.e : T TI)
noncomputable def tiT_rrrrllr : T TI := T.n tiT_rrrrllrl (some ti_102 : Option TI) tiT_rrrrllrr
noncomputable def tiT_rrrrll : T TI := T.n tiT_rrrrlll (some ti_38 : Option TI) tiT_rrrrllr
noncomputable def tiT_rrrrlrlll : T TI := T.n (T.e : T TI) (some ti_278 : Option TI) (T.e : T TI)
noncomputable def tiT_rrrrlrll : T TI := T.n tiT_rrrrlrlll (some ti_150 : Option TI) (T.e : T TI)
noncomputable def tiT_rrrrlrlrl : T TI := T.n (T.e : T TI) (some ti_342 : Option TI) (T.e : T TI)
noncomputable def tiT_rrrrlrlr : T TI := T.n tiT_rrrrlrlrl (some ti_214 : Option TI) (T.e : T TI)
noncomputable def tiT_rrrrlrl : T TI := T.n tiT_rrrrlrll (some ti_86 : Option TI) tiT_rrrrlrlr
noncomputable def tiT_rrrrlrrrl : T TI := T.n (T.e : T TI) (some ti_374 : Option TI) (T.e : T TI)
noncomputable def tiT_rrrrlrrr : T TI := T.n tiT_rrrrlrrrl (some ti_246 : Option TI) (T.e : T TI)
noncomputable def tiT_rrrrlrr : T TI := T.n (T.e : T TI) (some ti_118 : Option TI) tiT_rrrrlrrr
noncomputable def tiT_rrrrlr : T TI := T.n tiT_rrrrlrl (some ti_54 : Option TI) tiT_rrrrlrr
noncomputable def tiT_rrrrl : T TI := T.n tiT_rrrrll (some ti_22 : Option TI) tiT_rrrrlr
noncomputable def tiT_rrrrrllll : T TI := T.n (T.e : T TI) (some ti_270 : Option TI) (T.e : T TI)
noncomputable def tiT_rrrrrlll : T TI := T.n tiT_rrrrrllll (some ti_142 : Option TI) (T.e : T TI)
noncomputable def tiT_rrrrrllrl : T TI := T.n (T.e : T TI) (some ti_334 : Option TI) (T.e : T TI)
noncomputable def tiT_rrrrrllr : T TI := T.n tiT_rrrrrllrl (none : Option TI) (T.e : T TI)
noncomputable def tiT_rrrrrll : T TI := T.n tiT_rrrrrlll (none : Option TI) tiT_rrrrrllr
noncomputable def tiT_rrrrrlrll : T TI := T.n (T.e : T TI) (some ti_302 : Option TI) (T.e : T TI)
noncomputable def tiT_rrrrrlrl : T TI := T.n tiT_rrrrrlrll (some ti_174 : Option TI) (T.e : T TI)
noncomputable def tiT_rrrrrlrrl : T TI := T.n (T.e : T TI) (some ti_366 : Option TI) (T.e : T TI)
noncomputable def tiT_rrrrrlrr : T TI := T.n tiT_rrrrrlrrl (some ti_238 : Option TI) (T.e : T TI)
noncomputable def tiT_rrrrrlr : T TI := T.n tiT_rrrrrlrl (some ti_110 : Option TI) tiT_rrrrrlrr
noncomputable def tiT_rrrrrl : T TI := T.n tiT_rrrrrll (some ti_46 : Option TI) tiT_rrrrrlr
noncomputable def tiT_rrrrrrlll : T TI := T.n (T.e : T TI) (some ti_286 : Option TI) (T.e : T TI)
noncomputable def tiT_rrrrrrllr : T TI := T.n (T.e : T TI) (some ti_414 : Option TI) (T.e : T TI)
noncomputable def tiT_rrrrrrll : T TI := T.n tiT_rrrrrrlll (some ti_158 : Option TI) tiT_rrrrrrllr
noncomputable def tiT_rrrrrrlrl : T TI := T.n (T.e : T TI) (some ti_350 : Option TI) (T.e : T TI)
noncomputable def tiT_rrrrrrlr : T TI := T.n tiT_rrrrrrlrl (some ti_222 : Option TI) (T.e : T TI)
noncomputable def tiT_rrrrrrl : T TI := T.n tiT_rrrrrrll (some ti_94 : Option TI) tiT_rrrrrrlr
noncomputable def tiT_rrrrrrrll : T TI := T.n (T.e : T TI) (some ti_318 : Option TI) (T.e : T TI)
noncomputable def tiT_rrrrrrrl : T TI := T.n tiT_rrrrrrrll (some ti_190 : Option TI) (T.e : T TI)
noncomputable def tiT_rrrrrrrrl : T TI := T.n (T.e : T TI) (some ti_382 : Option TI) (T.e : T TI)
noncomputable def tiT_rrrrrrrr : T TI := T.n tiT_rrrrrrrrl (none : Option TI) (T.e : T TI)
noncomputable def tiT_rrrrrrr : T TI := T.n tiT_rrrrrrrl (some ti_126 : Option TI) tiT_rrrrrrrr
noncomputable def tiT_rrrrrr : T TI := T.n tiT_rrrrrrl (some ti_62 : Option TI) tiT_rrrrrrr
noncomputable def tiT_rrrrr : T TI := T.n tiT_rrrrrl (some ti_30 : Option TI) tiT_rrrrrr
noncomputable def tiT_rrrr : T TI := T.n tiT_rrrrl (some ti_14 : Option TI) tiT_rrrrr
noncomputable def tiT_rrr : T TI := T.n tiT_rrrl (some ti_6 : Option TI) tiT_rrrr
noncomputable def tiT_rr : T TI := T.n tiT_rrl (some ti_2 : Option TI) tiT_rrr
noncomputable def tiT_r : T TI := T.n tiT_rl (none : Option TI) tiT_rr
noncomputable def tiTab : T TI := tiT_r
noncomputable def ftT_rlllllll : T Func := T.n (T.e : T Func) (some Tryz.f127 : Option Func) (T.e : T Func)
noncomputable def ftT_rllllllr : T Func := T.n (T.e : T Func) (some Tryz.f191 : Option Func) (T.e : T Func)
noncomputable def ftT_rllllll : T Func := T.n ftT_rlllllll (some Tryz.f63 : Option Func) ftT_rllllllr
noncomputable def ftT_rlllllrll : T Func := T.n (T.e : T Func) (some Tryz.f287 : Option Func) (T.e : T Func)
noncomputable def ftT_rlllllrl : T Func := T.n ftT_rlllllrll (some Tryz.f159 : Option Func) (T.e : T Func)
noncomputable def ftT_rlllllrr : T Func := T.n (T.e : T Func) (some Tryz.f223 : Option Func) (T.e : T Func)
noncomputable def ftT_rlllllr : T Func := T.n ftT_rlllllrl (some Tryz.f95 : Option Func) ftT_rlllllrr
noncomputable def ftT_rlllll : T Func := T.n ftT_rllllll (some Tryz.f31 : Option Func) ftT_rlllllr
noncomputable def ftT_rllllrlll : T Func := T.n (T.e : T Func) (some Tryz.f271 : Option Func) (T.e : T Func)
noncomputable def ftT_rllllrll : T Func := T.n ftT_rllllrlll (some Tryz.f143 : Option Func) (T.e : T Func)
noncomputable def ftT_rllllrlrl : T Func := T.n (T.e : T Func) (some Tryz.f335 : Option Func) (T.e : T Func)
noncomputable def ftT_rllllrlr : T Func := T.n ftT_rllllrlrl (some Tryz.f207 : Option Func) (T.e : T Func)
noncomputable def ftT_rllllrl : T Func := T.n ftT_rllllrll (some Tryz.f79 : Option Func) ftT_rllllrlr
noncomputable def ftT_rllllrrl : T Func := T.n (T.e : T Func) (some Tryz.f175 : Option Func) (T.e : T Func)
noncomputable def ftT_rllllrr : T Func := T.n ftT_rllllrrl (some Tryz.f111 : Option Func) (T.e : T Func)
noncomputable def ftT_rllllr : T Func := T.n ftT_rllllrl (some Tryz.f47 : Option Func) ftT_rllllrr
noncomputable def ftT_rllll : T Func := T.n ftT_rlllll (some Tryz.f15 : Option Func) ftT_rllllr
noncomputable def ftT_rlllrllll : T Func := T.n (T.e : T Func) (some Tryz.f263 : Option Func) (T.e : T Func)
noncomputable def ftT_rlllrlll : T Func := T.n ftT_rlllrllll (some Tryz.f135 : Option Func) (T.e : T Func)
noncomputable def ftT_rlllrllr : T Func := T.n (T.e : T Func) (some Tryz.f199 : Option Func) (T.e : T Func)
noncomputable def ftT_rlllrll : T Func := T.n ftT_rlllrlll (some Tryz.f71 : Option Func) ftT_rlllrllr
noncomputable def ftT_rlllrlrl : T Func := T.n (T.e : T Func) (some Tryz.f167 : Option Func) (T.e : T Func)
noncomputable def ftT_rlllrlrr : T Func := T.n (T.e : T Func) (some Tryz.f231 : Option Func) (T.e : T Func)
noncomputable def ftT_rlllrlr : T Func := T.n ftT_rlllrlrl (some Tryz.f103 : Option Func) ftT_rlllrlrr
noncomputable def ftT_rlllrl : T Func := T.n ftT_rlllrll (some Tryz.f39 : Option Func) ftT_rlllrlr
noncomputable def ftT_rlllrrlll : T Func := T.n (T.e : T Func) (some Tryz.f279 : Option Func) (T.e : T Func)
noncomputable def ftT_rlllrrll : T Func := T.n ftT_rlllrrlll (some Tryz.f151 : Option Func) (T.e : T Func)
noncomputable def ftT_rlllrrlr : T Func := T.n (T.e : T Func) (some Tryz.f215 : Option Func) (T.e : T Func)
noncomputable def ftT_rlllrrl : T Func := T.n ftT_rlllrrll (some Tryz.f87 : Option Func) ftT_rlllrrlr
noncomputable def ftT_rlllrrrll : T Func := T.n (T.e : T Func) (some Tryz.f311 : Option Func) (T.e : T Func)
noncomputable def ftT_rlllrrrl : T Func := T.n ftT_rlllrrrll (some Tryz.f183 : Option Func) (T.e : T Func)
noncomputable def ftT_rlllrrrr : T Func := T.n (T.e : T Func) (some Tryz.f247 : Option Func) (T.e : T Func)
noncomputable def ftT_rlllrrr : T Func := T.n ftT_rlllrrrl (some Tryz.f119 : Option Func) ftT_rlllrrrr
noncomputable def ftT_rlllrr : T Func := T.n ftT_rlllrrl (some Tryz.f55 : Option Func) ftT_rlllrrr
noncomputable def ftT_rlllr : T Func := T.n ftT_rlllrl (some Tryz.f23 : Option Func) ftT_rlllrr
noncomputable def ftT_rlll : T Func := T.n ftT_rllll (some Tryz.f7 : Option Func) ftT_rlllr
noncomputable def ftT_rllrlllll : T Func := T.n (T.e : T Func) (some Tryz.f259 : Option Func) (T.e : T Func)
noncomputable def ftT_rllrllll : T Func := T.n ftT_rllrlllll (some Tryz.f131 : Option Func) (T.e : T Func)
noncomputable def ftT_rllrlllr : T Func := T.n (T.e : T Func) (some Tryz.f195 : Option Func) (T.e : T Func)
noncomputable def ftT_rllrlll : T Func := T.n ftT_rllrllll (some Tryz.f67 : Option Func) ftT_rllrlllr
noncomputable def ftT_rllrllrl : T Func := T.n (T.e : T Func) (some Tryz.f163 : Option Func) (T.e : T Func)
noncomputable def ftT_rllrllrr : T Func := T.n (T.e : T Func) (some Tryz.f227 : Option Func) (T.e : T Func)
noncomputable def ftT_rllrllr : T Func := T.n ftT_rllrllrl (some Tryz.f99 : Option Func) ftT_rllrllrr
noncomputable def ftT_rllrll : T Func := T.n ftT_rllrlll (some Tryz.f35 : Option Func) ftT_rllrllr
noncomputable def ftT_rllrlrlll : T Func := T.n (T.e : T Func) (some Tryz.f275 : Option Func) (T.e : T Func)
noncomputable def ftT_rllrlrll : T Func := T.n ftT_rllrlrlll (none : Option Func) (T.e : T Func)
noncomputable def ftT_rllrlrlrl : T Func := T.n (T.e : T Func) (some Tryz.f339 : Option Func) (T.e : T Func)
noncomputable def ftT_rllrlrlr : T Func := T.n ftT_rllrlrlrl (some Tryz.f211 : Option Func) (T.e : T Func)
noncomputable def ftT_rllrlrl : T Func := T.n ftT_rllrlrll (some Tryz.f83 : Option Func) ftT_rllrlrlr
noncomputable def ftT_rllrlrrl : T Func := T.n (T.e : T Func) (some Tryz.f179 : Option Func) (T.e : T Func)
noncomputable def ftT_rllrlrrr : T Func := T.n (T.e : T Func) (some Tryz.f243 : Option Func) (T.e : T Func)
noncomputable def ftT_rllrlrr : T Func := T.n ftT_rllrlrrl (some Tryz.f115 : Option Func) ftT_rllrlrrr
noncomputable def ftT_rllrlr : T Func := T.n ftT_rllrlrl (some Tryz.f51 : Option Func) ftT_rllrlrr
noncomputable def ftT_rllrl : T Func := T.n ftT_rllrll (some Tryz.f19 : Option Func) ftT_rllrlr
noncomputable def ftT_rllrrlll : T Func := T.n (T.e : T Func) (some Tryz.f139 : Option Func) (T.e : T Func)
noncomputable def ftT_rllrrllr : T Func := T.n (T.e : T Func) (some Tryz.f203 : Option Func) (T.e : T Func)
noncomputable def ftT_rllrrll : T Func := T.n ftT_rllrrlll (some Tryz.f75 : Option Func) ftT_rllrrllr
noncomputable def ftT_rllrrlrll : T Func := T.n (T.e : T Func) (some Tryz.f299 : Option Func) (T.e : T Func)
noncomputable def ftT_rllrrlrl : T Func := T.n ftT_rllrrlrll (some Tryz.f171 : Option Func) (T.e : T Func)
noncomputable def ftT_rllrrlrrl : T Func := T.n (T.e : T Func) (some Tryz.f363 : Option Func) (T.e : T Func)
noncomputable def ftT_rllrrlrr : T Func := T.n ftT_rllrrlrrl (some Tryz.f235 : Option Func) (T.e : T Func)
noncomputable def ftT_rllrrlr : T Func := T.n ftT_rllrrlrl (some Tryz.f107 : Option Func) ftT_rllrrlrr
noncomputable def ftT_rllrrl : T Func := T.n ftT_rllrrll (some Tryz.f43 : Option Func) ftT_rllrrlr
noncomputable def ftT_rllrrrlll : T Func := T.n (T.e : T Func) (some Tryz.f283 : Option Func) (T.e : T Func)
noncomputable def ftT_rllrrrll : T Func := T.n ftT_rllrrrlll (some Tryz.f155 : Option Func) (T.e : T Func)
noncomputable def ftT_rllrrrlr : T Func := T.n (T.e : T Func) (some Tryz.f219 : Option Func) (T.e : T Func)
noncomputable def ftT_rllrrrl : T Func := T.n ftT_rllrrrll (some Tryz.f91 : Option Func) ftT_rllrrrlr
noncomputable def ftT_rllrrrrll : T Func := T.n (T.e : T Func) (some Tryz.f315 : Option Func) (T.e : T Func)
noncomputable def ftT_rllrrrrl : T Func := T.n ftT_rllrrrrll (some Tryz.f187 : Option Func) (T.e : T Func)
noncomputable def ftT_rllrrrrr : T Func := T.n (T.e : T Func) (some Tryz.f251 : Option Func) (T.e : T Func)
noncomputable def ftT_rllrrrr : T Func := T.n ftT_rllrrrrl (some Tryz.f123 : Option Func) ftT_rllrrrrr
noncomputable def ftT_rllrrr : T Func := T.n ftT_rllrrrl (some Tryz.f59 : Option Func) ftT_rllrrrr
noncomputable def ftT_rllrr : T Func := T.n ftT_rllrrl (some Tryz.f27 : Option Func) ftT_rllrrr
noncomputable def ftT_rllr : T Func := T.n ftT_rllrl (some Tryz.f11 : Option Func) ftT_rllrr
noncomputable def ftT_rll : T Func := T.n ftT_rlll (some Tryz.f3 : Option Func) ftT_rllr
noncomputable def ftT_rlrllllll : T Func := T.n (T.e : T Func) (some Tryz.f257 : Option Func) (T.e : T Func)
noncomputable def ftT_rlrlllll : T Func := T.n ftT_rlrllllll (some Tryz.f129 : Option Func) (T.e : T Func)
noncomputable def ftT_rlrllllr : T Func := T.n (T.e : T Func) (some Tryz.f193 : Option Func) (T.e : T Func)
noncomputable def ftT_rlrllll : T Func := T.n ftT_rlrlllll (some Tryz.f65 : Option Func) ftT_rlrllllr
noncomputable def ftT_rlrlllrl : T Func := T.n (T.e : T Func) (some Tryz.f161 : Option Func) (T.e : T Func)
noncomputable def ftT_rlrlllrr : T Func := T.n (T.e : T Func) (some Tryz.f225 : Option Func) (T.e : T Func)
noncomputable def ftT_rlrlllr : T Func := T.n ftT_rlrlllrl (some Tryz.f97 : Option Func) ftT_rlrlllrr
noncomputable def ftT_rlrlll : T Func := T.n ftT_rlrllll (some Tryz.f33 : Option Func) ftT_rlrlllr
noncomputable def ftT_rlrllrlll : T Func := T.n (T.e : T Func) (some Tryz.f273 : Option Func) (T.e : T Func)
noncomputable def ftT_rlrllrll : T Func := T.n ftT_rlrllrlll (some Tryz.f145 : Option Func) (T.e : T Func)
noncomputable def ftT_rlrllrlrl : T Func := T.n (T.e : T Func) (some Tryz.f337 : Option Func) (T.e : T Func)
noncomputable def ftT_rlrllrlr : T Func := T.n ftT_rlrllrlrl (some Tryz.f209 : Option Func) (T.e : T Func)
noncomputable def ftT_rlrllrl : T Func := T.n ftT_rlrllrll (some Tryz.f81 : Option Func) ftT_rlrllrlr
noncomputable def ftT_rlrllrrl : T Func := T.n (T.e : T Func) (some Tryz.f177 : Option Func) (T.e : T Func)
noncomputable def ftT_rlrllrrr : T Func := T.n (T.e : T Func) (some Tryz.f241 : Option Func) (T.e : T Func)
noncomputable def ftT_rlrllrr : T Func := T.n ftT_rlrllrrl (some Tryz.f113 : Option Func) ftT_rlrllrrr
noncomputable def ftT_rlrllr : T Func := T.n ftT_rlrllrl (some Tryz.f49 : Option Func) ftT_rlrllrr
noncomputable def ftT_rlrll : T Func := T.n ftT_rlrlll (some Tryz.f17 : Option Func) ftT_rlrllr
noncomputable def ftT_rlrlrllll : T Func := T.n (T.e : T Func) (some Tryz.f265 : Option Func) (T.e : T Func)
noncomputable def ftT_rlrlrlll : T Func := T.n ftT_rlrlrllll (some Tryz.f137 : Option Func) (T.e : T Func)
noncomputable def ftT_rlrlrllr : T Func := T.n (T.e : T Func) (some Tryz.f201 : Option Func) (T.e : T Func)
noncomputable def ftT_rlrlrll : T Func := T.n ftT_rlrlrlll (some Tryz.f73 : Option Func) ftT_rlrlrllr
noncomputable def ftT_rlrlrlrll : T Func := T.n (T.e : T Func) (some Tryz.f297 : Option Func) (T.e : T Func)
noncomputable def ftT_rlrlrlrl : T Func := T.n ftT_rlrlrlrll (some Tryz.f169 : Option Func) (T.e : T Func)
noncomputable def ftT_rlrlrlrr : T Func := T.n (T.e : T Func) (some Tryz.f233 : Option Func) (T.e : T Func)
noncomputable def ftT_rlrlrlr : T Func := T.n ftT_rlrlrlrl (some Tryz.f105 : Option Func) ftT_rlrlrlrr
noncomputable def ftT_rlrlrl : T Func := T.n ftT_rlrlrll (some Tryz.f41 : Option Func) ftT_rlrlrlr
noncomputable def ftT_rlrlrrlll : T Func := T.n (T.e : T Func) (some Tryz.f281 : Option Func) (T.e : T Func)
noncomputable def ftT_rlrlrrll : T Func := T.n ftT_rlrlrrlll (some Tryz.f153 : Option Func) (T.e : T Func)
noncomputable def ftT_rlrlrrlr : T Func := T.n (T.e : T Func) (some Tryz.f217 : Option Func) (T.e : T Func)
noncomputable def ftT_rlrlrrl : T Func := T.n ftT_rlrlrrll (some Tryz.f89 : Option Func) ftT_rlrlrrlr
noncomputable def ftT_rlrlrrrll : T Func := T.n (T.e : T Func) (some Tryz.f313 : Option Func) (T.e : T Func)
noncomputable def ftT_rlrlrrrl : T Func := T.n ftT_rlrlrrrll (some Tryz.f185 : Option Func) (T.e : T Func)
noncomputable def ftT_rlrlrrrr : T Func := T.n (T.e : T Func) (some Tryz.f249 : Option Func) (T.e : T Func)
noncomputable def ftT_rlrlrrr : T Func := T.n ftT_rlrlrrrl (some Tryz.f121 : Option Func) ftT_rlrlrrrr
noncomputable def ftT_rlrlrr : T Func := T.n ftT_rlrlrrl (some Tryz.f57 : Option Func) ftT_rlrlrrr
noncomputable def ftT_rlrlr : T Func := T.n ftT_rlrlrl (some Tryz.f25 : Option Func) ftT_rlrlrr
noncomputable def ftT_rlrl : T Func := T.n ftT_rlrll (some Tryz.f9 : Option Func) ftT_rlrlr
noncomputable def ftT_rlrrlllll : T Func := T.n (T.e : T Func) (some Tryz.f261 : Option Func) (T.e : T Func)
noncomputable def ftT_rlrrllll : T Func := T.n ftT_rlrrlllll (some Tryz.f133 : Option Func) (T.e : T Func)
noncomputable def ftT_rlrrlllr : T Func := T.n (T.e : T Func) (some Tryz.f197 : Option Func) (T.e : T Func)
noncomputable def ftT_rlrrlll : T Func := T.n ftT_rlrrllll (some Tryz.f69 : Option Func) ftT_rlrrlllr
noncomputable def ftT_rlrrllrll : T Func := T.n (T.e : T Func) (some Tryz.f293 : Option Func) (T.e : T Func)
noncomputable def ftT_rlrrllrl : T Func := T.n ftT_rlrrllrll (some Tryz.f165 : Option Func) (T.e : T Func)
noncomputable def ftT_rlrrllrr : T Func := T.n (T.e : T Func) (some Tryz.f229 : Option Func) (T.e : T Func)
noncomputable def ftT_rlrrllr : T Func := T.n ftT_rlrrllrl (some Tryz.f101 : Option Func) ftT_rlrrllrr
noncomputable def ftT_rlrrll : T Func := T.n ftT_rlrrlll (some Tryz.f37 : Option Func) ftT_rlrrllr
noncomputable def ftT_rlrrlrll : T Func := T.n (T.e : T Func) (some Tryz.f149 : Option Func) (T.e : T Func)
noncomputable def ftT_rlrrlrlr : T Func := T.n (T.e : T Func) (some Tryz.f213 : Option Func) (T.e : T Func)
noncomputable def ftT_rlrrlrl : T Func := T.n ftT_rlrrlrll (some Tryz.f85 : Option Func) ftT_rlrrlrlr
noncomputable def ftT_rlrrlrrll : T Func := T.n (T.e : T Func) (some Tryz.f309 : Option Func) (T.e : T Func)
noncomputable def ftT_rlrrlrrl : T Func := T.n ftT_rlrrlrrll (some Tryz.f181 : Option Func) (T.e : T Func)
noncomputable def ftT_rlrrlrrr : T Func := T.n (T.e : T Func) (some Tryz.f245 : Option Func) (T.e : T Func)
noncomputable def ftT_rlrrlrr : T Func := T.n ftT_rlrrlrrl (some Tryz.f117 : Option Func) ftT_rlrrlrrr
noncomputable def ftT_rlrrlr : T Func := T.n ftT_rlrrlrl (some Tryz.f53 : Option Func) ftT_rlrrlrr
noncomputable def ftT_rlrrl : T Func := T.n ftT_rlrrll (some Tryz.f21 : Option Func) ftT_rlrrlr
noncomputable def ftT_rlrrrllll : T Func := T.n (T.e : T Func) (some Tryz.f269 : Option Func) (T.e : T Func)
noncomputable def ftT_rlrrrlll : T Func := T.n ftT_rlrrrllll (some Tryz.f141 : Option Func) (T.e : T Func)
noncomputable def ftT_rlrrrllr : T Func := T.n (T.e : T Func) (some Tryz.f205 : Option Func) (T.e : T Func)
noncomputable def ftT_rlrrrll : T Func := T.n ftT_rlrrrlll (some Tryz.f77 : Option Func) ftT_rlrrrllr
noncomputable def ftT_rlrrrlrll : T Func := T.n (T.e : T Func) (some Tryz.f301 : Option Func) (T.e : T Func)
noncomputable def ftT_rlrrrlrl : T Func := T.n ftT_rlrrrlrll (some Tryz.f173 : Option Func) (T.e : T Func)
noncomputable def ftT_rlrrrlrr : T Func := T.n (T.e : T Func) (some Tryz.f237 : Option Func) (T.e : T Func)
noncomputable def ftT_rlrrrlr : T Func := T.n ftT_rlrrrlrl (some Tryz.f109 : Option Func) ftT_rlrrrlrr
noncomputable def ftT_rlrrrl : T Func := T.n ftT_rlrrrll (some Tryz.f45 : Option Func) ftT_rlrrrlr
noncomputable def ftT_rlrrrrlll : T Func := T.n (T.e : T Func) (some Tryz.f285 : Option Func) (T.e : T Func)
noncomputable def ftT_rlrrrrll : T Func := T.n ftT_rlrrrrlll (some Tryz.f157 : Option Func) (T.e : T Func)
noncomputable def ftT_rlrrrrlr : T Func := T.n (T.e : T Func) (some Tryz.f221 : Option Func) (T.e : T Func)
noncomputable def ftT_rlrrrrl : T Func := T.n ftT_rlrrrrll (some Tryz.f93 : Option Func) ftT_rlrrrrlr
noncomputable def ftT_rlrrrrrll : T Func := T.n (T.e : T Func) (some Tryz.f317 : Option Func) (T.e : T Func)
noncomputable def ftT_rlrrrrrl : T Func := T.n ftT_rlrrrrrll (some Tryz.f189 : Option Func) (T.e : T Func)
noncomputable def ftT_rlrrrrrr : T Func := T.n (T.e : T Func) (some Tryz.f253 : Option Func) (T.e : T Func)
noncomputable def ftT_rlrrrrr : T Func := T.n ftT_rlrrrrrl (some Tryz.f125 : Option Func) ftT_rlrrrrrr
noncomputable def ftT_rlrrrr : T Func := T.n ftT_rlrrrrl (some Tryz.f61 : Option Func) ftT_rlrrrrr
noncomputable def ftT_rlrrr : T Func := T.n ftT_rlrrrl (some Tryz.f29 : Option Func) ftT_rlrrrr
noncomputable def ftT_rlrr : T Func := T.n ftT_rlrrl (some Tryz.f13 : Option Func) ftT_rlrrr
noncomputable def ftT_rlr : T Func := T.n ftT_rlrl (some Tryz.f5 : Option Func) ftT_rlrr
noncomputable def ftT_rl : T Func := T.n ftT_rll (none : Option Func) ftT_rlr
noncomputable def ftT_rrlllllll : T Func := T.n (T.e : T Func) (some Tryz.f256 : Option Func) (T.e : T Func)
noncomputable def ftT_rrllllll : T Func := T.n ftT_rrlllllll (some Tryz.f128 : Option Func) (T.e : T Func)
noncomputable def ftT_rrlllllr : T Func := T.n (T.e : T Func) (some Tryz.f192 : Option Func) (T.e : T Func)
noncomputable def ftT_rrlllll : T Func := T.n ftT_rrllllll (some Tryz.f64 : Option Func) ftT_rrlllllr
noncomputable def ftT_rrllllrll : T Func := T.n (T.e : T Func) (some Tryz.f288 : Option Func) (T.e : T Func)
noncomputable def ftT_rrllllrl : T Func := T.n ftT_rrllllrll (some Tryz.f160 : Option Func) (T.e : T Func)
noncomputable def ftT_rrllllrr : T Func := T.n (T.e : T Func) (some Tryz.f224 : Option Func) (T.e : T Func)
noncomputable def ftT_rrllllr : T Func := T.n ftT_rrllllrl (some Tryz.f96 : Option Func) ftT_rrllllrr
noncomputable def ftT_rrllll : T Func := T.n ftT_rrlllll (some Tryz.f32 : Option Func) ftT_rrllllr
noncomputable def ftT_rrlllrlll : T Func := T.n (T.e : T Func) (some Tryz.f272 : Option Func) (T.e : T Func)
noncomputable def ftT_rrlllrll : T Func := T.n ftT_rrlllrlll (some Tryz.f144 : Option Func) (T.e : T Func)
noncomputable def ftT_rrlllrlr : T Func := T.n (T.e : T Func) (some Tryz.f208 : Option Func) (T.e : T Func)
noncomputable def ftT_rrlllrl : T Func := T.n ftT_rrlllrll (some Tryz.f80 : Option Func) ftT_rrlllrlr
noncomputable def ftT_rrlllrrl : T Func := T.n (T.e : T Func) (some Tryz.f176 : Option Func) (T.e : T Func)
noncomputable def ftT_rrlllrrr : T Func := T.n (T.e : T Func) (some Tryz.f240 : Option Func) (T.e : T Func)
noncomputable def ftT_rrlllrr : T Func := T.n ftT_rrlllrrl (some Tryz.f112 : Option Func) ftT_rrlllrrr
noncomputable def ftT_rrlllr : T Func := T.n ftT_rrlllrl (some Tryz.f48 : Option Func) ftT_rrlllrr
noncomputable def ftT_rrlll : T Func := T.n ftT_rrllll (some Tryz.f16 : Option Func) ftT_rrlllr
noncomputable def ftT_rrllrllll : T Func := T.n (T.e : T Func) (some Tryz.f264 : Option Func) (T.e : T Func)
noncomputable def ftT_rrllrlll : T Func := T.n ftT_rrllrllll (some Tryz.f136 : Option Func) (T.e : T Func)
noncomputable def ftT_rrllrllr : T Func := T.n (T.e : T Func) (some Tryz.f200 : Option Func) (T.e : T Func)
noncomputable def ftT_rrllrll : T Func := T.n ftT_rrllrlll (some Tryz.f72 : Option Func) ftT_rrllrllr
noncomputable def ftT_rrllrlrll : T Func := T.n (T.e : T Func) (some Tryz.f296 : Option Func) (T.e : T Func)
noncomputable def ftT_rrllrlrl : T Func := T.n ftT_rrllrlrll (some Tryz.f168 : Option Func) (T.e : T Func)
noncomputable def ftT_rrllrlrr : T Func := T.n (T.e : T Func) (some Tryz.f232 : Option Func) (T.e : T Func)
noncomputable def ftT_rrllrlr : T Func := T.n ftT_rrllrlrl (none : Option Func) ftT_rrllrlrr
noncomputable def ftT_rrllrl : T Func := T.n ftT_rrllrll (some Tryz.f40 : Option Func) ftT_rrllrlr
noncomputable def ftT_rrllrrlll : T Func := T.n (T.e : T Func) (some Tryz.f280 : Option Func) (T.e : T Func)
noncomputable def ftT_rrllrrll : T Func := T.n ftT_rrllrrlll (some Tryz.f152 : Option Func) (T.e : T Func)
noncomputable def ftT_rrllrrlr : T Func := T.n (T.e : T Func) (some Tryz.f216 : Option Func) (T.e : T Func)
noncomputable def ftT_rrllrrl : T Func := T.n ftT_rrllrrll (some Tryz.f88 : Option Func) ftT_rrllrrlr
noncomputable def ftT_rrllrrrll : T Func := T.n (T.e : T Func) (some Tryz.f312 : Option Func) (T.e : T Func)
noncomputable def ftT_rrllrrrl : T Func := T.n ftT_rrllrrrll (some Tryz.f184 : Option Func) (T.e : T Func)
noncomputable def ftT_rrllrrrr : T Func := T.n (T.e : T Func) (some Tryz.f248 : Option Func) (T.e : T Func)
noncomputable def ftT_rrllrrr : T Func := T.n ftT_rrllrrrl (some Tryz.f120 : Option Func) ftT_rrllrrrr
noncomputable def ftT_rrllrr : T Func := T.n ftT_rrllrrl (some Tryz.f56 : Option Func) ftT_rrllrrr
noncomputable def ftT_rrllr : T Func := T.n ftT_rrllrl (some Tryz.f24 : Option Func) ftT_rrllrr
noncomputable def ftT_rrll : T Func := T.n ftT_rrlll (some Tryz.f8 : Option Func) ftT_rrllr
noncomputable def ftT_rrlrlllll : T Func := T.n (T.e : T Func) (some Tryz.f260 : Option Func) (T.e : T Func)
noncomputable def ftT_rrlrllll : T Func := T.n ftT_rrlrlllll (some Tryz.f132 : Option Func) (T.e : T Func)
noncomputable def ftT_rrlrlllr : T Func := T.n (T.e : T Func) (some Tryz.f196 : Option Func) (T.e : T Func)
noncomputable def ftT_rrlrlll : T Func := T.n ftT_rrlrllll (some Tryz.f68 : Option Func) ftT_rrlrlllr
noncomputable def ftT_rrlrllrl : T Func := T.n (T.e : T Func) (some Tryz.f164 : Option Func) (T.e : T Func)
noncomputable def ftT_rrlrllrr : T Func := T.n (T.e : T Func) (some Tryz.f228 : Option Func) (T.e : T Func)
noncomputable def ftT_rrlrllr : T Func := T.n ftT_rrlrllrl (some Tryz.f100 : Option Func) ftT_rrlrllrr
noncomputable def ftT_rrlrll : T Func := T.n ftT_rrlrlll (some Tryz.f36 : Option Func) ftT_rrlrllr
noncomputable def ftT_rrlrlrlll : T Func := T.n (T.e : T Func) (some Tryz.f276 : Option Func) (T.e : T Func)
noncomputable def ftT_rrlrlrll : T Func := T.n ftT_rrlrlrlll (some Tryz.f148 : Option Func) (T.e : T Func)
noncomputable def ftT_rrlrlrlrl : T Func := T.n (T.e : T Func) (some Tryz.f340 : Option Func) (T.e : T Func)
noncomputable def ftT_rrlrlrlr : T Func := T.n ftT_rrlrlrlrl (some Tryz.f212 : Option Func) (T.e : T Func)
noncomputable def ftT_rrlrlrl : T Func := T.n ftT_rrlrlrll (some Tryz.f84 : Option Func) ftT_rrlrlrlr
noncomputable def ftT_rrlrlrrl : T Func := T.n (T.e : T Func) (some Tryz.f180 : Option Func) (T.e : T Func)
noncomputable def ftT_rrlrlrrr : T Func := T.n (T.e : T Func) (some Tryz.f244 : Option Func) (T.e : T Func)
noncomputable def ftT_rrlrlrr : T Func := T.n ftT_rrlrlrrl (some Tryz.f116 : Option Func) ftT_rrlrlrrr
noncomputable def ftT_rrlrlr : T Func := T.n ftT_rrlrlrl (some Tryz.f52 : Option Func) ftT_rrlrlrr
noncomputable def ftT_rrlrl : T Func := T.n ftT_rrlrll (some Tryz.f20 : Option Func) ftT_rrlrlr
noncomputable def ftT_rrlrrllll : T Func := T.n (T.e : T Func) (some Tryz.f268 : Option Func) (T.e : T Func)
noncomputable def ftT_rrlrrlll : T Func := T.n ftT_rrlrrllll (some Tryz.f140 : Option Func) (T.e : T Func)
noncomputable def ftT_rrlrrllr : T Func := T.n (T.e : T Func) (some Tryz.f204 : Option Func) (T.e : T Func)
noncomputable def ftT_rrlrrll : T Func := T.n ftT_rrlrrlll (some Tryz.f76 : Option Func) ftT_rrlrrllr
noncomputable def ftT_rrlrrlrll : T Func := T.n (T.e : T Func) (some Tryz.f300 : Option Func) (T.e : T Func)
noncomputable def ftT_rrlrrlrl : T Func := T.n ftT_rrlrrlrll (some Tryz.f172 : Option Func) (T.e : T Func)
noncomputable def ftT_rrlrrlrr : T Func := T.n (T.e : T Func) (some Tryz.f236 : Option Func) (T.e : T Func)
noncomputable def ftT_rrlrrlr : T Func := T.n ftT_rrlrrlrl (some Tryz.f108 : Option Func) ftT_rrlrrlrr
noncomputable def ftT_rrlrrl : T Func := T.n ftT_rrlrrll (some Tryz.f44 : Option Func) ftT_rrlrrlr
noncomputable def ftT_rrlrrrlll : T Func := T.n (T.e : T Func) (some Tryz.f284 : Option Func) (T.e : T Func)
noncomputable def ftT_rrlrrrll : T Func := T.n ftT_rrlrrrlll (some Tryz.f156 : Option Func) (T.e : T Func)
noncomputable def ftT_rrlrrrlr : T Func := T.n (T.e : T Func) (some Tryz.f220 : Option Func) (T.e : T Func)
noncomputable def ftT_rrlrrrl : T Func := T.n ftT_rrlrrrll (some Tryz.f92 : Option Func) ftT_rrlrrrlr
noncomputable def ftT_rrlrrrrll : T Func := T.n (T.e : T Func) (some Tryz.f316 : Option Func) (T.e : T Func)
noncomputable def ftT_rrlrrrrl : T Func := T.n ftT_rrlrrrrll (some Tryz.f188 : Option Func) (T.e : T Func)
noncomputable def ftT_rrlrrrrr : T Func := T.n (T.e : T Func) (some Tryz.f252 : Option Func) (T.e : T Func)
noncomputable def ftT_rrlrrrr : T Func := T.n ftT_rrlrrrrl (some Tryz.f124 : Option Func) ftT_rrlrrrrr
noncomputable def ftT_rrlrrr : T Func := T.n ftT_rrlrrrl (some Tryz.f60 : Option Func) ftT_rrlrrrr
noncomputable def ftT_rrlrr : T Func := T.n ftT_rrlrrl (some Tryz.f28 : Option Func) ftT_rrlrrr
noncomputable def ftT_rrlr : T Func := T.n ftT_rrlrl (some Tryz.f12 : Option Func) ftT_rrlrr
noncomputable def ftT_rrl : T Func := T.n ftT_rrll (some Tryz.f4 : Option Func) ftT_rrlr
noncomputable def ftT_rrrllllll : T Func := T.n (T.e : T Func) (some Tryz.f258 : Option Func) (T.e : T Func)
noncomputable def ftT_rrrlllll : T Func := T.n ftT_rrrllllll (some Tryz.f130 : Option Func) (T.e : T Func)
noncomputable def ftT_rrrllllr : T Func := T.n (T.e : T Func) (some Tryz.f194 : Option Func) (T.e : T Func)
noncomputable def ftT_rrrllll : T Func := T.n ftT_rrrlllll (some Tryz.f66 : Option Func) ftT_rrrllllr
noncomputable def ftT_rrrlllrl : T Func := T.n (T.e : T Func) (some Tryz.f162 : Option Func) (T.e : T Func)
noncomputable def ftT_rrrlllrr : T Func := T.n (T.e : T Func) (some Tryz.f226 : Option Func) (T.e : T Func)
noncomputable def ftT_rrrlllr : T Func := T.n ftT_rrrlllrl (some Tryz.f98 : Option Func) ftT_rrrlllrr
noncomputable def ftT_rrrlll : T Func := T.n ftT_rrrllll (some Tryz.f34 : Option Func) ftT_rrrlllr
noncomputable def ftT_rrrllrlll : T Func := T.n (T.e : T Func) (some Tryz.f274 : Option Func) (T.e : T Func)
noncomputable def ftT_rrrllrll : T Func := T.n ftT_rrrllrlll (some Tryz.f146 : Option Func) (T.e : T Func)
noncomputable def ftT_rrrllrlrl : T Func := T.n (T.e : T Func) (some Tryz.f338 : Option Func) (T.e : T Func)
noncomputable def ftT_rrrllrlr : T Func := T.n ftT_rrrllrlrl (some Tryz.f210 : Option Func) (T.e : T Func)
noncomputable def ftT_rrrllrl : T Func := T.n ftT_rrrllrll (some Tryz.f82 : Option Func) ftT_rrrllrlr
noncomputable def ftT_rrrllrrl : T Func := T.n (T.e : T Func) (some Tryz.f178 : Option Func) (T.e : T Func)
noncomputable def ftT_rrrllrrr : T Func := T.n (T.e : T Func) (some Tryz.f242 : Option Func) (T.e : T Func)
noncomputable def ftT_rrrllrr : T Func := T.n ftT_rrrllrrl (some Tryz.f114 : Option Func) ftT_rrrllrrr
noncomputable def ftT_rrrllr : T Func := T.n ftT_rrrllrl (some Tryz.f50 : Option Func) ftT_rrrllrr
noncomputable def ftT_rrrll : T Func := T.n ftT_rrrlll (some Tryz.f18 : Option Func) ftT_rrrllr
noncomputable def ftT_rrrlrlll : T Func := T.n (T.e : T Func) (some Tryz.f138 : Option Func) (T.e : T Func)
noncomputable def ftT_rrrlrllr : T Func := T.n (T.e : T Func) (some Tryz.f202 : Option Func) (T.e : T Func)
noncomputable def ftT_rrrlrll : T Func := T.n ftT_rrrlrlll (some Tryz.f74 : Option Func) ftT_rrrlrllr
noncomputable def ftT_rrrlrlrll : T Func := T.n (T.e : T Func) (some Tryz.f298 : Option Func) (T.e : T Func)
noncomputable def ftT_rrrlrlrl : T Func := T.n ftT_rrrlrlrll (some Tryz.f170 : Option Func) (T.e : T Func)
noncomputable def ftT_rrrlrlrr : T Func := T.n (T.e : T Func) (some Tryz.f234 : Option Func) (T.e : T Func)
noncomputable def ftT_rrrlrlr : T Func := T.n ftT_rrrlrlrl (some Tryz.f106 : Option Func) ftT_rrrlrlrr
noncomputable def ftT_rrrlrl : T Func := T.n ftT_rrrlrll (some Tryz.f42 : Option Func) ftT_rrrlrlr
noncomputable def ftT_rrrlrrlll : T Func := T.n (T.e : T Func) (some Tryz.f282 : Option Func) (T.e : T Func)
noncomputable def ftT_rrrlrrll : T Func := T.n ftT_rrrlrrlll (some Tryz.f154 : Option Func) (T.e : T Func)
noncomputable def ftT_rrrlrrlr : T Func := T.n (T.e : T Func) (some Tryz.f218 : Option Func) (T.e : T Func)
noncomputable def ftT_rrrlrrl : T Func := T.n ftT_rrrlrrll (some Tryz.f90 : Option Func) ftT_rrrlrrlr
noncomputable def ftT_rrrlrrrll : T Func := T.n (T.e : T Func) (some Tryz.f314 : Option Func) (T.e : T Func)
noncomputable def ftT_rrrlrrrl : T Func := T.n ftT_rrrlrrrll (some Tryz.f186 : Option Func) (T.e : T Func)
noncomputable def ftT_rrrlrrrr : T Func := T.n (T.e : T Func) (some Tryz.f250 : Option Func) (T.e : T Func)
noncomputable def ftT_rrrlrrr : T Func := T.n ftT_rrrlrrrl (some Tryz.f122 : Option Func) ftT_rrrlrrrr
noncomputable def ftT_rrrlrr : T Func := T.n ftT_rrrlrrl (some Tryz.f58 : Option Func) ftT_rrrlrrr
noncomputable def ftT_rrrlr : T Func := T.n ftT_rrrlrl (some Tryz.f26 : Option Func) ftT_rrrlrr
noncomputable def ftT_rrrl : T Func := T.n ftT_rrrll (some Tryz.f10 : Option Func) ftT_rrrlr
noncomputable def ftT_rrrrlllll : T Func := T.n (T.e : T Func) (some Tryz.f262 : Option Func) (T.e : T Func)
noncomputable def ftT_rrrrllll : T Func := T.n ftT_rrrrlllll (some Tryz.f134 : Option Func) (T.e : T Func)
noncomputable def ftT_rrrrlllr : T Func := T.n (T.e : T Func) (some Tryz.f198 : Option Func) (T.e : T Func)
noncomputable def ftT_rrrrlll : T Func := T.n ftT_rrrrllll (some Tryz.f70 : Option Func) ftT_rrrrlllr
noncomputable def ftT_rrrrllrl : T Func := T.n (T.e : T Func) (some Tryz.f166 : Option Func) (T.e : T Func)
noncomputable def ftT_rrrrllrr : T Func := T.n (T.e : T Func) (some Tryz.f230 : Option Func) (T.e : T Func)
noncomputable def ftT_rrrrllr : T Func := T.n ftT_rrrrllrl (some Tryz.f102 : Option Func) ftT_rrrrllrr
noncomputable def ftT_rrrrll : T Func := T.n ftT_rrrrlll (some Tryz.f38 : Option Func) ftT_rrrrllr
noncomputable def ftT_rrrrlrlll : T Func := T.n (T.e : T Func) (some Tryz.f278 : Option Func) (T.e : T Func)
noncomputable def ftT_rrrrlrll : T Func := T.n ftT_rrrrlrlll (some Tryz.f150 : Option Func) (T.e : T Func)
noncomputable def ftT_rrrrlrlr : T Func := T.n (T.e : T Func) (some Tryz.f214 : Option Func) (T.e : T Func)
noncomputable def ftT_rrrrlrl : T Func := T.n ftT_rrrrlrll (some Tryz.f86 : Option Func) ftT_rrrrlrlr
noncomputable def ftT_rrrrlrrll : T Func := T.n (T.e : T Func) (some Tryz.f310 : Option Func) (T.e : T Func)
noncomputable def ftT_rrrrlrrl : T Func := T.n ftT_rrrrlrrll (some Tryz.f182 : Option Func) (T.e : T Func)
noncomputable def ftT_rrrrlrrr : T Func := T.n (T.e : T Func) (some Tryz.f246 : Option Func) (T.e : T Func)
noncomputable def ftT_rrrrlrr : T Func := T.n ftT_rrrrlrrl (some Tryz.f118 : Option Func) ftT_rrrrlrrr
noncomputable def ftT_rrrrlr : T Func := T.n ftT_rrrrlrl (some Tryz.f54 : Option Func) ftT_rrrrlrr
noncomputable def ftT_rrrrl : T Func := T.n ftT_rrrrll (some Tryz.f22 : Option Func) ftT_rrrrlr
noncomputable def ftT_rrrrrllll : T Func := T.n (T.e : T Func) (some Tryz.f270 : Option Func) (T.e : T Func)
noncomputable def ftT_rrrrrlll : T Func := T.n ftT_rrrrrllll (some Tryz.f142 : Option Func) (T.e : T Func)
noncomputable def ftT_rrrrrllr : T Func := T.n (T.e : T Func) (some Tryz.f206 : Option Func) (T.e : T Func)
noncomputable def ftT_rrrrrll : T Func := T.n ftT_rrrrrlll (some Tryz.f78 : Option Func) ftT_rrrrrllr
noncomputable def ftT_rrrrrlrl : T Func := T.n (T.e : T Func) (some Tryz.f174 : Option Func) (T.e : T Func)
noncomputable def ftT_rrrrrlrr : T Func := T.n (T.e : T Func) (some Tryz.f238 : Option Func) (T.e : T Func)
noncomputable def ftT_rrrrrlr : T Func := T.n ftT_rrrrrlrl (some Tryz.f110 : Option Func) ftT_rrrrrlrr
noncomputable def ftT_rrrrrl : T Func := T.n ftT_rrrrrll (some Tryz.f46 : Option Func) ftT_rrrrrlr
noncomputable def ftT_rrrrrrlll : T Func := T.n (T.e : T Func) (some Tryz.f286 : Option Func) (T.e : T Func)
noncomputable def ftT_rrrrrrll : T Func := T.n ftT_rrrrrrlll (some Tryz.f158 : Option Func) (T.e : T Func)
noncomputable def ftT_rrrrrrl : T Func := T.n ftT_rrrrrrll (some Tryz.f94 : Option Func) (T.e : T Func)
noncomputable def ftT_rrrrrrrll : T Func := T.n (T.e : T Func) (some Tryz.f318 : Option Func) (T.e : T Func)
noncomputable def ftT_rrrrrrrl : T Func := T.n ftT_rrrrrrrll (some Tryz.f190 : Option Func) (T.e : T Func)
noncomputable def ftT_rrrrrrrr : T Func := T.n (T.e : T Func) (some Tryz.f254 : Option Func) (T.e : T Func)
noncomputable def ftT_rrrrrrr : T Func := T.n ftT_rrrrrrrl (some Tryz.f126 : Option Func) ftT_rrrrrrrr
noncomputable def ftT_rrrrrr : T Func := T.n ftT_rrrrrrl (some Tryz.f62 : Option Func) ftT_rrrrrrr
noncomputable def ftT_rrrrr : T Func := T.n ftT_rrrrrl (some Tryz.f30 : Option Func) ftT_rrrrrr
noncomputable def ftT_rrrr : T Func := T.n ftT_rrrrl (some Tryz.f14 : Option Func) ftT_rrrrr
noncomputable def ftT_rrr : T Func := T.n ftT_rrrl (some Tryz.f6 : Option Func) ftT_rrrr
noncomputable def ftT_rr : T Func := T.n ftT_rrl (none : Option Func) ftT_rrr
noncomputable def ftT_r : T Func := T.n ftT_rl (none : Option Func) ftT_rr
noncomputable def ftTab : T Func := ftT_r
noncomputable def xtT_rllllllll : T Ext := T.n (T.e : T Ext) (some (Ext.loadU32) : Option Ext) (T.e : T Ext)
noncomputable def xtT_rlllllll : T Ext := T.n xtT_rllllllll (none : Option Ext) (T.e : T Ext)
noncomputable def xtT_rllllll : T Ext := T.n xtT_rlllllll (none : Option Ext) (T.e : T Ext)
noncomputable def xtT_rlllll : T Ext := T.n xtT_rllllll (none : Option Ext) (T.e : T Ext)
noncomputable def xtT_rllllrrr : T Ext := T.n (T.e : T Ext) (some (Ext.countString) : Option Ext) (T.e : T Ext)
noncomputable def xtT_rllllrr : T Ext := T.n (T.e : T Ext) (none : Option Ext) xtT_rllllrrr
noncomputable def xtT_rllllr : T Ext := T.n (T.e : T Ext) (none : Option Ext) xtT_rllllrr
noncomputable def xtT_rllll : T Ext := T.n xtT_rlllll (none : Option Ext) xtT_rllllr
noncomputable def xtT_rlllrlrll : T Ext := T.n (T.e : T Ext) (some (Ext.addI32) : Option Ext) (T.e : T Ext)
noncomputable def xtT_rlllrlrl : T Ext := T.n xtT_rlllrlrll (none : Option Ext) (T.e : T Ext)
noncomputable def xtT_rlllrlr : T Ext := T.n xtT_rlllrlrl (none : Option Ext) (T.e : T Ext)
noncomputable def xtT_rlllrl : T Ext := T.n (T.e : T Ext) (none : Option Ext) xtT_rlllrlr
noncomputable def xtT_rlllr : T Ext := T.n xtT_rlllrl (none : Option Ext) (T.e : T Ext)
noncomputable def xtT_rlll : T Ext := T.n xtT_rllll (none : Option Ext) xtT_rlllr
noncomputable def xtT_rllrllrll : T Ext := T.n (T.e : T Ext) (some (Ext.noop) : Option Ext) (T.e : T Ext)
noncomputable def xtT_rllrllrl : T Ext := T.n xtT_rllrllrll (none : Option Ext) (T.e : T Ext)
noncomputable def xtT_rllrllr : T Ext := T.n xtT_rllrllrl (none : Option Ext) (T.e : T Ext)
noncomputable def xtT_rllrll : T Ext := T.n (T.e : T Ext) (none : Option Ext) xtT_rllrllr
noncomputable def xtT_rllrlrll : T Ext := T.n (T.e : T Ext) (some (Ext.indexByteString) : Option Ext) (T.e : T Ext)
noncomputable def xtT_rllrlrl : T Ext := T.n xtT_rllrlrll (none : Option Ext) (T.e : T Ext)
noncomputable def xtT_rllrlr : T Ext := T.n xtT_rllrlrl (none : Option Ext) (T.e : T Ext)
noncomputable def xtT_rllrl : T Ext := T.n xtT_rllrll (none : Option Ext) xtT_rllrlr
noncomputable def xtT_rllrrllll : T Ext := T.n (T.e : T Ext) (some (Ext.makeNoZero 5) : Option Ext) (T.e : T Ext)
noncomputable def xtT_rllrrlll : T Ext := T.n xtT_rllrrllll (none : Option Ext) (T.e : T Ext)
noncomputable def xtT_rllrrll : T Ext := T.n xtT_rllrrlll (none : Option Ext) (T.e : T Ext)
noncomputable def xtT_rllrrl : T Ext := T.n xtT_rllrrll (none : Option Ext) (T.e : T Ext)
noncomputable def xtT_rllrr : T Ext := T.n xtT_rllrrl (none : Option Ext) (T.e : T Ext)
noncomputable def xtT_rllr : T Ext := T.n xtT_rllrl (none : Option Ext) xtT_rllrr
noncomputable def xtT_rll : T Ext := T.n xtT_rlll (none : Option Ext) xtT_rllr
noncomputable def xtT_rlrlllrll : T Ext := T.n (T.e : T Ext) (some (Ext.noop) : Option Ext) (T.e : T Ext)
noncomputable def xtT_rlrlllrl : T Ext := T.n xtT_rlrlllrll (none : Option Ext) (T.e : T Ext)
noncomputable def xtT_rlrlllr : T Ext := T.n xtT_rlrlllrl (none : Option Ext) (T.e : T Ext)
noncomputable def xtT_rlrlll : T Ext := T.n (T.e : T Ext) (none : Option Ext) xtT_rlrlllr
noncomputable def xtT_rlrll : T Ext := T.n xtT_rlrlll (none : Option Ext) (T.e : T Ext)
noncomputable def xtT_rlrl : T Ext := T.n xtT_rlrll (none : Option Ext) (T.e : T Ext)
noncomputable def xtT_rlrrlrlll : T Ext := T.n (T.e : T Ext) (some (Ext.storeU32) : Option Ext) (T.e : T Ext)
noncomputable def xtT_rlrrlrll : T Ext := T.n xtT_rlrrlrlll (none : Option Ext) (T.e : T Ext)
noncomputable def xtT_rlrrlrl : T Ext := T.n xtT_rlrrlrll (none : Option Ext) (T.e : T Ext)
noncomputable def xtT_rlrrlr : T Ext := T.n xtT_rlrrlrl (none : Option Ext) (T.e : T Ext)
noncomputable def xtT_rlrrl : T Ext := T.n (T.e : T Ext) (none : Option Ext) xtT_rlrrlr
noncomputable def xtT_rlrr : T Ext := T.n xtT_rlrrl (none : Option Ext) (T.e : T Ext)
noncomputable def xtT_rlr : T Ext := T.n xtT_rlrl (none : Option Ext) xtT_rlrr
noncomputable def xtT_rl : T Ext := T.n xtT_rll (none : Option Ext) xtT_rlr
noncomputable def xtT_rrlrllrll : T Ext := T.n (T.e : T Ext) (some (Ext.noop1) : Option Ext) (T.e : T Ext)
noncomputable def xtT_rrlrllrl : T Ext := T.n xtT_rrlrllrll (none : Option Ext) (T.e : T Ext)
noncomputable def xtT_rrlrllr : T Ext := T.n xtT_rrlrllrl (none : Option Ext) (T.e : T Ext)
noncomputable def xtT_rrlrll : T Ext := T.n (T.e : T Ext) (none : Option Ext) xtT_rrlrllr
noncomputable def xtT_rrlrl : T Ext := T.n xtT_rrlrll (none : Option Ext) (T.e : T Ext)
noncomputable def xtT_rrlr : T Ext := T.n xtT_rrlrl (none : Option Ext) (T.e : T Ext)
noncomputable def xtT_rrl : T Ext := T.n (T.e : T Ext) (none : Option Ext) xtT_rrlr
noncomputable def xtT_rrrlllrll : T Ext := T.n (T.e : T Ext) (some (Ext.casI32) : Option Ext) (T.e : T Ext)
noncomputable def xtT_rrrlllrl : T Ext := T.n xtT_rrrlllrll (none : Option Ext) (T.e : T Ext)
noncomputable def xtT_rrrlllr : T Ext := T.n xtT_rrrlllrl (none : Option Ext) (T.e : T Ext)
noncomputable def xtT_rrrlll : T Ext := T.n (T.e : T Ext) (none : Option Ext) xtT_rrrlllr
noncomputable def xtT_rrrll : T Ext := T.n xtT_rrrlll (none : Option Ext) (T.e : T Ext)
noncomputable def xtT_rrrlrllll : T Ext := T.n (T.e : T Ext) (some (Ext.noEscape) : Option Ext) (T.e : T Ext)
noncomputable def xtT_rrrlrlll : T Ext := T.n xtT_rrrlrllll (none : Option Ext) (T.e : T Ext)
noncomputable def xtT_rrrlrll : T Ext := T.n xtT_rrrlrlll (none : Option Ext) (T.e : T Ext)
noncomputable def xtT_rrrlrl : T Ext := T.n xtT_rrrlrll (none : Option Ext) (T.e : T Ext)
noncomputable def xtT_rrrlr : T Ext := T.n xtT_rrrlrl (none : Option Ext) (T.e : T Ext)
noncomputable def xtT_rrrl : T Ext := T.n xtT_rrrll (none : Option Ext) xtT_rrrlr
noncomputable def xtT_rrrrllrll : T Ext := T.n (T.e : T Ext) (some (Ext.noop1) : Option Ext) (T.e : T Ext)
noncomputable def xtT_rrrrllrl : T Ext := T.n xtT_rrrrllrll (none : Option Ext) (T.e : T Ext)
noncomputable def xtT_rrrrllr : T Ext := T.n xtT_rrrrllrl (none : Option Ext) (T.e : T Ext)
noncomputable def xtT_rrrrll : T Ext := T.n (T.e : T Ext) (none : Option Ext) xtT_rrrrllr
noncomputable def xtT_rrrrl : T Ext := T.n xtT_rrrrll (none : Option Ext) (T.e : T Ext)
noncomputable def xtT_rrrrrrlr : T Ext := T.n (T.e : T Ext) (some (Ext.addI64) : Option Ext) (T.e : T Ext)
noncomputable def xtT_rrrrrrl : T Ext := T.n (T.e : T Ext) (none : Option Ext) xtT_rrrrrrlr
noncomputable def xtT_rrrrrr : T Ext := T.n xtT_rrrrrrl (none : Option Ext) (T.e : T Ext)
noncomputable def xtT_rrrrr : T Ext := T.n (T.e : T Ext) (none : Option Ext) xtT_rrrrrr
noncomputable def xtT_rrrr : T Ext := T.n xtT_rrrrl (none : Option Ext) xtT_rrrrr
noncomputable def xtT_rrr : T Ext := T.n xtT_rrrl (none : Option Ext) xtT_rrrr
noncomputable def xtT_rr : T Ext := T.n xtT_rrl (none : Option Ext) xtT_rrr
noncomputable def xtT_r : T Ext := T.n xtT_rl (none : Option Ext) xtT_rr
noncomputable def xtTab : T Ext := xtT_r
noncomputable def env : Env := { P := Tryz.prog, ti := tiTab, ft := ftTab, xt := xtTab, gl := .e }
end Go.Proofs.YtmhajfnfjjbflaaGreatDoor.Ev
