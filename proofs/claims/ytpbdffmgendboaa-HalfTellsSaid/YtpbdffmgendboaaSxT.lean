/- Facts on the types and the functions. -/
import Derived.Test.YtpbdffmgendboaaSl2
import Derived.Test.YtpbdffmgendboaaWdB
namespace Go.Proofs.Ytpbdffmgendboaa
open Go Go.RowKit
theorem one_2 : Sx.oneT Try.prog 2 := ⟨fun _ => by kernel_rfl, by kernel_rfl⟩
theorem sz_2 : (Try.prog.info? 2).map (·.size) = some 1 := by kernel_rfl
theorem zero_2 : Sx.zeroIs Try.prog 2 [.int .i64 0] := ⟨.int .i64 0, rfl, fun _ => by kernel_rfl⟩
theorem one_3 : Sx.oneT Try.prog 3 := ⟨fun _ => by kernel_rfl, by kernel_rfl⟩
theorem sz_3 : (Try.prog.info? 3).map (·.size) = some 1 := by kernel_rfl
theorem zero_3 : Sx.zeroIs Try.prog 3 [.int .i64 0] := ⟨.int .i64 0, rfl, fun _ => by kernel_rfl⟩
theorem one_4 : Sx.oneT Try.prog 4 := ⟨fun _ => by kernel_rfl, by kernel_rfl⟩
theorem sz_4 : (Try.prog.info? 4).map (·.size) = some 1 := by kernel_rfl
theorem zero_4 : Sx.zeroIs Try.prog 4 [.bool false] := ⟨.bool false, rfl, fun _ => by kernel_rfl⟩
theorem one_5 : Sx.oneT Try.prog 5 := ⟨fun _ => by kernel_rfl, by kernel_rfl⟩
theorem sz_5 : (Try.prog.info? 5).map (·.size) = some 1 := by kernel_rfl
theorem zero_5 : Sx.zeroIs Try.prog 5 [.int .u8 0] := ⟨.int .u8 0, rfl, fun _ => by kernel_rfl⟩
theorem one_12 : Sx.oneT Try.prog 12 := ⟨fun _ => by kernel_rfl, by kernel_rfl⟩
theorem sz_12 : (Try.prog.info? 12).map (·.size) = some 1 := by kernel_rfl
theorem zero_12 : Sx.zeroIs Try.prog 12 [.int .u64 0] := ⟨.int .u64 0, rfl, fun _ => by kernel_rfl⟩
theorem one_21 : Sx.oneT Try.prog 21 := ⟨fun _ => by kernel_rfl, by kernel_rfl⟩
theorem sz_21 : (Try.prog.info? 21).map (·.size) = some 1 := by kernel_rfl
theorem zero_21 : Sx.zeroIs Try.prog 21 [.int .i32 0] := ⟨.int .i32 0, rfl, fun _ => by kernel_rfl⟩
theorem one_22 : Sx.oneT Try.prog 22 := ⟨fun _ => by kernel_rfl, by kernel_rfl⟩
theorem sz_22 : (Try.prog.info? 22).map (·.size) = some 1 := by kernel_rfl
theorem zero_22 : Sx.zeroIs Try.prog 22 [.int .u64 0] := ⟨.int .u64 0, rfl, fun _ => by kernel_rfl⟩
theorem rw_24 : Sx.rowT Try.prog 24 2 := ⟨by kernel_rfl, by kernel_rfl⟩
theorem sz_24 : (Try.prog.info? 24).map (·.size) = some 2 := by kernel_rfl
theorem zero_24 : Sx.zeroIs Try.prog 24 [.int .u64 ((Wd.hi 0#128).toNat), .int .u64 ((Wd.lo 0#128).toNat)] := ⟨.agg #[.int .u64 ((Wd.hi 0#128).toNat), .int .u64 ((Wd.lo 0#128).toNat)], rfl, fun _ => by kernel_rfl⟩
theorem fa_24_0 (b o : Nat) (w : World) : (Instr.fieldAt 24 (.pointer (some ⟨b, o, none⟩)) 0).run Try.prog w = .ok (.pointer (some ⟨b, o + 0, none⟩)) w := by kernel_rfl
theorem fa_24_1 (b o : Nat) (w : World) : (Instr.fieldAt 24 (.pointer (some ⟨b, o, none⟩)) 1).run Try.prog w = .ok (.pointer (some ⟨b, o + 1, none⟩)) w := by kernel_rfl
theorem rw_26 : Sx.rowT Try.prog 26 4 := ⟨by kernel_rfl, by kernel_rfl⟩
theorem sz_26 : (Try.prog.info? 26).map (·.size) = some 4 := by kernel_rfl
theorem zero_26 : Sx.zeroIs Try.prog 26 [.int .u64 ((Wd.hi 0#128).toNat), .int .u64 ((Wd.lo 0#128).toNat), .int .u64 ((Wd.hi 0#128).toNat), .int .u64 ((Wd.lo 0#128).toNat)] := ⟨.agg #[.int .u64 ((Wd.hi 0#128).toNat), .int .u64 ((Wd.lo 0#128).toNat), .int .u64 ((Wd.hi 0#128).toNat), .int .u64 ((Wd.lo 0#128).toNat)], rfl, fun _ => by kernel_rfl⟩
theorem fa_26_0 (b o : Nat) (w : World) : (Instr.fieldAt 26 (.pointer (some ⟨b, o, none⟩)) 0).run Try.prog w = .ok (.pointer (some ⟨b, o + 0, none⟩)) w := by kernel_rfl
theorem fa_26_1 (b o : Nat) (w : World) : (Instr.fieldAt 26 (.pointer (some ⟨b, o, none⟩)) 1).run Try.prog w = .ok (.pointer (some ⟨b, o + 2, none⟩)) w := by kernel_rfl
theorem one_28 : Sx.oneT Try.prog 28 := ⟨fun _ => by kernel_rfl, by kernel_rfl⟩
theorem sz_28 : (Try.prog.info? 28).map (·.size) = some 1 := by kernel_rfl
theorem zero_28 : Sx.zeroIs Try.prog 28 [.int .i64 0] := ⟨.int .i64 0, rfl, fun _ => by kernel_rfl⟩
theorem rw_31 : Sx.rowT Try.prog 31 2 := ⟨by kernel_rfl, by kernel_rfl⟩
theorem sz_31 : (Try.prog.info? 31).map (·.size) = some 2 := by kernel_rfl
theorem zero_31 : Sx.zeroIs Try.prog 31 [.int .u64 ((Wd.hi 0#128).toNat), .int .u64 ((Wd.lo 0#128).toNat)] := ⟨.agg #[.int .u64 ((Wd.hi 0#128).toNat), .int .u64 ((Wd.lo 0#128).toNat)], rfl, fun _ => by kernel_rfl⟩
theorem fa_31_0 (b o : Nat) (w : World) : (Instr.fieldAt 31 (.pointer (some ⟨b, o, none⟩)) 0).run Try.prog w = .ok (.pointer (some ⟨b, o + 0, none⟩)) w := by kernel_rfl
theorem fa_31_1 (b o : Nat) (w : World) : (Instr.fieldAt 31 (.pointer (some ⟨b, o, none⟩)) 1).run Try.prog w = .ok (.pointer (some ⟨b, o + 1, none⟩)) w := by kernel_rfl
theorem rw_37 : Sx.rowT Try.prog 37 4 := ⟨by kernel_rfl, by kernel_rfl⟩
theorem sz_37 : (Try.prog.info? 37).map (·.size) = some 4 := by kernel_rfl
theorem zero_37 : Sx.zeroIs Try.prog 37 [.int .u64 ((Wd.hi 0#128).toNat), .int .u64 ((Wd.lo 0#128).toNat), .int .u64 ((Wd.hi 0#128).toNat), .int .u64 ((Wd.lo 0#128).toNat)] := ⟨.agg #[.int .u64 ((Wd.hi 0#128).toNat), .int .u64 ((Wd.lo 0#128).toNat), .int .u64 ((Wd.hi 0#128).toNat), .int .u64 ((Wd.lo 0#128).toNat)], rfl, fun _ => by kernel_rfl⟩
theorem fa_37_0 (b o : Nat) (w : World) : (Instr.fieldAt 37 (.pointer (some ⟨b, o, none⟩)) 0).run Try.prog w = .ok (.pointer (some ⟨b, o + 0, none⟩)) w := by kernel_rfl
theorem fa_37_1 (b o : Nat) (w : World) : (Instr.fieldAt 37 (.pointer (some ⟨b, o, none⟩)) 1).run Try.prog w = .ok (.pointer (some ⟨b, o + 2, none⟩)) w := by kernel_rfl
theorem rw_57 : Sx.rowT Try.prog 57 4 := ⟨by kernel_rfl, by kernel_rfl⟩
theorem sz_57 : (Try.prog.info? 57).map (·.size) = some 4 := by kernel_rfl
theorem zero_57 : Sx.zeroIs Try.prog 57 [.int .u64 ((Wd.hi 0#128).toNat), .int .u64 ((Wd.lo 0#128).toNat), .int .u64 ((Wd.hi 0#128).toNat), .int .u64 ((Wd.lo 0#128).toNat)] := ⟨.agg #[.int .u64 ((Wd.hi 0#128).toNat), .int .u64 ((Wd.lo 0#128).toNat), .int .u64 ((Wd.hi 0#128).toNat), .int .u64 ((Wd.lo 0#128).toNat)], rfl, fun _ => by kernel_rfl⟩
theorem fa_57_0 (b o : Nat) (w : World) : (Instr.fieldAt 57 (.pointer (some ⟨b, o, none⟩)) 0).run Try.prog w = .ok (.pointer (some ⟨b, o + 0, none⟩)) w := by kernel_rfl
theorem fa_57_1 (b o : Nat) (w : World) : (Instr.fieldAt 57 (.pointer (some ⟨b, o, none⟩)) 1).run Try.prog w = .ok (.pointer (some ⟨b, o + 2, none⟩)) w := by kernel_rfl
theorem one_58 : Sx.oneT Try.prog 58 := ⟨fun _ => by kernel_rfl, by kernel_rfl⟩
theorem sz_58 : (Try.prog.info? 58).map (·.size) = some 1 := by kernel_rfl
theorem zero_58 : Sx.zeroIs Try.prog 58 [.int .u16 0] := ⟨.int .u16 0, rfl, fun _ => by kernel_rfl⟩
theorem rw_62 : Sx.rowT Try.prog 62 4 := ⟨by kernel_rfl, by kernel_rfl⟩
theorem sz_62 : (Try.prog.info? 62).map (·.size) = some 4 := by kernel_rfl
theorem zero_62 : Sx.zeroIs Try.prog 62 [.int .u64 ((Wd.hi 0#128).toNat), .int .u64 ((Wd.lo 0#128).toNat), .int .u64 ((Wd.hi 0#128).toNat), .int .u64 ((Wd.lo 0#128).toNat)] := ⟨.agg #[.int .u64 ((Wd.hi 0#128).toNat), .int .u64 ((Wd.lo 0#128).toNat), .int .u64 ((Wd.hi 0#128).toNat), .int .u64 ((Wd.lo 0#128).toNat)], rfl, fun _ => by kernel_rfl⟩
theorem fa_62_0 (b o : Nat) (w : World) : (Instr.fieldAt 62 (.pointer (some ⟨b, o, none⟩)) 0).run Try.prog w = .ok (.pointer (some ⟨b, o + 0, none⟩)) w := by kernel_rfl
theorem fa_62_1 (b o : Nat) (w : World) : (Instr.fieldAt 62 (.pointer (some ⟨b, o, none⟩)) 1).run Try.prog w = .ok (.pointer (some ⟨b, o + 2, none⟩)) w := by kernel_rfl
theorem one_67 : Sx.oneT Try.prog 67 := ⟨fun _ => by kernel_rfl, by kernel_rfl⟩
theorem sz_67 : (Try.prog.info? 67).map (·.size) = some 1 := by kernel_rfl
theorem zero_67 : Sx.zeroIs Try.prog 67 [.slice none 0 0] := ⟨.slice none 0 0, rfl, fun _ => by kernel_rfl⟩
theorem el_67 : Sx.elemT Try.prog 67 22 1 8 := ⟨by kernel_rfl, by kernel_rfl⟩
theorem one_78 : Sx.oneT Try.prog 78 := ⟨fun _ => by kernel_rfl, by kernel_rfl⟩
theorem sz_78 : (Try.prog.info? 78).map (·.size) = some 1 := by kernel_rfl
theorem zero_78 : Sx.zeroIs Try.prog 78 [.int .u32 0] := ⟨.int .u32 0, rfl, fun _ => by kernel_rfl⟩
theorem rw_79 : Sx.rowT Try.prog 79 2 := ⟨by kernel_rfl, by kernel_rfl⟩
theorem sz_79 : (Try.prog.info? 79).map (·.size) = some 2 := by kernel_rfl
theorem zero_79 : Sx.zeroIs Try.prog 79 [.int .u32 0, .int .u32 0] := ⟨.agg #[.int .u32 0, .int .u32 0], rfl, fun _ => by kernel_rfl⟩
theorem rw_80 : Sx.rowT Try.prog 80 2 := ⟨by kernel_rfl, by kernel_rfl⟩
theorem sz_80 : (Try.prog.info? 80).map (·.size) = some 2 := by kernel_rfl
theorem zero_80 : Sx.zeroIs Try.prog 80 [.int .u32 0, .int .u32 0] := ⟨.agg #[.int .u32 0, .int .u32 0], rfl, fun _ => by kernel_rfl⟩
theorem rw_82 : Sx.rowT Try.prog 82 5 := ⟨by kernel_rfl, by kernel_rfl⟩
theorem sz_82 : (Try.prog.info? 82).map (·.size) = some 5 := by kernel_rfl
theorem zero_82 : Sx.zeroIs Try.prog 82 [.int .u64 ((Wd.hi 0#128).toNat), .int .u64 ((Wd.lo 0#128).toNat), .int .u32 0, .int .u32 0, .bool false] := ⟨.agg #[.int .u64 ((Wd.hi 0#128).toNat), .int .u64 ((Wd.lo 0#128).toNat), .int .u32 0, .int .u32 0, .bool false], rfl, fun _ => by kernel_rfl⟩
theorem fa_82_0 (b o : Nat) (w : World) : (Instr.fieldAt 82 (.pointer (some ⟨b, o, none⟩)) 0).run Try.prog w = .ok (.pointer (some ⟨b, o + 0, none⟩)) w := by kernel_rfl
theorem fa_82_1 (b o : Nat) (w : World) : (Instr.fieldAt 82 (.pointer (some ⟨b, o, none⟩)) 1).run Try.prog w = .ok (.pointer (some ⟨b, o + 2, none⟩)) w := by kernel_rfl
theorem fa_82_2 (b o : Nat) (w : World) : (Instr.fieldAt 82 (.pointer (some ⟨b, o, none⟩)) 2).run Try.prog w = .ok (.pointer (some ⟨b, o + 4, none⟩)) w := by kernel_rfl
theorem rw_86 : Sx.rowT Try.prog 86 5 := ⟨by kernel_rfl, by kernel_rfl⟩
theorem sz_86 : (Try.prog.info? 86).map (·.size) = some 5 := by kernel_rfl
theorem zero_86 : Sx.zeroIs Try.prog 86 [.int .u64 ((Wd.hi 0#128).toNat), .int .u64 ((Wd.lo 0#128).toNat), .int .u32 0, .int .u32 0, .bool false] := ⟨.agg #[.int .u64 ((Wd.hi 0#128).toNat), .int .u64 ((Wd.lo 0#128).toNat), .int .u32 0, .int .u32 0, .bool false], rfl, fun _ => by kernel_rfl⟩
theorem fa_86_0 (b o : Nat) (w : World) : (Instr.fieldAt 86 (.pointer (some ⟨b, o, none⟩)) 0).run Try.prog w = .ok (.pointer (some ⟨b, o + 0, none⟩)) w := by kernel_rfl
theorem fa_86_1 (b o : Nat) (w : World) : (Instr.fieldAt 86 (.pointer (some ⟨b, o, none⟩)) 1).run Try.prog w = .ok (.pointer (some ⟨b, o + 2, none⟩)) w := by kernel_rfl
theorem fa_86_2 (b o : Nat) (w : World) : (Instr.fieldAt 86 (.pointer (some ⟨b, o, none⟩)) 2).run Try.prog w = .ok (.pointer (some ⟨b, o + 4, none⟩)) w := by kernel_rfl
theorem rw_94 : Sx.rowT Try.prog 94 4 := ⟨by kernel_rfl, by kernel_rfl⟩
theorem sz_94 : (Try.prog.info? 94).map (·.size) = some 4 := by kernel_rfl
theorem zero_94 : Sx.zeroIs Try.prog 94 [.int .u32 0, .int .u32 0, .int .u32 0, .int .u32 0] := ⟨.agg #[.int .u32 0, .int .u32 0, .int .u32 0, .int .u32 0], rfl, fun _ => by kernel_rfl⟩
theorem rw_95 : Sx.rowT Try.prog 95 4 := ⟨by kernel_rfl, by kernel_rfl⟩
theorem sz_95 : (Try.prog.info? 95).map (·.size) = some 4 := by kernel_rfl
theorem zero_95 : Sx.zeroIs Try.prog 95 [.int .u32 0, .int .u32 0, .int .u32 0, .int .u32 0] := ⟨.agg #[.int .u32 0, .int .u32 0, .int .u32 0, .int .u32 0], rfl, fun _ => by kernel_rfl⟩
theorem rw_101 : Sx.rowT Try.prog 101 2 := ⟨by kernel_rfl, by kernel_rfl⟩
theorem sz_101 : (Try.prog.info? 101).map (·.size) = some 2 := by kernel_rfl
theorem zero_101 : Sx.zeroIs Try.prog 101 [.int .u64 0, .int .u64 0] := ⟨.agg #[.int .u64 0, .int .u64 0], rfl, fun _ => by kernel_rfl⟩
theorem one_110 : Sx.oneT Try.prog 110 := ⟨fun _ => by kernel_rfl, by kernel_rfl⟩
theorem sz_110 : (Try.prog.info? 110).map (·.size) = some 1 := by kernel_rfl
theorem zero_110 : Sx.zeroIs Try.prog 110 [.slice none 0 0] := ⟨.slice none 0 0, rfl, fun _ => by kernel_rfl⟩
theorem el_110 : Sx.elemT Try.prog 110 3 1 8 := ⟨by kernel_rfl, by kernel_rfl⟩
theorem one_116 : Sx.oneT Try.prog 116 := ⟨fun _ => by kernel_rfl, by kernel_rfl⟩
theorem sz_116 : (Try.prog.info? 116).map (·.size) = some 1 := by kernel_rfl
theorem zero_116 : Sx.zeroIs Try.prog 116 [.int .u64 0] := ⟨.int .u64 0, rfl, fun _ => by kernel_rfl⟩
theorem rw_124 : Sx.rowT Try.prog 124 4 := ⟨by kernel_rfl, by kernel_rfl⟩
theorem sz_124 : (Try.prog.info? 124).map (·.size) = some 4 := by kernel_rfl
theorem zero_124 : Sx.zeroIs Try.prog 124 [.int .u64 0, .int .u64 0, .int .u64 0, .int .u64 0] := ⟨.agg #[.int .u64 0, .int .u64 0, .int .u64 0, .int .u64 0], rfl, fun _ => by kernel_rfl⟩
theorem one_133 : Sx.oneT Try.prog 133 := ⟨fun _ => by kernel_rfl, by kernel_rfl⟩
theorem sz_133 : (Try.prog.info? 133).map (·.size) = some 1 := by kernel_rfl
theorem zero_133 : Sx.zeroIs Try.prog 133 [.slice none 0 0] := ⟨.slice none 0 0, rfl, fun _ => by kernel_rfl⟩
theorem el_133 : Sx.elemT Try.prog 133 138 2 16 := ⟨by kernel_rfl, by kernel_rfl⟩
theorem rw_138 : Sx.rowT Try.prog 138 2 := ⟨by kernel_rfl, by kernel_rfl⟩
theorem sz_138 : (Try.prog.info? 138).map (·.size) = some 2 := by kernel_rfl
theorem if_15 : Sx.isFn Try.prog 15 := fun _ _ => by kernel_rfl
theorem if_16 : Sx.isFn Try.prog 16 := fun _ _ => by kernel_rfl
theorem if_17 : Sx.isFn Try.prog 17 := fun _ _ => by kernel_rfl
theorem if_18 : Sx.isFn Try.prog 18 := fun _ _ => by kernel_rfl
theorem if_19 : Sx.isFn Try.prog 19 := fun _ _ => by kernel_rfl
theorem if_20 : Sx.isFn Try.prog 20 := fun _ _ => by kernel_rfl
theorem if_21 : Sx.isFn Try.prog 21 := fun _ _ => by kernel_rfl
theorem if_22 : Sx.isFn Try.prog 22 := fun _ _ => by kernel_rfl
theorem if_23 : Sx.isFn Try.prog 23 := fun _ _ => by kernel_rfl
theorem if_24 : Sx.isFn Try.prog 24 := fun _ _ => by kernel_rfl
theorem if_25 : Sx.isFn Try.prog 25 := fun _ _ => by kernel_rfl
theorem if_26 : Sx.isFn Try.prog 26 := fun _ _ => by kernel_rfl
theorem if_27 : Sx.isFn Try.prog 27 := fun _ _ => by kernel_rfl
theorem if_28 : Sx.isFn Try.prog 28 := fun _ _ => by kernel_rfl
theorem if_29 : Sx.isFn Try.prog 29 := fun _ _ => by kernel_rfl
theorem if_30 : Sx.isFn Try.prog 30 := fun _ _ => by kernel_rfl
theorem if_31 : Sx.isFn Try.prog 31 := fun _ _ => by kernel_rfl
theorem if_32 : Sx.isFn Try.prog 32 := fun _ _ => by kernel_rfl
theorem if_33 : Sx.isFn Try.prog 33 := fun _ _ => by kernel_rfl
theorem if_34 : Sx.isFn Try.prog 34 := fun _ _ => by kernel_rfl
theorem if_35 : Sx.isFn Try.prog 35 := fun _ _ => by kernel_rfl
theorem if_36 : Sx.isFn Try.prog 36 := fun _ _ => by kernel_rfl
theorem if_37 : Sx.isFn Try.prog 37 := fun _ _ => by kernel_rfl
theorem if_38 : Sx.isFn Try.prog 38 := fun _ _ => by kernel_rfl
theorem if_39 : Sx.isFn Try.prog 39 := fun _ _ => by kernel_rfl
theorem if_40 : Sx.isFn Try.prog 40 := fun _ _ => by kernel_rfl
theorem if_41 : Sx.isFn Try.prog 41 := fun _ _ => by kernel_rfl
theorem if_42 : Sx.isFn Try.prog 42 := fun _ _ => by kernel_rfl
theorem if_43 : Sx.isFn Try.prog 43 := fun _ _ => by kernel_rfl
theorem if_44 : Sx.isFn Try.prog 44 := fun _ _ => by kernel_rfl
theorem if_45 : Sx.isFn Try.prog 45 := fun _ _ => by kernel_rfl
theorem if_46 : Sx.isFn Try.prog 46 := fun _ _ => by kernel_rfl
theorem if_47 : Sx.isFn Try.prog 47 := fun _ _ => by kernel_rfl
theorem if_48 : Sx.isFn Try.prog 48 := fun _ _ => by kernel_rfl
theorem if_49 : Sx.isFn Try.prog 49 := fun _ _ => by kernel_rfl
theorem if_50 : Sx.isFn Try.prog 50 := fun _ _ => by kernel_rfl
theorem if_51 : Sx.isFn Try.prog 51 := fun _ _ => by kernel_rfl
theorem if_52 : Sx.isFn Try.prog 52 := fun _ _ => by kernel_rfl
theorem if_53 : Sx.isFn Try.prog 53 := fun _ _ => by kernel_rfl
theorem if_54 : Sx.isFn Try.prog 54 := fun _ _ => by kernel_rfl
theorem if_55 : Sx.isFn Try.prog 55 := fun _ _ => by kernel_rfl
theorem if_56 : Sx.isFn Try.prog 56 := fun _ _ => by kernel_rfl
theorem if_57 : Sx.isFn Try.prog 57 := fun _ _ => by kernel_rfl
theorem if_58 : Sx.isFn Try.prog 58 := fun _ _ => by kernel_rfl
theorem if_59 : Sx.isFn Try.prog 59 := fun _ _ => by kernel_rfl
theorem if_60 : Sx.isFn Try.prog 60 := fun _ _ => by kernel_rfl
theorem if_61 : Sx.isFn Try.prog 61 := fun _ _ => by kernel_rfl
theorem if_62 : Sx.isFn Try.prog 62 := fun _ _ => by kernel_rfl
theorem if_63 : Sx.isFn Try.prog 63 := fun _ _ => by kernel_rfl
theorem if_64 : Sx.isFn Try.prog 64 := fun _ _ => by kernel_rfl
theorem if_65 : Sx.isFn Try.prog 65 := fun _ _ => by kernel_rfl
theorem if_66 : Sx.isFn Try.prog 66 := fun _ _ => by kernel_rfl
theorem if_69 : Sx.isFn Try.prog 69 := fun _ _ => by kernel_rfl
theorem if_70 : Sx.isFn Try.prog 70 := fun _ _ => by kernel_rfl
theorem if_71 : Sx.isFn Try.prog 71 := fun _ _ => by kernel_rfl
theorem if_72 : Sx.isFn Try.prog 72 := fun _ _ => by kernel_rfl
theorem if_73 : Sx.isFn Try.prog 73 := fun _ _ => by kernel_rfl
theorem if_74 : Sx.isFn Try.prog 74 := fun _ _ => by kernel_rfl
theorem if_75 : Sx.isFn Try.prog 75 := fun _ _ => by kernel_rfl
theorem if_77 : Sx.isFn Try.prog 77 := fun _ _ => by kernel_rfl
theorem if_78 : Sx.isFn Try.prog 78 := fun _ _ => by kernel_rfl
theorem if_79 : Sx.isFn Try.prog 79 := fun _ _ => by kernel_rfl
theorem if_80 : Sx.isFn Try.prog 80 := fun _ _ => by kernel_rfl
theorem if_81 : Sx.isFn Try.prog 81 := fun _ _ => by kernel_rfl
theorem if_82 : Sx.isFn Try.prog 82 := fun _ _ => by kernel_rfl
theorem if_83 : Sx.isFn Try.prog 83 := fun _ _ => by kernel_rfl
theorem if_84 : Sx.isFn Try.prog 84 := fun _ _ => by kernel_rfl
theorem if_86 : Sx.isFn Try.prog 86 := fun _ _ => by kernel_rfl
theorem if_88 : Sx.isFn Try.prog 88 := fun _ _ => by kernel_rfl
theorem if_89 : Sx.isFn Try.prog 89 := fun _ _ => by kernel_rfl
theorem if_90 : Sx.isFn Try.prog 90 := fun _ _ => by kernel_rfl
end Go.Proofs.Ytpbdffmgendboaa
