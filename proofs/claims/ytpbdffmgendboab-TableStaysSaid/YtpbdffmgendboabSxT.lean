/- Facts on the types and the functions. -/
import Derived.Test.YtpbdffmgendboabSl2
import Derived.Test.YtpbdffmgendboabWdB
namespace Go.Proofs.Ytpbdffmgendboab
open Go Go.RowKit
theorem one_2 : Sx.oneT Try.prog 2 := ⟨fun _ => by kernel_rfl, by kernel_rfl⟩
theorem sz_2 : (Try.prog.info? 2).map (·.size) = some 1 := by kernel_rfl
theorem zero_2 : Sx.zeroIs Try.prog 2 [.int .i64 0] := ⟨.int .i64 0, rfl, fun _ => by kernel_rfl⟩
theorem one_3 : Sx.oneT Try.prog 3 := ⟨fun _ => by kernel_rfl, by kernel_rfl⟩
theorem sz_3 : (Try.prog.info? 3).map (·.size) = some 1 := by kernel_rfl
theorem zero_3 : Sx.zeroIs Try.prog 3 [.int .i64 0] := ⟨.int .i64 0, rfl, fun _ => by kernel_rfl⟩
theorem one_4 : Sx.oneT Try.prog 4 := ⟨fun _ => by kernel_rfl, by kernel_rfl⟩
theorem sz_4 : (Try.prog.info? 4).map (·.size) = some 1 := by kernel_rfl
theorem zero_4 : Sx.zeroIs Try.prog 4 [.bool false] := ⟨.bool false, rfl, fun _ => by kernel_rfl⟩
theorem one_5 : Sx.oneT Try.prog 5 := ⟨fun _ => by kernel_rfl, by kernel_rfl⟩
theorem sz_5 : (Try.prog.info? 5).map (·.size) = some 1 := by kernel_rfl
theorem zero_5 : Sx.zeroIs Try.prog 5 [.int .u8 0] := ⟨.int .u8 0, rfl, fun _ => by kernel_rfl⟩
theorem one_12 : Sx.oneT Try.prog 12 := ⟨fun _ => by kernel_rfl, by kernel_rfl⟩
theorem sz_12 : (Try.prog.info? 12).map (·.size) = some 1 := by kernel_rfl
theorem zero_12 : Sx.zeroIs Try.prog 12 [.int .u64 0] := ⟨.int .u64 0, rfl, fun _ => by kernel_rfl⟩
theorem one_21 : Sx.oneT Try.prog 21 := ⟨fun _ => by kernel_rfl, by kernel_rfl⟩
theorem sz_21 : (Try.prog.info? 21).map (·.size) = some 1 := by kernel_rfl
theorem zero_21 : Sx.zeroIs Try.prog 21 [.int .i32 0] := ⟨.int .i32 0, rfl, fun _ => by kernel_rfl⟩
theorem one_22 : Sx.oneT Try.prog 22 := ⟨fun _ => by kernel_rfl, by kernel_rfl⟩
theorem sz_22 : (Try.prog.info? 22).map (·.size) = some 1 := by kernel_rfl
theorem zero_22 : Sx.zeroIs Try.prog 22 [.int .u64 0] := ⟨.int .u64 0, rfl, fun _ => by kernel_rfl⟩
theorem rw_24 : Sx.rowT Try.prog 24 2 := ⟨by kernel_rfl, by kernel_rfl⟩
theorem sz_24 : (Try.prog.info? 24).map (·.size) = some 2 := by kernel_rfl
theorem zero_24 : Sx.zeroIs Try.prog 24 [.int .u64 ((Wd.hi 0#128).toNat), .int .u64 ((Wd.lo 0#128).toNat)] := ⟨.agg #[.int .u64 ((Wd.hi 0#128).toNat), .int .u64 ((Wd.lo 0#128).toNat)], rfl, fun _ => by kernel_rfl⟩
theorem fa_24_0 (b o : Nat) (w : World) : (Instr.fieldAt 24 (.pointer (some ⟨b, o, none⟩)) 0).run Try.prog w = .ok (.pointer (some ⟨b, o + 0, none⟩)) w := by kernel_rfl
theorem fa_24_1 (b o : Nat) (w : World) : (Instr.fieldAt 24 (.pointer (some ⟨b, o, none⟩)) 1).run Try.prog w = .ok (.pointer (some ⟨b, o + 1, none⟩)) w := by kernel_rfl
theorem one_36 : Sx.oneT Try.prog 36 := ⟨fun _ => by kernel_rfl, by kernel_rfl⟩
theorem sz_36 : (Try.prog.info? 36).map (·.size) = some 1 := by kernel_rfl
theorem zero_36 : Sx.zeroIs Try.prog 36 [.int .i64 0] := ⟨.int .i64 0, rfl, fun _ => by kernel_rfl⟩
theorem rw_43 : Sx.rowT Try.prog 43 2 := ⟨by kernel_rfl, by kernel_rfl⟩
theorem sz_43 : (Try.prog.info? 43).map (·.size) = some 2 := by kernel_rfl
theorem zero_43 : Sx.zeroIs Try.prog 43 [.int .u64 ((Wd.hi 0#128).toNat), .int .u64 ((Wd.lo 0#128).toNat)] := ⟨.agg #[.int .u64 ((Wd.hi 0#128).toNat), .int .u64 ((Wd.lo 0#128).toNat)], rfl, fun _ => by kernel_rfl⟩
theorem fa_43_0 (b o : Nat) (w : World) : (Instr.fieldAt 43 (.pointer (some ⟨b, o, none⟩)) 0).run Try.prog w = .ok (.pointer (some ⟨b, o + 0, none⟩)) w := by kernel_rfl
theorem fa_43_1 (b o : Nat) (w : World) : (Instr.fieldAt 43 (.pointer (some ⟨b, o, none⟩)) 1).run Try.prog w = .ok (.pointer (some ⟨b, o + 1, none⟩)) w := by kernel_rfl
theorem one_124 : Sx.oneT Try.prog 124 := ⟨fun _ => by kernel_rfl, by kernel_rfl⟩
theorem sz_124 : (Try.prog.info? 124).map (·.size) = some 1 := by kernel_rfl
theorem zero_124 : Sx.zeroIs Try.prog 124 [.int .u32 0] := ⟨.int .u32 0, rfl, fun _ => by kernel_rfl⟩
theorem one_77 : Sx.oneT Try.prog 77 := ⟨fun _ => by kernel_rfl, by kernel_rfl⟩
theorem sz_77 : (Try.prog.info? 77).map (·.size) = some 1 := by kernel_rfl
theorem zero_77 : Sx.zeroIs Try.prog 77 [.slice none 0 0] := ⟨.slice none 0 0, rfl, fun _ => by kernel_rfl⟩
theorem el_77 : Sx.elemT Try.prog 77 3 1 8 := ⟨by kernel_rfl, by kernel_rfl⟩
theorem one_110 : Sx.oneT Try.prog 110 := ⟨fun _ => by kernel_rfl, by kernel_rfl⟩
theorem sz_110 : (Try.prog.info? 110).map (·.size) = some 1 := by kernel_rfl
theorem zero_110 : Sx.zeroIs Try.prog 110 [.int .u64 0] := ⟨.int .u64 0, rfl, fun _ => by kernel_rfl⟩
theorem rw_92 : Sx.rowT Try.prog 92 4 := ⟨by kernel_rfl, by kernel_rfl⟩
theorem sz_92 : (Try.prog.info? 92).map (·.size) = some 4 := by kernel_rfl
theorem zero_92 : Sx.zeroIs Try.prog 92 [.int .u64 0, .int .u64 0, .int .u64 0, .int .u64 0] := ⟨.agg #[.int .u64 0, .int .u64 0, .int .u64 0, .int .u64 0], rfl, fun _ => by kernel_rfl⟩
theorem if_11 : Sx.isFn Try.prog 11 := fun _ _ => by kernel_rfl
theorem if_28 : Sx.isFn Try.prog 28 := fun _ _ => by kernel_rfl
theorem if_14 : Sx.isFn Try.prog 14 := fun _ _ => by kernel_rfl
theorem if_18 : Sx.isFn Try.prog 18 := fun _ _ => by kernel_rfl
theorem if_13 : Sx.isFn Try.prog 13 := fun _ _ => by kernel_rfl
theorem if_12 : Sx.isFn Try.prog 12 := fun _ _ => by kernel_rfl
theorem if_32 : Sx.isFn Try.prog 32 := fun _ _ => by kernel_rfl
theorem if_27 : Sx.isFn Try.prog 27 := fun _ _ => by kernel_rfl
theorem if_23 : Sx.isFn Try.prog 23 := fun _ _ => by kernel_rfl
theorem if_29 : Sx.isFn Try.prog 29 := fun _ _ => by kernel_rfl
theorem if_24 : Sx.isFn Try.prog 24 := fun _ _ => by kernel_rfl
theorem if_16 : Sx.isFn Try.prog 16 := fun _ _ => by kernel_rfl
theorem if_61 : Sx.isFn Try.prog 61 := fun _ _ => by kernel_rfl
theorem if_31 : Sx.isFn Try.prog 31 := fun _ _ => by kernel_rfl
theorem if_59 : Sx.isFn Try.prog 59 := fun _ _ => by kernel_rfl
theorem if_56 : Sx.isFn Try.prog 56 := fun _ _ => by kernel_rfl
theorem if_57 : Sx.isFn Try.prog 57 := fun _ _ => by kernel_rfl
theorem if_58 : Sx.isFn Try.prog 58 := fun _ _ => by kernel_rfl
theorem if_71 : Sx.isFn Try.prog 71 := fun _ _ => by kernel_rfl
theorem one_39 : Sx.oneT Try.prog 39 := ⟨fun _ => by kernel_rfl, by kernel_rfl⟩
theorem sz_39 : (Try.prog.info? 39).map (·.size) = some 1 := by kernel_rfl
theorem zero_39 : Sx.zeroIs Try.prog 39 [.slice none 0 0] := ⟨.slice none 0 0, rfl, fun _ => by kernel_rfl⟩
theorem el_39 : Sx.elemT Try.prog 39 5 1 1 := ⟨by kernel_rfl, by kernel_rfl⟩
theorem one_58 : Sx.oneT Try.prog 58 := ⟨fun _ => by kernel_rfl, by kernel_rfl⟩
theorem sz_58 : (Try.prog.info? 58).map (·.size) = some 1 := by kernel_rfl
theorem zero_58 : Sx.zeroIs Try.prog 58 [.slice none 0 0] := ⟨.slice none 0 0, rfl, fun _ => by kernel_rfl⟩
theorem el_58 : Sx.elemT Try.prog 58 66 3 24 := ⟨by kernel_rfl, by kernel_rfl⟩
theorem one_62 : Sx.oneT Try.prog 62 := ⟨fun _ => by kernel_rfl, by kernel_rfl⟩
theorem sz_62 : (Try.prog.info? 62).map (·.size) = some 1 := by kernel_rfl
theorem zero_62 : Sx.zeroIs Try.prog 62 [.slice none 0 0] := ⟨.slice none 0 0, rfl, fun _ => by kernel_rfl⟩
theorem el_62 : Sx.elemT Try.prog 62 103 2 16 := ⟨by kernel_rfl, by kernel_rfl⟩
theorem rw_64 : Sx.rowT Try.prog 64 2 := ⟨by kernel_rfl, by kernel_rfl⟩
theorem sz_64 : (Try.prog.info? 64).map (·.size) = some 2 := by kernel_rfl
theorem zero_64 : Sx.zeroIs Try.prog 64 [.slice none 0 0, .int .i64 0] := ⟨.agg #[.slice none 0 0, .int .i64 0], rfl, fun _ => by kernel_rfl⟩
theorem fa_64_0 (b o : Nat) (w : World) : (Instr.fieldAt 64 (.pointer (some ⟨b, o, none⟩)) 0).run Try.prog w = .ok (.pointer (some ⟨b, o + 0, none⟩)) w := by kernel_rfl
theorem fa_64_1 (b o : Nat) (w : World) : (Instr.fieldAt 64 (.pointer (some ⟨b, o, none⟩)) 1).run Try.prog w = .ok (.pointer (some ⟨b, o + 1, none⟩)) w := by kernel_rfl
theorem rw_66 : Sx.rowT Try.prog 66 3 := ⟨by kernel_rfl, by kernel_rfl⟩
theorem sz_66 : (Try.prog.info? 66).map (·.size) = some 3 := by kernel_rfl
theorem zero_66 : Sx.zeroIs Try.prog 66 [.int .i64 0, .int .i64 0, .int .u64 0] := ⟨.agg #[.int .i64 0, .int .i64 0, .int .u64 0], rfl, fun _ => by kernel_rfl⟩
theorem fa_66_0 (b o : Nat) (w : World) : (Instr.fieldAt 66 (.pointer (some ⟨b, o, none⟩)) 0).run Try.prog w = .ok (.pointer (some ⟨b, o + 0, none⟩)) w := by kernel_rfl
theorem fa_66_1 (b o : Nat) (w : World) : (Instr.fieldAt 66 (.pointer (some ⟨b, o, none⟩)) 1).run Try.prog w = .ok (.pointer (some ⟨b, o + 1, none⟩)) w := by kernel_rfl
theorem fa_66_2 (b o : Nat) (w : World) : (Instr.fieldAt 66 (.pointer (some ⟨b, o, none⟩)) 2).run Try.prog w = .ok (.pointer (some ⟨b, o + 2, none⟩)) w := by kernel_rfl
theorem one_99 : Sx.oneT Try.prog 99 := ⟨fun _ => by kernel_rfl, by kernel_rfl⟩
theorem sz_99 : (Try.prog.info? 99).map (·.size) = some 1 := by kernel_rfl
theorem zero_99 : Sx.zeroIs Try.prog 99 [.slice none 0 0] := ⟨.slice none 0 0, rfl, fun _ => by kernel_rfl⟩
theorem el_99 : Sx.elemT Try.prog 99 107 2 16 := ⟨by kernel_rfl, by kernel_rfl⟩
theorem rw_101 : Sx.rowT Try.prog 101 2 := ⟨by kernel_rfl, by kernel_rfl⟩
theorem sz_101 : (Try.prog.info? 101).map (·.size) = some 2 := by kernel_rfl
theorem zero_101 : Sx.zeroIs Try.prog 101 [.slice none 0 0, .int .i64 0] := ⟨.agg #[.slice none 0 0, .int .i64 0], rfl, fun _ => by kernel_rfl⟩
theorem fa_101_0 (b o : Nat) (w : World) : (Instr.fieldAt 101 (.pointer (some ⟨b, o, none⟩)) 0).run Try.prog w = .ok (.pointer (some ⟨b, o + 0, none⟩)) w := by kernel_rfl
theorem fa_101_1 (b o : Nat) (w : World) : (Instr.fieldAt 101 (.pointer (some ⟨b, o, none⟩)) 1).run Try.prog w = .ok (.pointer (some ⟨b, o + 1, none⟩)) w := by kernel_rfl
theorem rw_103 : Sx.rowT Try.prog 103 2 := ⟨by kernel_rfl, by kernel_rfl⟩
theorem sz_103 : (Try.prog.info? 103).map (·.size) = some 2 := by kernel_rfl
theorem zero_103 : Sx.zeroIs Try.prog 103 [.int .i64 0, .int .u64 0] := ⟨.agg #[.int .i64 0, .int .u64 0], rfl, fun _ => by kernel_rfl⟩
theorem fa_103_0 (b o : Nat) (w : World) : (Instr.fieldAt 103 (.pointer (some ⟨b, o, none⟩)) 0).run Try.prog w = .ok (.pointer (some ⟨b, o + 0, none⟩)) w := by kernel_rfl
theorem fa_103_1 (b o : Nat) (w : World) : (Instr.fieldAt 103 (.pointer (some ⟨b, o, none⟩)) 1).run Try.prog w = .ok (.pointer (some ⟨b, o + 1, none⟩)) w := by kernel_rfl
theorem rw_107 : Sx.rowT Try.prog 107 2 := ⟨by kernel_rfl, by kernel_rfl⟩
theorem sz_107 : (Try.prog.info? 107).map (·.size) = some 2 := by kernel_rfl
theorem zero_107 : Sx.zeroIs Try.prog 107 [.int .i64 0, .int .u64 0] := ⟨.agg #[.int .i64 0, .int .u64 0], rfl, fun _ => by kernel_rfl⟩
theorem fa_107_0 (b o : Nat) (w : World) : (Instr.fieldAt 107 (.pointer (some ⟨b, o, none⟩)) 0).run Try.prog w = .ok (.pointer (some ⟨b, o + 0, none⟩)) w := by kernel_rfl
theorem fa_107_1 (b o : Nat) (w : World) : (Instr.fieldAt 107 (.pointer (some ⟨b, o, none⟩)) 1).run Try.prog w = .ok (.pointer (some ⟨b, o + 1, none⟩)) w := by kernel_rfl
theorem rw_134 : Sx.rowT Try.prog 134 1 := ⟨by kernel_rfl, by kernel_rfl⟩
theorem sz_134 : (Try.prog.info? 134).map (·.size) = some 1 := by kernel_rfl
theorem if_10 : Sx.isFn Try.prog 10 := fun _ _ => by kernel_rfl
theorem if_15 : Sx.isFn Try.prog 15 := fun _ _ => by kernel_rfl
theorem if_17 : Sx.isFn Try.prog 17 := fun _ _ => by kernel_rfl
theorem if_19 : Sx.isFn Try.prog 19 := fun _ _ => by kernel_rfl
theorem if_20 : Sx.isFn Try.prog 20 := fun _ _ => by kernel_rfl
theorem if_21 : Sx.isFn Try.prog 21 := fun _ _ => by kernel_rfl
theorem if_22 : Sx.isFn Try.prog 22 := fun _ _ => by kernel_rfl
theorem if_25 : Sx.isFn Try.prog 25 := fun _ _ => by kernel_rfl
theorem if_26 : Sx.isFn Try.prog 26 := fun _ _ => by kernel_rfl
theorem if_30 : Sx.isFn Try.prog 30 := fun _ _ => by kernel_rfl
theorem if_33 : Sx.isFn Try.prog 33 := fun _ _ => by kernel_rfl
theorem if_34 : Sx.isFn Try.prog 34 := fun _ _ => by kernel_rfl
theorem if_35 : Sx.isFn Try.prog 35 := fun _ _ => by kernel_rfl
theorem if_36 : Sx.isFn Try.prog 36 := fun _ _ => by kernel_rfl
theorem if_37 : Sx.isFn Try.prog 37 := fun _ _ => by kernel_rfl
theorem if_38 : Sx.isFn Try.prog 38 := fun _ _ => by kernel_rfl
theorem if_39 : Sx.isFn Try.prog 39 := fun _ _ => by kernel_rfl
theorem if_40 : Sx.isFn Try.prog 40 := fun _ _ => by kernel_rfl
theorem if_41 : Sx.isFn Try.prog 41 := fun _ _ => by kernel_rfl
theorem if_42 : Sx.isFn Try.prog 42 := fun _ _ => by kernel_rfl
theorem if_43 : Sx.isFn Try.prog 43 := fun _ _ => by kernel_rfl
theorem if_44 : Sx.isFn Try.prog 44 := fun _ _ => by kernel_rfl
theorem if_45 : Sx.isFn Try.prog 45 := fun _ _ => by kernel_rfl
theorem if_46 : Sx.isFn Try.prog 46 := fun _ _ => by kernel_rfl
theorem if_47 : Sx.isFn Try.prog 47 := fun _ _ => by kernel_rfl
theorem if_48 : Sx.isFn Try.prog 48 := fun _ _ => by kernel_rfl
theorem if_49 : Sx.isFn Try.prog 49 := fun _ _ => by kernel_rfl
theorem if_50 : Sx.isFn Try.prog 50 := fun _ _ => by kernel_rfl
theorem if_53 : Sx.isFn Try.prog 53 := fun _ _ => by kernel_rfl
theorem if_54 : Sx.isFn Try.prog 54 := fun _ _ => by kernel_rfl
theorem if_55 : Sx.isFn Try.prog 55 := fun _ _ => by kernel_rfl
theorem if_62 : Sx.isFn Try.prog 62 := fun _ _ => by kernel_rfl
theorem if_63 : Sx.isFn Try.prog 63 := fun _ _ => by kernel_rfl
theorem if_64 : Sx.isFn Try.prog 64 := fun _ _ => by kernel_rfl
theorem if_65 : Sx.isFn Try.prog 65 := fun _ _ => by kernel_rfl
theorem if_66 : Sx.isFn Try.prog 66 := fun _ _ => by kernel_rfl
theorem if_67 : Sx.isFn Try.prog 67 := fun _ _ => by kernel_rfl
theorem if_68 : Sx.isFn Try.prog 68 := fun _ _ => by kernel_rfl
theorem if_69 : Sx.isFn Try.prog 69 := fun _ _ => by kernel_rfl
theorem if_70 : Sx.isFn Try.prog 70 := fun _ _ => by kernel_rfl
theorem if_72 : Sx.isFn Try.prog 72 := fun _ _ => by kernel_rfl
theorem if_73 : Sx.isFn Try.prog 73 := fun _ _ => by kernel_rfl
theorem if_74 : Sx.isFn Try.prog 74 := fun _ _ => by kernel_rfl
theorem if_75 : Sx.isFn Try.prog 75 := fun _ _ => by kernel_rfl
end Go.Proofs.Ytpbdffmgendboab
