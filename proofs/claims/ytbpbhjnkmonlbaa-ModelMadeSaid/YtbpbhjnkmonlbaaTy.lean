/- Closed facts on the types and functions of the program. No condition. -/
import Derived.Test.YtbpbhjnkmonlbaaSt
import Derived.Test.YtbpbhjnkmonlbaaProg
namespace Go.Proofs.Ytbpbhjnkmonlbaa
open Sl
theorem r_2 : rowB Try.prog 2 = some false := by kernel_rfl
theorem r_3 : rowB Try.prog 3 = some false := by kernel_rfl
theorem r_4 : rowB Try.prog 4 = some false := by kernel_rfl
theorem r_5 : rowB Try.prog 5 = some false := by kernel_rfl
theorem r_9 : rowB Try.prog 9 = some false := by kernel_rfl
theorem r_22 : rowB Try.prog 22 = some false := by kernel_rfl
theorem r_23 : rowB Try.prog 23 = some false := by kernel_rfl
theorem r_29 : rowB Try.prog 29 = some true := by kernel_rfl
theorem r_34 : rowB Try.prog 34 = some true := by kernel_rfl
theorem r_42 : rowB Try.prog 42 = some false := by kernel_rfl
theorem r_46 : rowB Try.prog 46 = some false := by kernel_rfl
theorem r_52 : rowB Try.prog 52 = some false := by kernel_rfl
theorem r_54 : rowB Try.prog 54 = some true := by kernel_rfl
theorem r_66 : rowB Try.prog 66 = some false := by kernel_rfl
theorem r_71 : rowB Try.prog 71 = some false := by kernel_rfl
theorem r_90 : rowB Try.prog 90 = some true := by kernel_rfl
theorem r_97 : rowB Try.prog 97 = some false := by kernel_rfl
theorem r_116 : rowB Try.prog 116 = some false := by kernel_rfl
theorem r_135 : rowB Try.prog 135 = some false := by kernel_rfl
theorem r_136 : rowB Try.prog 136 = some true := by kernel_rfl
theorem s_2 : szB Try.prog 2 = some 1 := by kernel_rfl
theorem s_3 : szB Try.prog 3 = some 1 := by kernel_rfl
theorem s_4 : szB Try.prog 4 = some 1 := by kernel_rfl
theorem s_5 : szB Try.prog 5 = some 1 := by kernel_rfl
theorem s_9 : szB Try.prog 9 = some 1 := by kernel_rfl
theorem s_22 : szB Try.prog 22 = some 1 := by kernel_rfl
theorem s_23 : szB Try.prog 23 = some 1 := by kernel_rfl
theorem s_29 : szB Try.prog 29 = some 2 := by kernel_rfl
theorem s_34 : szB Try.prog 34 = some 2 := by kernel_rfl
theorem s_42 : szB Try.prog 42 = some 1 := by kernel_rfl
theorem s_46 : szB Try.prog 46 = some 1 := by kernel_rfl
theorem s_52 : szB Try.prog 52 = some 1 := by kernel_rfl
theorem s_54 : szB Try.prog 54 = some 2 := by kernel_rfl
theorem s_66 : szB Try.prog 66 = some 1 := by kernel_rfl
theorem s_71 : szB Try.prog 71 = some 1 := by kernel_rfl
theorem s_90 : szB Try.prog 90 = some 3 := by kernel_rfl
theorem s_97 : szB Try.prog 97 = some 1 := by kernel_rfl
theorem s_116 : szB Try.prog 116 = some 1 := by kernel_rfl
theorem s_135 : szB Try.prog 135 = some 1 := by kernel_rfl
theorem s_136 : szB Try.prog 136 = some 3 := by kernel_rfl
theorem o_29_0 : offOf Try.prog 29 0 = some 0 := by kernel_rfl
theorem o_29_1 : offOf Try.prog 29 1 = some 1 := by kernel_rfl
theorem o_34_0 : offOf Try.prog 34 0 = some 0 := by kernel_rfl
theorem o_34_1 : offOf Try.prog 34 1 = some 1 := by kernel_rfl
theorem o_54_0 : offOf Try.prog 54 0 = some 0 := by kernel_rfl
theorem o_54_1 : offOf Try.prog 54 1 = some 1 := by kernel_rfl
theorem o_90_0 : offOf Try.prog 90 0 = some 0 := by kernel_rfl
theorem o_90_2 : offOf Try.prog 90 2 = some 2 := by kernel_rfl
theorem o_95_0 : offOf Try.prog 95 0 = some 0 := by kernel_rfl
theorem o_101_0 : offOf Try.prog 101 0 = some 0 := by kernel_rfl
theorem o_101_1 : offOf Try.prog 101 1 = some 3 := by kernel_rfl
theorem o_101_2 : offOf Try.prog 101 2 = some 10 := by kernel_rfl
theorem o_101_3 : offOf Try.prog 101 3 = some 11 := by kernel_rfl
theorem o_106_0 : offOf Try.prog 106 0 = some 0 := by kernel_rfl
theorem o_106_1 : offOf Try.prog 106 1 = some 1 := by kernel_rfl
theorem o_106_2 : offOf Try.prog 106 2 = some 2 := by kernel_rfl
theorem o_111_0 : offOf Try.prog 111 0 = some 0 := by kernel_rfl
theorem o_111_1 : offOf Try.prog 111 1 = some 1 := by kernel_rfl
theorem o_118_0 : offOf Try.prog 118 0 = some 0 := by kernel_rfl
theorem o_118_1 : offOf Try.prog 118 1 = some 1 := by kernel_rfl
theorem o_118_2 : offOf Try.prog 118 2 = some 2 := by kernel_rfl
theorem o_118_3 : offOf Try.prog 118 3 = some 3 := by kernel_rfl
theorem o_118_4 : offOf Try.prog 118 4 = some 4 := by kernel_rfl
theorem o_118_5 : offOf Try.prog 118 5 = some 5 := by kernel_rfl
theorem o_120_0 : offOf Try.prog 120 0 = some 0 := by kernel_rfl
theorem o_120_1 : offOf Try.prog 120 1 = some 1 := by kernel_rfl
theorem o_125_0 : offOf Try.prog 125 0 = some 0 := by kernel_rfl
theorem o_125_1 : offOf Try.prog 125 1 = some 1 := by kernel_rfl
theorem o_125_2 : offOf Try.prog 125 2 = some 2 := by kernel_rfl
theorem o_125_3 : offOf Try.prog 125 3 = some 3 := by kernel_rfl
theorem o_125_4 : offOf Try.prog 125 4 = some 4 := by kernel_rfl
theorem o_125_5 : offOf Try.prog 125 5 = some 5 := by kernel_rfl
theorem o_129_0 : offOf Try.prog 129 0 = some 0 := by kernel_rfl
theorem o_129_1 : offOf Try.prog 129 1 = some 1 := by kernel_rfl
theorem o_129_2 : offOf Try.prog 129 2 = some 2 := by kernel_rfl
theorem z_22 : elSize Try.prog 22 = some 1 := by kernel_rfl
theorem m_22 : (Try.prog.underlying 22).map (fun d => d matches .slice _) = some true := by kernel_rfl
theorem e_22 : elB Try.prog 22 = some (3, 1, 8, #[.int .i64 0]) := by kernel_rfl
theorem z_23 : elSize Try.prog 23 = some 2 := by kernel_rfl
theorem m_23 : (Try.prog.underlying 23).map (fun d => d matches .slice _) = some true := by kernel_rfl
theorem e_23 : elB Try.prog 23 = some (54, 2, 16, #[.int .i64 0, .int .u64 0]) := by kernel_rfl
theorem z_41 : elSize Try.prog 41 = some 1 := by kernel_rfl
theorem m_41 : (Try.prog.underlying 41).map (fun d => d matches .slice _) = some true := by kernel_rfl
theorem e_41 : elB Try.prog 41 = some (42, 1, 2, #[.int .u16 0]) := by kernel_rfl
theorem z_44 : elSize Try.prog 44 = some 1 := by kernel_rfl
theorem m_44 : (Try.prog.underlying 44).map (fun d => d matches .slice _) = some true := by kernel_rfl
theorem e_44 : elB Try.prog 44 = some (2, 1, 8, #[.int .i64 0]) := by kernel_rfl
theorem z_46 : elSize Try.prog 46 = some 1 := by kernel_rfl
theorem m_46 : (Try.prog.underlying 46).map (fun d => d matches .slice _) = some true := by kernel_rfl
theorem e_46 : elB Try.prog 46 = some (5, 1, 1, #[.int .u8 0]) := by kernel_rfl
theorem z_47 : elSize Try.prog 47 = some 1 := by kernel_rfl
theorem m_47 : (Try.prog.underlying 47).map (fun d => d matches .slice _) = some true := by kernel_rfl
theorem e_47 : elB Try.prog 47 = some (9, 1, 16, #[.string .empty]) := by kernel_rfl
theorem z_57 : elSize Try.prog 57 = some 1 := by kernel_rfl
theorem m_57 : (Try.prog.underlying 57).map (fun d => d matches .slice _) = some true := by kernel_rfl
theorem e_57 : elB Try.prog 57 = some (52, 1, 8, #[.int .u64 0]) := by kernel_rfl
theorem z_97 : elSize Try.prog 97 = some 128 := by kernel_rfl
theorem m_97 : (Try.prog.underlying 97).map (fun d => d matches .slice _) = some true := by kernel_rfl
theorem z_116 : elSize Try.prog 116 = some 1 := by kernel_rfl
theorem m_116 : (Try.prog.underlying 116).map (fun d => d matches .slice _) = some true := by kernel_rfl
theorem e_116 : elB Try.prog 116 = some (22, 1, 24, #[.slice none 0 0]) := by kernel_rfl
theorem a_98 : arSize Try.prog 98 = some (3, 1) := by kernel_rfl
theorem a_99 : arSize Try.prog 99 = some (7, 1) := by kernel_rfl
theorem a_102 : arSize Try.prog 102 = some (3, 1) := by kernel_rfl
theorem a_104 : arSize Try.prog 104 = some (128, 1) := by kernel_rfl
theorem a_136 : arSize Try.prog 136 = some (3, 1) := by kernel_rfl
theorem y_29 : zeroB Try.prog 29 = some #[.string .empty, .int .i64 0] := by kernel_rfl
theorem y_34 : zeroB Try.prog 34 = some #[.slice none 0 0, .int .i64 0] := by kernel_rfl
theorem y_54 : zeroB Try.prog 54 = some #[.int .i64 0, .int .u64 0] := by kernel_rfl
theorem y_90 : zeroB Try.prog 90 = some #[.int .u64 0, .int .i64 0, .int .i64 0] := by kernel_rfl
theorem y_136 : zeroB Try.prog 136 = some #[.pointer none, .pointer none, .pointer none] := by kernel_rfl
theorem q_15 : (Try.prog.underlying 15).map (fun d => d matches .pointer _) = some true := by kernel_rfl
theorem q_16 : (Try.prog.underlying 16).map (fun d => d matches .pointer _) = some true := by kernel_rfl
theorem q_17 : (Try.prog.underlying 17).map (fun d => d matches .pointer _) = some true := by kernel_rfl
theorem q_59 : (Try.prog.underlying 59).map (fun d => d matches .pointer _) = some true := by kernel_rfl
theorem q_61 : (Try.prog.underlying 61).map (fun d => d matches .pointer _) = some true := by kernel_rfl
theorem q_69 : (Try.prog.underlying 69).map (fun d => d matches .pointer _) = some true := by kernel_rfl
theorem q_71 : (Try.prog.underlying 71).map (fun d => d matches .pointer _) = some true := by kernel_rfl
theorem q_79 : (Try.prog.underlying 79).map (fun d => d matches .pointer _) = some true := by kernel_rfl
theorem q_87 : (Try.prog.underlying 87).map (fun d => d matches .pointer _) = some true := by kernel_rfl
theorem q_93 : (Try.prog.underlying 93).map (fun d => d matches .pointer _) = some true := by kernel_rfl
theorem q_109 : (Try.prog.underlying 109).map (fun d => d matches .pointer _) = some true := by kernel_rfl
theorem q_135 : (Try.prog.underlying 135).map (fun d => d matches .pointer _) = some true := by kernel_rfl
theorem q_147 : (Try.prog.underlying 147).map (fun d => d matches .pointer _) = some true := by kernel_rfl
theorem c_10 : callB Try.prog 10 = true := by kernel_rfl
theorem c_11 : callB Try.prog 11 = true := by kernel_rfl
theorem c_12 : callB Try.prog 12 = true := by kernel_rfl
theorem c_13 : callB Try.prog 13 = true := by kernel_rfl
theorem c_14 : callB Try.prog 14 = true := by kernel_rfl
theorem c_15 : callB Try.prog 15 = true := by kernel_rfl
theorem c_16 : callB Try.prog 16 = true := by kernel_rfl
theorem c_17 : callB Try.prog 17 = true := by kernel_rfl
theorem c_18 : callB Try.prog 18 = true := by kernel_rfl
theorem c_19 : callB Try.prog 19 = true := by kernel_rfl
theorem c_20 : callB Try.prog 20 = true := by kernel_rfl
theorem c_21 : callB Try.prog 21 = true := by kernel_rfl
theorem c_22 : callB Try.prog 22 = true := by kernel_rfl
theorem c_23 : callB Try.prog 23 = true := by kernel_rfl
theorem c_24 : callB Try.prog 24 = true := by kernel_rfl
theorem c_25 : callB Try.prog 25 = true := by kernel_rfl
theorem c_26 : callB Try.prog 26 = true := by kernel_rfl
theorem c_27 : callB Try.prog 27 = true := by kernel_rfl
theorem c_28 : callB Try.prog 28 = true := by kernel_rfl
theorem c_29 : callB Try.prog 29 = true := by kernel_rfl
theorem c_30 : callB Try.prog 30 = true := by kernel_rfl
theorem c_31 : callB Try.prog 31 = true := by kernel_rfl
theorem c_32 : callB Try.prog 32 = true := by kernel_rfl
theorem c_33 : callB Try.prog 33 = true := by kernel_rfl
theorem c_34 : callB Try.prog 34 = true := by kernel_rfl
theorem c_35 : callB Try.prog 35 = true := by kernel_rfl
theorem c_36 : callB Try.prog 36 = true := by kernel_rfl
theorem c_37 : callB Try.prog 37 = true := by kernel_rfl
theorem c_38 : callB Try.prog 38 = true := by kernel_rfl
theorem c_39 : callB Try.prog 39 = true := by kernel_rfl
theorem c_40 : callB Try.prog 40 = true := by kernel_rfl
theorem c_41 : callB Try.prog 41 = true := by kernel_rfl
theorem c_42 : callB Try.prog 42 = true := by kernel_rfl
theorem c_43 : callB Try.prog 43 = true := by kernel_rfl
theorem c_44 : callB Try.prog 44 = true := by kernel_rfl
theorem c_45 : callB Try.prog 45 = true := by kernel_rfl
theorem c_46 : callB Try.prog 46 = true := by kernel_rfl
theorem c_47 : callB Try.prog 47 = true := by kernel_rfl
theorem c_48 : callB Try.prog 48 = true := by kernel_rfl
theorem c_49 : callB Try.prog 49 = true := by kernel_rfl
theorem c_50 : callB Try.prog 50 = true := by kernel_rfl
theorem c_51 : callB Try.prog 51 = true := by kernel_rfl
theorem c_52 : callB Try.prog 52 = true := by kernel_rfl
theorem c_53 : callB Try.prog 53 = true := by kernel_rfl
theorem c_54 : callB Try.prog 54 = true := by kernel_rfl
theorem c_55 : callB Try.prog 55 = true := by kernel_rfl
theorem c_56 : callB Try.prog 56 = true := by kernel_rfl
theorem c_57 : callB Try.prog 57 = true := by kernel_rfl
theorem c_58 : callB Try.prog 58 = true := by kernel_rfl
theorem c_59 : callB Try.prog 59 = true := by kernel_rfl
theorem c_60 : callB Try.prog 60 = true := by kernel_rfl
theorem c_61 : callB Try.prog 61 = true := by kernel_rfl
theorem c_62 : callB Try.prog 62 = true := by kernel_rfl
theorem c_63 : callB Try.prog 63 = true := by kernel_rfl
theorem c_64 : callB Try.prog 64 = true := by kernel_rfl
theorem c_65 : callB Try.prog 65 = true := by kernel_rfl
theorem c_66 : callB Try.prog 66 = true := by kernel_rfl
theorem c_67 : callB Try.prog 67 = true := by kernel_rfl
theorem c_68 : callB Try.prog 68 = true := by kernel_rfl
theorem c_69 : callB Try.prog 69 = true := by kernel_rfl
theorem c_70 : callB Try.prog 70 = true := by kernel_rfl
theorem c_71 : callB Try.prog 71 = true := by kernel_rfl
theorem c_72 : callB Try.prog 72 = true := by kernel_rfl
theorem c_73 : callB Try.prog 73 = true := by kernel_rfl
theorem c_74 : callB Try.prog 74 = true := by kernel_rfl
theorem c_75 : callB Try.prog 75 = true := by kernel_rfl
theorem c_76 : callB Try.prog 76 = true := by kernel_rfl
theorem c_77 : callB Try.prog 77 = true := by kernel_rfl
theorem c_78 : callB Try.prog 78 = true := by kernel_rfl
theorem c_79 : callB Try.prog 79 = true := by kernel_rfl
theorem c_80 : callB Try.prog 80 = true := by kernel_rfl
theorem c_81 : callB Try.prog 81 = true := by kernel_rfl
theorem c_82 : callB Try.prog 82 = true := by kernel_rfl
theorem c_83 : callB Try.prog 83 = true := by kernel_rfl
theorem c_84 : callB Try.prog 84 = true := by kernel_rfl
theorem c_85 : callB Try.prog 85 = true := by kernel_rfl
theorem mixd : Try.prog.follows .mixedOrders = true := by kernel_rfl
end Go.Proofs.Ytbpbhjnkmonlbaa
