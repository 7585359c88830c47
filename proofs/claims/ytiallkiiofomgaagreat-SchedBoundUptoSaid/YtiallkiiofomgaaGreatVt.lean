/- What the program's types say. -/
import Derived.Test.YtiallkiiofomgaaGreatVl
import Derived.Test.YtiallkiiofomgaaGreatProg
namespace Go.Proofs.YtiallkiiofomgaaGreat
open Go.Proofs.Tryz
@[simp] theorem tE_105 : tE prog 105 = some (103, 1, 8) := by kernel_rfl
@[simp] theorem tE_231 : tE prog 231 = some (260, 4, 48) := by kernel_rfl
@[simp] theorem tE_24 : tE prog 24 = some (36, 7, 120) := by kernel_rfl
@[simp] theorem tE_25 : tE prog 25 = some (24, 1, 24) := by kernel_rfl
@[simp] theorem tE_26 : tE prog 26 = some (3, 1, 8) := by kernel_rfl
@[simp] theorem tE_275 : tE prog 275 = some (72, 1, 8) := by kernel_rfl
@[simp] theorem tE_34 : tE prog 34 = some (5, 1, 1) := by kernel_rfl
@[simp] theorem tE_37 : tE prog 37 = some (58, 2, 48) := by kernel_rfl
@[simp] theorem tE_38 : tE prog 38 = some (45, 17, 232) := by kernel_rfl
@[simp] theorem tE_77 : tE prog 77 = some (34, 1, 24) := by kernel_rfl
@[simp] theorem tE_82 : tE prog 82 = some (68, 1, 8) := by kernel_rfl
@[simp] theorem tEz_105 : tEz prog 105 = true := by kernel_rfl
@[simp] theorem tEz_231 : tEz prog 231 = true := by kernel_rfl
@[simp] theorem tEz_24 : tEz prog 24 = true := by kernel_rfl
@[simp] theorem tEz_25 : tEz prog 25 = true := by kernel_rfl
@[simp] theorem tEz_26 : tEz prog 26 = true := by kernel_rfl
@[simp] theorem tEz_275 : tEz prog 275 = true := by kernel_rfl
@[simp] theorem tEz_34 : tEz prog 34 = true := by kernel_rfl
@[simp] theorem tEz_37 : tEz prog 37 = true := by kernel_rfl
@[simp] theorem tEz_38 : tEz prog 38 = true := by kernel_rfl
@[simp] theorem tEz_77 : tEz prog 77 = true := by kernel_rfl
@[simp] theorem tEz_82 : tEz prog 82 = true := by kernel_rfl
@[simp] theorem tF_107_0 : tF prog 107 0 = some (0, 1, none) := by kernel_rfl
@[simp] theorem tF_107_1 : tF prog 107 1 = some (1, 1, none) := by kernel_rfl
@[simp] theorem tF_107_2 : tF prog 107 2 = some (2, 1, none) := by kernel_rfl
@[simp] theorem tF_107_3 : tF prog 107 3 = some (3, 1, none) := by kernel_rfl
@[simp] theorem tF_142_0 : tF prog 142 0 = some (0, 1, none) := by kernel_rfl
@[simp] theorem tF_142_1 : tF prog 142 1 = some (1, 5, (some 5)) := by kernel_rfl
@[simp] theorem tF_142_2 : tF prog 142 2 = some (6, 1, none) := by kernel_rfl
@[simp] theorem tF_142_3 : tF prog 142 3 = some (7, 1, none) := by kernel_rfl
@[simp] theorem tF_142_4 : tF prog 142 4 = some (8, 1, none) := by kernel_rfl
@[simp] theorem tF_142_5 : tF prog 142 5 = some (9, 1, none) := by kernel_rfl
@[simp] theorem tF_150_0 : tF prog 150 0 = some (0, 1, none) := by kernel_rfl
@[simp] theorem tF_150_1 : tF prog 150 1 = some (1, 1, none) := by kernel_rfl
@[simp] theorem tF_155_0 : tF prog 155 0 = some (0, 1, none) := by kernel_rfl
@[simp] theorem tF_155_1 : tF prog 155 1 = some (1, 1, none) := by kernel_rfl
@[simp] theorem tF_155_2 : tF prog 155 2 = some (2, 1, none) := by kernel_rfl
@[simp] theorem tF_155_3 : tF prog 155 3 = some (3, 1, none) := by kernel_rfl
@[simp] theorem tF_155_4 : tF prog 155 4 = some (4, 1, none) := by kernel_rfl
@[simp] theorem tF_155_5 : tF prog 155 5 = some (5, 1, none) := by kernel_rfl
@[simp] theorem tF_155_6 : tF prog 155 6 = some (6, 6, (some 6)) := by kernel_rfl
@[simp] theorem tF_155_7 : tF prog 155 7 = some (12, 1, none) := by kernel_rfl
@[simp] theorem tF_155_8 : tF prog 155 8 = some (13, 1, none) := by kernel_rfl
@[simp] theorem tF_155_9 : tF prog 155 9 = some (14, 1, none) := by kernel_rfl
@[simp] theorem tF_197_0 : tF prog 197 0 = some (0, 1, none) := by kernel_rfl
@[simp] theorem tF_199_0 : tF prog 199 0 = some (0, 1, (some 1)) := by kernel_rfl
@[simp] theorem tF_199_1 : tF prog 199 1 = some (1, 1, none) := by kernel_rfl
@[simp] theorem tF_199_2 : tF prog 199 2 = some (2, 1, none) := by kernel_rfl
@[simp] theorem tF_199_3 : tF prog 199 3 = some (3, 1, none) := by kernel_rfl
@[simp] theorem tF_199_4 : tF prog 199 4 = some (4, 1, none) := by kernel_rfl
@[simp] theorem tF_199_5 : tF prog 199 5 = some (5, 1, none) := by kernel_rfl
@[simp] theorem tF_200_0 : tF prog 200 0 = some (0, 1, none) := by kernel_rfl
@[simp] theorem tF_203_0 : tF prog 203 0 = some (0, 1, (some 1)) := by kernel_rfl
@[simp] theorem tF_203_1 : tF prog 203 1 = some (1, 1, none) := by kernel_rfl
@[simp] theorem tF_203_2 : tF prog 203 2 = some (2, 1, none) := by kernel_rfl
@[simp] theorem tF_203_3 : tF prog 203 3 = some (3, 1, none) := by kernel_rfl
@[simp] theorem tF_203_4 : tF prog 203 4 = some (4, 1, none) := by kernel_rfl
@[simp] theorem tF_203_5 : tF prog 203 5 = some (5, 1, none) := by kernel_rfl
@[simp] theorem tF_203_6 : tF prog 203 6 = some (6, 6, (some 6)) := by kernel_rfl
@[simp] theorem tF_203_7 : tF prog 203 7 = some (12, 1, none) := by kernel_rfl
@[simp] theorem tF_203_8 : tF prog 203 8 = some (13, 1, none) := by kernel_rfl
@[simp] theorem tF_205_0 : tF prog 205 0 = some (0, 1, none) := by kernel_rfl
@[simp] theorem tF_205_1 : tF prog 205 1 = some (1, 1, none) := by kernel_rfl
@[simp] theorem tF_205_10 : tF prog 205 10 = some (15, 1, none) := by kernel_rfl
@[simp] theorem tF_205_11 : tF prog 205 11 = some (16, 1, none) := by kernel_rfl
@[simp] theorem tF_205_2 : tF prog 205 2 = some (2, 1, none) := by kernel_rfl
@[simp] theorem tF_205_3 : tF prog 205 3 = some (3, 1, none) := by kernel_rfl
@[simp] theorem tF_205_4 : tF prog 205 4 = some (4, 1, none) := by kernel_rfl
@[simp] theorem tF_205_5 : tF prog 205 5 = some (5, 1, none) := by kernel_rfl
@[simp] theorem tF_205_6 : tF prog 205 6 = some (6, 1, none) := by kernel_rfl
@[simp] theorem tF_205_7 : tF prog 205 7 = some (7, 1, none) := by kernel_rfl
@[simp] theorem tF_205_8 : tF prog 205 8 = some (8, 6, (some 6)) := by kernel_rfl
@[simp] theorem tF_205_9 : tF prog 205 9 = some (14, 1, none) := by kernel_rfl
@[simp] theorem tF_208_0 : tF prog 208 0 = some (0, 1, none) := by kernel_rfl
@[simp] theorem tF_208_1 : tF prog 208 1 = some (1, 1, none) := by kernel_rfl
@[simp] theorem tF_208_2 : tF prog 208 2 = some (2, 1, none) := by kernel_rfl
@[simp] theorem tF_210_0 : tF prog 210 0 = some (0, 3, (some 3)) := by kernel_rfl
@[simp] theorem tF_210_1 : tF prog 210 1 = some (3, 1, none) := by kernel_rfl
@[simp] theorem tF_219_0 : tF prog 219 0 = some (0, 1, none) := by kernel_rfl
@[simp] theorem tF_219_1 : tF prog 219 1 = some (1, 1, none) := by kernel_rfl
@[simp] theorem tF_219_2 : tF prog 219 2 = some (2, 1, none) := by kernel_rfl
@[simp] theorem tF_219_3 : tF prog 219 3 = some (3, 1, none) := by kernel_rfl
@[simp] theorem tF_219_4 : tF prog 219 4 = some (4, 1, none) := by kernel_rfl
@[simp] theorem tF_219_5 : tF prog 219 5 = some (5, 1, none) := by kernel_rfl
@[simp] theorem tF_219_6 : tF prog 219 6 = some (6, 1, none) := by kernel_rfl
@[simp] theorem tF_226_0 : tF prog 226 0 = some (0, 1, none) := by kernel_rfl
@[simp] theorem tF_226_1 : tF prog 226 1 = some (1, 1, none) := by kernel_rfl
@[simp] theorem tF_226_2 : tF prog 226 2 = some (2, 1, none) := by kernel_rfl
@[simp] theorem tF_228_0 : tF prog 228 0 = some (0, 3, (some 3)) := by kernel_rfl
@[simp] theorem tF_228_1 : tF prog 228 1 = some (3, 1, none) := by kernel_rfl
@[simp] theorem tF_228_2 : tF prog 228 2 = some (4, 1, none) := by kernel_rfl
@[simp] theorem tF_23_0 : tF prog 23 0 = some (0, 1, none) := by kernel_rfl
@[simp] theorem tF_23_1 : tF prog 23 1 = some (1, 1, none) := by kernel_rfl
@[simp] theorem tF_23_2 : tF prog 23 2 = some (2, 1, none) := by kernel_rfl
@[simp] theorem tF_23_3 : tF prog 23 3 = some (3, 1, none) := by kernel_rfl
@[simp] theorem tF_23_4 : tF prog 23 4 = some (4, 1, none) := by kernel_rfl
@[simp] theorem tF_233_0 : tF prog 233 0 = some (0, 1, none) := by kernel_rfl
@[simp] theorem tF_233_1 : tF prog 233 1 = some (1, 1, none) := by kernel_rfl
@[simp] theorem tF_233_2 : tF prog 233 2 = some (2, 1, none) := by kernel_rfl
@[simp] theorem tF_233_3 : tF prog 233 3 = some (3, 1, none) := by kernel_rfl
@[simp] theorem tF_233_4 : tF prog 233 4 = some (4, 1, none) := by kernel_rfl
@[simp] theorem tF_233_5 : tF prog 233 5 = some (5, 1, none) := by kernel_rfl
@[simp] theorem tF_241_0 : tF prog 241 0 = some (0, 1, none) := by kernel_rfl
@[simp] theorem tF_241_1 : tF prog 241 1 = some (1, 1, none) := by kernel_rfl
@[simp] theorem tF_241_2 : tF prog 241 2 = some (2, 1, none) := by kernel_rfl
@[simp] theorem tF_241_3 : tF prog 241 3 = some (3, 1, none) := by kernel_rfl
@[simp] theorem tF_260_0 : tF prog 260 0 = some (0, 1, none) := by kernel_rfl
@[simp] theorem tF_260_1 : tF prog 260 1 = some (1, 1, none) := by kernel_rfl
@[simp] theorem tF_260_2 : tF prog 260 2 = some (2, 1, none) := by kernel_rfl
@[simp] theorem tF_260_3 : tF prog 260 3 = some (3, 1, none) := by kernel_rfl
@[simp] theorem tF_268_0 : tF prog 268 0 = some (0, 1, none) := by kernel_rfl
@[simp] theorem tF_268_1 : tF prog 268 1 = some (1, 1, none) := by kernel_rfl
@[simp] theorem tF_268_2 : tF prog 268 2 = some (2, 1, none) := by kernel_rfl
@[simp] theorem tF_28_0 : tF prog 28 0 = some (0, 5, (some 5)) := by kernel_rfl
@[simp] theorem tF_28_1 : tF prog 28 1 = some (5, 1, none) := by kernel_rfl
@[simp] theorem tF_28_2 : tF prog 28 2 = some (6, 1, none) := by kernel_rfl
@[simp] theorem tF_28_3 : tF prog 28 3 = some (7, 1, none) := by kernel_rfl
@[simp] theorem tF_36_0 : tF prog 36 0 = some (0, 1, none) := by kernel_rfl
@[simp] theorem tF_36_1 : tF prog 36 1 = some (1, 1, none) := by kernel_rfl
@[simp] theorem tF_36_2 : tF prog 36 2 = some (2, 1, none) := by kernel_rfl
@[simp] theorem tF_36_3 : tF prog 36 3 = some (3, 1, none) := by kernel_rfl
@[simp] theorem tF_36_4 : tF prog 36 4 = some (4, 1, none) := by kernel_rfl
@[simp] theorem tF_36_5 : tF prog 36 5 = some (5, 1, none) := by kernel_rfl
@[simp] theorem tF_36_6 : tF prog 36 6 = some (6, 1, none) := by kernel_rfl
@[simp] theorem tF_40_0 : tF prog 40 0 = some (0, 1, none) := by kernel_rfl
@[simp] theorem tF_40_1 : tF prog 40 1 = some (1, 1, none) := by kernel_rfl
@[simp] theorem tF_40_2 : tF prog 40 2 = some (2, 1, none) := by kernel_rfl
@[simp] theorem tF_40_3 : tF prog 40 3 = some (3, 1, none) := by kernel_rfl
@[simp] theorem tF_40_4 : tF prog 40 4 = some (4, 1, none) := by kernel_rfl
@[simp] theorem tF_45_10 : tF prog 45 10 = some (16, 1, none) := by kernel_rfl
@[simp] theorem tF_45_2 : tF prog 45 2 = some (2, 7, (some 7)) := by kernel_rfl
@[simp] theorem tF_45_4 : tF prog 45 4 = some (10, 1, none) := by kernel_rfl
@[simp] theorem tF_45_5 : tF prog 45 5 = some (11, 1, none) := by kernel_rfl
@[simp] theorem tF_45_6 : tF prog 45 6 = some (12, 1, none) := by kernel_rfl
@[simp] theorem tF_45_7 : tF prog 45 7 = some (13, 1, none) := by kernel_rfl
@[simp] theorem tF_45_8 : tF prog 45 8 = some (14, 1, none) := by kernel_rfl
@[simp] theorem tF_45_9 : tF prog 45 9 = some (15, 1, none) := by kernel_rfl
@[simp] theorem tF_58_0 : tF prog 58 0 = some (0, 1, none) := by kernel_rfl
@[simp] theorem tF_58_1 : tF prog 58 1 = some (1, 1, none) := by kernel_rfl
@[simp] theorem tF_74_2 : tF prog 74 2 = some (0, 1, none) := by kernel_rfl
@[simp] theorem tF_76_0 : tF prog 76 0 = some (0, 1, none) := by kernel_rfl
@[simp] theorem tF_76_1 : tF prog 76 1 = some (1, 1, none) := by kernel_rfl
@[simp] theorem tF_76_2 : tF prog 76 2 = some (2, 1, none) := by kernel_rfl
@[simp] theorem tF_79_0 : tF prog 79 0 = some (0, 1, none) := by kernel_rfl
@[simp] theorem tF_79_1 : tF prog 79 1 = some (1, 1, none) := by kernel_rfl
@[simp] theorem tF_79_2 : tF prog 79 2 = some (2, 1, none) := by kernel_rfl
@[simp] theorem tF_81_0 : tF prog 81 0 = some (0, 1, (some 1)) := by kernel_rfl
@[simp] theorem tF_81_1 : tF prog 81 1 = some (1, 3, (some 3)) := by kernel_rfl
@[simp] theorem tF_81_2 : tF prog 81 2 = some (4, 3, (some 3)) := by kernel_rfl
@[simp] theorem tF_84_2 : tF prog 84 2 = some (0, 1, none) := by kernel_rfl
@[simp] theorem tF_86_0 : tF prog 86 0 = some (0, 1, none) := by kernel_rfl
@[simp] theorem tF_86_1 : tF prog 86 1 = some (1, 1, none) := by kernel_rfl
@[simp] theorem tF_86_2 : tF prog 86 2 = some (2, 1, (some 1)) := by kernel_rfl
@[simp] theorem tF_92_0 : tF prog 92 0 = some (0, 3, (some 3)) := by kernel_rfl
@[simp] theorem tF_92_1 : tF prog 92 1 = some (3, 3, (some 3)) := by kernel_rfl
@[simp] theorem tF_94_0 : tF prog 94 0 = some (0, 1, none) := by kernel_rfl
@[simp] theorem tF_94_1 : tF prog 94 1 = some (1, 5, (some 5)) := by kernel_rfl
@[simp] theorem tF_94_10 : tF prog 94 10 = some (14, 6, (some 6)) := by kernel_rfl
@[simp] theorem tF_94_11 : tF prog 94 11 = some (20, 6, (some 6)) := by kernel_rfl
@[simp] theorem tF_94_12 : tF prog 94 12 = some (26, 6, (some 6)) := by kernel_rfl
@[simp] theorem tF_94_13 : tF prog 94 13 = some (32, 6, (some 6)) := by kernel_rfl
@[simp] theorem tF_94_14 : tF prog 94 14 = some (38, 1, none) := by kernel_rfl
@[simp] theorem tF_94_15 : tF prog 94 15 = some (39, 1, none) := by kernel_rfl
@[simp] theorem tF_94_16 : tF prog 94 16 = some (40, 1, none) := by kernel_rfl
@[simp] theorem tF_94_17 : tF prog 94 17 = some (41, 1, none) := by kernel_rfl
@[simp] theorem tF_94_18 : tF prog 94 18 = some (42, 1, none) := by kernel_rfl
@[simp] theorem tF_94_19 : tF prog 94 19 = some (43, 1, none) := by kernel_rfl
@[simp] theorem tF_94_2 : tF prog 94 2 = some (6, 1, none) := by kernel_rfl
@[simp] theorem tF_94_20 : tF prog 94 20 = some (44, 1, none) := by kernel_rfl
@[simp] theorem tF_94_3 : tF prog 94 3 = some (7, 1, none) := by kernel_rfl
@[simp] theorem tF_94_4 : tF prog 94 4 = some (8, 1, none) := by kernel_rfl
@[simp] theorem tF_94_5 : tF prog 94 5 = some (9, 1, none) := by kernel_rfl
@[simp] theorem tF_94_6 : tF prog 94 6 = some (10, 1, none) := by kernel_rfl
@[simp] theorem tF_94_7 : tF prog 94 7 = some (11, 1, none) := by kernel_rfl
@[simp] theorem tF_94_8 : tF prog 94 8 = some (12, 1, none) := by kernel_rfl
@[simp] theorem tF_94_9 : tF prog 94 9 = some (13, 1, none) := by kernel_rfl
@[simp] theorem tI_277 : tI prog 277 = some .u32 := by kernel_rfl
@[simp] theorem tI_34 : tI prog 34 = none := by kernel_rfl
@[simp] theorem tI_5 : tI prog 5 = some .u8 := by kernel_rfl
@[simp] theorem tI_72 : tI prog 72 = some .u64 := by kernel_rfl
@[simp] theorem tI_9 : tI prog 9 = none := by kernel_rfl
@[simp] theorem tK_103 : tK prog 103 = some none := by kernel_rfl
@[simp] theorem tK_105 : tK prog 105 = some none := by kernel_rfl
@[simp] theorem tK_140 : tK prog 140 = some none := by kernel_rfl
@[simp] theorem tK_147 : tK prog 147 = some none := by kernel_rfl
@[simp] theorem tK_148 : tK prog 148 = some none := by kernel_rfl
@[simp] theorem tK_167 : tK prog 167 = some none := by kernel_rfl
@[simp] theorem tK_172 : tK prog 172 = some none := by kernel_rfl
@[simp] theorem tK_174 : tK prog 174 = some none := by kernel_rfl
@[simp] theorem tK_178 : tK prog 178 = some none := by kernel_rfl
@[simp] theorem tK_180 : tK prog 180 = some none := by kernel_rfl
@[simp] theorem tK_201 : tK prog 201 = some none := by kernel_rfl
@[simp] theorem tK_212 : tK prog 212 = some none := by kernel_rfl
@[simp] theorem tK_213 : tK prog 213 = some none := by kernel_rfl
@[simp] theorem tK_216 : tK prog 216 = some none := by kernel_rfl
@[simp] theorem tK_217 : tK prog 217 = some none := by kernel_rfl
@[simp] theorem tK_229 : tK prog 229 = some none := by kernel_rfl
@[simp] theorem tK_23 : tK prog 23 = some (some 5) := by kernel_rfl
@[simp] theorem tK_231 : tK prog 231 = some none := by kernel_rfl
@[simp] theorem tK_24 : tK prog 24 = some none := by kernel_rfl
@[simp] theorem tK_25 : tK prog 25 = some none := by kernel_rfl
@[simp] theorem tK_26 : tK prog 26 = some none := by kernel_rfl
@[simp] theorem tK_260 : tK prog 260 = some (some 4) := by kernel_rfl
@[simp] theorem tK_265 : tK prog 265 = some none := by kernel_rfl
@[simp] theorem tK_266 : tK prog 266 = some none := by kernel_rfl
@[simp] theorem tK_269 : tK prog 269 = some (some 9) := by kernel_rfl
@[simp] theorem tK_28 : tK prog 28 = some (some 8) := by kernel_rfl
@[simp] theorem tK_29 : tK prog 29 = some none := by kernel_rfl
@[simp] theorem tK_3 : tK prog 3 = some none := by kernel_rfl
@[simp] theorem tK_33 : tK prog 33 = some none := by kernel_rfl
@[simp] theorem tK_34 : tK prog 34 = some none := by kernel_rfl
@[simp] theorem tK_36 : tK prog 36 = some (some 7) := by kernel_rfl
@[simp] theorem tK_37 : tK prog 37 = some none := by kernel_rfl
@[simp] theorem tK_38 : tK prog 38 = some none := by kernel_rfl
@[simp] theorem tK_4 : tK prog 4 = some none := by kernel_rfl
@[simp] theorem tK_40 : tK prog 40 = some (some 6) := by kernel_rfl
@[simp] theorem tK_41 : tK prog 41 = some none := by kernel_rfl
@[simp] theorem tK_45 : tK prog 45 = some (some 17) := by kernel_rfl
@[simp] theorem tK_49 : tK prog 49 = some none := by kernel_rfl
@[simp] theorem tK_5 : tK prog 5 = some none := by kernel_rfl
@[simp] theorem tK_52 : tK prog 52 = some none := by kernel_rfl
@[simp] theorem tK_58 : tK prog 58 = some (some 2) := by kernel_rfl
@[simp] theorem tK_59 : tK prog 59 = some none := by kernel_rfl
@[simp] theorem tK_68 : tK prog 68 = some none := by kernel_rfl
@[simp] theorem tK_72 : tK prog 72 = some none := by kernel_rfl
@[simp] theorem tK_76 : tK prog 76 = some (some 3) := by kernel_rfl
@[simp] theorem tK_77 : tK prog 77 = some none := by kernel_rfl
@[simp] theorem tK_79 : tK prog 79 = some (some 3) := by kernel_rfl
@[simp] theorem tK_82 : tK prog 82 = some none := by kernel_rfl
@[simp] theorem tK_89 : tK prog 89 = some none := by kernel_rfl
@[simp] theorem tK_90 : tK prog 90 = some none := by kernel_rfl
@[simp] theorem tK_92 : tK prog 92 = some (some 6) := by kernel_rfl
@[simp] theorem tK_99 : tK prog 99 = some none := by kernel_rfl
@[simp] theorem tN_103 : tN prog 103 = 1 := by kernel_rfl
@[simp] theorem tN_105 : tN prog 105 = 2 := by kernel_rfl
@[simp] theorem tN_114 : tN prog 114 = 1 := by kernel_rfl
@[simp] theorem tN_140 : tN prog 140 = 1 := by kernel_rfl
@[simp] theorem tN_145 : tN prog 145 = 1 := by kernel_rfl
@[simp] theorem tN_152 : tN prog 152 = 3 := by kernel_rfl
@[simp] theorem tN_167 : tN prog 167 = 1 := by kernel_rfl
@[simp] theorem tN_172 : tN prog 172 = 1 := by kernel_rfl
@[simp] theorem tN_174 : tN prog 174 = 1 := by kernel_rfl
@[simp] theorem tN_178 : tN prog 178 = 1 := by kernel_rfl
@[simp] theorem tN_180 : tN prog 180 = 1 := by kernel_rfl
@[simp] theorem tN_183 : tN prog 183 = 9 := by kernel_rfl
@[simp] theorem tN_187 : tN prog 187 = 1 := by kernel_rfl
@[simp] theorem tN_2 : tN prog 2 = 8 := by kernel_rfl
@[simp] theorem tN_201 : tN prog 201 = 8 := by kernel_rfl
@[simp] theorem tN_208 : tN prog 208 = 9 := by kernel_rfl
@[simp] theorem tN_212 : tN prog 212 = 4 := by kernel_rfl
@[simp] theorem tN_213 : tN prog 213 = 1 := by kernel_rfl
@[simp] theorem tN_217 : tN prog 217 = 1 := by kernel_rfl
@[simp] theorem tN_226 : tN prog 226 = 9 := by kernel_rfl
@[simp] theorem tN_229 : tN prog 229 = 1 := by kernel_rfl
@[simp] theorem tN_23 : tN prog 23 = 9 := by kernel_rfl
@[simp] theorem tN_231 : tN prog 231 = 2 := by kernel_rfl
@[simp] theorem tN_24 : tN prog 24 = 2 := by kernel_rfl
@[simp] theorem tN_25 : tN prog 25 = 2 := by kernel_rfl
@[simp] theorem tN_26 : tN prog 26 = 2 := by kernel_rfl
@[simp] theorem tN_269 : tN prog 269 = 9 := by kernel_rfl
@[simp] theorem tN_273 : tN prog 273 = 1 := by kernel_rfl
@[simp] theorem tN_275 : tN prog 275 = 2 := by kernel_rfl
@[simp] theorem tN_277 : tN prog 277 = 8 := by kernel_rfl
@[simp] theorem tN_28 : tN prog 28 = 9 := by kernel_rfl
@[simp] theorem tN_3 : tN prog 3 = 8 := by kernel_rfl
@[simp] theorem tN_33 : tN prog 33 = 8 := by kernel_rfl
@[simp] theorem tN_34 : tN prog 34 = 2 := by kernel_rfl
@[simp] theorem tN_36 : tN prog 36 = 9 := by kernel_rfl
@[simp] theorem tN_37 : tN prog 37 = 2 := by kernel_rfl
@[simp] theorem tN_38 : tN prog 38 = 2 := by kernel_rfl
@[simp] theorem tN_4 : tN prog 4 = 6 := by kernel_rfl
@[simp] theorem tN_41 : tN prog 41 = 8 := by kernel_rfl
@[simp] theorem tN_48 : tN prog 48 = 3 := by kernel_rfl
@[simp] theorem tN_49 : tN prog 49 = 1 := by kernel_rfl
@[simp] theorem tN_5 : tN prog 5 = 8 := by kernel_rfl
@[simp] theorem tN_52 : tN prog 52 = 1 := by kernel_rfl
@[simp] theorem tN_58 : tN prog 58 = 9 := by kernel_rfl
@[simp] theorem tN_59 : tN prog 59 = 1 := by kernel_rfl
@[simp] theorem tN_65 : tN prog 65 = 3 := by kernel_rfl
@[simp] theorem tN_68 : tN prog 68 = 1 := by kernel_rfl
@[simp] theorem tN_72 : tN prog 72 = 8 := by kernel_rfl
@[simp] theorem tN_74 : tN prog 74 = 9 := by kernel_rfl
@[simp] theorem tN_76 : tN prog 76 = 9 := by kernel_rfl
@[simp] theorem tN_77 : tN prog 77 = 2 := by kernel_rfl
@[simp] theorem tN_79 : tN prog 79 = 9 := by kernel_rfl
@[simp] theorem tN_82 : tN prog 82 = 2 := by kernel_rfl
@[simp] theorem tN_84 : tN prog 84 = 9 := by kernel_rfl
@[simp] theorem tN_89 : tN prog 89 = 1 := by kernel_rfl
@[simp] theorem tN_9 : tN prog 9 = 7 := by kernel_rfl
@[simp] theorem tN_90 : tN prog 90 = 8 := by kernel_rfl
@[simp] theorem tN_92 : tN prog 92 = 9 := by kernel_rfl
@[simp] theorem tN_99 : tN prog 99 = 3 := by kernel_rfl
@[simp] theorem tPl_107 : tPl prog 107 = some [(0, 1), (1, 1), (2, 1), (3, 1)] := by kernel_rfl
@[simp] theorem tPl_142 : tPl prog 142 = some [(0, 1), (1, 5), (6, 1), (7, 1), (8, 1), (9, 1)] := by kernel_rfl
@[simp] theorem tPl_150 : tPl prog 150 = some [(0, 1), (1, 1)] := by kernel_rfl
@[simp] theorem tPl_155 : tPl prog 155 = some [(0, 1), (1, 1), (2, 1), (3, 1), (4, 1), (5, 1), (6, 6), (12, 1), (13, 1), (14, 1)] := by kernel_rfl
@[simp] theorem tPl_183 : tPl prog 183 = some [] := by kernel_rfl
@[simp] theorem tPl_197 : tPl prog 197 = some [(0, 1)] := by kernel_rfl
@[simp] theorem tPl_199 : tPl prog 199 = some [(0, 1), (1, 1), (2, 1), (3, 1), (4, 1), (5, 1)] := by kernel_rfl
@[simp] theorem tPl_200 : tPl prog 200 = some [(0, 1)] := by kernel_rfl
@[simp] theorem tPl_203 : tPl prog 203 = some [(0, 1), (1, 1), (2, 1), (3, 1), (4, 1), (5, 1), (6, 6), (12, 1), (13, 1)] := by kernel_rfl
@[simp] theorem tPl_205 : tPl prog 205 = some [(0, 1), (1, 1), (2, 1), (3, 1), (4, 1), (5, 1), (6, 1), (7, 1), (8, 6), (14, 1), (15, 1), (16, 1)] := by kernel_rfl
@[simp] theorem tPl_208 : tPl prog 208 = some [(0, 1), (1, 1), (2, 1)] := by kernel_rfl
@[simp] theorem tPl_210 : tPl prog 210 = some [(0, 3), (3, 1)] := by kernel_rfl
@[simp] theorem tPl_219 : tPl prog 219 = some [(0, 1), (1, 1), (2, 1), (3, 1), (4, 1), (5, 1), (6, 1)] := by kernel_rfl
@[simp] theorem tPl_228 : tPl prog 228 = some [(0, 3), (3, 1), (4, 1)] := by kernel_rfl
@[simp] theorem tPl_23 : tPl prog 23 = some [(0, 1), (1, 1), (2, 1), (3, 1), (4, 1)] := by kernel_rfl
@[simp] theorem tPl_233 : tPl prog 233 = some [(0, 1), (1, 1), (2, 1), (3, 1), (4, 1), (5, 1)] := by kernel_rfl
@[simp] theorem tPl_241 : tPl prog 241 = some [(0, 1), (1, 1), (2, 1), (3, 1)] := by kernel_rfl
@[simp] theorem tPl_260 : tPl prog 260 = some [(0, 1), (1, 1), (2, 1), (3, 1)] := by kernel_rfl
@[simp] theorem tPl_268 : tPl prog 268 = some [(0, 1), (1, 1), (2, 1)] := by kernel_rfl
@[simp] theorem tPl_28 : tPl prog 28 = some [(0, 5), (5, 1), (6, 1), (7, 1)] := by kernel_rfl
@[simp] theorem tPl_36 : tPl prog 36 = some [(0, 1), (1, 1), (2, 1), (3, 1), (4, 1), (5, 1), (6, 1)] := by kernel_rfl
@[simp] theorem tPl_40 : tPl prog 40 = some [(0, 1), (1, 1), (2, 1), (3, 1), (4, 1), (5, 1)] := by kernel_rfl
@[simp] theorem tPl_45 : tPl prog 45 = some [(0, 1), (1, 1), (2, 7), (9, 1), (10, 1), (11, 1), (12, 1), (13, 1), (14, 1), (15, 1), (16, 1)] := by kernel_rfl
@[simp] theorem tPl_58 : tPl prog 58 = some [(0, 1), (1, 1)] := by kernel_rfl
@[simp] theorem tPl_76 : tPl prog 76 = some [(0, 1), (1, 1), (2, 1)] := by kernel_rfl
@[simp] theorem tPl_79 : tPl prog 79 = some [(0, 1), (1, 1), (2, 1)] := by kernel_rfl
@[simp] theorem tPl_81 : tPl prog 81 = some [(0, 1), (1, 3), (4, 3)] := by kernel_rfl
@[simp] theorem tPl_86 : tPl prog 86 = some [(0, 1), (1, 1), (2, 1)] := by kernel_rfl
@[simp] theorem tPl_92 : tPl prog 92 = some [(0, 3), (3, 3)] := by kernel_rfl
@[simp] theorem tPl_94 : tPl prog 94 = some [(0, 1), (1, 5), (6, 1), (7, 1), (8, 1), (9, 1), (10, 1), (11, 1), (12, 1), (13, 1), (14, 6), (20, 6), (26, 6), (32, 6), (38, 1), (39, 1), (40, 1), (41, 1), (42, 1), (43, 1), (44, 1)] := by kernel_rfl
@[simp] theorem tS_105 : tS prog 105 = some 1 := by kernel_rfl
@[simp] theorem tS_140 : tS prog 140 = some 1 := by kernel_rfl
@[simp] theorem tS_167 : tS prog 167 = some 1 := by kernel_rfl
@[simp] theorem tS_172 : tS prog 172 = some 1 := by kernel_rfl
@[simp] theorem tS_174 : tS prog 174 = some 1 := by kernel_rfl
@[simp] theorem tS_178 : tS prog 178 = some 1 := by kernel_rfl
@[simp] theorem tS_180 : tS prog 180 = some 1 := by kernel_rfl
@[simp] theorem tS_200 : tS prog 200 = some 1 := by kernel_rfl
@[simp] theorem tS_201 : tS prog 201 = some 1 := by kernel_rfl
@[simp] theorem tS_217 : tS prog 217 = some 1 := by kernel_rfl
@[simp] theorem tS_231 : tS prog 231 = some 1 := by kernel_rfl
@[simp] theorem tS_24 : tS prog 24 = some 1 := by kernel_rfl
@[simp] theorem tS_241 : tS prog 241 = some 4 := by kernel_rfl
@[simp] theorem tS_26 : tS prog 26 = some 1 := by kernel_rfl
@[simp] theorem tS_260 : tS prog 260 = some 4 := by kernel_rfl
@[simp] theorem tS_268 : tS prog 268 = some 3 := by kernel_rfl
@[simp] theorem tS_269 : tS prog 269 = some 9 := by kernel_rfl
@[simp] theorem tS_28 : tS prog 28 = some 8 := by kernel_rfl
@[simp] theorem tS_29 : tS prog 29 = some 1 := by kernel_rfl
@[simp] theorem tS_3 : tS prog 3 = some 1 := by kernel_rfl
@[simp] theorem tS_34 : tS prog 34 = some 1 := by kernel_rfl
@[simp] theorem tS_36 : tS prog 36 = some 7 := by kernel_rfl
@[simp] theorem tS_37 : tS prog 37 = some 1 := by kernel_rfl
@[simp] theorem tS_38 : tS prog 38 = some 1 := by kernel_rfl
@[simp] theorem tS_4 : tS prog 4 = some 1 := by kernel_rfl
@[simp] theorem tS_40 : tS prog 40 = some 6 := by kernel_rfl
@[simp] theorem tS_41 : tS prog 41 = some 1 := by kernel_rfl
@[simp] theorem tS_45 : tS prog 45 = some 17 := by kernel_rfl
@[simp] theorem tS_5 : tS prog 5 = some 1 := by kernel_rfl
@[simp] theorem tS_52 : tS prog 52 = some 1 := by kernel_rfl
@[simp] theorem tS_58 : tS prog 58 = some 2 := by kernel_rfl
@[simp] theorem tS_59 : tS prog 59 = some 1 := by kernel_rfl
@[simp] theorem tS_72 : tS prog 72 = some 1 := by kernel_rfl
@[simp] theorem tS_76 : tS prog 76 = some 3 := by kernel_rfl
@[simp] theorem tS_77 : tS prog 77 = some 1 := by kernel_rfl
@[simp] theorem tS_79 : tS prog 79 = some 3 := by kernel_rfl
@[simp] theorem tS_82 : tS prog 82 = some 1 := by kernel_rfl
@[simp] theorem tS_89 : tS prog 89 = some 1 := by kernel_rfl
@[simp] theorem tS_90 : tS prog 90 = some 1 := by kernel_rfl
@[simp] theorem tS_92 : tS prog 92 = some 6 := by kernel_rfl
@[simp] theorem tS_99 : tS prog 99 = some 1 := by kernel_rfl
@[simp] theorem tZ_107 : tZ prog 107 = some (.agg #[.pointer none, .slice none 0 0, .slice none 0 0, .int .i64 0]) := by kernel_rfl
@[simp] theorem tZ_142 : tZ prog 142 = some (.agg #[.pointer none, .int .i64 0, .int .i64 0, .int .i64 0, .int .i64 0, .int .i64 0, .int .i64 0, .slice none 0 0, .slice none 0 0, .pointer none]) := by kernel_rfl
@[simp] theorem tZ_150 : tZ prog 150 = some (.agg #[.nilIface, .nilFunc]) := by kernel_rfl
@[simp] theorem tZ_155 : tZ prog 155 = some (.agg #[.pointer none, .slice none 0 0, .int .i64 0, .nilFunc, .int .i64 0, .int .u64 0, .int .i64 0, .slice none 0 0, .int .i64 0, .slice none 0 0, .slice none 0 0, .slice none 0 0, .bool false, .int .i64 0, .int .i64 0]) := by kernel_rfl
@[simp] theorem tZ_167 : tZ prog 167 = some (.pointer none) := by kernel_rfl
@[simp] theorem tZ_172 : tZ prog 172 = some (.pointer none) := by kernel_rfl
@[simp] theorem tZ_174 : tZ prog 174 = some (.pointer none) := by kernel_rfl
@[simp] theorem tZ_178 : tZ prog 178 = some (.pointer none) := by kernel_rfl
@[simp] theorem tZ_180 : tZ prog 180 = some (.pointer none) := by kernel_rfl
@[simp] theorem tZ_183 : tZ prog 183 = some (.agg #[]) := by kernel_rfl
@[simp] theorem tZ_197 : tZ prog 197 = some (.agg #[.pointer none]) := by kernel_rfl
@[simp] theorem tZ_199 : tZ prog 199 = some (.agg #[.pointer none, .slice none 0 0, .bool false, .slice none 0 0, .bool false, .int .i64 0]) := by kernel_rfl
@[simp] theorem tZ_200 : tZ prog 200 = some (.agg #[.pointer none]) := by kernel_rfl
@[simp] theorem tZ_203 : tZ prog 203 = some (.agg #[.pointer none, .pointer none, .slice none 0 0, .int .i64 0, .int .i64 0, .int .u64 0, .int .i64 0, .slice none 0 0, .int .i64 0, .slice none 0 0, .slice none 0 0, .slice none 0 0, .bool false, .int .i64 0]) := by kernel_rfl
@[simp] theorem tZ_205 : tZ prog 205 = some (.agg #[.pointer none, .pointer none, .slice none 0 0, .slice none 0 0, .int .i64 0, .nilFunc, .int .i64 0, .int .u64 0, .int .i64 0, .slice none 0 0, .int .i64 0, .slice none 0 0, .slice none 0 0, .slice none 0 0, .slice none 0 0, .int .i64 0, .int .i64 0]) := by kernel_rfl
@[simp] theorem tZ_208 : tZ prog 208 = some (.agg #[.slice none 0 0, .int .i64 0, .int .i64 0]) := by kernel_rfl
@[simp] theorem tZ_210 : tZ prog 210 = some (.agg #[.slice none 0 0, .int .i64 0, .int .i64 0, .slice none 0 0]) := by kernel_rfl
@[simp] theorem tZ_219 : tZ prog 219 = some (.agg #[.nilIface, .pointer none, .pointer none, .nilFunc, .bool false, .int .i64 0, .int .i64 0]) := by kernel_rfl
@[simp] theorem tZ_228 : tZ prog 228 = some (.agg #[.int .i64 0, .int .i64 0, .int .i64 0, .nilIface, .slice none 0 0]) := by kernel_rfl
@[simp] theorem tZ_23 : tZ prog 23 = some (.agg #[.int .i64 0, .int .i64 0, .int .i64 0, .int .i64 0, .int .i64 0]) := by kernel_rfl
@[simp] theorem tZ_233 : tZ prog 233 = some (.agg #[.int .i64 0, .pointer none, .slice none 0 0, .slice none 0 0, .bool false, .slice none 0 0]) := by kernel_rfl
@[simp] theorem tZ_241 : tZ prog 241 = some (.agg #[.int .i64 0, .slice none 0 0, .slice none 0 0, .slice none 0 0]) := by kernel_rfl
@[simp] theorem tZ_260 : tZ prog 260 = some (.agg #[.slice none 0 0, .int .i64 0, .int .i64 0, .int .i64 0]) := by kernel_rfl
@[simp] theorem tZ_268 : tZ prog 268 = some (.agg #[.nilFunc, .nilFunc, .int .i64 0]) := by kernel_rfl
@[simp] theorem tZ_269 : tZ prog 269 = some (.agg #[.nilFunc, .nilFunc, .int .i64 0, .nilFunc, .nilFunc, .int .i64 0, .nilFunc, .nilFunc, .int .i64 0]) := by kernel_rfl
@[simp] theorem tZ_28 : tZ prog 28 = some (.agg #[.int .i64 0, .int .i64 0, .int .i64 0, .int .i64 0, .int .i64 0, .slice none 0 0, .slice none 0 0, .slice none 0 0]) := by kernel_rfl
@[simp] theorem tZ_3 : tZ prog 3 = some (.int .i64 0) := by kernel_rfl
@[simp] theorem tZ_34 : tZ prog 34 = some (.slice none 0 0) := by kernel_rfl
@[simp] theorem tZ_36 : tZ prog 36 = some (.agg #[.int .i64 0, .slice none 0 0, .slice none 0 0, .slice none 0 0, .int .i64 0, .slice none 0 0, .int .i64 0]) := by kernel_rfl
@[simp] theorem tZ_40 : tZ prog 40 = some (.agg #[.slice none 0 0, .slice none 0 0, .int .i64 0, .bool false, .slice none 0 0, .slice none 0 0]) := by kernel_rfl
@[simp] theorem tZ_45 : tZ prog 45 = some (.agg #[.int .i64 0, .int .i64 0, .int .i64 0, .slice none 0 0, .slice none 0 0, .slice none 0 0, .int .i64 0, .slice none 0 0, .int .i64 0, .int .i64 0, .int .i64 0, .int .i64 0, .bool false, .int .i64 0, .bool false, .slice none 0 0, .slice none 0 0]) := by kernel_rfl
@[simp] theorem tZ_5 : tZ prog 5 = some (.int .u8 0) := by kernel_rfl
@[simp] theorem tZ_52 : tZ prog 52 = some (.pointer none) := by kernel_rfl
@[simp] theorem tZ_58 : tZ prog 58 = some (.agg #[.slice none 0 0, .slice none 0 0]) := by kernel_rfl
@[simp] theorem tZ_59 : tZ prog 59 = some (.pointer none) := by kernel_rfl
@[simp] theorem tZ_76 : tZ prog 76 = some (.agg #[.int .i64 0, .slice none 0 0, .int .i64 0]) := by kernel_rfl
@[simp] theorem tZ_79 : tZ prog 79 = some (.agg #[.slice none 0 0, .slice none 0 0, .slice none 0 0]) := by kernel_rfl
@[simp] theorem tZ_81 : tZ prog 81 = some (.agg #[.int .u64 0, .int .i64 0, .slice none 0 0, .int .i64 0, .slice none 0 0, .slice none 0 0, .slice none 0 0]) := by kernel_rfl
@[simp] theorem tZ_86 : tZ prog 86 = some (.agg #[.int .i64 0, .slice none 0 0, .int .i64 0]) := by kernel_rfl
@[simp] theorem tZ_92 : tZ prog 92 = some (.agg #[.int .i64 0, .slice none 0 0, .int .i64 0, .slice none 0 0, .slice none 0 0, .slice none 0 0]) := by kernel_rfl
@[simp] theorem tZ_94 : tZ prog 94 = some (.agg #[.pointer none, .int .i64 0, .int .i64 0, .int .i64 0, .int .i64 0, .int .i64 0, .slice none 0 0, .slice none 0 0, .pointer none, .int .i64 0, .int .i64 0, .slice none 0 0, .int .i64 0, .int .u64 0, .int .i64 0, .slice none 0 0, .int .i64 0, .slice none 0 0, .slice none 0 0, .slice none 0 0, .int .i64 0, .slice none 0 0, .int .i64 0, .slice none 0 0, .slice none 0 0, .slice none 0 0, .int .i64 0, .slice none 0 0, .int .i64 0, .slice none 0 0, .slice none 0 0, .slice none 0 0, .int .i64 0, .slice none 0 0, .int .i64 0, .slice none 0 0, .slice none 0 0, .slice none 0 0, .slice none 0 0, .int .i64 0, .int .i64 0, .int .i64 0, .int .i64 0, .bool false, .int .i64 0]) := by kernel_rfl
end Go.Proofs.YtiallkiiofomgaaGreat
