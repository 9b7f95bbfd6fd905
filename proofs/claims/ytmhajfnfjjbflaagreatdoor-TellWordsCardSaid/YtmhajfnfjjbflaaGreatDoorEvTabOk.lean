/- The tables of the seat are the program's, printed by gen_tab.py. -/
import Derived.Test.YtmhajfnfjjbflaaGreatDoorEvTab
import Derived.Test.YtmhajfnfjjbflaaGreatDoorEvfour
namespace Go.Proofs.YtmhajfnfjjbflaaGreatDoor.Ev
open Go Go.Proofs
set_option maxRecDepth 100000
theorem ti_1_ok : mkTI Tryz.prog 1 = some ti_1 := by kernel_rfl
theorem ti_2_ok : mkTI Tryz.prog 2 = some ti_2 := by kernel_rfl
theorem ti_3_ok : mkTI Tryz.prog 3 = some ti_3 := by kernel_rfl
theorem ti_4_ok : mkTI Tryz.prog 4 = some ti_4 := by kernel_rfl
theorem ti_5_ok : mkTI Tryz.prog 5 = some ti_5 := by kernel_rfl
theorem ti_6_ok : mkTI Tryz.prog 6 = some ti_6 := by kernel_rfl
theorem ti_7_ok : mkTI Tryz.prog 7 = some ti_7 := by kernel_rfl
theorem ti_8_ok : mkTI Tryz.prog 8 = some ti_8 := by kernel_rfl
theorem ti_9_ok : mkTI Tryz.prog 9 = some ti_9 := by kernel_rfl
theorem ti_10_ok : mkTI Tryz.prog 10 = some ti_10 := by kernel_rfl
theorem ti_11_ok : mkTI Tryz.prog 11 = some ti_11 := by kernel_rfl
theorem ti_12_ok : mkTI Tryz.prog 12 = some ti_12 := by kernel_rfl
theorem ti_13_ok : mkTI Tryz.prog 13 = some ti_13 := by kernel_rfl
theorem ti_14_ok : mkTI Tryz.prog 14 = some ti_14 := by kernel_rfl
theorem ti_15_ok : mkTI Tryz.prog 15 = some ti_15 := by kernel_rfl
theorem ti_16_ok : mkTI Tryz.prog 16 = some ti_16 := by kernel_rfl
theorem ti_17_ok : mkTI Tryz.prog 17 = some ti_17 := by kernel_rfl
theorem ti_18_ok : mkTI Tryz.prog 18 = some ti_18 := by kernel_rfl
theorem ti_19_ok : mkTI Tryz.prog 19 = some ti_19 := by kernel_rfl
theorem ti_20_ok : mkTI Tryz.prog 20 = some ti_20 := by kernel_rfl
theorem ti_21_ok : mkTI Tryz.prog 21 = some ti_21 := by kernel_rfl
theorem ti_22_ok : mkTI Tryz.prog 22 = some ti_22 := by kernel_rfl
theorem ti_23_ok : mkTI Tryz.prog 23 = some ti_23 := by kernel_rfl
theorem ti_24_ok : mkTI Tryz.prog 24 = some ti_24 := by kernel_rfl
theorem ti_25_ok : mkTI Tryz.prog 25 = some ti_25 := by kernel_rfl
theorem ti_26_ok : mkTI Tryz.prog 26 = some ti_26 := by kernel_rfl
theorem ti_27_ok : mkTI Tryz.prog 27 = some ti_27 := by kernel_rfl
theorem ti_28_ok : mkTI Tryz.prog 28 = some ti_28 := by kernel_rfl
theorem ti_29_ok : mkTI Tryz.prog 29 = some ti_29 := by kernel_rfl
theorem ti_30_ok : mkTI Tryz.prog 30 = some ti_30 := by kernel_rfl
theorem ti_31_ok : mkTI Tryz.prog 31 = some ti_31 := by kernel_rfl
theorem ti_32_ok : mkTI Tryz.prog 32 = some ti_32 := by kernel_rfl
theorem ti_33_ok : mkTI Tryz.prog 33 = some ti_33 := by kernel_rfl
theorem ti_34_ok : mkTI Tryz.prog 34 = some ti_34 := by kernel_rfl
theorem ti_36_ok : mkTI Tryz.prog 36 = some ti_36 := by kernel_rfl
theorem ti_37_ok : mkTI Tryz.prog 37 = some ti_37 := by kernel_rfl
theorem ti_38_ok : mkTI Tryz.prog 38 = some ti_38 := by kernel_rfl
theorem ti_39_ok : mkTI Tryz.prog 39 = some ti_39 := by kernel_rfl
theorem ti_40_ok : mkTI Tryz.prog 40 = some ti_40 := by kernel_rfl
theorem ti_41_ok : mkTI Tryz.prog 41 = some ti_41 := by kernel_rfl
theorem ti_42_ok : mkTI Tryz.prog 42 = some ti_42 := by kernel_rfl
theorem ti_43_ok : mkTI Tryz.prog 43 = some ti_43 := by kernel_rfl
theorem ti_44_ok : mkTI Tryz.prog 44 = some ti_44 := by kernel_rfl
theorem ti_45_ok : mkTI Tryz.prog 45 = some ti_45 := by kernel_rfl
theorem ti_46_ok : mkTI Tryz.prog 46 = some ti_46 := by kernel_rfl
theorem ti_47_ok : mkTI Tryz.prog 47 = some ti_47 := by kernel_rfl
theorem ti_48_ok : mkTI Tryz.prog 48 = some ti_48 := by kernel_rfl
theorem ti_49_ok : mkTI Tryz.prog 49 = some ti_49 := by kernel_rfl
theorem ti_50_ok : mkTI Tryz.prog 50 = some ti_50 := by kernel_rfl
theorem ti_51_ok : mkTI Tryz.prog 51 = some ti_51 := by kernel_rfl
theorem ti_52_ok : mkTI Tryz.prog 52 = some ti_52 := by kernel_rfl
theorem ti_53_ok : mkTI Tryz.prog 53 = some ti_53 := by kernel_rfl
theorem ti_54_ok : mkTI Tryz.prog 54 = some ti_54 := by kernel_rfl
theorem ti_55_ok : mkTI Tryz.prog 55 = some ti_55 := by kernel_rfl
theorem ti_56_ok : mkTI Tryz.prog 56 = some ti_56 := by kernel_rfl
theorem ti_57_ok : mkTI Tryz.prog 57 = some ti_57 := by kernel_rfl
theorem ti_58_ok : mkTI Tryz.prog 58 = some ti_58 := by kernel_rfl
theorem ti_59_ok : mkTI Tryz.prog 59 = some ti_59 := by kernel_rfl
theorem ti_60_ok : mkTI Tryz.prog 60 = some ti_60 := by kernel_rfl
theorem ti_61_ok : mkTI Tryz.prog 61 = some ti_61 := by kernel_rfl
theorem ti_62_ok : mkTI Tryz.prog 62 = some ti_62 := by kernel_rfl
theorem ti_63_ok : mkTI Tryz.prog 63 = some ti_63 := by kernel_rfl
theorem ti_64_ok : mkTI Tryz.prog 64 = some ti_64 := by kernel_rfl
theorem ti_65_ok : mkTI Tryz.prog 65 = some ti_65 := by kernel_rfl
theorem ti_66_ok : mkTI Tryz.prog 66 = some ti_66 := by kernel_rfl
theorem ti_67_ok : mkTI Tryz.prog 67 = some ti_67 := by kernel_rfl
theorem ti_68_ok : mkTI Tryz.prog 68 = some ti_68 := by kernel_rfl
theorem ti_69_ok : mkTI Tryz.prog 69 = some ti_69 := by kernel_rfl
theorem ti_70_ok : mkTI Tryz.prog 70 = some ti_70 := by kernel_rfl
theorem ti_71_ok : mkTI Tryz.prog 71 = some ti_71 := by kernel_rfl
theorem ti_72_ok : mkTI Tryz.prog 72 = some ti_72 := by kernel_rfl
theorem ti_73_ok : mkTI Tryz.prog 73 = some ti_73 := by kernel_rfl
theorem ti_74_ok : mkTI Tryz.prog 74 = some ti_74 := by kernel_rfl
theorem ti_75_ok : mkTI Tryz.prog 75 = some ti_75 := by kernel_rfl
theorem ti_76_ok : mkTI Tryz.prog 76 = some ti_76 := by kernel_rfl
theorem ti_77_ok : mkTI Tryz.prog 77 = some ti_77 := by kernel_rfl
theorem ti_79_ok : mkTI Tryz.prog 79 = some ti_79 := by kernel_rfl
theorem ti_80_ok : mkTI Tryz.prog 80 = some ti_80 := by kernel_rfl
theorem ti_81_ok : mkTI Tryz.prog 81 = some ti_81 := by kernel_rfl
theorem ti_82_ok : mkTI Tryz.prog 82 = some ti_82 := by kernel_rfl
theorem ti_83_ok : mkTI Tryz.prog 83 = some ti_83 := by kernel_rfl
theorem ti_84_ok : mkTI Tryz.prog 84 = some ti_84 := by kernel_rfl
theorem ti_86_ok : mkTI Tryz.prog 86 = some ti_86 := by kernel_rfl
theorem ti_88_ok : mkTI Tryz.prog 88 = some ti_88 := by kernel_rfl
theorem ti_89_ok : mkTI Tryz.prog 89 = some ti_89 := by kernel_rfl
theorem ti_90_ok : mkTI Tryz.prog 90 = some ti_90 := by kernel_rfl
theorem ti_91_ok : mkTI Tryz.prog 91 = some ti_91 := by kernel_rfl
theorem ti_92_ok : mkTI Tryz.prog 92 = some ti_92 := by kernel_rfl
theorem ti_94_ok : mkTI Tryz.prog 94 = some ti_94 := by kernel_rfl
theorem ti_95_ok : mkTI Tryz.prog 95 = some ti_95 := by kernel_rfl
theorem ti_96_ok : mkTI Tryz.prog 96 = some ti_96 := by kernel_rfl
theorem ti_97_ok : mkTI Tryz.prog 97 = some ti_97 := by kernel_rfl
theorem ti_98_ok : mkTI Tryz.prog 98 = some ti_98 := by kernel_rfl
theorem ti_100_ok : mkTI Tryz.prog 100 = some ti_100 := by kernel_rfl
theorem ti_101_ok : mkTI Tryz.prog 101 = some ti_101 := by kernel_rfl
theorem ti_102_ok : mkTI Tryz.prog 102 = some ti_102 := by kernel_rfl
theorem ti_103_ok : mkTI Tryz.prog 103 = some ti_103 := by kernel_rfl
theorem ti_104_ok : mkTI Tryz.prog 104 = some ti_104 := by kernel_rfl
theorem ti_105_ok : mkTI Tryz.prog 105 = some ti_105 := by kernel_rfl
theorem ti_106_ok : mkTI Tryz.prog 106 = some ti_106 := by kernel_rfl
theorem ti_107_ok : mkTI Tryz.prog 107 = some ti_107 := by kernel_rfl
theorem ti_108_ok : mkTI Tryz.prog 108 = some ti_108 := by kernel_rfl
theorem ti_109_ok : mkTI Tryz.prog 109 = some ti_109 := by kernel_rfl
theorem ti_110_ok : mkTI Tryz.prog 110 = some ti_110 := by kernel_rfl
theorem ti_111_ok : mkTI Tryz.prog 111 = some ti_111 := by kernel_rfl
theorem ti_112_ok : mkTI Tryz.prog 112 = some ti_112 := by kernel_rfl
theorem ti_113_ok : mkTI Tryz.prog 113 = some ti_113 := by kernel_rfl
theorem ti_114_ok : mkTI Tryz.prog 114 = some ti_114 := by kernel_rfl
theorem ti_115_ok : mkTI Tryz.prog 115 = some ti_115 := by kernel_rfl
theorem ti_116_ok : mkTI Tryz.prog 116 = some ti_116 := by kernel_rfl
theorem ti_117_ok : mkTI Tryz.prog 117 = some ti_117 := by kernel_rfl
theorem ti_118_ok : mkTI Tryz.prog 118 = some ti_118 := by kernel_rfl
theorem ti_119_ok : mkTI Tryz.prog 119 = some ti_119 := by kernel_rfl
theorem ti_120_ok : mkTI Tryz.prog 120 = some ti_120 := by kernel_rfl
theorem ti_121_ok : mkTI Tryz.prog 121 = some ti_121 := by kernel_rfl
theorem ti_122_ok : mkTI Tryz.prog 122 = some ti_122 := by kernel_rfl
theorem ti_123_ok : mkTI Tryz.prog 123 = some ti_123 := by kernel_rfl
theorem ti_124_ok : mkTI Tryz.prog 124 = some ti_124 := by kernel_rfl
theorem ti_125_ok : mkTI Tryz.prog 125 = some ti_125 := by kernel_rfl
theorem ti_126_ok : mkTI Tryz.prog 126 = some ti_126 := by kernel_rfl
theorem ti_127_ok : mkTI Tryz.prog 127 = some ti_127 := by kernel_rfl
theorem ti_128_ok : mkTI Tryz.prog 128 = some ti_128 := by kernel_rfl
theorem ti_129_ok : mkTI Tryz.prog 129 = some ti_129 := by kernel_rfl
theorem ti_130_ok : mkTI Tryz.prog 130 = some ti_130 := by kernel_rfl
theorem ti_131_ok : mkTI Tryz.prog 131 = some ti_131 := by kernel_rfl
theorem ti_132_ok : mkTI Tryz.prog 132 = some ti_132 := by kernel_rfl
theorem ti_133_ok : mkTI Tryz.prog 133 = some ti_133 := by kernel_rfl
theorem ti_134_ok : mkTI Tryz.prog 134 = some ti_134 := by kernel_rfl
theorem ti_135_ok : mkTI Tryz.prog 135 = some ti_135 := by kernel_rfl
theorem ti_136_ok : mkTI Tryz.prog 136 = some ti_136 := by kernel_rfl
theorem ti_137_ok : mkTI Tryz.prog 137 = some ti_137 := by kernel_rfl
theorem ti_138_ok : mkTI Tryz.prog 138 = some ti_138 := by kernel_rfl
theorem ti_139_ok : mkTI Tryz.prog 139 = some ti_139 := by kernel_rfl
theorem ti_140_ok : mkTI Tryz.prog 140 = some ti_140 := by kernel_rfl
theorem ti_141_ok : mkTI Tryz.prog 141 = some ti_141 := by kernel_rfl
theorem ti_142_ok : mkTI Tryz.prog 142 = some ti_142 := by kernel_rfl
theorem ti_143_ok : mkTI Tryz.prog 143 = some ti_143 := by kernel_rfl
theorem ti_145_ok : mkTI Tryz.prog 145 = some ti_145 := by kernel_rfl
theorem ti_146_ok : mkTI Tryz.prog 146 = some ti_146 := by kernel_rfl
theorem ti_147_ok : mkTI Tryz.prog 147 = some ti_147 := by kernel_rfl
theorem ti_148_ok : mkTI Tryz.prog 148 = some ti_148 := by kernel_rfl
theorem ti_149_ok : mkTI Tryz.prog 149 = some ti_149 := by kernel_rfl
theorem ti_150_ok : mkTI Tryz.prog 150 = some ti_150 := by kernel_rfl
theorem ti_151_ok : mkTI Tryz.prog 151 = some ti_151 := by kernel_rfl
theorem ti_152_ok : mkTI Tryz.prog 152 = some ti_152 := by kernel_rfl
theorem ti_153_ok : mkTI Tryz.prog 153 = some ti_153 := by kernel_rfl
theorem ti_154_ok : mkTI Tryz.prog 154 = some ti_154 := by kernel_rfl
theorem ti_155_ok : mkTI Tryz.prog 155 = some ti_155 := by kernel_rfl
theorem ti_156_ok : mkTI Tryz.prog 156 = some ti_156 := by kernel_rfl
theorem ti_157_ok : mkTI Tryz.prog 157 = some ti_157 := by kernel_rfl
theorem ti_158_ok : mkTI Tryz.prog 158 = some ti_158 := by kernel_rfl
theorem ti_159_ok : mkTI Tryz.prog 159 = some ti_159 := by kernel_rfl
theorem ti_160_ok : mkTI Tryz.prog 160 = some ti_160 := by kernel_rfl
theorem ti_162_ok : mkTI Tryz.prog 162 = some ti_162 := by kernel_rfl
theorem ti_163_ok : mkTI Tryz.prog 163 = some ti_163 := by kernel_rfl
theorem ti_164_ok : mkTI Tryz.prog 164 = some ti_164 := by kernel_rfl
theorem ti_165_ok : mkTI Tryz.prog 165 = some ti_165 := by kernel_rfl
theorem ti_166_ok : mkTI Tryz.prog 166 = some ti_166 := by kernel_rfl
theorem ti_168_ok : mkTI Tryz.prog 168 = some ti_168 := by kernel_rfl
theorem ti_169_ok : mkTI Tryz.prog 169 = some ti_169 := by kernel_rfl
theorem ti_170_ok : mkTI Tryz.prog 170 = some ti_170 := by kernel_rfl
theorem ti_171_ok : mkTI Tryz.prog 171 = some ti_171 := by kernel_rfl
theorem ti_172_ok : mkTI Tryz.prog 172 = some ti_172 := by kernel_rfl
theorem ti_174_ok : mkTI Tryz.prog 174 = some ti_174 := by kernel_rfl
theorem ti_175_ok : mkTI Tryz.prog 175 = some ti_175 := by kernel_rfl
theorem ti_177_ok : mkTI Tryz.prog 177 = some ti_177 := by kernel_rfl
theorem ti_178_ok : mkTI Tryz.prog 178 = some ti_178 := by kernel_rfl
theorem ti_179_ok : mkTI Tryz.prog 179 = some ti_179 := by kernel_rfl
theorem ti_180_ok : mkTI Tryz.prog 180 = some ti_180 := by kernel_rfl
theorem ti_181_ok : mkTI Tryz.prog 181 = some ti_181 := by kernel_rfl
theorem ti_183_ok : mkTI Tryz.prog 183 = some ti_183 := by kernel_rfl
theorem ti_184_ok : mkTI Tryz.prog 184 = some ti_184 := by kernel_rfl
theorem ti_185_ok : mkTI Tryz.prog 185 = some ti_185 := by kernel_rfl
theorem ti_186_ok : mkTI Tryz.prog 186 = some ti_186 := by kernel_rfl
theorem ti_187_ok : mkTI Tryz.prog 187 = some ti_187 := by kernel_rfl
theorem ti_188_ok : mkTI Tryz.prog 188 = some ti_188 := by kernel_rfl
theorem ti_189_ok : mkTI Tryz.prog 189 = some ti_189 := by kernel_rfl
theorem ti_190_ok : mkTI Tryz.prog 190 = some ti_190 := by kernel_rfl
theorem ti_192_ok : mkTI Tryz.prog 192 = some ti_192 := by kernel_rfl
theorem ti_194_ok : mkTI Tryz.prog 194 = some ti_194 := by kernel_rfl
theorem ti_196_ok : mkTI Tryz.prog 196 = some ti_196 := by kernel_rfl
theorem ti_197_ok : mkTI Tryz.prog 197 = some ti_197 := by kernel_rfl
theorem ti_199_ok : mkTI Tryz.prog 199 = some ti_199 := by kernel_rfl
theorem ti_200_ok : mkTI Tryz.prog 200 = some ti_200 := by kernel_rfl
theorem ti_202_ok : mkTI Tryz.prog 202 = some ti_202 := by kernel_rfl
theorem ti_203_ok : mkTI Tryz.prog 203 = some ti_203 := by kernel_rfl
theorem ti_205_ok : mkTI Tryz.prog 205 = some ti_205 := by kernel_rfl
theorem ti_207_ok : mkTI Tryz.prog 207 = some ti_207 := by kernel_rfl
theorem ti_209_ok : mkTI Tryz.prog 209 = some ti_209 := by kernel_rfl
theorem ti_210_ok : mkTI Tryz.prog 210 = some ti_210 := by kernel_rfl
theorem ti_211_ok : mkTI Tryz.prog 211 = some ti_211 := by kernel_rfl
theorem ti_212_ok : mkTI Tryz.prog 212 = some ti_212 := by kernel_rfl
theorem ti_213_ok : mkTI Tryz.prog 213 = some ti_213 := by kernel_rfl
theorem ti_214_ok : mkTI Tryz.prog 214 = some ti_214 := by kernel_rfl
theorem ti_215_ok : mkTI Tryz.prog 215 = some ti_215 := by kernel_rfl
theorem ti_216_ok : mkTI Tryz.prog 216 = some ti_216 := by kernel_rfl
theorem ti_217_ok : mkTI Tryz.prog 217 = some ti_217 := by kernel_rfl
theorem ti_218_ok : mkTI Tryz.prog 218 = some ti_218 := by kernel_rfl
theorem ti_219_ok : mkTI Tryz.prog 219 = some ti_219 := by kernel_rfl
theorem ti_220_ok : mkTI Tryz.prog 220 = some ti_220 := by kernel_rfl
theorem ti_222_ok : mkTI Tryz.prog 222 = some ti_222 := by kernel_rfl
theorem ti_223_ok : mkTI Tryz.prog 223 = some ti_223 := by kernel_rfl
theorem ti_225_ok : mkTI Tryz.prog 225 = some ti_225 := by kernel_rfl
theorem ti_226_ok : mkTI Tryz.prog 226 = some ti_226 := by kernel_rfl
theorem ti_227_ok : mkTI Tryz.prog 227 = some ti_227 := by kernel_rfl
theorem ti_228_ok : mkTI Tryz.prog 228 = some ti_228 := by kernel_rfl
theorem ti_230_ok : mkTI Tryz.prog 230 = some ti_230 := by kernel_rfl
theorem ti_231_ok : mkTI Tryz.prog 231 = some ti_231 := by kernel_rfl
theorem ti_232_ok : mkTI Tryz.prog 232 = some ti_232 := by kernel_rfl
theorem ti_233_ok : mkTI Tryz.prog 233 = some ti_233 := by kernel_rfl
theorem ti_234_ok : mkTI Tryz.prog 234 = some ti_234 := by kernel_rfl
theorem ti_235_ok : mkTI Tryz.prog 235 = some ti_235 := by kernel_rfl
theorem ti_236_ok : mkTI Tryz.prog 236 = some ti_236 := by kernel_rfl
theorem ti_237_ok : mkTI Tryz.prog 237 = some ti_237 := by kernel_rfl
theorem ti_238_ok : mkTI Tryz.prog 238 = some ti_238 := by kernel_rfl
theorem ti_239_ok : mkTI Tryz.prog 239 = some ti_239 := by kernel_rfl
theorem ti_240_ok : mkTI Tryz.prog 240 = some ti_240 := by kernel_rfl
theorem ti_241_ok : mkTI Tryz.prog 241 = some ti_241 := by kernel_rfl
theorem ti_242_ok : mkTI Tryz.prog 242 = some ti_242 := by kernel_rfl
theorem ti_243_ok : mkTI Tryz.prog 243 = some ti_243 := by kernel_rfl
theorem ti_245_ok : mkTI Tryz.prog 245 = some ti_245 := by kernel_rfl
theorem ti_246_ok : mkTI Tryz.prog 246 = some ti_246 := by kernel_rfl
theorem ti_247_ok : mkTI Tryz.prog 247 = some ti_247 := by kernel_rfl
theorem ti_248_ok : mkTI Tryz.prog 248 = some ti_248 := by kernel_rfl
theorem ti_249_ok : mkTI Tryz.prog 249 = some ti_249 := by kernel_rfl
theorem ti_250_ok : mkTI Tryz.prog 250 = some ti_250 := by kernel_rfl
theorem ti_251_ok : mkTI Tryz.prog 251 = some ti_251 := by kernel_rfl
theorem ti_252_ok : mkTI Tryz.prog 252 = some ti_252 := by kernel_rfl
theorem ti_253_ok : mkTI Tryz.prog 253 = some ti_253 := by kernel_rfl
theorem ti_255_ok : mkTI Tryz.prog 255 = some ti_255 := by kernel_rfl
theorem ti_256_ok : mkTI Tryz.prog 256 = some ti_256 := by kernel_rfl
theorem ti_257_ok : mkTI Tryz.prog 257 = some ti_257 := by kernel_rfl
theorem ti_258_ok : mkTI Tryz.prog 258 = some ti_258 := by kernel_rfl
theorem ti_259_ok : mkTI Tryz.prog 259 = some ti_259 := by kernel_rfl
theorem ti_260_ok : mkTI Tryz.prog 260 = some ti_260 := by kernel_rfl
theorem ti_261_ok : mkTI Tryz.prog 261 = some ti_261 := by kernel_rfl
theorem ti_262_ok : mkTI Tryz.prog 262 = some ti_262 := by kernel_rfl
theorem ti_263_ok : mkTI Tryz.prog 263 = some ti_263 := by kernel_rfl
theorem ti_264_ok : mkTI Tryz.prog 264 = some ti_264 := by kernel_rfl
theorem ti_265_ok : mkTI Tryz.prog 265 = some ti_265 := by kernel_rfl
theorem ti_267_ok : mkTI Tryz.prog 267 = some ti_267 := by kernel_rfl
theorem ti_269_ok : mkTI Tryz.prog 269 = some ti_269 := by kernel_rfl
theorem ti_270_ok : mkTI Tryz.prog 270 = some ti_270 := by kernel_rfl
theorem ti_271_ok : mkTI Tryz.prog 271 = some ti_271 := by kernel_rfl
theorem ti_272_ok : mkTI Tryz.prog 272 = some ti_272 := by kernel_rfl
theorem ti_273_ok : mkTI Tryz.prog 273 = some ti_273 := by kernel_rfl
theorem ti_274_ok : mkTI Tryz.prog 274 = some ti_274 := by kernel_rfl
theorem ti_275_ok : mkTI Tryz.prog 275 = some ti_275 := by kernel_rfl
theorem ti_276_ok : mkTI Tryz.prog 276 = some ti_276 := by kernel_rfl
theorem ti_277_ok : mkTI Tryz.prog 277 = some ti_277 := by kernel_rfl
theorem ti_278_ok : mkTI Tryz.prog 278 = some ti_278 := by kernel_rfl
theorem ti_279_ok : mkTI Tryz.prog 279 = some ti_279 := by kernel_rfl
theorem ti_280_ok : mkTI Tryz.prog 280 = some ti_280 := by kernel_rfl
theorem ti_282_ok : mkTI Tryz.prog 282 = some ti_282 := by kernel_rfl
theorem ti_283_ok : mkTI Tryz.prog 283 = some ti_283 := by kernel_rfl
theorem ti_284_ok : mkTI Tryz.prog 284 = some ti_284 := by kernel_rfl
theorem ti_285_ok : mkTI Tryz.prog 285 = some ti_285 := by kernel_rfl
theorem ti_286_ok : mkTI Tryz.prog 286 = some ti_286 := by kernel_rfl
theorem ti_287_ok : mkTI Tryz.prog 287 = some ti_287 := by kernel_rfl
theorem ti_288_ok : mkTI Tryz.prog 288 = some ti_288 := by kernel_rfl
theorem ti_289_ok : mkTI Tryz.prog 289 = some ti_289 := by kernel_rfl
theorem ti_290_ok : mkTI Tryz.prog 290 = some ti_290 := by kernel_rfl
theorem ti_292_ok : mkTI Tryz.prog 292 = some ti_292 := by kernel_rfl
theorem ti_293_ok : mkTI Tryz.prog 293 = some ti_293 := by kernel_rfl
theorem ti_294_ok : mkTI Tryz.prog 294 = some ti_294 := by kernel_rfl
theorem ti_296_ok : mkTI Tryz.prog 296 = some ti_296 := by kernel_rfl
theorem ti_297_ok : mkTI Tryz.prog 297 = some ti_297 := by kernel_rfl
theorem ti_298_ok : mkTI Tryz.prog 298 = some ti_298 := by kernel_rfl
theorem ti_299_ok : mkTI Tryz.prog 299 = some ti_299 := by kernel_rfl
theorem ti_300_ok : mkTI Tryz.prog 300 = some ti_300 := by kernel_rfl
theorem ti_302_ok : mkTI Tryz.prog 302 = some ti_302 := by kernel_rfl
theorem ti_303_ok : mkTI Tryz.prog 303 = some ti_303 := by kernel_rfl
theorem ti_304_ok : mkTI Tryz.prog 304 = some ti_304 := by kernel_rfl
theorem ti_305_ok : mkTI Tryz.prog 305 = some ti_305 := by kernel_rfl
theorem ti_306_ok : mkTI Tryz.prog 306 = some ti_306 := by kernel_rfl
theorem ti_307_ok : mkTI Tryz.prog 307 = some ti_307 := by kernel_rfl
theorem ti_308_ok : mkTI Tryz.prog 308 = some ti_308 := by kernel_rfl
theorem ti_309_ok : mkTI Tryz.prog 309 = some ti_309 := by kernel_rfl
theorem ti_311_ok : mkTI Tryz.prog 311 = some ti_311 := by kernel_rfl
theorem ti_312_ok : mkTI Tryz.prog 312 = some ti_312 := by kernel_rfl
theorem ti_313_ok : mkTI Tryz.prog 313 = some ti_313 := by kernel_rfl
theorem ti_314_ok : mkTI Tryz.prog 314 = some ti_314 := by kernel_rfl
theorem ti_315_ok : mkTI Tryz.prog 315 = some ti_315 := by kernel_rfl
theorem ti_316_ok : mkTI Tryz.prog 316 = some ti_316 := by kernel_rfl
theorem ti_317_ok : mkTI Tryz.prog 317 = some ti_317 := by kernel_rfl
theorem ti_318_ok : mkTI Tryz.prog 318 = some ti_318 := by kernel_rfl
theorem ti_319_ok : mkTI Tryz.prog 319 = some ti_319 := by kernel_rfl
theorem ti_320_ok : mkTI Tryz.prog 320 = some ti_320 := by kernel_rfl
theorem ti_321_ok : mkTI Tryz.prog 321 = some ti_321 := by kernel_rfl
theorem ti_322_ok : mkTI Tryz.prog 322 = some ti_322 := by kernel_rfl
theorem ti_323_ok : mkTI Tryz.prog 323 = some ti_323 := by kernel_rfl
theorem ti_324_ok : mkTI Tryz.prog 324 = some ti_324 := by kernel_rfl
theorem ti_325_ok : mkTI Tryz.prog 325 = some ti_325 := by kernel_rfl
theorem ti_326_ok : mkTI Tryz.prog 326 = some ti_326 := by kernel_rfl
theorem ti_327_ok : mkTI Tryz.prog 327 = some ti_327 := by kernel_rfl
theorem ti_328_ok : mkTI Tryz.prog 328 = some ti_328 := by kernel_rfl
theorem ti_329_ok : mkTI Tryz.prog 329 = some ti_329 := by kernel_rfl
theorem ti_330_ok : mkTI Tryz.prog 330 = some ti_330 := by kernel_rfl
theorem ti_331_ok : mkTI Tryz.prog 331 = some ti_331 := by kernel_rfl
theorem ti_332_ok : mkTI Tryz.prog 332 = some ti_332 := by kernel_rfl
theorem ti_333_ok : mkTI Tryz.prog 333 = some ti_333 := by kernel_rfl
theorem ti_334_ok : mkTI Tryz.prog 334 = some ti_334 := by kernel_rfl
theorem ti_335_ok : mkTI Tryz.prog 335 = some ti_335 := by kernel_rfl
theorem ti_336_ok : mkTI Tryz.prog 336 = some ti_336 := by kernel_rfl
theorem ti_337_ok : mkTI Tryz.prog 337 = some ti_337 := by kernel_rfl
theorem ti_338_ok : mkTI Tryz.prog 338 = some ti_338 := by kernel_rfl
theorem ti_339_ok : mkTI Tryz.prog 339 = some ti_339 := by kernel_rfl
theorem ti_341_ok : mkTI Tryz.prog 341 = some ti_341 := by kernel_rfl
theorem ti_342_ok : mkTI Tryz.prog 342 = some ti_342 := by kernel_rfl
theorem ti_343_ok : mkTI Tryz.prog 343 = some ti_343 := by kernel_rfl
theorem ti_345_ok : mkTI Tryz.prog 345 = some ti_345 := by kernel_rfl
theorem ti_346_ok : mkTI Tryz.prog 346 = some ti_346 := by kernel_rfl
theorem ti_347_ok : mkTI Tryz.prog 347 = some ti_347 := by kernel_rfl
theorem ti_348_ok : mkTI Tryz.prog 348 = some ti_348 := by kernel_rfl
theorem ti_349_ok : mkTI Tryz.prog 349 = some ti_349 := by kernel_rfl
theorem ti_350_ok : mkTI Tryz.prog 350 = some ti_350 := by kernel_rfl
theorem ti_351_ok : mkTI Tryz.prog 351 = some ti_351 := by kernel_rfl
theorem ti_352_ok : mkTI Tryz.prog 352 = some ti_352 := by kernel_rfl
theorem ti_353_ok : mkTI Tryz.prog 353 = some ti_353 := by kernel_rfl
theorem ti_354_ok : mkTI Tryz.prog 354 = some ti_354 := by kernel_rfl
theorem ti_355_ok : mkTI Tryz.prog 355 = some ti_355 := by kernel_rfl
theorem ti_356_ok : mkTI Tryz.prog 356 = some ti_356 := by kernel_rfl
theorem ti_357_ok : mkTI Tryz.prog 357 = some ti_357 := by kernel_rfl
theorem ti_358_ok : mkTI Tryz.prog 358 = some ti_358 := by kernel_rfl
theorem ti_359_ok : mkTI Tryz.prog 359 = some ti_359 := by kernel_rfl
theorem ti_360_ok : mkTI Tryz.prog 360 = some ti_360 := by kernel_rfl
theorem ti_361_ok : mkTI Tryz.prog 361 = some ti_361 := by kernel_rfl
theorem ti_362_ok : mkTI Tryz.prog 362 = some ti_362 := by kernel_rfl
theorem ti_363_ok : mkTI Tryz.prog 363 = some ti_363 := by kernel_rfl
theorem ti_365_ok : mkTI Tryz.prog 365 = some ti_365 := by kernel_rfl
theorem ti_366_ok : mkTI Tryz.prog 366 = some ti_366 := by kernel_rfl
theorem ti_367_ok : mkTI Tryz.prog 367 = some ti_367 := by kernel_rfl
theorem ti_368_ok : mkTI Tryz.prog 368 = some ti_368 := by kernel_rfl
theorem ti_369_ok : mkTI Tryz.prog 369 = some ti_369 := by kernel_rfl
theorem ti_370_ok : mkTI Tryz.prog 370 = some ti_370 := by kernel_rfl
theorem ti_371_ok : mkTI Tryz.prog 371 = some ti_371 := by kernel_rfl
theorem ti_372_ok : mkTI Tryz.prog 372 = some ti_372 := by kernel_rfl
theorem ti_373_ok : mkTI Tryz.prog 373 = some ti_373 := by kernel_rfl
theorem ti_374_ok : mkTI Tryz.prog 374 = some ti_374 := by kernel_rfl
theorem ti_375_ok : mkTI Tryz.prog 375 = some ti_375 := by kernel_rfl
theorem ti_376_ok : mkTI Tryz.prog 376 = some ti_376 := by kernel_rfl
theorem ti_377_ok : mkTI Tryz.prog 377 = some ti_377 := by kernel_rfl
theorem ti_379_ok : mkTI Tryz.prog 379 = some ti_379 := by kernel_rfl
theorem ti_380_ok : mkTI Tryz.prog 380 = some ti_380 := by kernel_rfl
theorem ti_381_ok : mkTI Tryz.prog 381 = some ti_381 := by kernel_rfl
theorem ti_382_ok : mkTI Tryz.prog 382 = some ti_382 := by kernel_rfl
theorem ti_383_ok : mkTI Tryz.prog 383 = some ti_383 := by kernel_rfl
theorem ti_384_ok : mkTI Tryz.prog 384 = some ti_384 := by kernel_rfl
theorem ti_385_ok : mkTI Tryz.prog 385 = some ti_385 := by kernel_rfl
theorem ti_386_ok : mkTI Tryz.prog 386 = some ti_386 := by kernel_rfl
theorem ti_387_ok : mkTI Tryz.prog 387 = some ti_387 := by kernel_rfl
theorem ti_388_ok : mkTI Tryz.prog 388 = some ti_388 := by kernel_rfl
theorem ti_389_ok : mkTI Tryz.prog 389 = some ti_389 := by kernel_rfl
theorem ti_390_ok : mkTI Tryz.prog 390 = some ti_390 := by kernel_rfl
theorem ti_391_ok : mkTI Tryz.prog 391 = some ti_391 := by kernel_rfl
theorem ti_392_ok : mkTI Tryz.prog 392 = some ti_392 := by kernel_rfl
theorem ti_393_ok : mkTI Tryz.prog 393 = some ti_393 := by kernel_rfl
theorem ti_394_ok : mkTI Tryz.prog 394 = some ti_394 := by kernel_rfl
theorem ti_395_ok : mkTI Tryz.prog 395 = some ti_395 := by kernel_rfl
theorem ti_396_ok : mkTI Tryz.prog 396 = some ti_396 := by kernel_rfl
theorem ti_397_ok : mkTI Tryz.prog 397 = some ti_397 := by kernel_rfl
theorem ti_399_ok : mkTI Tryz.prog 399 = some ti_399 := by kernel_rfl
theorem ti_400_ok : mkTI Tryz.prog 400 = some ti_400 := by kernel_rfl
theorem ti_401_ok : mkTI Tryz.prog 401 = some ti_401 := by kernel_rfl
theorem ti_402_ok : mkTI Tryz.prog 402 = some ti_402 := by kernel_rfl
theorem ti_403_ok : mkTI Tryz.prog 403 = some ti_403 := by kernel_rfl
theorem ti_404_ok : mkTI Tryz.prog 404 = some ti_404 := by kernel_rfl
theorem ti_405_ok : mkTI Tryz.prog 405 = some ti_405 := by kernel_rfl
theorem ti_407_ok : mkTI Tryz.prog 407 = some ti_407 := by kernel_rfl
theorem ti_409_ok : mkTI Tryz.prog 409 = some ti_409 := by kernel_rfl
theorem ti_410_ok : mkTI Tryz.prog 410 = some ti_410 := by kernel_rfl
theorem ti_412_ok : mkTI Tryz.prog 412 = some ti_412 := by kernel_rfl
theorem ti_413_ok : mkTI Tryz.prog 413 = some ti_413 := by kernel_rfl
theorem ti_414_ok : mkTI Tryz.prog 414 = some ti_414 := by kernel_rfl
theorem ti_415_ok : mkTI Tryz.prog 415 = some ti_415 := by kernel_rfl
theorem ti_416_ok : mkTI Tryz.prog 416 = some ti_416 := by kernel_rfl
theorem ti_417_ok : mkTI Tryz.prog 417 = some ti_417 := by kernel_rfl
theorem ti_418_ok : mkTI Tryz.prog 418 = some ti_418 := by kernel_rfl
theorem ti_419_ok : mkTI Tryz.prog 419 = some ti_419 := by kernel_rfl
theorem ti_420_ok : mkTI Tryz.prog 420 = some ti_420 := by kernel_rfl
theorem ti_421_ok : mkTI Tryz.prog 421 = some ti_421 := by kernel_rfl
theorem ti_422_ok : mkTI Tryz.prog 422 = some ti_422 := by kernel_rfl
theorem ti_423_ok : mkTI Tryz.prog 423 = some ti_423 := by kernel_rfl
theorem ti_424_ok : mkTI Tryz.prog 424 = some ti_424 := by kernel_rfl
theorem ti_425_ok : mkTI Tryz.prog 425 = some ti_425 := by kernel_rfl
theorem ti_426_ok : mkTI Tryz.prog 426 = some ti_426 := by kernel_rfl
theorem ti_427_ok : mkTI Tryz.prog 427 = some ti_427 := by kernel_rfl
theorem ti_428_ok : mkTI Tryz.prog 428 = some ti_428 := by kernel_rfl
theorem tiT_rllllllll_ok : T.All (fun t i => mkTI Tryz.prog t = some i) tiT_rllllllll (fun k => (fun k => (fun k => (fun k => (fun k => (fun k => (fun k => (fun k => id (2 * k + 1)) (2 * k + 1)) (2 * k + 1)) (2 * k + 1)) (2 * k + 1)) (2 * k + 1)) (2 * k + 1)) (2 * k + 1)) := ⟨ti_255_ok, trivial, trivial⟩
theorem tiT_rlllllllr_ok : T.All (fun t i => mkTI Tryz.prog t = some i) tiT_rlllllllr (fun k => (fun k => (fun k => (fun k => (fun k => (fun k => (fun k => (fun k => id (2 * k + 1)) (2 * k + 1)) (2 * k + 1)) (2 * k + 1)) (2 * k + 1)) (2 * k + 1)) (2 * k + 1)) (2 * k + 2)) := ⟨ti_383_ok, trivial, trivial⟩
theorem tiT_rlllllll_ok : T.All (fun t i => mkTI Tryz.prog t = some i) tiT_rlllllll (fun k => (fun k => (fun k => (fun k => (fun k => (fun k => (fun k => id (2 * k + 1)) (2 * k + 1)) (2 * k + 1)) (2 * k + 1)) (2 * k + 1)) (2 * k + 1)) (2 * k + 1)) := ⟨ti_127_ok, tiT_rllllllll_ok, tiT_rlllllllr_ok⟩
theorem tiT_rllllllrl_ok : T.All (fun t i => mkTI Tryz.prog t = some i) tiT_rllllllrl (fun k => (fun k => (fun k => (fun k => (fun k => (fun k => (fun k => (fun k => id (2 * k + 1)) (2 * k + 1)) (2 * k + 1)) (2 * k + 1)) (2 * k + 1)) (2 * k + 1)) (2 * k + 2)) (2 * k + 1)) := ⟨ti_319_ok, trivial, trivial⟩
theorem tiT_rllllllr_ok : T.All (fun t i => mkTI Tryz.prog t = some i) tiT_rllllllr (fun k => (fun k => (fun k => (fun k => (fun k => (fun k => (fun k => id (2 * k + 1)) (2 * k + 1)) (2 * k + 1)) (2 * k + 1)) (2 * k + 1)) (2 * k + 1)) (2 * k + 2)) := ⟨trivial, tiT_rllllllrl_ok, trivial⟩
theorem tiT_rllllll_ok : T.All (fun t i => mkTI Tryz.prog t = some i) tiT_rllllll (fun k => (fun k => (fun k => (fun k => (fun k => (fun k => id (2 * k + 1)) (2 * k + 1)) (2 * k + 1)) (2 * k + 1)) (2 * k + 1)) (2 * k + 1)) := ⟨ti_63_ok, tiT_rlllllll_ok, tiT_rllllllr_ok⟩
theorem tiT_rlllllrll_ok : T.All (fun t i => mkTI Tryz.prog t = some i) tiT_rlllllrll (fun k => (fun k => (fun k => (fun k => (fun k => (fun k => (fun k => (fun k => id (2 * k + 1)) (2 * k + 1)) (2 * k + 1)) (2 * k + 1)) (2 * k + 1)) (2 * k + 2)) (2 * k + 1)) (2 * k + 1)) := ⟨ti_287_ok, trivial, trivial⟩
theorem tiT_rlllllrlr_ok : T.All (fun t i => mkTI Tryz.prog t = some i) tiT_rlllllrlr (fun k => (fun k => (fun k => (fun k => (fun k => (fun k => (fun k => (fun k => id (2 * k + 1)) (2 * k + 1)) (2 * k + 1)) (2 * k + 1)) (2 * k + 1)) (2 * k + 2)) (2 * k + 1)) (2 * k + 2)) := ⟨ti_415_ok, trivial, trivial⟩
theorem tiT_rlllllrl_ok : T.All (fun t i => mkTI Tryz.prog t = some i) tiT_rlllllrl (fun k => (fun k => (fun k => (fun k => (fun k => (fun k => (fun k => id (2 * k + 1)) (2 * k + 1)) (2 * k + 1)) (2 * k + 1)) (2 * k + 1)) (2 * k + 2)) (2 * k + 1)) := ⟨ti_159_ok, tiT_rlllllrll_ok, tiT_rlllllrlr_ok⟩
theorem tiT_rlllllrrl_ok : T.All (fun t i => mkTI Tryz.prog t = some i) tiT_rlllllrrl (fun k => (fun k => (fun k => (fun k => (fun k => (fun k => (fun k => (fun k => id (2 * k + 1)) (2 * k + 1)) (2 * k + 1)) (2 * k + 1)) (2 * k + 1)) (2 * k + 2)) (2 * k + 2)) (2 * k + 1)) := ⟨ti_351_ok, trivial, trivial⟩
theorem tiT_rlllllrr_ok : T.All (fun t i => mkTI Tryz.prog t = some i) tiT_rlllllrr (fun k => (fun k => (fun k => (fun k => (fun k => (fun k => (fun k => id (2 * k + 1)) (2 * k + 1)) (2 * k + 1)) (2 * k + 1)) (2 * k + 1)) (2 * k + 2)) (2 * k + 2)) := ⟨ti_223_ok, tiT_rlllllrrl_ok, trivial⟩
theorem tiT_rlllllr_ok : T.All (fun t i => mkTI Tryz.prog t = some i) tiT_rlllllr (fun k => (fun k => (fun k => (fun k => (fun k => (fun k => id (2 * k + 1)) (2 * k + 1)) (2 * k + 1)) (2 * k + 1)) (2 * k + 1)) (2 * k + 2)) := ⟨ti_95_ok, tiT_rlllllrl_ok, tiT_rlllllrr_ok⟩
theorem tiT_rlllll_ok : T.All (fun t i => mkTI Tryz.prog t = some i) tiT_rlllll (fun k => (fun k => (fun k => (fun k => (fun k => id (2 * k + 1)) (2 * k + 1)) (2 * k + 1)) (2 * k + 1)) (2 * k + 1)) := ⟨ti_31_ok, tiT_rllllll_ok, tiT_rlllllr_ok⟩
theorem tiT_rllllrlll_ok : T.All (fun t i => mkTI Tryz.prog t = some i) tiT_rllllrlll (fun k => (fun k => (fun k => (fun k => (fun k => (fun k => (fun k => (fun k => id (2 * k + 1)) (2 * k + 1)) (2 * k + 1)) (2 * k + 1)) (2 * k + 2)) (2 * k + 1)) (2 * k + 1)) (2 * k + 1)) := ⟨ti_271_ok, trivial, trivial⟩
theorem tiT_rllllrllr_ok : T.All (fun t i => mkTI Tryz.prog t = some i) tiT_rllllrllr (fun k => (fun k => (fun k => (fun k => (fun k => (fun k => (fun k => (fun k => id (2 * k + 1)) (2 * k + 1)) (2 * k + 1)) (2 * k + 1)) (2 * k + 2)) (2 * k + 1)) (2 * k + 1)) (2 * k + 2)) := ⟨ti_399_ok, trivial, trivial⟩
theorem tiT_rllllrll_ok : T.All (fun t i => mkTI Tryz.prog t = some i) tiT_rllllrll (fun k => (fun k => (fun k => (fun k => (fun k => (fun k => (fun k => id (2 * k + 1)) (2 * k + 1)) (2 * k + 1)) (2 * k + 1)) (2 * k + 2)) (2 * k + 1)) (2 * k + 1)) := ⟨ti_143_ok, tiT_rllllrlll_ok, tiT_rllllrllr_ok⟩
theorem tiT_rllllrlrl_ok : T.All (fun t i => mkTI Tryz.prog t = some i) tiT_rllllrlrl (fun k => (fun k => (fun k => (fun k => (fun k => (fun k => (fun k => (fun k => id (2 * k + 1)) (2 * k + 1)) (2 * k + 1)) (2 * k + 1)) (2 * k + 2)) (2 * k + 1)) (2 * k + 2)) (2 * k + 1)) := ⟨ti_335_ok, trivial, trivial⟩
theorem tiT_rllllrlr_ok : T.All (fun t i => mkTI Tryz.prog t = some i) tiT_rllllrlr (fun k => (fun k => (fun k => (fun k => (fun k => (fun k => (fun k => id (2 * k + 1)) (2 * k + 1)) (2 * k + 1)) (2 * k + 1)) (2 * k + 2)) (2 * k + 1)) (2 * k + 2)) := ⟨ti_207_ok, tiT_rllllrlrl_ok, trivial⟩
theorem tiT_rllllrl_ok : T.All (fun t i => mkTI Tryz.prog t = some i) tiT_rllllrl (fun k => (fun k => (fun k => (fun k => (fun k => (fun k => id (2 * k + 1)) (2 * k + 1)) (2 * k + 1)) (2 * k + 1)) (2 * k + 2)) (2 * k + 1)) := ⟨ti_79_ok, tiT_rllllrll_ok, tiT_rllllrlr_ok⟩
theorem tiT_rllllrrll_ok : T.All (fun t i => mkTI Tryz.prog t = some i) tiT_rllllrrll (fun k => (fun k => (fun k => (fun k => (fun k => (fun k => (fun k => (fun k => id (2 * k + 1)) (2 * k + 1)) (2 * k + 1)) (2 * k + 1)) (2 * k + 2)) (2 * k + 2)) (2 * k + 1)) (2 * k + 1)) := ⟨ti_303_ok, trivial, trivial⟩
theorem tiT_rllllrrl_ok : T.All (fun t i => mkTI Tryz.prog t = some i) tiT_rllllrrl (fun k => (fun k => (fun k => (fun k => (fun k => (fun k => (fun k => id (2 * k + 1)) (2 * k + 1)) (2 * k + 1)) (2 * k + 1)) (2 * k + 2)) (2 * k + 2)) (2 * k + 1)) := ⟨ti_175_ok, tiT_rllllrrll_ok, trivial⟩
theorem tiT_rllllrrrl_ok : T.All (fun t i => mkTI Tryz.prog t = some i) tiT_rllllrrrl (fun k => (fun k => (fun k => (fun k => (fun k => (fun k => (fun k => (fun k => id (2 * k + 1)) (2 * k + 1)) (2 * k + 1)) (2 * k + 1)) (2 * k + 2)) (2 * k + 2)) (2 * k + 2)) (2 * k + 1)) := ⟨ti_367_ok, trivial, trivial⟩
theorem tiT_rllllrrr_ok : T.All (fun t i => mkTI Tryz.prog t = some i) tiT_rllllrrr (fun k => (fun k => (fun k => (fun k => (fun k => (fun k => (fun k => id (2 * k + 1)) (2 * k + 1)) (2 * k + 1)) (2 * k + 1)) (2 * k + 2)) (2 * k + 2)) (2 * k + 2)) := ⟨ti_239_ok, tiT_rllllrrrl_ok, trivial⟩
theorem tiT_rllllrr_ok : T.All (fun t i => mkTI Tryz.prog t = some i) tiT_rllllrr (fun k => (fun k => (fun k => (fun k => (fun k => (fun k => id (2 * k + 1)) (2 * k + 1)) (2 * k + 1)) (2 * k + 1)) (2 * k + 2)) (2 * k + 2)) := ⟨ti_111_ok, tiT_rllllrrl_ok, tiT_rllllrrr_ok⟩
theorem tiT_rllllr_ok : T.All (fun t i => mkTI Tryz.prog t = some i) tiT_rllllr (fun k => (fun k => (fun k => (fun k => (fun k => id (2 * k + 1)) (2 * k + 1)) (2 * k + 1)) (2 * k + 1)) (2 * k + 2)) := ⟨ti_47_ok, tiT_rllllrl_ok, tiT_rllllrr_ok⟩
theorem tiT_rllll_ok : T.All (fun t i => mkTI Tryz.prog t = some i) tiT_rllll (fun k => (fun k => (fun k => (fun k => id (2 * k + 1)) (2 * k + 1)) (2 * k + 1)) (2 * k + 1)) := ⟨ti_15_ok, tiT_rlllll_ok, tiT_rllllr_ok⟩
theorem tiT_rlllrllll_ok : T.All (fun t i => mkTI Tryz.prog t = some i) tiT_rlllrllll (fun k => (fun k => (fun k => (fun k => (fun k => (fun k => (fun k => (fun k => id (2 * k + 1)) (2 * k + 1)) (2 * k + 1)) (2 * k + 2)) (2 * k + 1)) (2 * k + 1)) (2 * k + 1)) (2 * k + 1)) := ⟨ti_263_ok, trivial, trivial⟩
theorem tiT_rlllrlllr_ok : T.All (fun t i => mkTI Tryz.prog t = some i) tiT_rlllrlllr (fun k => (fun k => (fun k => (fun k => (fun k => (fun k => (fun k => (fun k => id (2 * k + 1)) (2 * k + 1)) (2 * k + 1)) (2 * k + 2)) (2 * k + 1)) (2 * k + 1)) (2 * k + 1)) (2 * k + 2)) := ⟨ti_391_ok, trivial, trivial⟩
theorem tiT_rlllrlll_ok : T.All (fun t i => mkTI Tryz.prog t = some i) tiT_rlllrlll (fun k => (fun k => (fun k => (fun k => (fun k => (fun k => (fun k => id (2 * k + 1)) (2 * k + 1)) (2 * k + 1)) (2 * k + 2)) (2 * k + 1)) (2 * k + 1)) (2 * k + 1)) := ⟨ti_135_ok, tiT_rlllrllll_ok, tiT_rlllrlllr_ok⟩
theorem tiT_rlllrllrl_ok : T.All (fun t i => mkTI Tryz.prog t = some i) tiT_rlllrllrl (fun k => (fun k => (fun k => (fun k => (fun k => (fun k => (fun k => (fun k => id (2 * k + 1)) (2 * k + 1)) (2 * k + 1)) (2 * k + 2)) (2 * k + 1)) (2 * k + 1)) (2 * k + 2)) (2 * k + 1)) := ⟨ti_327_ok, trivial, trivial⟩
theorem tiT_rlllrllr_ok : T.All (fun t i => mkTI Tryz.prog t = some i) tiT_rlllrllr (fun k => (fun k => (fun k => (fun k => (fun k => (fun k => (fun k => id (2 * k + 1)) (2 * k + 1)) (2 * k + 1)) (2 * k + 2)) (2 * k + 1)) (2 * k + 1)) (2 * k + 2)) := ⟨ti_199_ok, tiT_rlllrllrl_ok, trivial⟩
theorem tiT_rlllrll_ok : T.All (fun t i => mkTI Tryz.prog t = some i) tiT_rlllrll (fun k => (fun k => (fun k => (fun k => (fun k => (fun k => id (2 * k + 1)) (2 * k + 1)) (2 * k + 1)) (2 * k + 2)) (2 * k + 1)) (2 * k + 1)) := ⟨ti_71_ok, tiT_rlllrlll_ok, tiT_rlllrllr_ok⟩
theorem tiT_rlllrlrlr_ok : T.All (fun t i => mkTI Tryz.prog t = some i) tiT_rlllrlrlr (fun k => (fun k => (fun k => (fun k => (fun k => (fun k => (fun k => (fun k => id (2 * k + 1)) (2 * k + 1)) (2 * k + 1)) (2 * k + 2)) (2 * k + 1)) (2 * k + 2)) (2 * k + 1)) (2 * k + 2)) := ⟨ti_423_ok, trivial, trivial⟩
theorem tiT_rlllrlrl_ok : T.All (fun t i => mkTI Tryz.prog t = some i) tiT_rlllrlrl (fun k => (fun k => (fun k => (fun k => (fun k => (fun k => (fun k => id (2 * k + 1)) (2 * k + 1)) (2 * k + 1)) (2 * k + 2)) (2 * k + 1)) (2 * k + 2)) (2 * k + 1)) := ⟨trivial, trivial, tiT_rlllrlrlr_ok⟩
theorem tiT_rlllrlrrl_ok : T.All (fun t i => mkTI Tryz.prog t = some i) tiT_rlllrlrrl (fun k => (fun k => (fun k => (fun k => (fun k => (fun k => (fun k => (fun k => id (2 * k + 1)) (2 * k + 1)) (2 * k + 1)) (2 * k + 2)) (2 * k + 1)) (2 * k + 2)) (2 * k + 2)) (2 * k + 1)) := ⟨ti_359_ok, trivial, trivial⟩
theorem tiT_rlllrlrr_ok : T.All (fun t i => mkTI Tryz.prog t = some i) tiT_rlllrlrr (fun k => (fun k => (fun k => (fun k => (fun k => (fun k => (fun k => id (2 * k + 1)) (2 * k + 1)) (2 * k + 1)) (2 * k + 2)) (2 * k + 1)) (2 * k + 2)) (2 * k + 2)) := ⟨ti_231_ok, tiT_rlllrlrrl_ok, trivial⟩
theorem tiT_rlllrlr_ok : T.All (fun t i => mkTI Tryz.prog t = some i) tiT_rlllrlr (fun k => (fun k => (fun k => (fun k => (fun k => (fun k => id (2 * k + 1)) (2 * k + 1)) (2 * k + 1)) (2 * k + 2)) (2 * k + 1)) (2 * k + 2)) := ⟨ti_103_ok, tiT_rlllrlrl_ok, tiT_rlllrlrr_ok⟩
theorem tiT_rlllrl_ok : T.All (fun t i => mkTI Tryz.prog t = some i) tiT_rlllrl (fun k => (fun k => (fun k => (fun k => (fun k => id (2 * k + 1)) (2 * k + 1)) (2 * k + 1)) (2 * k + 2)) (2 * k + 1)) := ⟨ti_39_ok, tiT_rlllrll_ok, tiT_rlllrlr_ok⟩
theorem tiT_rlllrrlll_ok : T.All (fun t i => mkTI Tryz.prog t = some i) tiT_rlllrrlll (fun k => (fun k => (fun k => (fun k => (fun k => (fun k => (fun k => (fun k => id (2 * k + 1)) (2 * k + 1)) (2 * k + 1)) (2 * k + 2)) (2 * k + 2)) (2 * k + 1)) (2 * k + 1)) (2 * k + 1)) := ⟨ti_279_ok, trivial, trivial⟩
theorem tiT_rlllrrllr_ok : T.All (fun t i => mkTI Tryz.prog t = some i) tiT_rlllrrllr (fun k => (fun k => (fun k => (fun k => (fun k => (fun k => (fun k => (fun k => id (2 * k + 1)) (2 * k + 1)) (2 * k + 1)) (2 * k + 2)) (2 * k + 2)) (2 * k + 1)) (2 * k + 1)) (2 * k + 2)) := ⟨ti_407_ok, trivial, trivial⟩
theorem tiT_rlllrrll_ok : T.All (fun t i => mkTI Tryz.prog t = some i) tiT_rlllrrll (fun k => (fun k => (fun k => (fun k => (fun k => (fun k => (fun k => id (2 * k + 1)) (2 * k + 1)) (2 * k + 1)) (2 * k + 2)) (2 * k + 2)) (2 * k + 1)) (2 * k + 1)) := ⟨ti_151_ok, tiT_rlllrrlll_ok, tiT_rlllrrllr_ok⟩
theorem tiT_rlllrrlrl_ok : T.All (fun t i => mkTI Tryz.prog t = some i) tiT_rlllrrlrl (fun k => (fun k => (fun k => (fun k => (fun k => (fun k => (fun k => (fun k => id (2 * k + 1)) (2 * k + 1)) (2 * k + 1)) (2 * k + 2)) (2 * k + 2)) (2 * k + 1)) (2 * k + 2)) (2 * k + 1)) := ⟨ti_343_ok, trivial, trivial⟩
theorem tiT_rlllrrlr_ok : T.All (fun t i => mkTI Tryz.prog t = some i) tiT_rlllrrlr (fun k => (fun k => (fun k => (fun k => (fun k => (fun k => (fun k => id (2 * k + 1)) (2 * k + 1)) (2 * k + 1)) (2 * k + 2)) (2 * k + 2)) (2 * k + 1)) (2 * k + 2)) := ⟨ti_215_ok, tiT_rlllrrlrl_ok, trivial⟩
theorem tiT_rlllrrl_ok : T.All (fun t i => mkTI Tryz.prog t = some i) tiT_rlllrrl (fun k => (fun k => (fun k => (fun k => (fun k => (fun k => id (2 * k + 1)) (2 * k + 1)) (2 * k + 1)) (2 * k + 2)) (2 * k + 2)) (2 * k + 1)) := ⟨trivial, tiT_rlllrrll_ok, tiT_rlllrrlr_ok⟩
theorem tiT_rlllrrrll_ok : T.All (fun t i => mkTI Tryz.prog t = some i) tiT_rlllrrrll (fun k => (fun k => (fun k => (fun k => (fun k => (fun k => (fun k => (fun k => id (2 * k + 1)) (2 * k + 1)) (2 * k + 1)) (2 * k + 2)) (2 * k + 2)) (2 * k + 2)) (2 * k + 1)) (2 * k + 1)) := ⟨ti_311_ok, trivial, trivial⟩
theorem tiT_rlllrrrl_ok : T.All (fun t i => mkTI Tryz.prog t = some i) tiT_rlllrrrl (fun k => (fun k => (fun k => (fun k => (fun k => (fun k => (fun k => id (2 * k + 1)) (2 * k + 1)) (2 * k + 1)) (2 * k + 2)) (2 * k + 2)) (2 * k + 2)) (2 * k + 1)) := ⟨ti_183_ok, tiT_rlllrrrll_ok, trivial⟩
theorem tiT_rlllrrrrl_ok : T.All (fun t i => mkTI Tryz.prog t = some i) tiT_rlllrrrrl (fun k => (fun k => (fun k => (fun k => (fun k => (fun k => (fun k => (fun k => id (2 * k + 1)) (2 * k + 1)) (2 * k + 1)) (2 * k + 2)) (2 * k + 2)) (2 * k + 2)) (2 * k + 2)) (2 * k + 1)) := ⟨ti_375_ok, trivial, trivial⟩
theorem tiT_rlllrrrr_ok : T.All (fun t i => mkTI Tryz.prog t = some i) tiT_rlllrrrr (fun k => (fun k => (fun k => (fun k => (fun k => (fun k => (fun k => id (2 * k + 1)) (2 * k + 1)) (2 * k + 1)) (2 * k + 2)) (2 * k + 2)) (2 * k + 2)) (2 * k + 2)) := ⟨ti_247_ok, tiT_rlllrrrrl_ok, trivial⟩
theorem tiT_rlllrrr_ok : T.All (fun t i => mkTI Tryz.prog t = some i) tiT_rlllrrr (fun k => (fun k => (fun k => (fun k => (fun k => (fun k => id (2 * k + 1)) (2 * k + 1)) (2 * k + 1)) (2 * k + 2)) (2 * k + 2)) (2 * k + 2)) := ⟨ti_119_ok, tiT_rlllrrrl_ok, tiT_rlllrrrr_ok⟩
theorem tiT_rlllrr_ok : T.All (fun t i => mkTI Tryz.prog t = some i) tiT_rlllrr (fun k => (fun k => (fun k => (fun k => (fun k => id (2 * k + 1)) (2 * k + 1)) (2 * k + 1)) (2 * k + 2)) (2 * k + 2)) := ⟨ti_55_ok, tiT_rlllrrl_ok, tiT_rlllrrr_ok⟩
theorem tiT_rlllr_ok : T.All (fun t i => mkTI Tryz.prog t = some i) tiT_rlllr (fun k => (fun k => (fun k => (fun k => id (2 * k + 1)) (2 * k + 1)) (2 * k + 1)) (2 * k + 2)) := ⟨ti_23_ok, tiT_rlllrl_ok, tiT_rlllrr_ok⟩
theorem tiT_rlll_ok : T.All (fun t i => mkTI Tryz.prog t = some i) tiT_rlll (fun k => (fun k => (fun k => id (2 * k + 1)) (2 * k + 1)) (2 * k + 1)) := ⟨ti_7_ok, tiT_rllll_ok, tiT_rlllr_ok⟩
theorem tiT_rllrlllll_ok : T.All (fun t i => mkTI Tryz.prog t = some i) tiT_rllrlllll (fun k => (fun k => (fun k => (fun k => (fun k => (fun k => (fun k => (fun k => id (2 * k + 1)) (2 * k + 1)) (2 * k + 2)) (2 * k + 1)) (2 * k + 1)) (2 * k + 1)) (2 * k + 1)) (2 * k + 1)) := ⟨ti_259_ok, trivial, trivial⟩
theorem tiT_rllrllllr_ok : T.All (fun t i => mkTI Tryz.prog t = some i) tiT_rllrllllr (fun k => (fun k => (fun k => (fun k => (fun k => (fun k => (fun k => (fun k => id (2 * k + 1)) (2 * k + 1)) (2 * k + 2)) (2 * k + 1)) (2 * k + 1)) (2 * k + 1)) (2 * k + 1)) (2 * k + 2)) := ⟨ti_387_ok, trivial, trivial⟩
theorem tiT_rllrllll_ok : T.All (fun t i => mkTI Tryz.prog t = some i) tiT_rllrllll (fun k => (fun k => (fun k => (fun k => (fun k => (fun k => (fun k => id (2 * k + 1)) (2 * k + 1)) (2 * k + 2)) (2 * k + 1)) (2 * k + 1)) (2 * k + 1)) (2 * k + 1)) := ⟨ti_131_ok, tiT_rllrlllll_ok, tiT_rllrllllr_ok⟩
theorem tiT_rllrlllrl_ok : T.All (fun t i => mkTI Tryz.prog t = some i) tiT_rllrlllrl (fun k => (fun k => (fun k => (fun k => (fun k => (fun k => (fun k => (fun k => id (2 * k + 1)) (2 * k + 1)) (2 * k + 2)) (2 * k + 1)) (2 * k + 1)) (2 * k + 1)) (2 * k + 2)) (2 * k + 1)) := ⟨ti_323_ok, trivial, trivial⟩
theorem tiT_rllrlllr_ok : T.All (fun t i => mkTI Tryz.prog t = some i) tiT_rllrlllr (fun k => (fun k => (fun k => (fun k => (fun k => (fun k => (fun k => id (2 * k + 1)) (2 * k + 1)) (2 * k + 2)) (2 * k + 1)) (2 * k + 1)) (2 * k + 1)) (2 * k + 2)) := ⟨trivial, tiT_rllrlllrl_ok, trivial⟩
theorem tiT_rllrlll_ok : T.All (fun t i => mkTI Tryz.prog t = some i) tiT_rllrlll (fun k => (fun k => (fun k => (fun k => (fun k => (fun k => id (2 * k + 1)) (2 * k + 1)) (2 * k + 2)) (2 * k + 1)) (2 * k + 1)) (2 * k + 1)) := ⟨ti_67_ok, tiT_rllrllll_ok, tiT_rllrlllr_ok⟩
theorem tiT_rllrllrlr_ok : T.All (fun t i => mkTI Tryz.prog t = some i) tiT_rllrllrlr (fun k => (fun k => (fun k => (fun k => (fun k => (fun k => (fun k => (fun k => id (2 * k + 1)) (2 * k + 1)) (2 * k + 2)) (2 * k + 1)) (2 * k + 1)) (2 * k + 2)) (2 * k + 1)) (2 * k + 2)) := ⟨ti_419_ok, trivial, trivial⟩
theorem tiT_rllrllrl_ok : T.All (fun t i => mkTI Tryz.prog t = some i) tiT_rllrllrl (fun k => (fun k => (fun k => (fun k => (fun k => (fun k => (fun k => id (2 * k + 1)) (2 * k + 1)) (2 * k + 2)) (2 * k + 1)) (2 * k + 1)) (2 * k + 2)) (2 * k + 1)) := ⟨ti_163_ok, trivial, tiT_rllrllrlr_ok⟩
theorem tiT_rllrllrrl_ok : T.All (fun t i => mkTI Tryz.prog t = some i) tiT_rllrllrrl (fun k => (fun k => (fun k => (fun k => (fun k => (fun k => (fun k => (fun k => id (2 * k + 1)) (2 * k + 1)) (2 * k + 2)) (2 * k + 1)) (2 * k + 1)) (2 * k + 2)) (2 * k + 2)) (2 * k + 1)) := ⟨ti_355_ok, trivial, trivial⟩
theorem tiT_rllrllrr_ok : T.All (fun t i => mkTI Tryz.prog t = some i) tiT_rllrllrr (fun k => (fun k => (fun k => (fun k => (fun k => (fun k => (fun k => id (2 * k + 1)) (2 * k + 1)) (2 * k + 2)) (2 * k + 1)) (2 * k + 1)) (2 * k + 2)) (2 * k + 2)) := ⟨ti_227_ok, tiT_rllrllrrl_ok, trivial⟩
theorem tiT_rllrllr_ok : T.All (fun t i => mkTI Tryz.prog t = some i) tiT_rllrllr (fun k => (fun k => (fun k => (fun k => (fun k => (fun k => id (2 * k + 1)) (2 * k + 1)) (2 * k + 2)) (2 * k + 1)) (2 * k + 1)) (2 * k + 2)) := ⟨trivial, tiT_rllrllrl_ok, tiT_rllrllrr_ok⟩
theorem tiT_rllrll_ok : T.All (fun t i => mkTI Tryz.prog t = some i) tiT_rllrll (fun k => (fun k => (fun k => (fun k => (fun k => id (2 * k + 1)) (2 * k + 1)) (2 * k + 2)) (2 * k + 1)) (2 * k + 1)) := ⟨trivial, tiT_rllrlll_ok, tiT_rllrllr_ok⟩
theorem tiT_rllrlrlll_ok : T.All (fun t i => mkTI Tryz.prog t = some i) tiT_rllrlrlll (fun k => (fun k => (fun k => (fun k => (fun k => (fun k => (fun k => (fun k => id (2 * k + 1)) (2 * k + 1)) (2 * k + 2)) (2 * k + 1)) (2 * k + 2)) (2 * k + 1)) (2 * k + 1)) (2 * k + 1)) := ⟨ti_275_ok, trivial, trivial⟩
theorem tiT_rllrlrllr_ok : T.All (fun t i => mkTI Tryz.prog t = some i) tiT_rllrlrllr (fun k => (fun k => (fun k => (fun k => (fun k => (fun k => (fun k => (fun k => id (2 * k + 1)) (2 * k + 1)) (2 * k + 2)) (2 * k + 1)) (2 * k + 2)) (2 * k + 1)) (2 * k + 1)) (2 * k + 2)) := ⟨ti_403_ok, trivial, trivial⟩
theorem tiT_rllrlrll_ok : T.All (fun t i => mkTI Tryz.prog t = some i) tiT_rllrlrll (fun k => (fun k => (fun k => (fun k => (fun k => (fun k => (fun k => id (2 * k + 1)) (2 * k + 1)) (2 * k + 2)) (2 * k + 1)) (2 * k + 2)) (2 * k + 1)) (2 * k + 1)) := ⟨ti_147_ok, tiT_rllrlrlll_ok, tiT_rllrlrllr_ok⟩
theorem tiT_rllrlrlrl_ok : T.All (fun t i => mkTI Tryz.prog t = some i) tiT_rllrlrlrl (fun k => (fun k => (fun k => (fun k => (fun k => (fun k => (fun k => (fun k => id (2 * k + 1)) (2 * k + 1)) (2 * k + 2)) (2 * k + 1)) (2 * k + 2)) (2 * k + 1)) (2 * k + 2)) (2 * k + 1)) := ⟨ti_339_ok, trivial, trivial⟩
theorem tiT_rllrlrlr_ok : T.All (fun t i => mkTI Tryz.prog t = some i) tiT_rllrlrlr (fun k => (fun k => (fun k => (fun k => (fun k => (fun k => (fun k => id (2 * k + 1)) (2 * k + 1)) (2 * k + 2)) (2 * k + 1)) (2 * k + 2)) (2 * k + 1)) (2 * k + 2)) := ⟨ti_211_ok, tiT_rllrlrlrl_ok, trivial⟩
theorem tiT_rllrlrl_ok : T.All (fun t i => mkTI Tryz.prog t = some i) tiT_rllrlrl (fun k => (fun k => (fun k => (fun k => (fun k => (fun k => id (2 * k + 1)) (2 * k + 1)) (2 * k + 2)) (2 * k + 1)) (2 * k + 2)) (2 * k + 1)) := ⟨ti_83_ok, tiT_rllrlrll_ok, tiT_rllrlrlr_ok⟩
theorem tiT_rllrlrrll_ok : T.All (fun t i => mkTI Tryz.prog t = some i) tiT_rllrlrrll (fun k => (fun k => (fun k => (fun k => (fun k => (fun k => (fun k => (fun k => id (2 * k + 1)) (2 * k + 1)) (2 * k + 2)) (2 * k + 1)) (2 * k + 2)) (2 * k + 2)) (2 * k + 1)) (2 * k + 1)) := ⟨ti_307_ok, trivial, trivial⟩
theorem tiT_rllrlrrl_ok : T.All (fun t i => mkTI Tryz.prog t = some i) tiT_rllrlrrl (fun k => (fun k => (fun k => (fun k => (fun k => (fun k => (fun k => id (2 * k + 1)) (2 * k + 1)) (2 * k + 2)) (2 * k + 1)) (2 * k + 2)) (2 * k + 2)) (2 * k + 1)) := ⟨ti_179_ok, tiT_rllrlrrll_ok, trivial⟩
theorem tiT_rllrlrrrl_ok : T.All (fun t i => mkTI Tryz.prog t = some i) tiT_rllrlrrrl (fun k => (fun k => (fun k => (fun k => (fun k => (fun k => (fun k => (fun k => id (2 * k + 1)) (2 * k + 1)) (2 * k + 2)) (2 * k + 1)) (2 * k + 2)) (2 * k + 2)) (2 * k + 2)) (2 * k + 1)) := ⟨ti_371_ok, trivial, trivial⟩
theorem tiT_rllrlrrr_ok : T.All (fun t i => mkTI Tryz.prog t = some i) tiT_rllrlrrr (fun k => (fun k => (fun k => (fun k => (fun k => (fun k => (fun k => id (2 * k + 1)) (2 * k + 1)) (2 * k + 2)) (2 * k + 1)) (2 * k + 2)) (2 * k + 2)) (2 * k + 2)) := ⟨ti_243_ok, tiT_rllrlrrrl_ok, trivial⟩
theorem tiT_rllrlrr_ok : T.All (fun t i => mkTI Tryz.prog t = some i) tiT_rllrlrr (fun k => (fun k => (fun k => (fun k => (fun k => (fun k => id (2 * k + 1)) (2 * k + 1)) (2 * k + 2)) (2 * k + 1)) (2 * k + 2)) (2 * k + 2)) := ⟨ti_115_ok, tiT_rllrlrrl_ok, tiT_rllrlrrr_ok⟩
theorem tiT_rllrlr_ok : T.All (fun t i => mkTI Tryz.prog t = some i) tiT_rllrlr (fun k => (fun k => (fun k => (fun k => (fun k => id (2 * k + 1)) (2 * k + 1)) (2 * k + 2)) (2 * k + 1)) (2 * k + 2)) := ⟨ti_51_ok, tiT_rllrlrl_ok, tiT_rllrlrr_ok⟩
theorem tiT_rllrl_ok : T.All (fun t i => mkTI Tryz.prog t = some i) tiT_rllrl (fun k => (fun k => (fun k => (fun k => id (2 * k + 1)) (2 * k + 1)) (2 * k + 2)) (2 * k + 1)) := ⟨ti_19_ok, tiT_rllrll_ok, tiT_rllrlr_ok⟩
theorem tiT_rllrrllll_ok : T.All (fun t i => mkTI Tryz.prog t = some i) tiT_rllrrllll (fun k => (fun k => (fun k => (fun k => (fun k => (fun k => (fun k => (fun k => id (2 * k + 1)) (2 * k + 1)) (2 * k + 2)) (2 * k + 2)) (2 * k + 1)) (2 * k + 1)) (2 * k + 1)) (2 * k + 1)) := ⟨ti_267_ok, trivial, trivial⟩
theorem tiT_rllrrlllr_ok : T.All (fun t i => mkTI Tryz.prog t = some i) tiT_rllrrlllr (fun k => (fun k => (fun k => (fun k => (fun k => (fun k => (fun k => (fun k => id (2 * k + 1)) (2 * k + 1)) (2 * k + 2)) (2 * k + 2)) (2 * k + 1)) (2 * k + 1)) (2 * k + 1)) (2 * k + 2)) := ⟨ti_395_ok, trivial, trivial⟩
theorem tiT_rllrrlll_ok : T.All (fun t i => mkTI Tryz.prog t = some i) tiT_rllrrlll (fun k => (fun k => (fun k => (fun k => (fun k => (fun k => (fun k => id (2 * k + 1)) (2 * k + 1)) (2 * k + 2)) (2 * k + 2)) (2 * k + 1)) (2 * k + 1)) (2 * k + 1)) := ⟨ti_139_ok, tiT_rllrrllll_ok, tiT_rllrrlllr_ok⟩
theorem tiT_rllrrllrl_ok : T.All (fun t i => mkTI Tryz.prog t = some i) tiT_rllrrllrl (fun k => (fun k => (fun k => (fun k => (fun k => (fun k => (fun k => (fun k => id (2 * k + 1)) (2 * k + 1)) (2 * k + 2)) (2 * k + 2)) (2 * k + 1)) (2 * k + 1)) (2 * k + 2)) (2 * k + 1)) := ⟨ti_331_ok, trivial, trivial⟩
theorem tiT_rllrrllr_ok : T.All (fun t i => mkTI Tryz.prog t = some i) tiT_rllrrllr (fun k => (fun k => (fun k => (fun k => (fun k => (fun k => (fun k => id (2 * k + 1)) (2 * k + 1)) (2 * k + 2)) (2 * k + 2)) (2 * k + 1)) (2 * k + 1)) (2 * k + 2)) := ⟨ti_203_ok, tiT_rllrrllrl_ok, trivial⟩
theorem tiT_rllrrll_ok : T.All (fun t i => mkTI Tryz.prog t = some i) tiT_rllrrll (fun k => (fun k => (fun k => (fun k => (fun k => (fun k => id (2 * k + 1)) (2 * k + 1)) (2 * k + 2)) (2 * k + 2)) (2 * k + 1)) (2 * k + 1)) := ⟨ti_75_ok, tiT_rllrrlll_ok, tiT_rllrrllr_ok⟩
theorem tiT_rllrrlrll_ok : T.All (fun t i => mkTI Tryz.prog t = some i) tiT_rllrrlrll (fun k => (fun k => (fun k => (fun k => (fun k => (fun k => (fun k => (fun k => id (2 * k + 1)) (2 * k + 1)) (2 * k + 2)) (2 * k + 2)) (2 * k + 1)) (2 * k + 2)) (2 * k + 1)) (2 * k + 1)) := ⟨ti_299_ok, trivial, trivial⟩
theorem tiT_rllrrlrlr_ok : T.All (fun t i => mkTI Tryz.prog t = some i) tiT_rllrrlrlr (fun k => (fun k => (fun k => (fun k => (fun k => (fun k => (fun k => (fun k => id (2 * k + 1)) (2 * k + 1)) (2 * k + 2)) (2 * k + 2)) (2 * k + 1)) (2 * k + 2)) (2 * k + 1)) (2 * k + 2)) := ⟨ti_427_ok, trivial, trivial⟩
theorem tiT_rllrrlrl_ok : T.All (fun t i => mkTI Tryz.prog t = some i) tiT_rllrrlrl (fun k => (fun k => (fun k => (fun k => (fun k => (fun k => (fun k => id (2 * k + 1)) (2 * k + 1)) (2 * k + 2)) (2 * k + 2)) (2 * k + 1)) (2 * k + 2)) (2 * k + 1)) := ⟨ti_171_ok, tiT_rllrrlrll_ok, tiT_rllrrlrlr_ok⟩
theorem tiT_rllrrlrrl_ok : T.All (fun t i => mkTI Tryz.prog t = some i) tiT_rllrrlrrl (fun k => (fun k => (fun k => (fun k => (fun k => (fun k => (fun k => (fun k => id (2 * k + 1)) (2 * k + 1)) (2 * k + 2)) (2 * k + 2)) (2 * k + 1)) (2 * k + 2)) (2 * k + 2)) (2 * k + 1)) := ⟨ti_363_ok, trivial, trivial⟩
theorem tiT_rllrrlrr_ok : T.All (fun t i => mkTI Tryz.prog t = some i) tiT_rllrrlrr (fun k => (fun k => (fun k => (fun k => (fun k => (fun k => (fun k => id (2 * k + 1)) (2 * k + 1)) (2 * k + 2)) (2 * k + 2)) (2 * k + 1)) (2 * k + 2)) (2 * k + 2)) := ⟨ti_235_ok, tiT_rllrrlrrl_ok, trivial⟩
theorem tiT_rllrrlr_ok : T.All (fun t i => mkTI Tryz.prog t = some i) tiT_rllrrlr (fun k => (fun k => (fun k => (fun k => (fun k => (fun k => id (2 * k + 1)) (2 * k + 1)) (2 * k + 2)) (2 * k + 2)) (2 * k + 1)) (2 * k + 2)) := ⟨ti_107_ok, tiT_rllrrlrl_ok, tiT_rllrrlrr_ok⟩
theorem tiT_rllrrl_ok : T.All (fun t i => mkTI Tryz.prog t = some i) tiT_rllrrl (fun k => (fun k => (fun k => (fun k => (fun k => id (2 * k + 1)) (2 * k + 1)) (2 * k + 2)) (2 * k + 2)) (2 * k + 1)) := ⟨ti_43_ok, tiT_rllrrll_ok, tiT_rllrrlr_ok⟩
theorem tiT_rllrrrlll_ok : T.All (fun t i => mkTI Tryz.prog t = some i) tiT_rllrrrlll (fun k => (fun k => (fun k => (fun k => (fun k => (fun k => (fun k => (fun k => id (2 * k + 1)) (2 * k + 1)) (2 * k + 2)) (2 * k + 2)) (2 * k + 2)) (2 * k + 1)) (2 * k + 1)) (2 * k + 1)) := ⟨ti_283_ok, trivial, trivial⟩
theorem tiT_rllrrrll_ok : T.All (fun t i => mkTI Tryz.prog t = some i) tiT_rllrrrll (fun k => (fun k => (fun k => (fun k => (fun k => (fun k => (fun k => id (2 * k + 1)) (2 * k + 1)) (2 * k + 2)) (2 * k + 2)) (2 * k + 2)) (2 * k + 1)) (2 * k + 1)) := ⟨ti_155_ok, tiT_rllrrrlll_ok, trivial⟩
theorem tiT_rllrrrlrl_ok : T.All (fun t i => mkTI Tryz.prog t = some i) tiT_rllrrrlrl (fun k => (fun k => (fun k => (fun k => (fun k => (fun k => (fun k => (fun k => id (2 * k + 1)) (2 * k + 1)) (2 * k + 2)) (2 * k + 2)) (2 * k + 2)) (2 * k + 1)) (2 * k + 2)) (2 * k + 1)) := ⟨ti_347_ok, trivial, trivial⟩
theorem tiT_rllrrrlr_ok : T.All (fun t i => mkTI Tryz.prog t = some i) tiT_rllrrrlr (fun k => (fun k => (fun k => (fun k => (fun k => (fun k => (fun k => id (2 * k + 1)) (2 * k + 1)) (2 * k + 2)) (2 * k + 2)) (2 * k + 2)) (2 * k + 1)) (2 * k + 2)) := ⟨ti_219_ok, tiT_rllrrrlrl_ok, trivial⟩
theorem tiT_rllrrrl_ok : T.All (fun t i => mkTI Tryz.prog t = some i) tiT_rllrrrl (fun k => (fun k => (fun k => (fun k => (fun k => (fun k => id (2 * k + 1)) (2 * k + 1)) (2 * k + 2)) (2 * k + 2)) (2 * k + 2)) (2 * k + 1)) := ⟨ti_91_ok, tiT_rllrrrll_ok, tiT_rllrrrlr_ok⟩
theorem tiT_rllrrrrll_ok : T.All (fun t i => mkTI Tryz.prog t = some i) tiT_rllrrrrll (fun k => (fun k => (fun k => (fun k => (fun k => (fun k => (fun k => (fun k => id (2 * k + 1)) (2 * k + 1)) (2 * k + 2)) (2 * k + 2)) (2 * k + 2)) (2 * k + 2)) (2 * k + 1)) (2 * k + 1)) := ⟨ti_315_ok, trivial, trivial⟩
theorem tiT_rllrrrrl_ok : T.All (fun t i => mkTI Tryz.prog t = some i) tiT_rllrrrrl (fun k => (fun k => (fun k => (fun k => (fun k => (fun k => (fun k => id (2 * k + 1)) (2 * k + 1)) (2 * k + 2)) (2 * k + 2)) (2 * k + 2)) (2 * k + 2)) (2 * k + 1)) := ⟨ti_187_ok, tiT_rllrrrrll_ok, trivial⟩
theorem tiT_rllrrrrrl_ok : T.All (fun t i => mkTI Tryz.prog t = some i) tiT_rllrrrrrl (fun k => (fun k => (fun k => (fun k => (fun k => (fun k => (fun k => (fun k => id (2 * k + 1)) (2 * k + 1)) (2 * k + 2)) (2 * k + 2)) (2 * k + 2)) (2 * k + 2)) (2 * k + 2)) (2 * k + 1)) := ⟨ti_379_ok, trivial, trivial⟩
theorem tiT_rllrrrrr_ok : T.All (fun t i => mkTI Tryz.prog t = some i) tiT_rllrrrrr (fun k => (fun k => (fun k => (fun k => (fun k => (fun k => (fun k => id (2 * k + 1)) (2 * k + 1)) (2 * k + 2)) (2 * k + 2)) (2 * k + 2)) (2 * k + 2)) (2 * k + 2)) := ⟨ti_251_ok, tiT_rllrrrrrl_ok, trivial⟩
theorem tiT_rllrrrr_ok : T.All (fun t i => mkTI Tryz.prog t = some i) tiT_rllrrrr (fun k => (fun k => (fun k => (fun k => (fun k => (fun k => id (2 * k + 1)) (2 * k + 1)) (2 * k + 2)) (2 * k + 2)) (2 * k + 2)) (2 * k + 2)) := ⟨ti_123_ok, tiT_rllrrrrl_ok, tiT_rllrrrrr_ok⟩
theorem tiT_rllrrr_ok : T.All (fun t i => mkTI Tryz.prog t = some i) tiT_rllrrr (fun k => (fun k => (fun k => (fun k => (fun k => id (2 * k + 1)) (2 * k + 1)) (2 * k + 2)) (2 * k + 2)) (2 * k + 2)) := ⟨ti_59_ok, tiT_rllrrrl_ok, tiT_rllrrrr_ok⟩
theorem tiT_rllrr_ok : T.All (fun t i => mkTI Tryz.prog t = some i) tiT_rllrr (fun k => (fun k => (fun k => (fun k => id (2 * k + 1)) (2 * k + 1)) (2 * k + 2)) (2 * k + 2)) := ⟨ti_27_ok, tiT_rllrrl_ok, tiT_rllrrr_ok⟩
theorem tiT_rllr_ok : T.All (fun t i => mkTI Tryz.prog t = some i) tiT_rllr (fun k => (fun k => (fun k => id (2 * k + 1)) (2 * k + 1)) (2 * k + 2)) := ⟨ti_11_ok, tiT_rllrl_ok, tiT_rllrr_ok⟩
theorem tiT_rll_ok : T.All (fun t i => mkTI Tryz.prog t = some i) tiT_rll (fun k => (fun k => id (2 * k + 1)) (2 * k + 1)) := ⟨ti_3_ok, tiT_rlll_ok, tiT_rllr_ok⟩
theorem tiT_rlrllllll_ok : T.All (fun t i => mkTI Tryz.prog t = some i) tiT_rlrllllll (fun k => (fun k => (fun k => (fun k => (fun k => (fun k => (fun k => (fun k => id (2 * k + 1)) (2 * k + 2)) (2 * k + 1)) (2 * k + 1)) (2 * k + 1)) (2 * k + 1)) (2 * k + 1)) (2 * k + 1)) := ⟨ti_257_ok, trivial, trivial⟩
theorem tiT_rlrlllllr_ok : T.All (fun t i => mkTI Tryz.prog t = some i) tiT_rlrlllllr (fun k => (fun k => (fun k => (fun k => (fun k => (fun k => (fun k => (fun k => id (2 * k + 1)) (2 * k + 2)) (2 * k + 1)) (2 * k + 1)) (2 * k + 1)) (2 * k + 1)) (2 * k + 1)) (2 * k + 2)) := ⟨ti_385_ok, trivial, trivial⟩
theorem tiT_rlrlllll_ok : T.All (fun t i => mkTI Tryz.prog t = some i) tiT_rlrlllll (fun k => (fun k => (fun k => (fun k => (fun k => (fun k => (fun k => id (2 * k + 1)) (2 * k + 2)) (2 * k + 1)) (2 * k + 1)) (2 * k + 1)) (2 * k + 1)) (2 * k + 1)) := ⟨ti_129_ok, tiT_rlrllllll_ok, tiT_rlrlllllr_ok⟩
theorem tiT_rlrllllrl_ok : T.All (fun t i => mkTI Tryz.prog t = some i) tiT_rlrllllrl (fun k => (fun k => (fun k => (fun k => (fun k => (fun k => (fun k => (fun k => id (2 * k + 1)) (2 * k + 2)) (2 * k + 1)) (2 * k + 1)) (2 * k + 1)) (2 * k + 1)) (2 * k + 2)) (2 * k + 1)) := ⟨ti_321_ok, trivial, trivial⟩
theorem tiT_rlrllllr_ok : T.All (fun t i => mkTI Tryz.prog t = some i) tiT_rlrllllr (fun k => (fun k => (fun k => (fun k => (fun k => (fun k => (fun k => id (2 * k + 1)) (2 * k + 2)) (2 * k + 1)) (2 * k + 1)) (2 * k + 1)) (2 * k + 1)) (2 * k + 2)) := ⟨trivial, tiT_rlrllllrl_ok, trivial⟩
theorem tiT_rlrllll_ok : T.All (fun t i => mkTI Tryz.prog t = some i) tiT_rlrllll (fun k => (fun k => (fun k => (fun k => (fun k => (fun k => id (2 * k + 1)) (2 * k + 2)) (2 * k + 1)) (2 * k + 1)) (2 * k + 1)) (2 * k + 1)) := ⟨ti_65_ok, tiT_rlrlllll_ok, tiT_rlrllllr_ok⟩
theorem tiT_rlrlllrll_ok : T.All (fun t i => mkTI Tryz.prog t = some i) tiT_rlrlllrll (fun k => (fun k => (fun k => (fun k => (fun k => (fun k => (fun k => (fun k => id (2 * k + 1)) (2 * k + 2)) (2 * k + 1)) (2 * k + 1)) (2 * k + 1)) (2 * k + 2)) (2 * k + 1)) (2 * k + 1)) := ⟨ti_289_ok, trivial, trivial⟩
theorem tiT_rlrlllrlr_ok : T.All (fun t i => mkTI Tryz.prog t = some i) tiT_rlrlllrlr (fun k => (fun k => (fun k => (fun k => (fun k => (fun k => (fun k => (fun k => id (2 * k + 1)) (2 * k + 2)) (2 * k + 1)) (2 * k + 1)) (2 * k + 1)) (2 * k + 2)) (2 * k + 1)) (2 * k + 2)) := ⟨ti_417_ok, trivial, trivial⟩
theorem tiT_rlrlllrl_ok : T.All (fun t i => mkTI Tryz.prog t = some i) tiT_rlrlllrl (fun k => (fun k => (fun k => (fun k => (fun k => (fun k => (fun k => id (2 * k + 1)) (2 * k + 2)) (2 * k + 1)) (2 * k + 1)) (2 * k + 1)) (2 * k + 2)) (2 * k + 1)) := ⟨trivial, tiT_rlrlllrll_ok, tiT_rlrlllrlr_ok⟩
theorem tiT_rlrlllrrl_ok : T.All (fun t i => mkTI Tryz.prog t = some i) tiT_rlrlllrrl (fun k => (fun k => (fun k => (fun k => (fun k => (fun k => (fun k => (fun k => id (2 * k + 1)) (2 * k + 2)) (2 * k + 1)) (2 * k + 1)) (2 * k + 1)) (2 * k + 2)) (2 * k + 2)) (2 * k + 1)) := ⟨ti_353_ok, trivial, trivial⟩
theorem tiT_rlrlllrr_ok : T.All (fun t i => mkTI Tryz.prog t = some i) tiT_rlrlllrr (fun k => (fun k => (fun k => (fun k => (fun k => (fun k => (fun k => id (2 * k + 1)) (2 * k + 2)) (2 * k + 1)) (2 * k + 1)) (2 * k + 1)) (2 * k + 2)) (2 * k + 2)) := ⟨ti_225_ok, tiT_rlrlllrrl_ok, trivial⟩
theorem tiT_rlrlllr_ok : T.All (fun t i => mkTI Tryz.prog t = some i) tiT_rlrlllr (fun k => (fun k => (fun k => (fun k => (fun k => (fun k => id (2 * k + 1)) (2 * k + 2)) (2 * k + 1)) (2 * k + 1)) (2 * k + 1)) (2 * k + 2)) := ⟨ti_97_ok, tiT_rlrlllrl_ok, tiT_rlrlllrr_ok⟩
theorem tiT_rlrlll_ok : T.All (fun t i => mkTI Tryz.prog t = some i) tiT_rlrlll (fun k => (fun k => (fun k => (fun k => (fun k => id (2 * k + 1)) (2 * k + 2)) (2 * k + 1)) (2 * k + 1)) (2 * k + 1)) := ⟨ti_33_ok, tiT_rlrllll_ok, tiT_rlrlllr_ok⟩
theorem tiT_rlrllrlll_ok : T.All (fun t i => mkTI Tryz.prog t = some i) tiT_rlrllrlll (fun k => (fun k => (fun k => (fun k => (fun k => (fun k => (fun k => (fun k => id (2 * k + 1)) (2 * k + 2)) (2 * k + 1)) (2 * k + 1)) (2 * k + 2)) (2 * k + 1)) (2 * k + 1)) (2 * k + 1)) := ⟨ti_273_ok, trivial, trivial⟩
theorem tiT_rlrllrllr_ok : T.All (fun t i => mkTI Tryz.prog t = some i) tiT_rlrllrllr (fun k => (fun k => (fun k => (fun k => (fun k => (fun k => (fun k => (fun k => id (2 * k + 1)) (2 * k + 2)) (2 * k + 1)) (2 * k + 1)) (2 * k + 2)) (2 * k + 1)) (2 * k + 1)) (2 * k + 2)) := ⟨ti_401_ok, trivial, trivial⟩
theorem tiT_rlrllrll_ok : T.All (fun t i => mkTI Tryz.prog t = some i) tiT_rlrllrll (fun k => (fun k => (fun k => (fun k => (fun k => (fun k => (fun k => id (2 * k + 1)) (2 * k + 2)) (2 * k + 1)) (2 * k + 1)) (2 * k + 2)) (2 * k + 1)) (2 * k + 1)) := ⟨ti_145_ok, tiT_rlrllrlll_ok, tiT_rlrllrllr_ok⟩
theorem tiT_rlrllrlrl_ok : T.All (fun t i => mkTI Tryz.prog t = some i) tiT_rlrllrlrl (fun k => (fun k => (fun k => (fun k => (fun k => (fun k => (fun k => (fun k => id (2 * k + 1)) (2 * k + 2)) (2 * k + 1)) (2 * k + 1)) (2 * k + 2)) (2 * k + 1)) (2 * k + 2)) (2 * k + 1)) := ⟨ti_337_ok, trivial, trivial⟩
theorem tiT_rlrllrlr_ok : T.All (fun t i => mkTI Tryz.prog t = some i) tiT_rlrllrlr (fun k => (fun k => (fun k => (fun k => (fun k => (fun k => (fun k => id (2 * k + 1)) (2 * k + 2)) (2 * k + 1)) (2 * k + 1)) (2 * k + 2)) (2 * k + 1)) (2 * k + 2)) := ⟨ti_209_ok, tiT_rlrllrlrl_ok, trivial⟩
theorem tiT_rlrllrl_ok : T.All (fun t i => mkTI Tryz.prog t = some i) tiT_rlrllrl (fun k => (fun k => (fun k => (fun k => (fun k => (fun k => id (2 * k + 1)) (2 * k + 2)) (2 * k + 1)) (2 * k + 1)) (2 * k + 2)) (2 * k + 1)) := ⟨ti_81_ok, tiT_rlrllrll_ok, tiT_rlrllrlr_ok⟩
theorem tiT_rlrllrrll_ok : T.All (fun t i => mkTI Tryz.prog t = some i) tiT_rlrllrrll (fun k => (fun k => (fun k => (fun k => (fun k => (fun k => (fun k => (fun k => id (2 * k + 1)) (2 * k + 2)) (2 * k + 1)) (2 * k + 1)) (2 * k + 2)) (2 * k + 2)) (2 * k + 1)) (2 * k + 1)) := ⟨ti_305_ok, trivial, trivial⟩
theorem tiT_rlrllrrl_ok : T.All (fun t i => mkTI Tryz.prog t = some i) tiT_rlrllrrl (fun k => (fun k => (fun k => (fun k => (fun k => (fun k => (fun k => id (2 * k + 1)) (2 * k + 2)) (2 * k + 1)) (2 * k + 1)) (2 * k + 2)) (2 * k + 2)) (2 * k + 1)) := ⟨ti_177_ok, tiT_rlrllrrll_ok, trivial⟩
theorem tiT_rlrllrrrl_ok : T.All (fun t i => mkTI Tryz.prog t = some i) tiT_rlrllrrrl (fun k => (fun k => (fun k => (fun k => (fun k => (fun k => (fun k => (fun k => id (2 * k + 1)) (2 * k + 2)) (2 * k + 1)) (2 * k + 1)) (2 * k + 2)) (2 * k + 2)) (2 * k + 2)) (2 * k + 1)) := ⟨ti_369_ok, trivial, trivial⟩
theorem tiT_rlrllrrr_ok : T.All (fun t i => mkTI Tryz.prog t = some i) tiT_rlrllrrr (fun k => (fun k => (fun k => (fun k => (fun k => (fun k => (fun k => id (2 * k + 1)) (2 * k + 2)) (2 * k + 1)) (2 * k + 1)) (2 * k + 2)) (2 * k + 2)) (2 * k + 2)) := ⟨ti_241_ok, tiT_rlrllrrrl_ok, trivial⟩
theorem tiT_rlrllrr_ok : T.All (fun t i => mkTI Tryz.prog t = some i) tiT_rlrllrr (fun k => (fun k => (fun k => (fun k => (fun k => (fun k => id (2 * k + 1)) (2 * k + 2)) (2 * k + 1)) (2 * k + 1)) (2 * k + 2)) (2 * k + 2)) := ⟨ti_113_ok, tiT_rlrllrrl_ok, tiT_rlrllrrr_ok⟩
theorem tiT_rlrllr_ok : T.All (fun t i => mkTI Tryz.prog t = some i) tiT_rlrllr (fun k => (fun k => (fun k => (fun k => (fun k => id (2 * k + 1)) (2 * k + 2)) (2 * k + 1)) (2 * k + 1)) (2 * k + 2)) := ⟨ti_49_ok, tiT_rlrllrl_ok, tiT_rlrllrr_ok⟩
theorem tiT_rlrll_ok : T.All (fun t i => mkTI Tryz.prog t = some i) tiT_rlrll (fun k => (fun k => (fun k => (fun k => id (2 * k + 1)) (2 * k + 2)) (2 * k + 1)) (2 * k + 1)) := ⟨ti_17_ok, tiT_rlrlll_ok, tiT_rlrllr_ok⟩
theorem tiT_rlrlrllll_ok : T.All (fun t i => mkTI Tryz.prog t = some i) tiT_rlrlrllll (fun k => (fun k => (fun k => (fun k => (fun k => (fun k => (fun k => (fun k => id (2 * k + 1)) (2 * k + 2)) (2 * k + 1)) (2 * k + 2)) (2 * k + 1)) (2 * k + 1)) (2 * k + 1)) (2 * k + 1)) := ⟨ti_265_ok, trivial, trivial⟩
theorem tiT_rlrlrlllr_ok : T.All (fun t i => mkTI Tryz.prog t = some i) tiT_rlrlrlllr (fun k => (fun k => (fun k => (fun k => (fun k => (fun k => (fun k => (fun k => id (2 * k + 1)) (2 * k + 2)) (2 * k + 1)) (2 * k + 2)) (2 * k + 1)) (2 * k + 1)) (2 * k + 1)) (2 * k + 2)) := ⟨ti_393_ok, trivial, trivial⟩
theorem tiT_rlrlrlll_ok : T.All (fun t i => mkTI Tryz.prog t = some i) tiT_rlrlrlll (fun k => (fun k => (fun k => (fun k => (fun k => (fun k => (fun k => id (2 * k + 1)) (2 * k + 2)) (2 * k + 1)) (2 * k + 2)) (2 * k + 1)) (2 * k + 1)) (2 * k + 1)) := ⟨ti_137_ok, tiT_rlrlrllll_ok, tiT_rlrlrlllr_ok⟩
theorem tiT_rlrlrllrl_ok : T.All (fun t i => mkTI Tryz.prog t = some i) tiT_rlrlrllrl (fun k => (fun k => (fun k => (fun k => (fun k => (fun k => (fun k => (fun k => id (2 * k + 1)) (2 * k + 2)) (2 * k + 1)) (2 * k + 2)) (2 * k + 1)) (2 * k + 1)) (2 * k + 2)) (2 * k + 1)) := ⟨ti_329_ok, trivial, trivial⟩
theorem tiT_rlrlrllr_ok : T.All (fun t i => mkTI Tryz.prog t = some i) tiT_rlrlrllr (fun k => (fun k => (fun k => (fun k => (fun k => (fun k => (fun k => id (2 * k + 1)) (2 * k + 2)) (2 * k + 1)) (2 * k + 2)) (2 * k + 1)) (2 * k + 1)) (2 * k + 2)) := ⟨trivial, tiT_rlrlrllrl_ok, trivial⟩
theorem tiT_rlrlrll_ok : T.All (fun t i => mkTI Tryz.prog t = some i) tiT_rlrlrll (fun k => (fun k => (fun k => (fun k => (fun k => (fun k => id (2 * k + 1)) (2 * k + 2)) (2 * k + 1)) (2 * k + 2)) (2 * k + 1)) (2 * k + 1)) := ⟨ti_73_ok, tiT_rlrlrlll_ok, tiT_rlrlrllr_ok⟩
theorem tiT_rlrlrlrll_ok : T.All (fun t i => mkTI Tryz.prog t = some i) tiT_rlrlrlrll (fun k => (fun k => (fun k => (fun k => (fun k => (fun k => (fun k => (fun k => id (2 * k + 1)) (2 * k + 2)) (2 * k + 1)) (2 * k + 2)) (2 * k + 1)) (2 * k + 2)) (2 * k + 1)) (2 * k + 1)) := ⟨ti_297_ok, trivial, trivial⟩
theorem tiT_rlrlrlrlr_ok : T.All (fun t i => mkTI Tryz.prog t = some i) tiT_rlrlrlrlr (fun k => (fun k => (fun k => (fun k => (fun k => (fun k => (fun k => (fun k => id (2 * k + 1)) (2 * k + 2)) (2 * k + 1)) (2 * k + 2)) (2 * k + 1)) (2 * k + 2)) (2 * k + 1)) (2 * k + 2)) := ⟨ti_425_ok, trivial, trivial⟩
theorem tiT_rlrlrlrl_ok : T.All (fun t i => mkTI Tryz.prog t = some i) tiT_rlrlrlrl (fun k => (fun k => (fun k => (fun k => (fun k => (fun k => (fun k => id (2 * k + 1)) (2 * k + 2)) (2 * k + 1)) (2 * k + 2)) (2 * k + 1)) (2 * k + 2)) (2 * k + 1)) := ⟨ti_169_ok, tiT_rlrlrlrll_ok, tiT_rlrlrlrlr_ok⟩
theorem tiT_rlrlrlrrl_ok : T.All (fun t i => mkTI Tryz.prog t = some i) tiT_rlrlrlrrl (fun k => (fun k => (fun k => (fun k => (fun k => (fun k => (fun k => (fun k => id (2 * k + 1)) (2 * k + 2)) (2 * k + 1)) (2 * k + 2)) (2 * k + 1)) (2 * k + 2)) (2 * k + 2)) (2 * k + 1)) := ⟨ti_361_ok, trivial, trivial⟩
theorem tiT_rlrlrlrr_ok : T.All (fun t i => mkTI Tryz.prog t = some i) tiT_rlrlrlrr (fun k => (fun k => (fun k => (fun k => (fun k => (fun k => (fun k => id (2 * k + 1)) (2 * k + 2)) (2 * k + 1)) (2 * k + 2)) (2 * k + 1)) (2 * k + 2)) (2 * k + 2)) := ⟨ti_233_ok, tiT_rlrlrlrrl_ok, trivial⟩
theorem tiT_rlrlrlr_ok : T.All (fun t i => mkTI Tryz.prog t = some i) tiT_rlrlrlr (fun k => (fun k => (fun k => (fun k => (fun k => (fun k => id (2 * k + 1)) (2 * k + 2)) (2 * k + 1)) (2 * k + 2)) (2 * k + 1)) (2 * k + 2)) := ⟨ti_105_ok, tiT_rlrlrlrl_ok, tiT_rlrlrlrr_ok⟩
theorem tiT_rlrlrl_ok : T.All (fun t i => mkTI Tryz.prog t = some i) tiT_rlrlrl (fun k => (fun k => (fun k => (fun k => (fun k => id (2 * k + 1)) (2 * k + 2)) (2 * k + 1)) (2 * k + 2)) (2 * k + 1)) := ⟨ti_41_ok, tiT_rlrlrll_ok, tiT_rlrlrlr_ok⟩
theorem tiT_rlrlrrllr_ok : T.All (fun t i => mkTI Tryz.prog t = some i) tiT_rlrlrrllr (fun k => (fun k => (fun k => (fun k => (fun k => (fun k => (fun k => (fun k => id (2 * k + 1)) (2 * k + 2)) (2 * k + 1)) (2 * k + 2)) (2 * k + 2)) (2 * k + 1)) (2 * k + 1)) (2 * k + 2)) := ⟨ti_409_ok, trivial, trivial⟩
theorem tiT_rlrlrrll_ok : T.All (fun t i => mkTI Tryz.prog t = some i) tiT_rlrlrrll (fun k => (fun k => (fun k => (fun k => (fun k => (fun k => (fun k => id (2 * k + 1)) (2 * k + 2)) (2 * k + 1)) (2 * k + 2)) (2 * k + 2)) (2 * k + 1)) (2 * k + 1)) := ⟨ti_153_ok, trivial, tiT_rlrlrrllr_ok⟩
theorem tiT_rlrlrrlrl_ok : T.All (fun t i => mkTI Tryz.prog t = some i) tiT_rlrlrrlrl (fun k => (fun k => (fun k => (fun k => (fun k => (fun k => (fun k => (fun k => id (2 * k + 1)) (2 * k + 2)) (2 * k + 1)) (2 * k + 2)) (2 * k + 2)) (2 * k + 1)) (2 * k + 2)) (2 * k + 1)) := ⟨ti_345_ok, trivial, trivial⟩
theorem tiT_rlrlrrlr_ok : T.All (fun t i => mkTI Tryz.prog t = some i) tiT_rlrlrrlr (fun k => (fun k => (fun k => (fun k => (fun k => (fun k => (fun k => id (2 * k + 1)) (2 * k + 2)) (2 * k + 1)) (2 * k + 2)) (2 * k + 2)) (2 * k + 1)) (2 * k + 2)) := ⟨ti_217_ok, tiT_rlrlrrlrl_ok, trivial⟩
theorem tiT_rlrlrrl_ok : T.All (fun t i => mkTI Tryz.prog t = some i) tiT_rlrlrrl (fun k => (fun k => (fun k => (fun k => (fun k => (fun k => id (2 * k + 1)) (2 * k + 2)) (2 * k + 1)) (2 * k + 2)) (2 * k + 2)) (2 * k + 1)) := ⟨ti_89_ok, tiT_rlrlrrll_ok, tiT_rlrlrrlr_ok⟩
theorem tiT_rlrlrrrll_ok : T.All (fun t i => mkTI Tryz.prog t = some i) tiT_rlrlrrrll (fun k => (fun k => (fun k => (fun k => (fun k => (fun k => (fun k => (fun k => id (2 * k + 1)) (2 * k + 2)) (2 * k + 1)) (2 * k + 2)) (2 * k + 2)) (2 * k + 2)) (2 * k + 1)) (2 * k + 1)) := ⟨ti_313_ok, trivial, trivial⟩
theorem tiT_rlrlrrrl_ok : T.All (fun t i => mkTI Tryz.prog t = some i) tiT_rlrlrrrl (fun k => (fun k => (fun k => (fun k => (fun k => (fun k => (fun k => id (2 * k + 1)) (2 * k + 2)) (2 * k + 1)) (2 * k + 2)) (2 * k + 2)) (2 * k + 2)) (2 * k + 1)) := ⟨ti_185_ok, tiT_rlrlrrrll_ok, trivial⟩
theorem tiT_rlrlrrrrl_ok : T.All (fun t i => mkTI Tryz.prog t = some i) tiT_rlrlrrrrl (fun k => (fun k => (fun k => (fun k => (fun k => (fun k => (fun k => (fun k => id (2 * k + 1)) (2 * k + 2)) (2 * k + 1)) (2 * k + 2)) (2 * k + 2)) (2 * k + 2)) (2 * k + 2)) (2 * k + 1)) := ⟨ti_377_ok, trivial, trivial⟩
theorem tiT_rlrlrrrr_ok : T.All (fun t i => mkTI Tryz.prog t = some i) tiT_rlrlrrrr (fun k => (fun k => (fun k => (fun k => (fun k => (fun k => (fun k => id (2 * k + 1)) (2 * k + 2)) (2 * k + 1)) (2 * k + 2)) (2 * k + 2)) (2 * k + 2)) (2 * k + 2)) := ⟨ti_249_ok, tiT_rlrlrrrrl_ok, trivial⟩
theorem tiT_rlrlrrr_ok : T.All (fun t i => mkTI Tryz.prog t = some i) tiT_rlrlrrr (fun k => (fun k => (fun k => (fun k => (fun k => (fun k => id (2 * k + 1)) (2 * k + 2)) (2 * k + 1)) (2 * k + 2)) (2 * k + 2)) (2 * k + 2)) := ⟨ti_121_ok, tiT_rlrlrrrl_ok, tiT_rlrlrrrr_ok⟩
theorem tiT_rlrlrr_ok : T.All (fun t i => mkTI Tryz.prog t = some i) tiT_rlrlrr (fun k => (fun k => (fun k => (fun k => (fun k => id (2 * k + 1)) (2 * k + 2)) (2 * k + 1)) (2 * k + 2)) (2 * k + 2)) := ⟨ti_57_ok, tiT_rlrlrrl_ok, tiT_rlrlrrr_ok⟩
theorem tiT_rlrlr_ok : T.All (fun t i => mkTI Tryz.prog t = some i) tiT_rlrlr (fun k => (fun k => (fun k => (fun k => id (2 * k + 1)) (2 * k + 2)) (2 * k + 1)) (2 * k + 2)) := ⟨ti_25_ok, tiT_rlrlrl_ok, tiT_rlrlrr_ok⟩
theorem tiT_rlrl_ok : T.All (fun t i => mkTI Tryz.prog t = some i) tiT_rlrl (fun k => (fun k => (fun k => id (2 * k + 1)) (2 * k + 2)) (2 * k + 1)) := ⟨ti_9_ok, tiT_rlrll_ok, tiT_rlrlr_ok⟩
theorem tiT_rlrrlllll_ok : T.All (fun t i => mkTI Tryz.prog t = some i) tiT_rlrrlllll (fun k => (fun k => (fun k => (fun k => (fun k => (fun k => (fun k => (fun k => id (2 * k + 1)) (2 * k + 2)) (2 * k + 2)) (2 * k + 1)) (2 * k + 1)) (2 * k + 1)) (2 * k + 1)) (2 * k + 1)) := ⟨ti_261_ok, trivial, trivial⟩
theorem tiT_rlrrllllr_ok : T.All (fun t i => mkTI Tryz.prog t = some i) tiT_rlrrllllr (fun k => (fun k => (fun k => (fun k => (fun k => (fun k => (fun k => (fun k => id (2 * k + 1)) (2 * k + 2)) (2 * k + 2)) (2 * k + 1)) (2 * k + 1)) (2 * k + 1)) (2 * k + 1)) (2 * k + 2)) := ⟨ti_389_ok, trivial, trivial⟩
theorem tiT_rlrrllll_ok : T.All (fun t i => mkTI Tryz.prog t = some i) tiT_rlrrllll (fun k => (fun k => (fun k => (fun k => (fun k => (fun k => (fun k => id (2 * k + 1)) (2 * k + 2)) (2 * k + 2)) (2 * k + 1)) (2 * k + 1)) (2 * k + 1)) (2 * k + 1)) := ⟨ti_133_ok, tiT_rlrrlllll_ok, tiT_rlrrllllr_ok⟩
theorem tiT_rlrrlllrl_ok : T.All (fun t i => mkTI Tryz.prog t = some i) tiT_rlrrlllrl (fun k => (fun k => (fun k => (fun k => (fun k => (fun k => (fun k => (fun k => id (2 * k + 1)) (2 * k + 2)) (2 * k + 2)) (2 * k + 1)) (2 * k + 1)) (2 * k + 1)) (2 * k + 2)) (2 * k + 1)) := ⟨ti_325_ok, trivial, trivial⟩
theorem tiT_rlrrlllr_ok : T.All (fun t i => mkTI Tryz.prog t = some i) tiT_rlrrlllr (fun k => (fun k => (fun k => (fun k => (fun k => (fun k => (fun k => id (2 * k + 1)) (2 * k + 2)) (2 * k + 2)) (2 * k + 1)) (2 * k + 1)) (2 * k + 1)) (2 * k + 2)) := ⟨ti_197_ok, tiT_rlrrlllrl_ok, trivial⟩
theorem tiT_rlrrlll_ok : T.All (fun t i => mkTI Tryz.prog t = some i) tiT_rlrrlll (fun k => (fun k => (fun k => (fun k => (fun k => (fun k => id (2 * k + 1)) (2 * k + 2)) (2 * k + 2)) (2 * k + 1)) (2 * k + 1)) (2 * k + 1)) := ⟨ti_69_ok, tiT_rlrrllll_ok, tiT_rlrrlllr_ok⟩
theorem tiT_rlrrllrll_ok : T.All (fun t i => mkTI Tryz.prog t = some i) tiT_rlrrllrll (fun k => (fun k => (fun k => (fun k => (fun k => (fun k => (fun k => (fun k => id (2 * k + 1)) (2 * k + 2)) (2 * k + 2)) (2 * k + 1)) (2 * k + 1)) (2 * k + 2)) (2 * k + 1)) (2 * k + 1)) := ⟨ti_293_ok, trivial, trivial⟩
theorem tiT_rlrrllrlr_ok : T.All (fun t i => mkTI Tryz.prog t = some i) tiT_rlrrllrlr (fun k => (fun k => (fun k => (fun k => (fun k => (fun k => (fun k => (fun k => id (2 * k + 1)) (2 * k + 2)) (2 * k + 2)) (2 * k + 1)) (2 * k + 1)) (2 * k + 2)) (2 * k + 1)) (2 * k + 2)) := ⟨ti_421_ok, trivial, trivial⟩
theorem tiT_rlrrllrl_ok : T.All (fun t i => mkTI Tryz.prog t = some i) tiT_rlrrllrl (fun k => (fun k => (fun k => (fun k => (fun k => (fun k => (fun k => id (2 * k + 1)) (2 * k + 2)) (2 * k + 2)) (2 * k + 1)) (2 * k + 1)) (2 * k + 2)) (2 * k + 1)) := ⟨ti_165_ok, tiT_rlrrllrll_ok, tiT_rlrrllrlr_ok⟩
theorem tiT_rlrrllrrl_ok : T.All (fun t i => mkTI Tryz.prog t = some i) tiT_rlrrllrrl (fun k => (fun k => (fun k => (fun k => (fun k => (fun k => (fun k => (fun k => id (2 * k + 1)) (2 * k + 2)) (2 * k + 2)) (2 * k + 1)) (2 * k + 1)) (2 * k + 2)) (2 * k + 2)) (2 * k + 1)) := ⟨ti_357_ok, trivial, trivial⟩
theorem tiT_rlrrllrr_ok : T.All (fun t i => mkTI Tryz.prog t = some i) tiT_rlrrllrr (fun k => (fun k => (fun k => (fun k => (fun k => (fun k => (fun k => id (2 * k + 1)) (2 * k + 2)) (2 * k + 2)) (2 * k + 1)) (2 * k + 1)) (2 * k + 2)) (2 * k + 2)) := ⟨trivial, tiT_rlrrllrrl_ok, trivial⟩
theorem tiT_rlrrllr_ok : T.All (fun t i => mkTI Tryz.prog t = some i) tiT_rlrrllr (fun k => (fun k => (fun k => (fun k => (fun k => (fun k => id (2 * k + 1)) (2 * k + 2)) (2 * k + 2)) (2 * k + 1)) (2 * k + 1)) (2 * k + 2)) := ⟨ti_101_ok, tiT_rlrrllrl_ok, tiT_rlrrllrr_ok⟩
theorem tiT_rlrrll_ok : T.All (fun t i => mkTI Tryz.prog t = some i) tiT_rlrrll (fun k => (fun k => (fun k => (fun k => (fun k => id (2 * k + 1)) (2 * k + 2)) (2 * k + 2)) (2 * k + 1)) (2 * k + 1)) := ⟨ti_37_ok, tiT_rlrrlll_ok, tiT_rlrrllr_ok⟩
theorem tiT_rlrrlrlll_ok : T.All (fun t i => mkTI Tryz.prog t = some i) tiT_rlrrlrlll (fun k => (fun k => (fun k => (fun k => (fun k => (fun k => (fun k => (fun k => id (2 * k + 1)) (2 * k + 2)) (2 * k + 2)) (2 * k + 1)) (2 * k + 2)) (2 * k + 1)) (2 * k + 1)) (2 * k + 1)) := ⟨ti_277_ok, trivial, trivial⟩
theorem tiT_rlrrlrllr_ok : T.All (fun t i => mkTI Tryz.prog t = some i) tiT_rlrrlrllr (fun k => (fun k => (fun k => (fun k => (fun k => (fun k => (fun k => (fun k => id (2 * k + 1)) (2 * k + 2)) (2 * k + 2)) (2 * k + 1)) (2 * k + 2)) (2 * k + 1)) (2 * k + 1)) (2 * k + 2)) := ⟨ti_405_ok, trivial, trivial⟩
theorem tiT_rlrrlrll_ok : T.All (fun t i => mkTI Tryz.prog t = some i) tiT_rlrrlrll (fun k => (fun k => (fun k => (fun k => (fun k => (fun k => (fun k => id (2 * k + 1)) (2 * k + 2)) (2 * k + 2)) (2 * k + 1)) (2 * k + 2)) (2 * k + 1)) (2 * k + 1)) := ⟨ti_149_ok, tiT_rlrrlrlll_ok, tiT_rlrrlrllr_ok⟩
theorem tiT_rlrrlrlrl_ok : T.All (fun t i => mkTI Tryz.prog t = some i) tiT_rlrrlrlrl (fun k => (fun k => (fun k => (fun k => (fun k => (fun k => (fun k => (fun k => id (2 * k + 1)) (2 * k + 2)) (2 * k + 2)) (2 * k + 1)) (2 * k + 2)) (2 * k + 1)) (2 * k + 2)) (2 * k + 1)) := ⟨ti_341_ok, trivial, trivial⟩
theorem tiT_rlrrlrlr_ok : T.All (fun t i => mkTI Tryz.prog t = some i) tiT_rlrrlrlr (fun k => (fun k => (fun k => (fun k => (fun k => (fun k => (fun k => id (2 * k + 1)) (2 * k + 2)) (2 * k + 2)) (2 * k + 1)) (2 * k + 2)) (2 * k + 1)) (2 * k + 2)) := ⟨ti_213_ok, tiT_rlrrlrlrl_ok, trivial⟩
theorem tiT_rlrrlrl_ok : T.All (fun t i => mkTI Tryz.prog t = some i) tiT_rlrrlrl (fun k => (fun k => (fun k => (fun k => (fun k => (fun k => id (2 * k + 1)) (2 * k + 2)) (2 * k + 2)) (2 * k + 1)) (2 * k + 2)) (2 * k + 1)) := ⟨trivial, tiT_rlrrlrll_ok, tiT_rlrrlrlr_ok⟩
theorem tiT_rlrrlrrll_ok : T.All (fun t i => mkTI Tryz.prog t = some i) tiT_rlrrlrrll (fun k => (fun k => (fun k => (fun k => (fun k => (fun k => (fun k => (fun k => id (2 * k + 1)) (2 * k + 2)) (2 * k + 2)) (2 * k + 1)) (2 * k + 2)) (2 * k + 2)) (2 * k + 1)) (2 * k + 1)) := ⟨ti_309_ok, trivial, trivial⟩
theorem tiT_rlrrlrrl_ok : T.All (fun t i => mkTI Tryz.prog t = some i) tiT_rlrrlrrl (fun k => (fun k => (fun k => (fun k => (fun k => (fun k => (fun k => id (2 * k + 1)) (2 * k + 2)) (2 * k + 2)) (2 * k + 1)) (2 * k + 2)) (2 * k + 2)) (2 * k + 1)) := ⟨ti_181_ok, tiT_rlrrlrrll_ok, trivial⟩
theorem tiT_rlrrlrrrl_ok : T.All (fun t i => mkTI Tryz.prog t = some i) tiT_rlrrlrrrl (fun k => (fun k => (fun k => (fun k => (fun k => (fun k => (fun k => (fun k => id (2 * k + 1)) (2 * k + 2)) (2 * k + 2)) (2 * k + 1)) (2 * k + 2)) (2 * k + 2)) (2 * k + 2)) (2 * k + 1)) := ⟨ti_373_ok, trivial, trivial⟩
theorem tiT_rlrrlrrr_ok : T.All (fun t i => mkTI Tryz.prog t = some i) tiT_rlrrlrrr (fun k => (fun k => (fun k => (fun k => (fun k => (fun k => (fun k => id (2 * k + 1)) (2 * k + 2)) (2 * k + 2)) (2 * k + 1)) (2 * k + 2)) (2 * k + 2)) (2 * k + 2)) := ⟨ti_245_ok, tiT_rlrrlrrrl_ok, trivial⟩
theorem tiT_rlrrlrr_ok : T.All (fun t i => mkTI Tryz.prog t = some i) tiT_rlrrlrr (fun k => (fun k => (fun k => (fun k => (fun k => (fun k => id (2 * k + 1)) (2 * k + 2)) (2 * k + 2)) (2 * k + 1)) (2 * k + 2)) (2 * k + 2)) := ⟨ti_117_ok, tiT_rlrrlrrl_ok, tiT_rlrrlrrr_ok⟩
theorem tiT_rlrrlr_ok : T.All (fun t i => mkTI Tryz.prog t = some i) tiT_rlrrlr (fun k => (fun k => (fun k => (fun k => (fun k => id (2 * k + 1)) (2 * k + 2)) (2 * k + 2)) (2 * k + 1)) (2 * k + 2)) := ⟨ti_53_ok, tiT_rlrrlrl_ok, tiT_rlrrlrr_ok⟩
theorem tiT_rlrrl_ok : T.All (fun t i => mkTI Tryz.prog t = some i) tiT_rlrrl (fun k => (fun k => (fun k => (fun k => id (2 * k + 1)) (2 * k + 2)) (2 * k + 2)) (2 * k + 1)) := ⟨ti_21_ok, tiT_rlrrll_ok, tiT_rlrrlr_ok⟩
theorem tiT_rlrrrllll_ok : T.All (fun t i => mkTI Tryz.prog t = some i) tiT_rlrrrllll (fun k => (fun k => (fun k => (fun k => (fun k => (fun k => (fun k => (fun k => id (2 * k + 1)) (2 * k + 2)) (2 * k + 2)) (2 * k + 2)) (2 * k + 1)) (2 * k + 1)) (2 * k + 1)) (2 * k + 1)) := ⟨ti_269_ok, trivial, trivial⟩
theorem tiT_rlrrrlllr_ok : T.All (fun t i => mkTI Tryz.prog t = some i) tiT_rlrrrlllr (fun k => (fun k => (fun k => (fun k => (fun k => (fun k => (fun k => (fun k => id (2 * k + 1)) (2 * k + 2)) (2 * k + 2)) (2 * k + 2)) (2 * k + 1)) (2 * k + 1)) (2 * k + 1)) (2 * k + 2)) := ⟨ti_397_ok, trivial, trivial⟩
theorem tiT_rlrrrlll_ok : T.All (fun t i => mkTI Tryz.prog t = some i) tiT_rlrrrlll (fun k => (fun k => (fun k => (fun k => (fun k => (fun k => (fun k => id (2 * k + 1)) (2 * k + 2)) (2 * k + 2)) (2 * k + 2)) (2 * k + 1)) (2 * k + 1)) (2 * k + 1)) := ⟨ti_141_ok, tiT_rlrrrllll_ok, tiT_rlrrrlllr_ok⟩
theorem tiT_rlrrrllrl_ok : T.All (fun t i => mkTI Tryz.prog t = some i) tiT_rlrrrllrl (fun k => (fun k => (fun k => (fun k => (fun k => (fun k => (fun k => (fun k => id (2 * k + 1)) (2 * k + 2)) (2 * k + 2)) (2 * k + 2)) (2 * k + 1)) (2 * k + 1)) (2 * k + 2)) (2 * k + 1)) := ⟨ti_333_ok, trivial, trivial⟩
theorem tiT_rlrrrllr_ok : T.All (fun t i => mkTI Tryz.prog t = some i) tiT_rlrrrllr (fun k => (fun k => (fun k => (fun k => (fun k => (fun k => (fun k => id (2 * k + 1)) (2 * k + 2)) (2 * k + 2)) (2 * k + 2)) (2 * k + 1)) (2 * k + 1)) (2 * k + 2)) := ⟨ti_205_ok, tiT_rlrrrllrl_ok, trivial⟩
theorem tiT_rlrrrll_ok : T.All (fun t i => mkTI Tryz.prog t = some i) tiT_rlrrrll (fun k => (fun k => (fun k => (fun k => (fun k => (fun k => id (2 * k + 1)) (2 * k + 2)) (2 * k + 2)) (2 * k + 2)) (2 * k + 1)) (2 * k + 1)) := ⟨ti_77_ok, tiT_rlrrrlll_ok, tiT_rlrrrllr_ok⟩
theorem tiT_rlrrrlrrl_ok : T.All (fun t i => mkTI Tryz.prog t = some i) tiT_rlrrrlrrl (fun k => (fun k => (fun k => (fun k => (fun k => (fun k => (fun k => (fun k => id (2 * k + 1)) (2 * k + 2)) (2 * k + 2)) (2 * k + 2)) (2 * k + 1)) (2 * k + 2)) (2 * k + 2)) (2 * k + 1)) := ⟨ti_365_ok, trivial, trivial⟩
theorem tiT_rlrrrlrr_ok : T.All (fun t i => mkTI Tryz.prog t = some i) tiT_rlrrrlrr (fun k => (fun k => (fun k => (fun k => (fun k => (fun k => (fun k => id (2 * k + 1)) (2 * k + 2)) (2 * k + 2)) (2 * k + 2)) (2 * k + 1)) (2 * k + 2)) (2 * k + 2)) := ⟨ti_237_ok, tiT_rlrrrlrrl_ok, trivial⟩
theorem tiT_rlrrrlr_ok : T.All (fun t i => mkTI Tryz.prog t = some i) tiT_rlrrrlr (fun k => (fun k => (fun k => (fun k => (fun k => (fun k => id (2 * k + 1)) (2 * k + 2)) (2 * k + 2)) (2 * k + 2)) (2 * k + 1)) (2 * k + 2)) := ⟨ti_109_ok, trivial, tiT_rlrrrlrr_ok⟩
theorem tiT_rlrrrl_ok : T.All (fun t i => mkTI Tryz.prog t = some i) tiT_rlrrrl (fun k => (fun k => (fun k => (fun k => (fun k => id (2 * k + 1)) (2 * k + 2)) (2 * k + 2)) (2 * k + 2)) (2 * k + 1)) := ⟨ti_45_ok, tiT_rlrrrll_ok, tiT_rlrrrlr_ok⟩
theorem tiT_rlrrrrlll_ok : T.All (fun t i => mkTI Tryz.prog t = some i) tiT_rlrrrrlll (fun k => (fun k => (fun k => (fun k => (fun k => (fun k => (fun k => (fun k => id (2 * k + 1)) (2 * k + 2)) (2 * k + 2)) (2 * k + 2)) (2 * k + 2)) (2 * k + 1)) (2 * k + 1)) (2 * k + 1)) := ⟨ti_285_ok, trivial, trivial⟩
theorem tiT_rlrrrrllr_ok : T.All (fun t i => mkTI Tryz.prog t = some i) tiT_rlrrrrllr (fun k => (fun k => (fun k => (fun k => (fun k => (fun k => (fun k => (fun k => id (2 * k + 1)) (2 * k + 2)) (2 * k + 2)) (2 * k + 2)) (2 * k + 2)) (2 * k + 1)) (2 * k + 1)) (2 * k + 2)) := ⟨ti_413_ok, trivial, trivial⟩
theorem tiT_rlrrrrll_ok : T.All (fun t i => mkTI Tryz.prog t = some i) tiT_rlrrrrll (fun k => (fun k => (fun k => (fun k => (fun k => (fun k => (fun k => id (2 * k + 1)) (2 * k + 2)) (2 * k + 2)) (2 * k + 2)) (2 * k + 2)) (2 * k + 1)) (2 * k + 1)) := ⟨ti_157_ok, tiT_rlrrrrlll_ok, tiT_rlrrrrllr_ok⟩
theorem tiT_rlrrrrlrl_ok : T.All (fun t i => mkTI Tryz.prog t = some i) tiT_rlrrrrlrl (fun k => (fun k => (fun k => (fun k => (fun k => (fun k => (fun k => (fun k => id (2 * k + 1)) (2 * k + 2)) (2 * k + 2)) (2 * k + 2)) (2 * k + 2)) (2 * k + 1)) (2 * k + 2)) (2 * k + 1)) := ⟨ti_349_ok, trivial, trivial⟩
theorem tiT_rlrrrrlr_ok : T.All (fun t i => mkTI Tryz.prog t = some i) tiT_rlrrrrlr (fun k => (fun k => (fun k => (fun k => (fun k => (fun k => (fun k => id (2 * k + 1)) (2 * k + 2)) (2 * k + 2)) (2 * k + 2)) (2 * k + 2)) (2 * k + 1)) (2 * k + 2)) := ⟨trivial, tiT_rlrrrrlrl_ok, trivial⟩
theorem tiT_rlrrrrl_ok : T.All (fun t i => mkTI Tryz.prog t = some i) tiT_rlrrrrl (fun k => (fun k => (fun k => (fun k => (fun k => (fun k => id (2 * k + 1)) (2 * k + 2)) (2 * k + 2)) (2 * k + 2)) (2 * k + 2)) (2 * k + 1)) := ⟨trivial, tiT_rlrrrrll_ok, tiT_rlrrrrlr_ok⟩
theorem tiT_rlrrrrrll_ok : T.All (fun t i => mkTI Tryz.prog t = some i) tiT_rlrrrrrll (fun k => (fun k => (fun k => (fun k => (fun k => (fun k => (fun k => (fun k => id (2 * k + 1)) (2 * k + 2)) (2 * k + 2)) (2 * k + 2)) (2 * k + 2)) (2 * k + 2)) (2 * k + 1)) (2 * k + 1)) := ⟨ti_317_ok, trivial, trivial⟩
theorem tiT_rlrrrrrl_ok : T.All (fun t i => mkTI Tryz.prog t = some i) tiT_rlrrrrrl (fun k => (fun k => (fun k => (fun k => (fun k => (fun k => (fun k => id (2 * k + 1)) (2 * k + 2)) (2 * k + 2)) (2 * k + 2)) (2 * k + 2)) (2 * k + 2)) (2 * k + 1)) := ⟨ti_189_ok, tiT_rlrrrrrll_ok, trivial⟩
theorem tiT_rlrrrrrrl_ok : T.All (fun t i => mkTI Tryz.prog t = some i) tiT_rlrrrrrrl (fun k => (fun k => (fun k => (fun k => (fun k => (fun k => (fun k => (fun k => id (2 * k + 1)) (2 * k + 2)) (2 * k + 2)) (2 * k + 2)) (2 * k + 2)) (2 * k + 2)) (2 * k + 2)) (2 * k + 1)) := ⟨ti_381_ok, trivial, trivial⟩
theorem tiT_rlrrrrrr_ok : T.All (fun t i => mkTI Tryz.prog t = some i) tiT_rlrrrrrr (fun k => (fun k => (fun k => (fun k => (fun k => (fun k => (fun k => id (2 * k + 1)) (2 * k + 2)) (2 * k + 2)) (2 * k + 2)) (2 * k + 2)) (2 * k + 2)) (2 * k + 2)) := ⟨ti_253_ok, tiT_rlrrrrrrl_ok, trivial⟩
theorem tiT_rlrrrrr_ok : T.All (fun t i => mkTI Tryz.prog t = some i) tiT_rlrrrrr (fun k => (fun k => (fun k => (fun k => (fun k => (fun k => id (2 * k + 1)) (2 * k + 2)) (2 * k + 2)) (2 * k + 2)) (2 * k + 2)) (2 * k + 2)) := ⟨ti_125_ok, tiT_rlrrrrrl_ok, tiT_rlrrrrrr_ok⟩
theorem tiT_rlrrrr_ok : T.All (fun t i => mkTI Tryz.prog t = some i) tiT_rlrrrr (fun k => (fun k => (fun k => (fun k => (fun k => id (2 * k + 1)) (2 * k + 2)) (2 * k + 2)) (2 * k + 2)) (2 * k + 2)) := ⟨ti_61_ok, tiT_rlrrrrl_ok, tiT_rlrrrrr_ok⟩
theorem tiT_rlrrr_ok : T.All (fun t i => mkTI Tryz.prog t = some i) tiT_rlrrr (fun k => (fun k => (fun k => (fun k => id (2 * k + 1)) (2 * k + 2)) (2 * k + 2)) (2 * k + 2)) := ⟨ti_29_ok, tiT_rlrrrl_ok, tiT_rlrrrr_ok⟩
theorem tiT_rlrr_ok : T.All (fun t i => mkTI Tryz.prog t = some i) tiT_rlrr (fun k => (fun k => (fun k => id (2 * k + 1)) (2 * k + 2)) (2 * k + 2)) := ⟨ti_13_ok, tiT_rlrrl_ok, tiT_rlrrr_ok⟩
theorem tiT_rlr_ok : T.All (fun t i => mkTI Tryz.prog t = some i) tiT_rlr (fun k => (fun k => id (2 * k + 1)) (2 * k + 2)) := ⟨ti_5_ok, tiT_rlrl_ok, tiT_rlrr_ok⟩
theorem tiT_rl_ok : T.All (fun t i => mkTI Tryz.prog t = some i) tiT_rl (fun k => id (2 * k + 1)) := ⟨ti_1_ok, tiT_rll_ok, tiT_rlr_ok⟩
theorem tiT_rrlllllll_ok : T.All (fun t i => mkTI Tryz.prog t = some i) tiT_rrlllllll (fun k => (fun k => (fun k => (fun k => (fun k => (fun k => (fun k => (fun k => id (2 * k + 2)) (2 * k + 1)) (2 * k + 1)) (2 * k + 1)) (2 * k + 1)) (2 * k + 1)) (2 * k + 1)) (2 * k + 1)) := ⟨ti_256_ok, trivial, trivial⟩
theorem tiT_rrllllllr_ok : T.All (fun t i => mkTI Tryz.prog t = some i) tiT_rrllllllr (fun k => (fun k => (fun k => (fun k => (fun k => (fun k => (fun k => (fun k => id (2 * k + 2)) (2 * k + 1)) (2 * k + 1)) (2 * k + 1)) (2 * k + 1)) (2 * k + 1)) (2 * k + 1)) (2 * k + 2)) := ⟨ti_384_ok, trivial, trivial⟩
theorem tiT_rrllllll_ok : T.All (fun t i => mkTI Tryz.prog t = some i) tiT_rrllllll (fun k => (fun k => (fun k => (fun k => (fun k => (fun k => (fun k => id (2 * k + 2)) (2 * k + 1)) (2 * k + 1)) (2 * k + 1)) (2 * k + 1)) (2 * k + 1)) (2 * k + 1)) := ⟨ti_128_ok, tiT_rrlllllll_ok, tiT_rrllllllr_ok⟩
theorem tiT_rrlllllrl_ok : T.All (fun t i => mkTI Tryz.prog t = some i) tiT_rrlllllrl (fun k => (fun k => (fun k => (fun k => (fun k => (fun k => (fun k => (fun k => id (2 * k + 2)) (2 * k + 1)) (2 * k + 1)) (2 * k + 1)) (2 * k + 1)) (2 * k + 1)) (2 * k + 2)) (2 * k + 1)) := ⟨ti_320_ok, trivial, trivial⟩
theorem tiT_rrlllllr_ok : T.All (fun t i => mkTI Tryz.prog t = some i) tiT_rrlllllr (fun k => (fun k => (fun k => (fun k => (fun k => (fun k => (fun k => id (2 * k + 2)) (2 * k + 1)) (2 * k + 1)) (2 * k + 1)) (2 * k + 1)) (2 * k + 1)) (2 * k + 2)) := ⟨ti_192_ok, tiT_rrlllllrl_ok, trivial⟩
theorem tiT_rrlllll_ok : T.All (fun t i => mkTI Tryz.prog t = some i) tiT_rrlllll (fun k => (fun k => (fun k => (fun k => (fun k => (fun k => id (2 * k + 2)) (2 * k + 1)) (2 * k + 1)) (2 * k + 1)) (2 * k + 1)) (2 * k + 1)) := ⟨ti_64_ok, tiT_rrllllll_ok, tiT_rrlllllr_ok⟩
theorem tiT_rrllllrll_ok : T.All (fun t i => mkTI Tryz.prog t = some i) tiT_rrllllrll (fun k => (fun k => (fun k => (fun k => (fun k => (fun k => (fun k => (fun k => id (2 * k + 2)) (2 * k + 1)) (2 * k + 1)) (2 * k + 1)) (2 * k + 1)) (2 * k + 2)) (2 * k + 1)) (2 * k + 1)) := ⟨ti_288_ok, trivial, trivial⟩
theorem tiT_rrllllrlr_ok : T.All (fun t i => mkTI Tryz.prog t = some i) tiT_rrllllrlr (fun k => (fun k => (fun k => (fun k => (fun k => (fun k => (fun k => (fun k => id (2 * k + 2)) (2 * k + 1)) (2 * k + 1)) (2 * k + 1)) (2 * k + 1)) (2 * k + 2)) (2 * k + 1)) (2 * k + 2)) := ⟨ti_416_ok, trivial, trivial⟩
theorem tiT_rrllllrl_ok : T.All (fun t i => mkTI Tryz.prog t = some i) tiT_rrllllrl (fun k => (fun k => (fun k => (fun k => (fun k => (fun k => (fun k => id (2 * k + 2)) (2 * k + 1)) (2 * k + 1)) (2 * k + 1)) (2 * k + 1)) (2 * k + 2)) (2 * k + 1)) := ⟨ti_160_ok, tiT_rrllllrll_ok, tiT_rrllllrlr_ok⟩
theorem tiT_rrllllrrl_ok : T.All (fun t i => mkTI Tryz.prog t = some i) tiT_rrllllrrl (fun k => (fun k => (fun k => (fun k => (fun k => (fun k => (fun k => (fun k => id (2 * k + 2)) (2 * k + 1)) (2 * k + 1)) (2 * k + 1)) (2 * k + 1)) (2 * k + 2)) (2 * k + 2)) (2 * k + 1)) := ⟨ti_352_ok, trivial, trivial⟩
theorem tiT_rrllllrr_ok : T.All (fun t i => mkTI Tryz.prog t = some i) tiT_rrllllrr (fun k => (fun k => (fun k => (fun k => (fun k => (fun k => (fun k => id (2 * k + 2)) (2 * k + 1)) (2 * k + 1)) (2 * k + 1)) (2 * k + 1)) (2 * k + 2)) (2 * k + 2)) := ⟨trivial, tiT_rrllllrrl_ok, trivial⟩
theorem tiT_rrllllr_ok : T.All (fun t i => mkTI Tryz.prog t = some i) tiT_rrllllr (fun k => (fun k => (fun k => (fun k => (fun k => (fun k => id (2 * k + 2)) (2 * k + 1)) (2 * k + 1)) (2 * k + 1)) (2 * k + 1)) (2 * k + 2)) := ⟨ti_96_ok, tiT_rrllllrl_ok, tiT_rrllllrr_ok⟩
theorem tiT_rrllll_ok : T.All (fun t i => mkTI Tryz.prog t = some i) tiT_rrllll (fun k => (fun k => (fun k => (fun k => (fun k => id (2 * k + 2)) (2 * k + 1)) (2 * k + 1)) (2 * k + 1)) (2 * k + 1)) := ⟨ti_32_ok, tiT_rrlllll_ok, tiT_rrllllr_ok⟩
theorem tiT_rrlllrlll_ok : T.All (fun t i => mkTI Tryz.prog t = some i) tiT_rrlllrlll (fun k => (fun k => (fun k => (fun k => (fun k => (fun k => (fun k => (fun k => id (2 * k + 2)) (2 * k + 1)) (2 * k + 1)) (2 * k + 1)) (2 * k + 2)) (2 * k + 1)) (2 * k + 1)) (2 * k + 1)) := ⟨ti_272_ok, trivial, trivial⟩
theorem tiT_rrlllrllr_ok : T.All (fun t i => mkTI Tryz.prog t = some i) tiT_rrlllrllr (fun k => (fun k => (fun k => (fun k => (fun k => (fun k => (fun k => (fun k => id (2 * k + 2)) (2 * k + 1)) (2 * k + 1)) (2 * k + 1)) (2 * k + 2)) (2 * k + 1)) (2 * k + 1)) (2 * k + 2)) := ⟨ti_400_ok, trivial, trivial⟩
theorem tiT_rrlllrll_ok : T.All (fun t i => mkTI Tryz.prog t = some i) tiT_rrlllrll (fun k => (fun k => (fun k => (fun k => (fun k => (fun k => (fun k => id (2 * k + 2)) (2 * k + 1)) (2 * k + 1)) (2 * k + 1)) (2 * k + 2)) (2 * k + 1)) (2 * k + 1)) := ⟨trivial, tiT_rrlllrlll_ok, tiT_rrlllrllr_ok⟩
theorem tiT_rrlllrlrl_ok : T.All (fun t i => mkTI Tryz.prog t = some i) tiT_rrlllrlrl (fun k => (fun k => (fun k => (fun k => (fun k => (fun k => (fun k => (fun k => id (2 * k + 2)) (2 * k + 1)) (2 * k + 1)) (2 * k + 1)) (2 * k + 2)) (2 * k + 1)) (2 * k + 2)) (2 * k + 1)) := ⟨ti_336_ok, trivial, trivial⟩
theorem tiT_rrlllrlr_ok : T.All (fun t i => mkTI Tryz.prog t = some i) tiT_rrlllrlr (fun k => (fun k => (fun k => (fun k => (fun k => (fun k => (fun k => id (2 * k + 2)) (2 * k + 1)) (2 * k + 1)) (2 * k + 1)) (2 * k + 2)) (2 * k + 1)) (2 * k + 2)) := ⟨trivial, tiT_rrlllrlrl_ok, trivial⟩
theorem tiT_rrlllrl_ok : T.All (fun t i => mkTI Tryz.prog t = some i) tiT_rrlllrl (fun k => (fun k => (fun k => (fun k => (fun k => (fun k => id (2 * k + 2)) (2 * k + 1)) (2 * k + 1)) (2 * k + 1)) (2 * k + 2)) (2 * k + 1)) := ⟨ti_80_ok, tiT_rrlllrll_ok, tiT_rrlllrlr_ok⟩
theorem tiT_rrlllrrll_ok : T.All (fun t i => mkTI Tryz.prog t = some i) tiT_rrlllrrll (fun k => (fun k => (fun k => (fun k => (fun k => (fun k => (fun k => (fun k => id (2 * k + 2)) (2 * k + 1)) (2 * k + 1)) (2 * k + 1)) (2 * k + 2)) (2 * k + 2)) (2 * k + 1)) (2 * k + 1)) := ⟨ti_304_ok, trivial, trivial⟩
theorem tiT_rrlllrrl_ok : T.All (fun t i => mkTI Tryz.prog t = some i) tiT_rrlllrrl (fun k => (fun k => (fun k => (fun k => (fun k => (fun k => (fun k => id (2 * k + 2)) (2 * k + 1)) (2 * k + 1)) (2 * k + 1)) (2 * k + 2)) (2 * k + 2)) (2 * k + 1)) := ⟨trivial, tiT_rrlllrrll_ok, trivial⟩
theorem tiT_rrlllrrrl_ok : T.All (fun t i => mkTI Tryz.prog t = some i) tiT_rrlllrrrl (fun k => (fun k => (fun k => (fun k => (fun k => (fun k => (fun k => (fun k => id (2 * k + 2)) (2 * k + 1)) (2 * k + 1)) (2 * k + 1)) (2 * k + 2)) (2 * k + 2)) (2 * k + 2)) (2 * k + 1)) := ⟨ti_368_ok, trivial, trivial⟩
theorem tiT_rrlllrrr_ok : T.All (fun t i => mkTI Tryz.prog t = some i) tiT_rrlllrrr (fun k => (fun k => (fun k => (fun k => (fun k => (fun k => (fun k => id (2 * k + 2)) (2 * k + 1)) (2 * k + 1)) (2 * k + 1)) (2 * k + 2)) (2 * k + 2)) (2 * k + 2)) := ⟨ti_240_ok, tiT_rrlllrrrl_ok, trivial⟩
theorem tiT_rrlllrr_ok : T.All (fun t i => mkTI Tryz.prog t = some i) tiT_rrlllrr (fun k => (fun k => (fun k => (fun k => (fun k => (fun k => id (2 * k + 2)) (2 * k + 1)) (2 * k + 1)) (2 * k + 1)) (2 * k + 2)) (2 * k + 2)) := ⟨ti_112_ok, tiT_rrlllrrl_ok, tiT_rrlllrrr_ok⟩
theorem tiT_rrlllr_ok : T.All (fun t i => mkTI Tryz.prog t = some i) tiT_rrlllr (fun k => (fun k => (fun k => (fun k => (fun k => id (2 * k + 2)) (2 * k + 1)) (2 * k + 1)) (2 * k + 1)) (2 * k + 2)) := ⟨ti_48_ok, tiT_rrlllrl_ok, tiT_rrlllrr_ok⟩
theorem tiT_rrlll_ok : T.All (fun t i => mkTI Tryz.prog t = some i) tiT_rrlll (fun k => (fun k => (fun k => (fun k => id (2 * k + 2)) (2 * k + 1)) (2 * k + 1)) (2 * k + 1)) := ⟨ti_16_ok, tiT_rrllll_ok, tiT_rrlllr_ok⟩
theorem tiT_rrllrllll_ok : T.All (fun t i => mkTI Tryz.prog t = some i) tiT_rrllrllll (fun k => (fun k => (fun k => (fun k => (fun k => (fun k => (fun k => (fun k => id (2 * k + 2)) (2 * k + 1)) (2 * k + 1)) (2 * k + 2)) (2 * k + 1)) (2 * k + 1)) (2 * k + 1)) (2 * k + 1)) := ⟨ti_264_ok, trivial, trivial⟩
theorem tiT_rrllrlllr_ok : T.All (fun t i => mkTI Tryz.prog t = some i) tiT_rrllrlllr (fun k => (fun k => (fun k => (fun k => (fun k => (fun k => (fun k => (fun k => id (2 * k + 2)) (2 * k + 1)) (2 * k + 1)) (2 * k + 2)) (2 * k + 1)) (2 * k + 1)) (2 * k + 1)) (2 * k + 2)) := ⟨ti_392_ok, trivial, trivial⟩
theorem tiT_rrllrlll_ok : T.All (fun t i => mkTI Tryz.prog t = some i) tiT_rrllrlll (fun k => (fun k => (fun k => (fun k => (fun k => (fun k => (fun k => id (2 * k + 2)) (2 * k + 1)) (2 * k + 1)) (2 * k + 2)) (2 * k + 1)) (2 * k + 1)) (2 * k + 1)) := ⟨ti_136_ok, tiT_rrllrllll_ok, tiT_rrllrlllr_ok⟩
theorem tiT_rrllrllrl_ok : T.All (fun t i => mkTI Tryz.prog t = some i) tiT_rrllrllrl (fun k => (fun k => (fun k => (fun k => (fun k => (fun k => (fun k => (fun k => id (2 * k + 2)) (2 * k + 1)) (2 * k + 1)) (2 * k + 2)) (2 * k + 1)) (2 * k + 1)) (2 * k + 2)) (2 * k + 1)) := ⟨ti_328_ok, trivial, trivial⟩
theorem tiT_rrllrllr_ok : T.All (fun t i => mkTI Tryz.prog t = some i) tiT_rrllrllr (fun k => (fun k => (fun k => (fun k => (fun k => (fun k => (fun k => id (2 * k + 2)) (2 * k + 1)) (2 * k + 1)) (2 * k + 2)) (2 * k + 1)) (2 * k + 1)) (2 * k + 2)) := ⟨ti_200_ok, tiT_rrllrllrl_ok, trivial⟩
theorem tiT_rrllrll_ok : T.All (fun t i => mkTI Tryz.prog t = some i) tiT_rrllrll (fun k => (fun k => (fun k => (fun k => (fun k => (fun k => id (2 * k + 2)) (2 * k + 1)) (2 * k + 1)) (2 * k + 2)) (2 * k + 1)) (2 * k + 1)) := ⟨ti_72_ok, tiT_rrllrlll_ok, tiT_rrllrllr_ok⟩
theorem tiT_rrllrlrll_ok : T.All (fun t i => mkTI Tryz.prog t = some i) tiT_rrllrlrll (fun k => (fun k => (fun k => (fun k => (fun k => (fun k => (fun k => (fun k => id (2 * k + 2)) (2 * k + 1)) (2 * k + 1)) (2 * k + 2)) (2 * k + 1)) (2 * k + 2)) (2 * k + 1)) (2 * k + 1)) := ⟨ti_296_ok, trivial, trivial⟩
theorem tiT_rrllrlrlr_ok : T.All (fun t i => mkTI Tryz.prog t = some i) tiT_rrllrlrlr (fun k => (fun k => (fun k => (fun k => (fun k => (fun k => (fun k => (fun k => id (2 * k + 2)) (2 * k + 1)) (2 * k + 1)) (2 * k + 2)) (2 * k + 1)) (2 * k + 2)) (2 * k + 1)) (2 * k + 2)) := ⟨ti_424_ok, trivial, trivial⟩
theorem tiT_rrllrlrl_ok : T.All (fun t i => mkTI Tryz.prog t = some i) tiT_rrllrlrl (fun k => (fun k => (fun k => (fun k => (fun k => (fun k => (fun k => id (2 * k + 2)) (2 * k + 1)) (2 * k + 1)) (2 * k + 2)) (2 * k + 1)) (2 * k + 2)) (2 * k + 1)) := ⟨ti_168_ok, tiT_rrllrlrll_ok, tiT_rrllrlrlr_ok⟩
theorem tiT_rrllrlrrl_ok : T.All (fun t i => mkTI Tryz.prog t = some i) tiT_rrllrlrrl (fun k => (fun k => (fun k => (fun k => (fun k => (fun k => (fun k => (fun k => id (2 * k + 2)) (2 * k + 1)) (2 * k + 1)) (2 * k + 2)) (2 * k + 1)) (2 * k + 2)) (2 * k + 2)) (2 * k + 1)) := ⟨ti_360_ok, trivial, trivial⟩
theorem tiT_rrllrlrr_ok : T.All (fun t i => mkTI Tryz.prog t = some i) tiT_rrllrlrr (fun k => (fun k => (fun k => (fun k => (fun k => (fun k => (fun k => id (2 * k + 2)) (2 * k + 1)) (2 * k + 1)) (2 * k + 2)) (2 * k + 1)) (2 * k + 2)) (2 * k + 2)) := ⟨ti_232_ok, tiT_rrllrlrrl_ok, trivial⟩
theorem tiT_rrllrlr_ok : T.All (fun t i => mkTI Tryz.prog t = some i) tiT_rrllrlr (fun k => (fun k => (fun k => (fun k => (fun k => (fun k => id (2 * k + 2)) (2 * k + 1)) (2 * k + 1)) (2 * k + 2)) (2 * k + 1)) (2 * k + 2)) := ⟨ti_104_ok, tiT_rrllrlrl_ok, tiT_rrllrlrr_ok⟩
theorem tiT_rrllrl_ok : T.All (fun t i => mkTI Tryz.prog t = some i) tiT_rrllrl (fun k => (fun k => (fun k => (fun k => (fun k => id (2 * k + 2)) (2 * k + 1)) (2 * k + 1)) (2 * k + 2)) (2 * k + 1)) := ⟨ti_40_ok, tiT_rrllrll_ok, tiT_rrllrlr_ok⟩
theorem tiT_rrllrrlll_ok : T.All (fun t i => mkTI Tryz.prog t = some i) tiT_rrllrrlll (fun k => (fun k => (fun k => (fun k => (fun k => (fun k => (fun k => (fun k => id (2 * k + 2)) (2 * k + 1)) (2 * k + 1)) (2 * k + 2)) (2 * k + 2)) (2 * k + 1)) (2 * k + 1)) (2 * k + 1)) := ⟨ti_280_ok, trivial, trivial⟩
theorem tiT_rrllrrll_ok : T.All (fun t i => mkTI Tryz.prog t = some i) tiT_rrllrrll (fun k => (fun k => (fun k => (fun k => (fun k => (fun k => (fun k => id (2 * k + 2)) (2 * k + 1)) (2 * k + 1)) (2 * k + 2)) (2 * k + 2)) (2 * k + 1)) (2 * k + 1)) := ⟨ti_152_ok, tiT_rrllrrlll_ok, trivial⟩
theorem tiT_rrllrrlr_ok : T.All (fun t i => mkTI Tryz.prog t = some i) tiT_rrllrrlr (fun k => (fun k => (fun k => (fun k => (fun k => (fun k => (fun k => id (2 * k + 2)) (2 * k + 1)) (2 * k + 1)) (2 * k + 2)) (2 * k + 2)) (2 * k + 1)) (2 * k + 2)) := ⟨ti_216_ok, trivial, trivial⟩
theorem tiT_rrllrrl_ok : T.All (fun t i => mkTI Tryz.prog t = some i) tiT_rrllrrl (fun k => (fun k => (fun k => (fun k => (fun k => (fun k => id (2 * k + 2)) (2 * k + 1)) (2 * k + 1)) (2 * k + 2)) (2 * k + 2)) (2 * k + 1)) := ⟨ti_88_ok, tiT_rrllrrll_ok, tiT_rrllrrlr_ok⟩
theorem tiT_rrllrrrll_ok : T.All (fun t i => mkTI Tryz.prog t = some i) tiT_rrllrrrll (fun k => (fun k => (fun k => (fun k => (fun k => (fun k => (fun k => (fun k => id (2 * k + 2)) (2 * k + 1)) (2 * k + 1)) (2 * k + 2)) (2 * k + 2)) (2 * k + 2)) (2 * k + 1)) (2 * k + 1)) := ⟨ti_312_ok, trivial, trivial⟩
theorem tiT_rrllrrrl_ok : T.All (fun t i => mkTI Tryz.prog t = some i) tiT_rrllrrrl (fun k => (fun k => (fun k => (fun k => (fun k => (fun k => (fun k => id (2 * k + 2)) (2 * k + 1)) (2 * k + 1)) (2 * k + 2)) (2 * k + 2)) (2 * k + 2)) (2 * k + 1)) := ⟨ti_184_ok, tiT_rrllrrrll_ok, trivial⟩
theorem tiT_rrllrrrrl_ok : T.All (fun t i => mkTI Tryz.prog t = some i) tiT_rrllrrrrl (fun k => (fun k => (fun k => (fun k => (fun k => (fun k => (fun k => (fun k => id (2 * k + 2)) (2 * k + 1)) (2 * k + 1)) (2 * k + 2)) (2 * k + 2)) (2 * k + 2)) (2 * k + 2)) (2 * k + 1)) := ⟨ti_376_ok, trivial, trivial⟩
theorem tiT_rrllrrrr_ok : T.All (fun t i => mkTI Tryz.prog t = some i) tiT_rrllrrrr (fun k => (fun k => (fun k => (fun k => (fun k => (fun k => (fun k => id (2 * k + 2)) (2 * k + 1)) (2 * k + 1)) (2 * k + 2)) (2 * k + 2)) (2 * k + 2)) (2 * k + 2)) := ⟨ti_248_ok, tiT_rrllrrrrl_ok, trivial⟩
theorem tiT_rrllrrr_ok : T.All (fun t i => mkTI Tryz.prog t = some i) tiT_rrllrrr (fun k => (fun k => (fun k => (fun k => (fun k => (fun k => id (2 * k + 2)) (2 * k + 1)) (2 * k + 1)) (2 * k + 2)) (2 * k + 2)) (2 * k + 2)) := ⟨ti_120_ok, tiT_rrllrrrl_ok, tiT_rrllrrrr_ok⟩
theorem tiT_rrllrr_ok : T.All (fun t i => mkTI Tryz.prog t = some i) tiT_rrllrr (fun k => (fun k => (fun k => (fun k => (fun k => id (2 * k + 2)) (2 * k + 1)) (2 * k + 1)) (2 * k + 2)) (2 * k + 2)) := ⟨ti_56_ok, tiT_rrllrrl_ok, tiT_rrllrrr_ok⟩
theorem tiT_rrllr_ok : T.All (fun t i => mkTI Tryz.prog t = some i) tiT_rrllr (fun k => (fun k => (fun k => (fun k => id (2 * k + 2)) (2 * k + 1)) (2 * k + 1)) (2 * k + 2)) := ⟨ti_24_ok, tiT_rrllrl_ok, tiT_rrllrr_ok⟩
theorem tiT_rrll_ok : T.All (fun t i => mkTI Tryz.prog t = some i) tiT_rrll (fun k => (fun k => (fun k => id (2 * k + 2)) (2 * k + 1)) (2 * k + 1)) := ⟨ti_8_ok, tiT_rrlll_ok, tiT_rrllr_ok⟩
theorem tiT_rrlrlllll_ok : T.All (fun t i => mkTI Tryz.prog t = some i) tiT_rrlrlllll (fun k => (fun k => (fun k => (fun k => (fun k => (fun k => (fun k => (fun k => id (2 * k + 2)) (2 * k + 1)) (2 * k + 2)) (2 * k + 1)) (2 * k + 1)) (2 * k + 1)) (2 * k + 1)) (2 * k + 1)) := ⟨ti_260_ok, trivial, trivial⟩
theorem tiT_rrlrllllr_ok : T.All (fun t i => mkTI Tryz.prog t = some i) tiT_rrlrllllr (fun k => (fun k => (fun k => (fun k => (fun k => (fun k => (fun k => (fun k => id (2 * k + 2)) (2 * k + 1)) (2 * k + 2)) (2 * k + 1)) (2 * k + 1)) (2 * k + 1)) (2 * k + 1)) (2 * k + 2)) := ⟨ti_388_ok, trivial, trivial⟩
theorem tiT_rrlrllll_ok : T.All (fun t i => mkTI Tryz.prog t = some i) tiT_rrlrllll (fun k => (fun k => (fun k => (fun k => (fun k => (fun k => (fun k => id (2 * k + 2)) (2 * k + 1)) (2 * k + 2)) (2 * k + 1)) (2 * k + 1)) (2 * k + 1)) (2 * k + 1)) := ⟨ti_132_ok, tiT_rrlrlllll_ok, tiT_rrlrllllr_ok⟩
theorem tiT_rrlrlllrl_ok : T.All (fun t i => mkTI Tryz.prog t = some i) tiT_rrlrlllrl (fun k => (fun k => (fun k => (fun k => (fun k => (fun k => (fun k => (fun k => id (2 * k + 2)) (2 * k + 1)) (2 * k + 2)) (2 * k + 1)) (2 * k + 1)) (2 * k + 1)) (2 * k + 2)) (2 * k + 1)) := ⟨ti_324_ok, trivial, trivial⟩
theorem tiT_rrlrlllr_ok : T.All (fun t i => mkTI Tryz.prog t = some i) tiT_rrlrlllr (fun k => (fun k => (fun k => (fun k => (fun k => (fun k => (fun k => id (2 * k + 2)) (2 * k + 1)) (2 * k + 2)) (2 * k + 1)) (2 * k + 1)) (2 * k + 1)) (2 * k + 2)) := ⟨ti_196_ok, tiT_rrlrlllrl_ok, trivial⟩
theorem tiT_rrlrlll_ok : T.All (fun t i => mkTI Tryz.prog t = some i) tiT_rrlrlll (fun k => (fun k => (fun k => (fun k => (fun k => (fun k => id (2 * k + 2)) (2 * k + 1)) (2 * k + 2)) (2 * k + 1)) (2 * k + 1)) (2 * k + 1)) := ⟨ti_68_ok, tiT_rrlrllll_ok, tiT_rrlrlllr_ok⟩
theorem tiT_rrlrllrll_ok : T.All (fun t i => mkTI Tryz.prog t = some i) tiT_rrlrllrll (fun k => (fun k => (fun k => (fun k => (fun k => (fun k => (fun k => (fun k => id (2 * k + 2)) (2 * k + 1)) (2 * k + 2)) (2 * k + 1)) (2 * k + 1)) (2 * k + 2)) (2 * k + 1)) (2 * k + 1)) := ⟨ti_292_ok, trivial, trivial⟩
theorem tiT_rrlrllrlr_ok : T.All (fun t i => mkTI Tryz.prog t = some i) tiT_rrlrllrlr (fun k => (fun k => (fun k => (fun k => (fun k => (fun k => (fun k => (fun k => id (2 * k + 2)) (2 * k + 1)) (2 * k + 2)) (2 * k + 1)) (2 * k + 1)) (2 * k + 2)) (2 * k + 1)) (2 * k + 2)) := ⟨ti_420_ok, trivial, trivial⟩
theorem tiT_rrlrllrl_ok : T.All (fun t i => mkTI Tryz.prog t = some i) tiT_rrlrllrl (fun k => (fun k => (fun k => (fun k => (fun k => (fun k => (fun k => id (2 * k + 2)) (2 * k + 1)) (2 * k + 2)) (2 * k + 1)) (2 * k + 1)) (2 * k + 2)) (2 * k + 1)) := ⟨ti_164_ok, tiT_rrlrllrll_ok, tiT_rrlrllrlr_ok⟩
theorem tiT_rrlrllrrl_ok : T.All (fun t i => mkTI Tryz.prog t = some i) tiT_rrlrllrrl (fun k => (fun k => (fun k => (fun k => (fun k => (fun k => (fun k => (fun k => id (2 * k + 2)) (2 * k + 1)) (2 * k + 2)) (2 * k + 1)) (2 * k + 1)) (2 * k + 2)) (2 * k + 2)) (2 * k + 1)) := ⟨ti_356_ok, trivial, trivial⟩
theorem tiT_rrlrllrr_ok : T.All (fun t i => mkTI Tryz.prog t = some i) tiT_rrlrllrr (fun k => (fun k => (fun k => (fun k => (fun k => (fun k => (fun k => id (2 * k + 2)) (2 * k + 1)) (2 * k + 2)) (2 * k + 1)) (2 * k + 1)) (2 * k + 2)) (2 * k + 2)) := ⟨ti_228_ok, tiT_rrlrllrrl_ok, trivial⟩
theorem tiT_rrlrllr_ok : T.All (fun t i => mkTI Tryz.prog t = some i) tiT_rrlrllr (fun k => (fun k => (fun k => (fun k => (fun k => (fun k => id (2 * k + 2)) (2 * k + 1)) (2 * k + 2)) (2 * k + 1)) (2 * k + 1)) (2 * k + 2)) := ⟨ti_100_ok, tiT_rrlrllrl_ok, tiT_rrlrllrr_ok⟩
theorem tiT_rrlrll_ok : T.All (fun t i => mkTI Tryz.prog t = some i) tiT_rrlrll (fun k => (fun k => (fun k => (fun k => (fun k => id (2 * k + 2)) (2 * k + 1)) (2 * k + 2)) (2 * k + 1)) (2 * k + 1)) := ⟨ti_36_ok, tiT_rrlrlll_ok, tiT_rrlrllr_ok⟩
theorem tiT_rrlrlrlll_ok : T.All (fun t i => mkTI Tryz.prog t = some i) tiT_rrlrlrlll (fun k => (fun k => (fun k => (fun k => (fun k => (fun k => (fun k => (fun k => id (2 * k + 2)) (2 * k + 1)) (2 * k + 2)) (2 * k + 1)) (2 * k + 2)) (2 * k + 1)) (2 * k + 1)) (2 * k + 1)) := ⟨ti_276_ok, trivial, trivial⟩
theorem tiT_rrlrlrllr_ok : T.All (fun t i => mkTI Tryz.prog t = some i) tiT_rrlrlrllr (fun k => (fun k => (fun k => (fun k => (fun k => (fun k => (fun k => (fun k => id (2 * k + 2)) (2 * k + 1)) (2 * k + 2)) (2 * k + 1)) (2 * k + 2)) (2 * k + 1)) (2 * k + 1)) (2 * k + 2)) := ⟨ti_404_ok, trivial, trivial⟩
theorem tiT_rrlrlrll_ok : T.All (fun t i => mkTI Tryz.prog t = some i) tiT_rrlrlrll (fun k => (fun k => (fun k => (fun k => (fun k => (fun k => (fun k => id (2 * k + 2)) (2 * k + 1)) (2 * k + 2)) (2 * k + 1)) (2 * k + 2)) (2 * k + 1)) (2 * k + 1)) := ⟨ti_148_ok, tiT_rrlrlrlll_ok, tiT_rrlrlrllr_ok⟩
theorem tiT_rrlrlrlr_ok : T.All (fun t i => mkTI Tryz.prog t = some i) tiT_rrlrlrlr (fun k => (fun k => (fun k => (fun k => (fun k => (fun k => (fun k => id (2 * k + 2)) (2 * k + 1)) (2 * k + 2)) (2 * k + 1)) (2 * k + 2)) (2 * k + 1)) (2 * k + 2)) := ⟨ti_212_ok, trivial, trivial⟩
theorem tiT_rrlrlrl_ok : T.All (fun t i => mkTI Tryz.prog t = some i) tiT_rrlrlrl (fun k => (fun k => (fun k => (fun k => (fun k => (fun k => id (2 * k + 2)) (2 * k + 1)) (2 * k + 2)) (2 * k + 1)) (2 * k + 2)) (2 * k + 1)) := ⟨ti_84_ok, tiT_rrlrlrll_ok, tiT_rrlrlrlr_ok⟩
theorem tiT_rrlrlrrll_ok : T.All (fun t i => mkTI Tryz.prog t = some i) tiT_rrlrlrrll (fun k => (fun k => (fun k => (fun k => (fun k => (fun k => (fun k => (fun k => id (2 * k + 2)) (2 * k + 1)) (2 * k + 2)) (2 * k + 1)) (2 * k + 2)) (2 * k + 2)) (2 * k + 1)) (2 * k + 1)) := ⟨ti_308_ok, trivial, trivial⟩
theorem tiT_rrlrlrrl_ok : T.All (fun t i => mkTI Tryz.prog t = some i) tiT_rrlrlrrl (fun k => (fun k => (fun k => (fun k => (fun k => (fun k => (fun k => id (2 * k + 2)) (2 * k + 1)) (2 * k + 2)) (2 * k + 1)) (2 * k + 2)) (2 * k + 2)) (2 * k + 1)) := ⟨ti_180_ok, tiT_rrlrlrrll_ok, trivial⟩
theorem tiT_rrlrlrrrl_ok : T.All (fun t i => mkTI Tryz.prog t = some i) tiT_rrlrlrrrl (fun k => (fun k => (fun k => (fun k => (fun k => (fun k => (fun k => (fun k => id (2 * k + 2)) (2 * k + 1)) (2 * k + 2)) (2 * k + 1)) (2 * k + 2)) (2 * k + 2)) (2 * k + 2)) (2 * k + 1)) := ⟨ti_372_ok, trivial, trivial⟩
theorem tiT_rrlrlrrr_ok : T.All (fun t i => mkTI Tryz.prog t = some i) tiT_rrlrlrrr (fun k => (fun k => (fun k => (fun k => (fun k => (fun k => (fun k => id (2 * k + 2)) (2 * k + 1)) (2 * k + 2)) (2 * k + 1)) (2 * k + 2)) (2 * k + 2)) (2 * k + 2)) := ⟨trivial, tiT_rrlrlrrrl_ok, trivial⟩
theorem tiT_rrlrlrr_ok : T.All (fun t i => mkTI Tryz.prog t = some i) tiT_rrlrlrr (fun k => (fun k => (fun k => (fun k => (fun k => (fun k => id (2 * k + 2)) (2 * k + 1)) (2 * k + 2)) (2 * k + 1)) (2 * k + 2)) (2 * k + 2)) := ⟨ti_116_ok, tiT_rrlrlrrl_ok, tiT_rrlrlrrr_ok⟩
theorem tiT_rrlrlr_ok : T.All (fun t i => mkTI Tryz.prog t = some i) tiT_rrlrlr (fun k => (fun k => (fun k => (fun k => (fun k => id (2 * k + 2)) (2 * k + 1)) (2 * k + 2)) (2 * k + 1)) (2 * k + 2)) := ⟨ti_52_ok, tiT_rrlrlrl_ok, tiT_rrlrlrr_ok⟩
theorem tiT_rrlrl_ok : T.All (fun t i => mkTI Tryz.prog t = some i) tiT_rrlrl (fun k => (fun k => (fun k => (fun k => id (2 * k + 2)) (2 * k + 1)) (2 * k + 2)) (2 * k + 1)) := ⟨ti_20_ok, tiT_rrlrll_ok, tiT_rrlrlr_ok⟩
theorem tiT_rrlrrlllr_ok : T.All (fun t i => mkTI Tryz.prog t = some i) tiT_rrlrrlllr (fun k => (fun k => (fun k => (fun k => (fun k => (fun k => (fun k => (fun k => id (2 * k + 2)) (2 * k + 1)) (2 * k + 2)) (2 * k + 2)) (2 * k + 1)) (2 * k + 1)) (2 * k + 1)) (2 * k + 2)) := ⟨ti_396_ok, trivial, trivial⟩
theorem tiT_rrlrrlll_ok : T.All (fun t i => mkTI Tryz.prog t = some i) tiT_rrlrrlll (fun k => (fun k => (fun k => (fun k => (fun k => (fun k => (fun k => id (2 * k + 2)) (2 * k + 1)) (2 * k + 2)) (2 * k + 2)) (2 * k + 1)) (2 * k + 1)) (2 * k + 1)) := ⟨ti_140_ok, trivial, tiT_rrlrrlllr_ok⟩
theorem tiT_rrlrrllrl_ok : T.All (fun t i => mkTI Tryz.prog t = some i) tiT_rrlrrllrl (fun k => (fun k => (fun k => (fun k => (fun k => (fun k => (fun k => (fun k => id (2 * k + 2)) (2 * k + 1)) (2 * k + 2)) (2 * k + 2)) (2 * k + 1)) (2 * k + 1)) (2 * k + 2)) (2 * k + 1)) := ⟨ti_332_ok, trivial, trivial⟩
theorem tiT_rrlrrllr_ok : T.All (fun t i => mkTI Tryz.prog t = some i) tiT_rrlrrllr (fun k => (fun k => (fun k => (fun k => (fun k => (fun k => (fun k => id (2 * k + 2)) (2 * k + 1)) (2 * k + 2)) (2 * k + 2)) (2 * k + 1)) (2 * k + 1)) (2 * k + 2)) := ⟨trivial, tiT_rrlrrllrl_ok, trivial⟩
theorem tiT_rrlrrll_ok : T.All (fun t i => mkTI Tryz.prog t = some i) tiT_rrlrrll (fun k => (fun k => (fun k => (fun k => (fun k => (fun k => id (2 * k + 2)) (2 * k + 1)) (2 * k + 2)) (2 * k + 2)) (2 * k + 1)) (2 * k + 1)) := ⟨ti_76_ok, tiT_rrlrrlll_ok, tiT_rrlrrllr_ok⟩
theorem tiT_rrlrrlrll_ok : T.All (fun t i => mkTI Tryz.prog t = some i) tiT_rrlrrlrll (fun k => (fun k => (fun k => (fun k => (fun k => (fun k => (fun k => (fun k => id (2 * k + 2)) (2 * k + 1)) (2 * k + 2)) (2 * k + 2)) (2 * k + 1)) (2 * k + 2)) (2 * k + 1)) (2 * k + 1)) := ⟨ti_300_ok, trivial, trivial⟩
theorem tiT_rrlrrlrlr_ok : T.All (fun t i => mkTI Tryz.prog t = some i) tiT_rrlrrlrlr (fun k => (fun k => (fun k => (fun k => (fun k => (fun k => (fun k => (fun k => id (2 * k + 2)) (2 * k + 1)) (2 * k + 2)) (2 * k + 2)) (2 * k + 1)) (2 * k + 2)) (2 * k + 1)) (2 * k + 2)) := ⟨ti_428_ok, trivial, trivial⟩
theorem tiT_rrlrrlrl_ok : T.All (fun t i => mkTI Tryz.prog t = some i) tiT_rrlrrlrl (fun k => (fun k => (fun k => (fun k => (fun k => (fun k => (fun k => id (2 * k + 2)) (2 * k + 1)) (2 * k + 2)) (2 * k + 2)) (2 * k + 1)) (2 * k + 2)) (2 * k + 1)) := ⟨ti_172_ok, tiT_rrlrrlrll_ok, tiT_rrlrrlrlr_ok⟩
theorem tiT_rrlrrlrr_ok : T.All (fun t i => mkTI Tryz.prog t = some i) tiT_rrlrrlrr (fun k => (fun k => (fun k => (fun k => (fun k => (fun k => (fun k => id (2 * k + 2)) (2 * k + 1)) (2 * k + 2)) (2 * k + 2)) (2 * k + 1)) (2 * k + 2)) (2 * k + 2)) := ⟨ti_236_ok, trivial, trivial⟩
theorem tiT_rrlrrlr_ok : T.All (fun t i => mkTI Tryz.prog t = some i) tiT_rrlrrlr (fun k => (fun k => (fun k => (fun k => (fun k => (fun k => id (2 * k + 2)) (2 * k + 1)) (2 * k + 2)) (2 * k + 2)) (2 * k + 1)) (2 * k + 2)) := ⟨ti_108_ok, tiT_rrlrrlrl_ok, tiT_rrlrrlrr_ok⟩
theorem tiT_rrlrrl_ok : T.All (fun t i => mkTI Tryz.prog t = some i) tiT_rrlrrl (fun k => (fun k => (fun k => (fun k => (fun k => id (2 * k + 2)) (2 * k + 1)) (2 * k + 2)) (2 * k + 2)) (2 * k + 1)) := ⟨ti_44_ok, tiT_rrlrrll_ok, tiT_rrlrrlr_ok⟩
theorem tiT_rrlrrrlll_ok : T.All (fun t i => mkTI Tryz.prog t = some i) tiT_rrlrrrlll (fun k => (fun k => (fun k => (fun k => (fun k => (fun k => (fun k => (fun k => id (2 * k + 2)) (2 * k + 1)) (2 * k + 2)) (2 * k + 2)) (2 * k + 2)) (2 * k + 1)) (2 * k + 1)) (2 * k + 1)) := ⟨ti_284_ok, trivial, trivial⟩
theorem tiT_rrlrrrllr_ok : T.All (fun t i => mkTI Tryz.prog t = some i) tiT_rrlrrrllr (fun k => (fun k => (fun k => (fun k => (fun k => (fun k => (fun k => (fun k => id (2 * k + 2)) (2 * k + 1)) (2 * k + 2)) (2 * k + 2)) (2 * k + 2)) (2 * k + 1)) (2 * k + 1)) (2 * k + 2)) := ⟨ti_412_ok, trivial, trivial⟩
theorem tiT_rrlrrrll_ok : T.All (fun t i => mkTI Tryz.prog t = some i) tiT_rrlrrrll (fun k => (fun k => (fun k => (fun k => (fun k => (fun k => (fun k => id (2 * k + 2)) (2 * k + 1)) (2 * k + 2)) (2 * k + 2)) (2 * k + 2)) (2 * k + 1)) (2 * k + 1)) := ⟨ti_156_ok, tiT_rrlrrrlll_ok, tiT_rrlrrrllr_ok⟩
theorem tiT_rrlrrrlrl_ok : T.All (fun t i => mkTI Tryz.prog t = some i) tiT_rrlrrrlrl (fun k => (fun k => (fun k => (fun k => (fun k => (fun k => (fun k => (fun k => id (2 * k + 2)) (2 * k + 1)) (2 * k + 2)) (2 * k + 2)) (2 * k + 2)) (2 * k + 1)) (2 * k + 2)) (2 * k + 1)) := ⟨ti_348_ok, trivial, trivial⟩
theorem tiT_rrlrrrlr_ok : T.All (fun t i => mkTI Tryz.prog t = some i) tiT_rrlrrrlr (fun k => (fun k => (fun k => (fun k => (fun k => (fun k => (fun k => id (2 * k + 2)) (2 * k + 1)) (2 * k + 2)) (2 * k + 2)) (2 * k + 2)) (2 * k + 1)) (2 * k + 2)) := ⟨ti_220_ok, tiT_rrlrrrlrl_ok, trivial⟩
theorem tiT_rrlrrrl_ok : T.All (fun t i => mkTI Tryz.prog t = some i) tiT_rrlrrrl (fun k => (fun k => (fun k => (fun k => (fun k => (fun k => id (2 * k + 2)) (2 * k + 1)) (2 * k + 2)) (2 * k + 2)) (2 * k + 2)) (2 * k + 1)) := ⟨ti_92_ok, tiT_rrlrrrll_ok, tiT_rrlrrrlr_ok⟩
theorem tiT_rrlrrrrll_ok : T.All (fun t i => mkTI Tryz.prog t = some i) tiT_rrlrrrrll (fun k => (fun k => (fun k => (fun k => (fun k => (fun k => (fun k => (fun k => id (2 * k + 2)) (2 * k + 1)) (2 * k + 2)) (2 * k + 2)) (2 * k + 2)) (2 * k + 2)) (2 * k + 1)) (2 * k + 1)) := ⟨ti_316_ok, trivial, trivial⟩
theorem tiT_rrlrrrrl_ok : T.All (fun t i => mkTI Tryz.prog t = some i) tiT_rrlrrrrl (fun k => (fun k => (fun k => (fun k => (fun k => (fun k => (fun k => id (2 * k + 2)) (2 * k + 1)) (2 * k + 2)) (2 * k + 2)) (2 * k + 2)) (2 * k + 2)) (2 * k + 1)) := ⟨ti_188_ok, tiT_rrlrrrrll_ok, trivial⟩
theorem tiT_rrlrrrrrl_ok : T.All (fun t i => mkTI Tryz.prog t = some i) tiT_rrlrrrrrl (fun k => (fun k => (fun k => (fun k => (fun k => (fun k => (fun k => (fun k => id (2 * k + 2)) (2 * k + 1)) (2 * k + 2)) (2 * k + 2)) (2 * k + 2)) (2 * k + 2)) (2 * k + 2)) (2 * k + 1)) := ⟨ti_380_ok, trivial, trivial⟩
theorem tiT_rrlrrrrr_ok : T.All (fun t i => mkTI Tryz.prog t = some i) tiT_rrlrrrrr (fun k => (fun k => (fun k => (fun k => (fun k => (fun k => (fun k => id (2 * k + 2)) (2 * k + 1)) (2 * k + 2)) (2 * k + 2)) (2 * k + 2)) (2 * k + 2)) (2 * k + 2)) := ⟨ti_252_ok, tiT_rrlrrrrrl_ok, trivial⟩
theorem tiT_rrlrrrr_ok : T.All (fun t i => mkTI Tryz.prog t = some i) tiT_rrlrrrr (fun k => (fun k => (fun k => (fun k => (fun k => (fun k => id (2 * k + 2)) (2 * k + 1)) (2 * k + 2)) (2 * k + 2)) (2 * k + 2)) (2 * k + 2)) := ⟨ti_124_ok, tiT_rrlrrrrl_ok, tiT_rrlrrrrr_ok⟩
theorem tiT_rrlrrr_ok : T.All (fun t i => mkTI Tryz.prog t = some i) tiT_rrlrrr (fun k => (fun k => (fun k => (fun k => (fun k => id (2 * k + 2)) (2 * k + 1)) (2 * k + 2)) (2 * k + 2)) (2 * k + 2)) := ⟨ti_60_ok, tiT_rrlrrrl_ok, tiT_rrlrrrr_ok⟩
theorem tiT_rrlrr_ok : T.All (fun t i => mkTI Tryz.prog t = some i) tiT_rrlrr (fun k => (fun k => (fun k => (fun k => id (2 * k + 2)) (2 * k + 1)) (2 * k + 2)) (2 * k + 2)) := ⟨ti_28_ok, tiT_rrlrrl_ok, tiT_rrlrrr_ok⟩
theorem tiT_rrlr_ok : T.All (fun t i => mkTI Tryz.prog t = some i) tiT_rrlr (fun k => (fun k => (fun k => id (2 * k + 2)) (2 * k + 1)) (2 * k + 2)) := ⟨ti_12_ok, tiT_rrlrl_ok, tiT_rrlrr_ok⟩
theorem tiT_rrl_ok : T.All (fun t i => mkTI Tryz.prog t = some i) tiT_rrl (fun k => (fun k => id (2 * k + 2)) (2 * k + 1)) := ⟨ti_4_ok, tiT_rrll_ok, tiT_rrlr_ok⟩
theorem tiT_rrrllllll_ok : T.All (fun t i => mkTI Tryz.prog t = some i) tiT_rrrllllll (fun k => (fun k => (fun k => (fun k => (fun k => (fun k => (fun k => (fun k => id (2 * k + 2)) (2 * k + 2)) (2 * k + 1)) (2 * k + 1)) (2 * k + 1)) (2 * k + 1)) (2 * k + 1)) (2 * k + 1)) := ⟨ti_258_ok, trivial, trivial⟩
theorem tiT_rrrlllllr_ok : T.All (fun t i => mkTI Tryz.prog t = some i) tiT_rrrlllllr (fun k => (fun k => (fun k => (fun k => (fun k => (fun k => (fun k => (fun k => id (2 * k + 2)) (2 * k + 2)) (2 * k + 1)) (2 * k + 1)) (2 * k + 1)) (2 * k + 1)) (2 * k + 1)) (2 * k + 2)) := ⟨ti_386_ok, trivial, trivial⟩
theorem tiT_rrrlllll_ok : T.All (fun t i => mkTI Tryz.prog t = some i) tiT_rrrlllll (fun k => (fun k => (fun k => (fun k => (fun k => (fun k => (fun k => id (2 * k + 2)) (2 * k + 2)) (2 * k + 1)) (2 * k + 1)) (2 * k + 1)) (2 * k + 1)) (2 * k + 1)) := ⟨ti_130_ok, tiT_rrrllllll_ok, tiT_rrrlllllr_ok⟩
theorem tiT_rrrllllrl_ok : T.All (fun t i => mkTI Tryz.prog t = some i) tiT_rrrllllrl (fun k => (fun k => (fun k => (fun k => (fun k => (fun k => (fun k => (fun k => id (2 * k + 2)) (2 * k + 2)) (2 * k + 1)) (2 * k + 1)) (2 * k + 1)) (2 * k + 1)) (2 * k + 2)) (2 * k + 1)) := ⟨ti_322_ok, trivial, trivial⟩
theorem tiT_rrrllllr_ok : T.All (fun t i => mkTI Tryz.prog t = some i) tiT_rrrllllr (fun k => (fun k => (fun k => (fun k => (fun k => (fun k => (fun k => id (2 * k + 2)) (2 * k + 2)) (2 * k + 1)) (2 * k + 1)) (2 * k + 1)) (2 * k + 1)) (2 * k + 2)) := ⟨ti_194_ok, tiT_rrrllllrl_ok, trivial⟩
theorem tiT_rrrllll_ok : T.All (fun t i => mkTI Tryz.prog t = some i) tiT_rrrllll (fun k => (fun k => (fun k => (fun k => (fun k => (fun k => id (2 * k + 2)) (2 * k + 2)) (2 * k + 1)) (2 * k + 1)) (2 * k + 1)) (2 * k + 1)) := ⟨ti_66_ok, tiT_rrrlllll_ok, tiT_rrrllllr_ok⟩
theorem tiT_rrrlllrll_ok : T.All (fun t i => mkTI Tryz.prog t = some i) tiT_rrrlllrll (fun k => (fun k => (fun k => (fun k => (fun k => (fun k => (fun k => (fun k => id (2 * k + 2)) (2 * k + 2)) (2 * k + 1)) (2 * k + 1)) (2 * k + 1)) (2 * k + 2)) (2 * k + 1)) (2 * k + 1)) := ⟨ti_290_ok, trivial, trivial⟩
theorem tiT_rrrlllrlr_ok : T.All (fun t i => mkTI Tryz.prog t = some i) tiT_rrrlllrlr (fun k => (fun k => (fun k => (fun k => (fun k => (fun k => (fun k => (fun k => id (2 * k + 2)) (2 * k + 2)) (2 * k + 1)) (2 * k + 1)) (2 * k + 1)) (2 * k + 2)) (2 * k + 1)) (2 * k + 2)) := ⟨ti_418_ok, trivial, trivial⟩
theorem tiT_rrrlllrl_ok : T.All (fun t i => mkTI Tryz.prog t = some i) tiT_rrrlllrl (fun k => (fun k => (fun k => (fun k => (fun k => (fun k => (fun k => id (2 * k + 2)) (2 * k + 2)) (2 * k + 1)) (2 * k + 1)) (2 * k + 1)) (2 * k + 2)) (2 * k + 1)) := ⟨ti_162_ok, tiT_rrrlllrll_ok, tiT_rrrlllrlr_ok⟩
theorem tiT_rrrlllrrl_ok : T.All (fun t i => mkTI Tryz.prog t = some i) tiT_rrrlllrrl (fun k => (fun k => (fun k => (fun k => (fun k => (fun k => (fun k => (fun k => id (2 * k + 2)) (2 * k + 2)) (2 * k + 1)) (2 * k + 1)) (2 * k + 1)) (2 * k + 2)) (2 * k + 2)) (2 * k + 1)) := ⟨ti_354_ok, trivial, trivial⟩
theorem tiT_rrrlllrr_ok : T.All (fun t i => mkTI Tryz.prog t = some i) tiT_rrrlllrr (fun k => (fun k => (fun k => (fun k => (fun k => (fun k => (fun k => id (2 * k + 2)) (2 * k + 2)) (2 * k + 1)) (2 * k + 1)) (2 * k + 1)) (2 * k + 2)) (2 * k + 2)) := ⟨ti_226_ok, tiT_rrrlllrrl_ok, trivial⟩
theorem tiT_rrrlllr_ok : T.All (fun t i => mkTI Tryz.prog t = some i) tiT_rrrlllr (fun k => (fun k => (fun k => (fun k => (fun k => (fun k => id (2 * k + 2)) (2 * k + 2)) (2 * k + 1)) (2 * k + 1)) (2 * k + 1)) (2 * k + 2)) := ⟨ti_98_ok, tiT_rrrlllrl_ok, tiT_rrrlllrr_ok⟩
theorem tiT_rrrlll_ok : T.All (fun t i => mkTI Tryz.prog t = some i) tiT_rrrlll (fun k => (fun k => (fun k => (fun k => (fun k => id (2 * k + 2)) (2 * k + 2)) (2 * k + 1)) (2 * k + 1)) (2 * k + 1)) := ⟨ti_34_ok, tiT_rrrllll_ok, tiT_rrrlllr_ok⟩
theorem tiT_rrrllrlll_ok : T.All (fun t i => mkTI Tryz.prog t = some i) tiT_rrrllrlll (fun k => (fun k => (fun k => (fun k => (fun k => (fun k => (fun k => (fun k => id (2 * k + 2)) (2 * k + 2)) (2 * k + 1)) (2 * k + 1)) (2 * k + 2)) (2 * k + 1)) (2 * k + 1)) (2 * k + 1)) := ⟨ti_274_ok, trivial, trivial⟩
theorem tiT_rrrllrllr_ok : T.All (fun t i => mkTI Tryz.prog t = some i) tiT_rrrllrllr (fun k => (fun k => (fun k => (fun k => (fun k => (fun k => (fun k => (fun k => id (2 * k + 2)) (2 * k + 2)) (2 * k + 1)) (2 * k + 1)) (2 * k + 2)) (2 * k + 1)) (2 * k + 1)) (2 * k + 2)) := ⟨ti_402_ok, trivial, trivial⟩
theorem tiT_rrrllrll_ok : T.All (fun t i => mkTI Tryz.prog t = some i) tiT_rrrllrll (fun k => (fun k => (fun k => (fun k => (fun k => (fun k => (fun k => id (2 * k + 2)) (2 * k + 2)) (2 * k + 1)) (2 * k + 1)) (2 * k + 2)) (2 * k + 1)) (2 * k + 1)) := ⟨ti_146_ok, tiT_rrrllrlll_ok, tiT_rrrllrllr_ok⟩
theorem tiT_rrrllrlrl_ok : T.All (fun t i => mkTI Tryz.prog t = some i) tiT_rrrllrlrl (fun k => (fun k => (fun k => (fun k => (fun k => (fun k => (fun k => (fun k => id (2 * k + 2)) (2 * k + 2)) (2 * k + 1)) (2 * k + 1)) (2 * k + 2)) (2 * k + 1)) (2 * k + 2)) (2 * k + 1)) := ⟨ti_338_ok, trivial, trivial⟩
theorem tiT_rrrllrlr_ok : T.All (fun t i => mkTI Tryz.prog t = some i) tiT_rrrllrlr (fun k => (fun k => (fun k => (fun k => (fun k => (fun k => (fun k => id (2 * k + 2)) (2 * k + 2)) (2 * k + 1)) (2 * k + 1)) (2 * k + 2)) (2 * k + 1)) (2 * k + 2)) := ⟨ti_210_ok, tiT_rrrllrlrl_ok, trivial⟩
theorem tiT_rrrllrl_ok : T.All (fun t i => mkTI Tryz.prog t = some i) tiT_rrrllrl (fun k => (fun k => (fun k => (fun k => (fun k => (fun k => id (2 * k + 2)) (2 * k + 2)) (2 * k + 1)) (2 * k + 1)) (2 * k + 2)) (2 * k + 1)) := ⟨ti_82_ok, tiT_rrrllrll_ok, tiT_rrrllrlr_ok⟩
theorem tiT_rrrllrrll_ok : T.All (fun t i => mkTI Tryz.prog t = some i) tiT_rrrllrrll (fun k => (fun k => (fun k => (fun k => (fun k => (fun k => (fun k => (fun k => id (2 * k + 2)) (2 * k + 2)) (2 * k + 1)) (2 * k + 1)) (2 * k + 2)) (2 * k + 2)) (2 * k + 1)) (2 * k + 1)) := ⟨ti_306_ok, trivial, trivial⟩
theorem tiT_rrrllrrl_ok : T.All (fun t i => mkTI Tryz.prog t = some i) tiT_rrrllrrl (fun k => (fun k => (fun k => (fun k => (fun k => (fun k => (fun k => id (2 * k + 2)) (2 * k + 2)) (2 * k + 1)) (2 * k + 1)) (2 * k + 2)) (2 * k + 2)) (2 * k + 1)) := ⟨ti_178_ok, tiT_rrrllrrll_ok, trivial⟩
theorem tiT_rrrllrrrl_ok : T.All (fun t i => mkTI Tryz.prog t = some i) tiT_rrrllrrrl (fun k => (fun k => (fun k => (fun k => (fun k => (fun k => (fun k => (fun k => id (2 * k + 2)) (2 * k + 2)) (2 * k + 1)) (2 * k + 1)) (2 * k + 2)) (2 * k + 2)) (2 * k + 2)) (2 * k + 1)) := ⟨ti_370_ok, trivial, trivial⟩
theorem tiT_rrrllrrr_ok : T.All (fun t i => mkTI Tryz.prog t = some i) tiT_rrrllrrr (fun k => (fun k => (fun k => (fun k => (fun k => (fun k => (fun k => id (2 * k + 2)) (2 * k + 2)) (2 * k + 1)) (2 * k + 1)) (2 * k + 2)) (2 * k + 2)) (2 * k + 2)) := ⟨ti_242_ok, tiT_rrrllrrrl_ok, trivial⟩
theorem tiT_rrrllrr_ok : T.All (fun t i => mkTI Tryz.prog t = some i) tiT_rrrllrr (fun k => (fun k => (fun k => (fun k => (fun k => (fun k => id (2 * k + 2)) (2 * k + 2)) (2 * k + 1)) (2 * k + 1)) (2 * k + 2)) (2 * k + 2)) := ⟨ti_114_ok, tiT_rrrllrrl_ok, tiT_rrrllrrr_ok⟩
theorem tiT_rrrllr_ok : T.All (fun t i => mkTI Tryz.prog t = some i) tiT_rrrllr (fun k => (fun k => (fun k => (fun k => (fun k => id (2 * k + 2)) (2 * k + 2)) (2 * k + 1)) (2 * k + 1)) (2 * k + 2)) := ⟨ti_50_ok, tiT_rrrllrl_ok, tiT_rrrllrr_ok⟩
theorem tiT_rrrll_ok : T.All (fun t i => mkTI Tryz.prog t = some i) tiT_rrrll (fun k => (fun k => (fun k => (fun k => id (2 * k + 2)) (2 * k + 2)) (2 * k + 1)) (2 * k + 1)) := ⟨ti_18_ok, tiT_rrrlll_ok, tiT_rrrllr_ok⟩
theorem tiT_rrrlrlllr_ok : T.All (fun t i => mkTI Tryz.prog t = some i) tiT_rrrlrlllr (fun k => (fun k => (fun k => (fun k => (fun k => (fun k => (fun k => (fun k => id (2 * k + 2)) (2 * k + 2)) (2 * k + 1)) (2 * k + 2)) (2 * k + 1)) (2 * k + 1)) (2 * k + 1)) (2 * k + 2)) := ⟨ti_394_ok, trivial, trivial⟩
theorem tiT_rrrlrlll_ok : T.All (fun t i => mkTI Tryz.prog t = some i) tiT_rrrlrlll (fun k => (fun k => (fun k => (fun k => (fun k => (fun k => (fun k => id (2 * k + 2)) (2 * k + 2)) (2 * k + 1)) (2 * k + 2)) (2 * k + 1)) (2 * k + 1)) (2 * k + 1)) := ⟨ti_138_ok, trivial, tiT_rrrlrlllr_ok⟩
theorem tiT_rrrlrllrl_ok : T.All (fun t i => mkTI Tryz.prog t = some i) tiT_rrrlrllrl (fun k => (fun k => (fun k => (fun k => (fun k => (fun k => (fun k => (fun k => id (2 * k + 2)) (2 * k + 2)) (2 * k + 1)) (2 * k + 2)) (2 * k + 1)) (2 * k + 1)) (2 * k + 2)) (2 * k + 1)) := ⟨ti_330_ok, trivial, trivial⟩
theorem tiT_rrrlrllr_ok : T.All (fun t i => mkTI Tryz.prog t = some i) tiT_rrrlrllr (fun k => (fun k => (fun k => (fun k => (fun k => (fun k => (fun k => id (2 * k + 2)) (2 * k + 2)) (2 * k + 1)) (2 * k + 2)) (2 * k + 1)) (2 * k + 1)) (2 * k + 2)) := ⟨ti_202_ok, tiT_rrrlrllrl_ok, trivial⟩
theorem tiT_rrrlrll_ok : T.All (fun t i => mkTI Tryz.prog t = some i) tiT_rrrlrll (fun k => (fun k => (fun k => (fun k => (fun k => (fun k => id (2 * k + 2)) (2 * k + 2)) (2 * k + 1)) (2 * k + 2)) (2 * k + 1)) (2 * k + 1)) := ⟨ti_74_ok, tiT_rrrlrlll_ok, tiT_rrrlrllr_ok⟩
theorem tiT_rrrlrlrll_ok : T.All (fun t i => mkTI Tryz.prog t = some i) tiT_rrrlrlrll (fun k => (fun k => (fun k => (fun k => (fun k => (fun k => (fun k => (fun k => id (2 * k + 2)) (2 * k + 2)) (2 * k + 1)) (2 * k + 2)) (2 * k + 1)) (2 * k + 2)) (2 * k + 1)) (2 * k + 1)) := ⟨ti_298_ok, trivial, trivial⟩
theorem tiT_rrrlrlrlr_ok : T.All (fun t i => mkTI Tryz.prog t = some i) tiT_rrrlrlrlr (fun k => (fun k => (fun k => (fun k => (fun k => (fun k => (fun k => (fun k => id (2 * k + 2)) (2 * k + 2)) (2 * k + 1)) (2 * k + 2)) (2 * k + 1)) (2 * k + 2)) (2 * k + 1)) (2 * k + 2)) := ⟨ti_426_ok, trivial, trivial⟩
theorem tiT_rrrlrlrl_ok : T.All (fun t i => mkTI Tryz.prog t = some i) tiT_rrrlrlrl (fun k => (fun k => (fun k => (fun k => (fun k => (fun k => (fun k => id (2 * k + 2)) (2 * k + 2)) (2 * k + 1)) (2 * k + 2)) (2 * k + 1)) (2 * k + 2)) (2 * k + 1)) := ⟨ti_170_ok, tiT_rrrlrlrll_ok, tiT_rrrlrlrlr_ok⟩
theorem tiT_rrrlrlrrl_ok : T.All (fun t i => mkTI Tryz.prog t = some i) tiT_rrrlrlrrl (fun k => (fun k => (fun k => (fun k => (fun k => (fun k => (fun k => (fun k => id (2 * k + 2)) (2 * k + 2)) (2 * k + 1)) (2 * k + 2)) (2 * k + 1)) (2 * k + 2)) (2 * k + 2)) (2 * k + 1)) := ⟨ti_362_ok, trivial, trivial⟩
theorem tiT_rrrlrlrr_ok : T.All (fun t i => mkTI Tryz.prog t = some i) tiT_rrrlrlrr (fun k => (fun k => (fun k => (fun k => (fun k => (fun k => (fun k => id (2 * k + 2)) (2 * k + 2)) (2 * k + 1)) (2 * k + 2)) (2 * k + 1)) (2 * k + 2)) (2 * k + 2)) := ⟨ti_234_ok, tiT_rrrlrlrrl_ok, trivial⟩
theorem tiT_rrrlrlr_ok : T.All (fun t i => mkTI Tryz.prog t = some i) tiT_rrrlrlr (fun k => (fun k => (fun k => (fun k => (fun k => (fun k => id (2 * k + 2)) (2 * k + 2)) (2 * k + 1)) (2 * k + 2)) (2 * k + 1)) (2 * k + 2)) := ⟨ti_106_ok, tiT_rrrlrlrl_ok, tiT_rrrlrlrr_ok⟩
theorem tiT_rrrlrl_ok : T.All (fun t i => mkTI Tryz.prog t = some i) tiT_rrrlrl (fun k => (fun k => (fun k => (fun k => (fun k => id (2 * k + 2)) (2 * k + 2)) (2 * k + 1)) (2 * k + 2)) (2 * k + 1)) := ⟨ti_42_ok, tiT_rrrlrll_ok, tiT_rrrlrlr_ok⟩
theorem tiT_rrrlrrlll_ok : T.All (fun t i => mkTI Tryz.prog t = some i) tiT_rrrlrrlll (fun k => (fun k => (fun k => (fun k => (fun k => (fun k => (fun k => (fun k => id (2 * k + 2)) (2 * k + 2)) (2 * k + 1)) (2 * k + 2)) (2 * k + 2)) (2 * k + 1)) (2 * k + 1)) (2 * k + 1)) := ⟨ti_282_ok, trivial, trivial⟩
theorem tiT_rrrlrrllr_ok : T.All (fun t i => mkTI Tryz.prog t = some i) tiT_rrrlrrllr (fun k => (fun k => (fun k => (fun k => (fun k => (fun k => (fun k => (fun k => id (2 * k + 2)) (2 * k + 2)) (2 * k + 1)) (2 * k + 2)) (2 * k + 2)) (2 * k + 1)) (2 * k + 1)) (2 * k + 2)) := ⟨ti_410_ok, trivial, trivial⟩
theorem tiT_rrrlrrll_ok : T.All (fun t i => mkTI Tryz.prog t = some i) tiT_rrrlrrll (fun k => (fun k => (fun k => (fun k => (fun k => (fun k => (fun k => id (2 * k + 2)) (2 * k + 2)) (2 * k + 1)) (2 * k + 2)) (2 * k + 2)) (2 * k + 1)) (2 * k + 1)) := ⟨ti_154_ok, tiT_rrrlrrlll_ok, tiT_rrrlrrllr_ok⟩
theorem tiT_rrrlrrlrl_ok : T.All (fun t i => mkTI Tryz.prog t = some i) tiT_rrrlrrlrl (fun k => (fun k => (fun k => (fun k => (fun k => (fun k => (fun k => (fun k => id (2 * k + 2)) (2 * k + 2)) (2 * k + 1)) (2 * k + 2)) (2 * k + 2)) (2 * k + 1)) (2 * k + 2)) (2 * k + 1)) := ⟨ti_346_ok, trivial, trivial⟩
theorem tiT_rrrlrrlr_ok : T.All (fun t i => mkTI Tryz.prog t = some i) tiT_rrrlrrlr (fun k => (fun k => (fun k => (fun k => (fun k => (fun k => (fun k => id (2 * k + 2)) (2 * k + 2)) (2 * k + 1)) (2 * k + 2)) (2 * k + 2)) (2 * k + 1)) (2 * k + 2)) := ⟨ti_218_ok, tiT_rrrlrrlrl_ok, trivial⟩
theorem tiT_rrrlrrl_ok : T.All (fun t i => mkTI Tryz.prog t = some i) tiT_rrrlrrl (fun k => (fun k => (fun k => (fun k => (fun k => (fun k => id (2 * k + 2)) (2 * k + 2)) (2 * k + 1)) (2 * k + 2)) (2 * k + 2)) (2 * k + 1)) := ⟨ti_90_ok, tiT_rrrlrrll_ok, tiT_rrrlrrlr_ok⟩
theorem tiT_rrrlrrrll_ok : T.All (fun t i => mkTI Tryz.prog t = some i) tiT_rrrlrrrll (fun k => (fun k => (fun k => (fun k => (fun k => (fun k => (fun k => (fun k => id (2 * k + 2)) (2 * k + 2)) (2 * k + 1)) (2 * k + 2)) (2 * k + 2)) (2 * k + 2)) (2 * k + 1)) (2 * k + 1)) := ⟨ti_314_ok, trivial, trivial⟩
theorem tiT_rrrlrrrl_ok : T.All (fun t i => mkTI Tryz.prog t = some i) tiT_rrrlrrrl (fun k => (fun k => (fun k => (fun k => (fun k => (fun k => (fun k => id (2 * k + 2)) (2 * k + 2)) (2 * k + 1)) (2 * k + 2)) (2 * k + 2)) (2 * k + 2)) (2 * k + 1)) := ⟨ti_186_ok, tiT_rrrlrrrll_ok, trivial⟩
theorem tiT_rrrlrrrr_ok : T.All (fun t i => mkTI Tryz.prog t = some i) tiT_rrrlrrrr (fun k => (fun k => (fun k => (fun k => (fun k => (fun k => (fun k => id (2 * k + 2)) (2 * k + 2)) (2 * k + 1)) (2 * k + 2)) (2 * k + 2)) (2 * k + 2)) (2 * k + 2)) := ⟨ti_250_ok, trivial, trivial⟩
theorem tiT_rrrlrrr_ok : T.All (fun t i => mkTI Tryz.prog t = some i) tiT_rrrlrrr (fun k => (fun k => (fun k => (fun k => (fun k => (fun k => id (2 * k + 2)) (2 * k + 2)) (2 * k + 1)) (2 * k + 2)) (2 * k + 2)) (2 * k + 2)) := ⟨ti_122_ok, tiT_rrrlrrrl_ok, tiT_rrrlrrrr_ok⟩
theorem tiT_rrrlrr_ok : T.All (fun t i => mkTI Tryz.prog t = some i) tiT_rrrlrr (fun k => (fun k => (fun k => (fun k => (fun k => id (2 * k + 2)) (2 * k + 2)) (2 * k + 1)) (2 * k + 2)) (2 * k + 2)) := ⟨ti_58_ok, tiT_rrrlrrl_ok, tiT_rrrlrrr_ok⟩
theorem tiT_rrrlr_ok : T.All (fun t i => mkTI Tryz.prog t = some i) tiT_rrrlr (fun k => (fun k => (fun k => (fun k => id (2 * k + 2)) (2 * k + 2)) (2 * k + 1)) (2 * k + 2)) := ⟨ti_26_ok, tiT_rrrlrl_ok, tiT_rrrlrr_ok⟩
theorem tiT_rrrl_ok : T.All (fun t i => mkTI Tryz.prog t = some i) tiT_rrrl (fun k => (fun k => (fun k => id (2 * k + 2)) (2 * k + 2)) (2 * k + 1)) := ⟨ti_10_ok, tiT_rrrll_ok, tiT_rrrlr_ok⟩
theorem tiT_rrrrlllll_ok : T.All (fun t i => mkTI Tryz.prog t = some i) tiT_rrrrlllll (fun k => (fun k => (fun k => (fun k => (fun k => (fun k => (fun k => (fun k => id (2 * k + 2)) (2 * k + 2)) (2 * k + 2)) (2 * k + 1)) (2 * k + 1)) (2 * k + 1)) (2 * k + 1)) (2 * k + 1)) := ⟨ti_262_ok, trivial, trivial⟩
theorem tiT_rrrrllllr_ok : T.All (fun t i => mkTI Tryz.prog t = some i) tiT_rrrrllllr (fun k => (fun k => (fun k => (fun k => (fun k => (fun k => (fun k => (fun k => id (2 * k + 2)) (2 * k + 2)) (2 * k + 2)) (2 * k + 1)) (2 * k + 1)) (2 * k + 1)) (2 * k + 1)) (2 * k + 2)) := ⟨ti_390_ok, trivial, trivial⟩
theorem tiT_rrrrllll_ok : T.All (fun t i => mkTI Tryz.prog t = some i) tiT_rrrrllll (fun k => (fun k => (fun k => (fun k => (fun k => (fun k => (fun k => id (2 * k + 2)) (2 * k + 2)) (2 * k + 2)) (2 * k + 1)) (2 * k + 1)) (2 * k + 1)) (2 * k + 1)) := ⟨ti_134_ok, tiT_rrrrlllll_ok, tiT_rrrrllllr_ok⟩
theorem tiT_rrrrlllrl_ok : T.All (fun t i => mkTI Tryz.prog t = some i) tiT_rrrrlllrl (fun k => (fun k => (fun k => (fun k => (fun k => (fun k => (fun k => (fun k => id (2 * k + 2)) (2 * k + 2)) (2 * k + 2)) (2 * k + 1)) (2 * k + 1)) (2 * k + 1)) (2 * k + 2)) (2 * k + 1)) := ⟨ti_326_ok, trivial, trivial⟩
theorem tiT_rrrrlllr_ok : T.All (fun t i => mkTI Tryz.prog t = some i) tiT_rrrrlllr (fun k => (fun k => (fun k => (fun k => (fun k => (fun k => (fun k => id (2 * k + 2)) (2 * k + 2)) (2 * k + 2)) (2 * k + 1)) (2 * k + 1)) (2 * k + 1)) (2 * k + 2)) := ⟨trivial, tiT_rrrrlllrl_ok, trivial⟩
theorem tiT_rrrrlll_ok : T.All (fun t i => mkTI Tryz.prog t = some i) tiT_rrrrlll (fun k => (fun k => (fun k => (fun k => (fun k => (fun k => id (2 * k + 2)) (2 * k + 2)) (2 * k + 2)) (2 * k + 1)) (2 * k + 1)) (2 * k + 1)) := ⟨ti_70_ok, tiT_rrrrllll_ok, tiT_rrrrlllr_ok⟩
theorem tiT_rrrrllrll_ok : T.All (fun t i => mkTI Tryz.prog t = some i) tiT_rrrrllrll (fun k => (fun k => (fun k => (fun k => (fun k => (fun k => (fun k => (fun k => id (2 * k + 2)) (2 * k + 2)) (2 * k + 2)) (2 * k + 1)) (2 * k + 1)) (2 * k + 2)) (2 * k + 1)) (2 * k + 1)) := ⟨ti_294_ok, trivial, trivial⟩
theorem tiT_rrrrllrlr_ok : T.All (fun t i => mkTI Tryz.prog t = some i) tiT_rrrrllrlr (fun k => (fun k => (fun k => (fun k => (fun k => (fun k => (fun k => (fun k => id (2 * k + 2)) (2 * k + 2)) (2 * k + 2)) (2 * k + 1)) (2 * k + 1)) (2 * k + 2)) (2 * k + 1)) (2 * k + 2)) := ⟨ti_422_ok, trivial, trivial⟩
theorem tiT_rrrrllrl_ok : T.All (fun t i => mkTI Tryz.prog t = some i) tiT_rrrrllrl (fun k => (fun k => (fun k => (fun k => (fun k => (fun k => (fun k => id (2 * k + 2)) (2 * k + 2)) (2 * k + 2)) (2 * k + 1)) (2 * k + 1)) (2 * k + 2)) (2 * k + 1)) := ⟨ti_166_ok, tiT_rrrrllrll_ok, tiT_rrrrllrlr_ok⟩
theorem tiT_rrrrllrrl_ok : T.All (fun t i => mkTI Tryz.prog t = some i) tiT_rrrrllrrl (fun k => (fun k => (fun k => (fun k => (fun k => (fun k => (fun k => (fun k => id (2 * k + 2)) (2 * k + 2)) (2 * k + 2)) (2 * k + 1)) (2 * k + 1)) (2 * k + 2)) (2 * k + 2)) (2 * k + 1)) := ⟨ti_358_ok, trivial, trivial⟩
theorem tiT_rrrrllrr_ok : T.All (fun t i => mkTI Tryz.prog t = some i) tiT_rrrrllrr (fun k => (fun k => (fun k => (fun k => (fun k => (fun k => (fun k => id (2 * k + 2)) (2 * k + 2)) (2 * k + 2)) (2 * k + 1)) (2 * k + 1)) (2 * k + 2)) (2 * k + 2)) := ⟨ti_230_ok, tiT_rrrrllrrl_ok, trivial⟩
theorem tiT_rrrrllr_ok : T.All (fun t i => mkTI Tryz.prog t = some i) tiT_rrrrllr (fun k => (fun k => (fun k => (fun k => (fun k => (fun k => id (2 * k + 2)) (2 * k + 2)) (2 * k + 2)) (2 * k + 1)) (2 * k + 1)) (2 * k + 2)) := ⟨ti_102_ok, tiT_rrrrllrl_ok, tiT_rrrrllrr_ok⟩
theorem tiT_rrrrll_ok : T.All (fun t i => mkTI Tryz.prog t = some i) tiT_rrrrll (fun k => (fun k => (fun k => (fun k => (fun k => id (2 * k + 2)) (2 * k + 2)) (2 * k + 2)) (2 * k + 1)) (2 * k + 1)) := ⟨ti_38_ok, tiT_rrrrlll_ok, tiT_rrrrllr_ok⟩
theorem tiT_rrrrlrlll_ok : T.All (fun t i => mkTI Tryz.prog t = some i) tiT_rrrrlrlll (fun k => (fun k => (fun k => (fun k => (fun k => (fun k => (fun k => (fun k => id (2 * k + 2)) (2 * k + 2)) (2 * k + 2)) (2 * k + 1)) (2 * k + 2)) (2 * k + 1)) (2 * k + 1)) (2 * k + 1)) := ⟨ti_278_ok, trivial, trivial⟩
theorem tiT_rrrrlrll_ok : T.All (fun t i => mkTI Tryz.prog t = some i) tiT_rrrrlrll (fun k => (fun k => (fun k => (fun k => (fun k => (fun k => (fun k => id (2 * k + 2)) (2 * k + 2)) (2 * k + 2)) (2 * k + 1)) (2 * k + 2)) (2 * k + 1)) (2 * k + 1)) := ⟨ti_150_ok, tiT_rrrrlrlll_ok, trivial⟩
theorem tiT_rrrrlrlrl_ok : T.All (fun t i => mkTI Tryz.prog t = some i) tiT_rrrrlrlrl (fun k => (fun k => (fun k => (fun k => (fun k => (fun k => (fun k => (fun k => id (2 * k + 2)) (2 * k + 2)) (2 * k + 2)) (2 * k + 1)) (2 * k + 2)) (2 * k + 1)) (2 * k + 2)) (2 * k + 1)) := ⟨ti_342_ok, trivial, trivial⟩
theorem tiT_rrrrlrlr_ok : T.All (fun t i => mkTI Tryz.prog t = some i) tiT_rrrrlrlr (fun k => (fun k => (fun k => (fun k => (fun k => (fun k => (fun k => id (2 * k + 2)) (2 * k + 2)) (2 * k + 2)) (2 * k + 1)) (2 * k + 2)) (2 * k + 1)) (2 * k + 2)) := ⟨ti_214_ok, tiT_rrrrlrlrl_ok, trivial⟩
theorem tiT_rrrrlrl_ok : T.All (fun t i => mkTI Tryz.prog t = some i) tiT_rrrrlrl (fun k => (fun k => (fun k => (fun k => (fun k => (fun k => id (2 * k + 2)) (2 * k + 2)) (2 * k + 2)) (2 * k + 1)) (2 * k + 2)) (2 * k + 1)) := ⟨ti_86_ok, tiT_rrrrlrll_ok, tiT_rrrrlrlr_ok⟩
theorem tiT_rrrrlrrrl_ok : T.All (fun t i => mkTI Tryz.prog t = some i) tiT_rrrrlrrrl (fun k => (fun k => (fun k => (fun k => (fun k => (fun k => (fun k => (fun k => id (2 * k + 2)) (2 * k + 2)) (2 * k + 2)) (2 * k + 1)) (2 * k + 2)) (2 * k + 2)) (2 * k + 2)) (2 * k + 1)) := ⟨ti_374_ok, trivial, trivial⟩
theorem tiT_rrrrlrrr_ok : T.All (fun t i => mkTI Tryz.prog t = some i) tiT_rrrrlrrr (fun k => (fun k => (fun k => (fun k => (fun k => (fun k => (fun k => id (2 * k + 2)) (2 * k + 2)) (2 * k + 2)) (2 * k + 1)) (2 * k + 2)) (2 * k + 2)) (2 * k + 2)) := ⟨ti_246_ok, tiT_rrrrlrrrl_ok, trivial⟩
theorem tiT_rrrrlrr_ok : T.All (fun t i => mkTI Tryz.prog t = some i) tiT_rrrrlrr (fun k => (fun k => (fun k => (fun k => (fun k => (fun k => id (2 * k + 2)) (2 * k + 2)) (2 * k + 2)) (2 * k + 1)) (2 * k + 2)) (2 * k + 2)) := ⟨ti_118_ok, trivial, tiT_rrrrlrrr_ok⟩
theorem tiT_rrrrlr_ok : T.All (fun t i => mkTI Tryz.prog t = some i) tiT_rrrrlr (fun k => (fun k => (fun k => (fun k => (fun k => id (2 * k + 2)) (2 * k + 2)) (2 * k + 2)) (2 * k + 1)) (2 * k + 2)) := ⟨ti_54_ok, tiT_rrrrlrl_ok, tiT_rrrrlrr_ok⟩
theorem tiT_rrrrl_ok : T.All (fun t i => mkTI Tryz.prog t = some i) tiT_rrrrl (fun k => (fun k => (fun k => (fun k => id (2 * k + 2)) (2 * k + 2)) (2 * k + 2)) (2 * k + 1)) := ⟨ti_22_ok, tiT_rrrrll_ok, tiT_rrrrlr_ok⟩
theorem tiT_rrrrrllll_ok : T.All (fun t i => mkTI Tryz.prog t = some i) tiT_rrrrrllll (fun k => (fun k => (fun k => (fun k => (fun k => (fun k => (fun k => (fun k => id (2 * k + 2)) (2 * k + 2)) (2 * k + 2)) (2 * k + 2)) (2 * k + 1)) (2 * k + 1)) (2 * k + 1)) (2 * k + 1)) := ⟨ti_270_ok, trivial, trivial⟩
theorem tiT_rrrrrlll_ok : T.All (fun t i => mkTI Tryz.prog t = some i) tiT_rrrrrlll (fun k => (fun k => (fun k => (fun k => (fun k => (fun k => (fun k => id (2 * k + 2)) (2 * k + 2)) (2 * k + 2)) (2 * k + 2)) (2 * k + 1)) (2 * k + 1)) (2 * k + 1)) := ⟨ti_142_ok, tiT_rrrrrllll_ok, trivial⟩
theorem tiT_rrrrrllrl_ok : T.All (fun t i => mkTI Tryz.prog t = some i) tiT_rrrrrllrl (fun k => (fun k => (fun k => (fun k => (fun k => (fun k => (fun k => (fun k => id (2 * k + 2)) (2 * k + 2)) (2 * k + 2)) (2 * k + 2)) (2 * k + 1)) (2 * k + 1)) (2 * k + 2)) (2 * k + 1)) := ⟨ti_334_ok, trivial, trivial⟩
theorem tiT_rrrrrllr_ok : T.All (fun t i => mkTI Tryz.prog t = some i) tiT_rrrrrllr (fun k => (fun k => (fun k => (fun k => (fun k => (fun k => (fun k => id (2 * k + 2)) (2 * k + 2)) (2 * k + 2)) (2 * k + 2)) (2 * k + 1)) (2 * k + 1)) (2 * k + 2)) := ⟨trivial, tiT_rrrrrllrl_ok, trivial⟩
theorem tiT_rrrrrll_ok : T.All (fun t i => mkTI Tryz.prog t = some i) tiT_rrrrrll (fun k => (fun k => (fun k => (fun k => (fun k => (fun k => id (2 * k + 2)) (2 * k + 2)) (2 * k + 2)) (2 * k + 2)) (2 * k + 1)) (2 * k + 1)) := ⟨trivial, tiT_rrrrrlll_ok, tiT_rrrrrllr_ok⟩
theorem tiT_rrrrrlrll_ok : T.All (fun t i => mkTI Tryz.prog t = some i) tiT_rrrrrlrll (fun k => (fun k => (fun k => (fun k => (fun k => (fun k => (fun k => (fun k => id (2 * k + 2)) (2 * k + 2)) (2 * k + 2)) (2 * k + 2)) (2 * k + 1)) (2 * k + 2)) (2 * k + 1)) (2 * k + 1)) := ⟨ti_302_ok, trivial, trivial⟩
theorem tiT_rrrrrlrl_ok : T.All (fun t i => mkTI Tryz.prog t = some i) tiT_rrrrrlrl (fun k => (fun k => (fun k => (fun k => (fun k => (fun k => (fun k => id (2 * k + 2)) (2 * k + 2)) (2 * k + 2)) (2 * k + 2)) (2 * k + 1)) (2 * k + 2)) (2 * k + 1)) := ⟨ti_174_ok, tiT_rrrrrlrll_ok, trivial⟩
theorem tiT_rrrrrlrrl_ok : T.All (fun t i => mkTI Tryz.prog t = some i) tiT_rrrrrlrrl (fun k => (fun k => (fun k => (fun k => (fun k => (fun k => (fun k => (fun k => id (2 * k + 2)) (2 * k + 2)) (2 * k + 2)) (2 * k + 2)) (2 * k + 1)) (2 * k + 2)) (2 * k + 2)) (2 * k + 1)) := ⟨ti_366_ok, trivial, trivial⟩
theorem tiT_rrrrrlrr_ok : T.All (fun t i => mkTI Tryz.prog t = some i) tiT_rrrrrlrr (fun k => (fun k => (fun k => (fun k => (fun k => (fun k => (fun k => id (2 * k + 2)) (2 * k + 2)) (2 * k + 2)) (2 * k + 2)) (2 * k + 1)) (2 * k + 2)) (2 * k + 2)) := ⟨ti_238_ok, tiT_rrrrrlrrl_ok, trivial⟩
theorem tiT_rrrrrlr_ok : T.All (fun t i => mkTI Tryz.prog t = some i) tiT_rrrrrlr (fun k => (fun k => (fun k => (fun k => (fun k => (fun k => id (2 * k + 2)) (2 * k + 2)) (2 * k + 2)) (2 * k + 2)) (2 * k + 1)) (2 * k + 2)) := ⟨ti_110_ok, tiT_rrrrrlrl_ok, tiT_rrrrrlrr_ok⟩
theorem tiT_rrrrrl_ok : T.All (fun t i => mkTI Tryz.prog t = some i) tiT_rrrrrl (fun k => (fun k => (fun k => (fun k => (fun k => id (2 * k + 2)) (2 * k + 2)) (2 * k + 2)) (2 * k + 2)) (2 * k + 1)) := ⟨ti_46_ok, tiT_rrrrrll_ok, tiT_rrrrrlr_ok⟩
theorem tiT_rrrrrrlll_ok : T.All (fun t i => mkTI Tryz.prog t = some i) tiT_rrrrrrlll (fun k => (fun k => (fun k => (fun k => (fun k => (fun k => (fun k => (fun k => id (2 * k + 2)) (2 * k + 2)) (2 * k + 2)) (2 * k + 2)) (2 * k + 2)) (2 * k + 1)) (2 * k + 1)) (2 * k + 1)) := ⟨ti_286_ok, trivial, trivial⟩
theorem tiT_rrrrrrllr_ok : T.All (fun t i => mkTI Tryz.prog t = some i) tiT_rrrrrrllr (fun k => (fun k => (fun k => (fun k => (fun k => (fun k => (fun k => (fun k => id (2 * k + 2)) (2 * k + 2)) (2 * k + 2)) (2 * k + 2)) (2 * k + 2)) (2 * k + 1)) (2 * k + 1)) (2 * k + 2)) := ⟨ti_414_ok, trivial, trivial⟩
theorem tiT_rrrrrrll_ok : T.All (fun t i => mkTI Tryz.prog t = some i) tiT_rrrrrrll (fun k => (fun k => (fun k => (fun k => (fun k => (fun k => (fun k => id (2 * k + 2)) (2 * k + 2)) (2 * k + 2)) (2 * k + 2)) (2 * k + 2)) (2 * k + 1)) (2 * k + 1)) := ⟨ti_158_ok, tiT_rrrrrrlll_ok, tiT_rrrrrrllr_ok⟩
theorem tiT_rrrrrrlrl_ok : T.All (fun t i => mkTI Tryz.prog t = some i) tiT_rrrrrrlrl (fun k => (fun k => (fun k => (fun k => (fun k => (fun k => (fun k => (fun k => id (2 * k + 2)) (2 * k + 2)) (2 * k + 2)) (2 * k + 2)) (2 * k + 2)) (2 * k + 1)) (2 * k + 2)) (2 * k + 1)) := ⟨ti_350_ok, trivial, trivial⟩
theorem tiT_rrrrrrlr_ok : T.All (fun t i => mkTI Tryz.prog t = some i) tiT_rrrrrrlr (fun k => (fun k => (fun k => (fun k => (fun k => (fun k => (fun k => id (2 * k + 2)) (2 * k + 2)) (2 * k + 2)) (2 * k + 2)) (2 * k + 2)) (2 * k + 1)) (2 * k + 2)) := ⟨ti_222_ok, tiT_rrrrrrlrl_ok, trivial⟩
theorem tiT_rrrrrrl_ok : T.All (fun t i => mkTI Tryz.prog t = some i) tiT_rrrrrrl (fun k => (fun k => (fun k => (fun k => (fun k => (fun k => id (2 * k + 2)) (2 * k + 2)) (2 * k + 2)) (2 * k + 2)) (2 * k + 2)) (2 * k + 1)) := ⟨ti_94_ok, tiT_rrrrrrll_ok, tiT_rrrrrrlr_ok⟩
theorem tiT_rrrrrrrll_ok : T.All (fun t i => mkTI Tryz.prog t = some i) tiT_rrrrrrrll (fun k => (fun k => (fun k => (fun k => (fun k => (fun k => (fun k => (fun k => id (2 * k + 2)) (2 * k + 2)) (2 * k + 2)) (2 * k + 2)) (2 * k + 2)) (2 * k + 2)) (2 * k + 1)) (2 * k + 1)) := ⟨ti_318_ok, trivial, trivial⟩
theorem tiT_rrrrrrrl_ok : T.All (fun t i => mkTI Tryz.prog t = some i) tiT_rrrrrrrl (fun k => (fun k => (fun k => (fun k => (fun k => (fun k => (fun k => id (2 * k + 2)) (2 * k + 2)) (2 * k + 2)) (2 * k + 2)) (2 * k + 2)) (2 * k + 2)) (2 * k + 1)) := ⟨ti_190_ok, tiT_rrrrrrrll_ok, trivial⟩
theorem tiT_rrrrrrrrl_ok : T.All (fun t i => mkTI Tryz.prog t = some i) tiT_rrrrrrrrl (fun k => (fun k => (fun k => (fun k => (fun k => (fun k => (fun k => (fun k => id (2 * k + 2)) (2 * k + 2)) (2 * k + 2)) (2 * k + 2)) (2 * k + 2)) (2 * k + 2)) (2 * k + 2)) (2 * k + 1)) := ⟨ti_382_ok, trivial, trivial⟩
theorem tiT_rrrrrrrr_ok : T.All (fun t i => mkTI Tryz.prog t = some i) tiT_rrrrrrrr (fun k => (fun k => (fun k => (fun k => (fun k => (fun k => (fun k => id (2 * k + 2)) (2 * k + 2)) (2 * k + 2)) (2 * k + 2)) (2 * k + 2)) (2 * k + 2)) (2 * k + 2)) := ⟨trivial, tiT_rrrrrrrrl_ok, trivial⟩
theorem tiT_rrrrrrr_ok : T.All (fun t i => mkTI Tryz.prog t = some i) tiT_rrrrrrr (fun k => (fun k => (fun k => (fun k => (fun k => (fun k => id (2 * k + 2)) (2 * k + 2)) (2 * k + 2)) (2 * k + 2)) (2 * k + 2)) (2 * k + 2)) := ⟨ti_126_ok, tiT_rrrrrrrl_ok, tiT_rrrrrrrr_ok⟩
theorem tiT_rrrrrr_ok : T.All (fun t i => mkTI Tryz.prog t = some i) tiT_rrrrrr (fun k => (fun k => (fun k => (fun k => (fun k => id (2 * k + 2)) (2 * k + 2)) (2 * k + 2)) (2 * k + 2)) (2 * k + 2)) := ⟨ti_62_ok, tiT_rrrrrrl_ok, tiT_rrrrrrr_ok⟩
theorem tiT_rrrrr_ok : T.All (fun t i => mkTI Tryz.prog t = some i) tiT_rrrrr (fun k => (fun k => (fun k => (fun k => id (2 * k + 2)) (2 * k + 2)) (2 * k + 2)) (2 * k + 2)) := ⟨ti_30_ok, tiT_rrrrrl_ok, tiT_rrrrrr_ok⟩
theorem tiT_rrrr_ok : T.All (fun t i => mkTI Tryz.prog t = some i) tiT_rrrr (fun k => (fun k => (fun k => id (2 * k + 2)) (2 * k + 2)) (2 * k + 2)) := ⟨ti_14_ok, tiT_rrrrl_ok, tiT_rrrrr_ok⟩
theorem tiT_rrr_ok : T.All (fun t i => mkTI Tryz.prog t = some i) tiT_rrr (fun k => (fun k => id (2 * k + 2)) (2 * k + 2)) := ⟨ti_6_ok, tiT_rrrl_ok, tiT_rrrr_ok⟩
theorem tiT_rr_ok : T.All (fun t i => mkTI Tryz.prog t = some i) tiT_rr (fun k => id (2 * k + 2)) := ⟨ti_2_ok, tiT_rrl_ok, tiT_rrr_ok⟩
theorem tiT_r_ok : T.All (fun t i => mkTI Tryz.prog t = some i) tiT_r id := ⟨trivial, tiT_rl_ok, tiT_rr_ok⟩
theorem tiTab_ok : T.All (fun t i => mkTI Tryz.prog t = some i) tiTab id := tiT_r_ok
theorem ft_3_ok : FtOk Tryz.prog 3 Tryz.f3 := FtOk.of Tryz.func3 (by kernel_rfl)
theorem ft_4_ok : FtOk Tryz.prog 4 Tryz.f4 := FtOk.of Tryz.func4 (by kernel_rfl)
theorem ft_5_ok : FtOk Tryz.prog 5 Tryz.f5 := FtOk.of Tryz.func5 (by kernel_rfl)
theorem ft_6_ok : FtOk Tryz.prog 6 Tryz.f6 := FtOk.of Tryz.func6 (by kernel_rfl)
theorem ft_7_ok : FtOk Tryz.prog 7 Tryz.f7 := FtOk.of Tryz.func7 (by kernel_rfl)
theorem ft_8_ok : FtOk Tryz.prog 8 Tryz.f8 := FtOk.of Tryz.func8 (by kernel_rfl)
theorem ft_9_ok : FtOk Tryz.prog 9 Tryz.f9 := FtOk.of Tryz.func9 (by kernel_rfl)
theorem ft_10_ok : FtOk Tryz.prog 10 Tryz.f10 := FtOk.of Tryz.func10 (by kernel_rfl)
theorem ft_11_ok : FtOk Tryz.prog 11 Tryz.f11 := FtOk.of Tryz.func11 (by kernel_rfl)
theorem ft_12_ok : FtOk Tryz.prog 12 Tryz.f12 := FtOk.of Tryz.func12 (by kernel_rfl)
theorem ft_13_ok : FtOk Tryz.prog 13 Tryz.f13 := FtOk.of Tryz.func13 (by kernel_rfl)
theorem ft_14_ok : FtOk Tryz.prog 14 Tryz.f14 := FtOk.of Tryz.func14 (by kernel_rfl)
theorem ft_15_ok : FtOk Tryz.prog 15 Tryz.f15 := FtOk.of Tryz.func15 (by kernel_rfl)
theorem ft_16_ok : FtOk Tryz.prog 16 Tryz.f16 := FtOk.of Tryz.func16 (by kernel_rfl)
theorem ft_17_ok : FtOk Tryz.prog 17 Tryz.f17 := FtOk.of Tryz.func17 (by kernel_rfl)
theorem ft_18_ok : FtOk Tryz.prog 18 Tryz.f18 := FtOk.of Tryz.func18 (by kernel_rfl)
theorem ft_19_ok : FtOk Tryz.prog 19 Tryz.f19 := FtOk.of Tryz.func19 (by kernel_rfl)
theorem ft_20_ok : FtOk Tryz.prog 20 Tryz.f20 := FtOk.of Tryz.func20 (by kernel_rfl)
theorem ft_21_ok : FtOk Tryz.prog 21 Tryz.f21 := FtOk.of Tryz.func21 (by kernel_rfl)
theorem ft_22_ok : FtOk Tryz.prog 22 Tryz.f22 := FtOk.of Tryz.func22 (by kernel_rfl)
theorem ft_23_ok : FtOk Tryz.prog 23 Tryz.f23 := FtOk.of Tryz.func23 (by kernel_rfl)
theorem ft_24_ok : FtOk Tryz.prog 24 Tryz.f24 := FtOk.of Tryz.func24 (by kernel_rfl)
theorem ft_25_ok : FtOk Tryz.prog 25 Tryz.f25 := FtOk.of Tryz.func25 (by kernel_rfl)
theorem ft_26_ok : FtOk Tryz.prog 26 Tryz.f26 := FtOk.of Tryz.func26 (by kernel_rfl)
theorem ft_27_ok : FtOk Tryz.prog 27 Tryz.f27 := FtOk.of Tryz.func27 (by kernel_rfl)
theorem ft_28_ok : FtOk Tryz.prog 28 Tryz.f28 := FtOk.of Tryz.func28 (by kernel_rfl)
theorem ft_29_ok : FtOk Tryz.prog 29 Tryz.f29 := FtOk.of Tryz.func29 (by kernel_rfl)
theorem ft_30_ok : FtOk Tryz.prog 30 Tryz.f30 := FtOk.of Tryz.func30 (by kernel_rfl)
theorem ft_31_ok : FtOk Tryz.prog 31 Tryz.f31 := FtOk.of Tryz.func31 (by kernel_rfl)
theorem ft_32_ok : FtOk Tryz.prog 32 Tryz.f32 := FtOk.of Tryz.func32 (by kernel_rfl)
theorem ft_33_ok : FtOk Tryz.prog 33 Tryz.f33 := FtOk.of Tryz.func33 (by kernel_rfl)
theorem ft_34_ok : FtOk Tryz.prog 34 Tryz.f34 := FtOk.of Tryz.func34 (by kernel_rfl)
theorem ft_35_ok : FtOk Tryz.prog 35 Tryz.f35 := FtOk.of Tryz.func35 (by kernel_rfl)
theorem ft_36_ok : FtOk Tryz.prog 36 Tryz.f36 := FtOk.of Tryz.func36 (by kernel_rfl)
theorem ft_37_ok : FtOk Tryz.prog 37 Tryz.f37 := FtOk.of Tryz.func37 (by kernel_rfl)
theorem ft_38_ok : FtOk Tryz.prog 38 Tryz.f38 := FtOk.of Tryz.func38 (by kernel_rfl)
theorem ft_39_ok : FtOk Tryz.prog 39 Tryz.f39 := FtOk.of Tryz.func39 (by kernel_rfl)
theorem ft_40_ok : FtOk Tryz.prog 40 Tryz.f40 := FtOk.of Tryz.func40 (by kernel_rfl)
theorem ft_41_ok : FtOk Tryz.prog 41 Tryz.f41 := FtOk.of Tryz.func41 (by kernel_rfl)
theorem ft_42_ok : FtOk Tryz.prog 42 Tryz.f42 := FtOk.of Tryz.func42 (by kernel_rfl)
theorem ft_43_ok : FtOk Tryz.prog 43 Tryz.f43 := FtOk.of Tryz.func43 (by kernel_rfl)
theorem ft_44_ok : FtOk Tryz.prog 44 Tryz.f44 := FtOk.of Tryz.func44 (by kernel_rfl)
theorem ft_45_ok : FtOk Tryz.prog 45 Tryz.f45 := FtOk.of Tryz.func45 (by kernel_rfl)
theorem ft_46_ok : FtOk Tryz.prog 46 Tryz.f46 := FtOk.of Tryz.func46 (by kernel_rfl)
theorem ft_47_ok : FtOk Tryz.prog 47 Tryz.f47 := FtOk.of Tryz.func47 (by kernel_rfl)
theorem ft_48_ok : FtOk Tryz.prog 48 Tryz.f48 := FtOk.of Tryz.func48 (by kernel_rfl)
theorem ft_49_ok : FtOk Tryz.prog 49 Tryz.f49 := FtOk.of Tryz.func49 (by kernel_rfl)
theorem ft_50_ok : FtOk Tryz.prog 50 Tryz.f50 := FtOk.of Tryz.func50 (by kernel_rfl)
theorem ft_51_ok : FtOk Tryz.prog 51 Tryz.f51 := FtOk.of Tryz.func51 (by kernel_rfl)
theorem ft_52_ok : FtOk Tryz.prog 52 Tryz.f52 := FtOk.of Tryz.func52 (by kernel_rfl)
theorem ft_53_ok : FtOk Tryz.prog 53 Tryz.f53 := FtOk.of Tryz.func53 (by kernel_rfl)
theorem ft_54_ok : FtOk Tryz.prog 54 Tryz.f54 := FtOk.of Tryz.func54 (by kernel_rfl)
theorem ft_55_ok : FtOk Tryz.prog 55 Tryz.f55 := FtOk.of Tryz.func55 (by kernel_rfl)
theorem ft_56_ok : FtOk Tryz.prog 56 Tryz.f56 := FtOk.of Tryz.func56 (by kernel_rfl)
theorem ft_57_ok : FtOk Tryz.prog 57 Tryz.f57 := FtOk.of Tryz.func57 (by kernel_rfl)
theorem ft_58_ok : FtOk Tryz.prog 58 Tryz.f58 := FtOk.of Tryz.func58 (by kernel_rfl)
theorem ft_59_ok : FtOk Tryz.prog 59 Tryz.f59 := FtOk.of Tryz.func59 (by kernel_rfl)
theorem ft_60_ok : FtOk Tryz.prog 60 Tryz.f60 := FtOk.of Tryz.func60 (by kernel_rfl)
theorem ft_61_ok : FtOk Tryz.prog 61 Tryz.f61 := FtOk.of Tryz.func61 (by kernel_rfl)
theorem ft_62_ok : FtOk Tryz.prog 62 Tryz.f62 := FtOk.of Tryz.func62 (by kernel_rfl)
theorem ft_63_ok : FtOk Tryz.prog 63 Tryz.f63 := FtOk.of Tryz.func63 (by kernel_rfl)
theorem ft_64_ok : FtOk Tryz.prog 64 Tryz.f64 := FtOk.of Tryz.func64 (by kernel_rfl)
theorem ft_65_ok : FtOk Tryz.prog 65 Tryz.f65 := FtOk.of Tryz.func65 (by kernel_rfl)
theorem ft_66_ok : FtOk Tryz.prog 66 Tryz.f66 := FtOk.of Tryz.func66 (by kernel_rfl)
theorem ft_67_ok : FtOk Tryz.prog 67 Tryz.f67 := FtOk.of Tryz.func67 (by kernel_rfl)
theorem ft_68_ok : FtOk Tryz.prog 68 Tryz.f68 := FtOk.of Tryz.func68 (by kernel_rfl)
theorem ft_69_ok : FtOk Tryz.prog 69 Tryz.f69 := FtOk.of Tryz.func69 (by kernel_rfl)
theorem ft_70_ok : FtOk Tryz.prog 70 Tryz.f70 := FtOk.of Tryz.func70 (by kernel_rfl)
theorem ft_71_ok : FtOk Tryz.prog 71 Tryz.f71 := FtOk.of Tryz.func71 (by kernel_rfl)
theorem ft_72_ok : FtOk Tryz.prog 72 Tryz.f72 := FtOk.of Tryz.func72 (by kernel_rfl)
theorem ft_73_ok : FtOk Tryz.prog 73 Tryz.f73 := FtOk.of Tryz.func73 (by kernel_rfl)
theorem ft_74_ok : FtOk Tryz.prog 74 Tryz.f74 := FtOk.of Tryz.func74 (by kernel_rfl)
theorem ft_75_ok : FtOk Tryz.prog 75 Tryz.f75 := FtOk.of Tryz.func75 (by kernel_rfl)
theorem ft_76_ok : FtOk Tryz.prog 76 Tryz.f76 := FtOk.of Tryz.func76 (by kernel_rfl)
theorem ft_77_ok : FtOk Tryz.prog 77 Tryz.f77 := FtOk.of Tryz.func77 (by kernel_rfl)
theorem ft_78_ok : FtOk Tryz.prog 78 Tryz.f78 := FtOk.of Tryz.func78 (by kernel_rfl)
theorem ft_79_ok : FtOk Tryz.prog 79 Tryz.f79 := FtOk.of Tryz.func79 (by kernel_rfl)
theorem ft_80_ok : FtOk Tryz.prog 80 Tryz.f80 := FtOk.of Tryz.func80 (by kernel_rfl)
theorem ft_81_ok : FtOk Tryz.prog 81 Tryz.f81 := FtOk.of Tryz.func81 (by kernel_rfl)
theorem ft_82_ok : FtOk Tryz.prog 82 Tryz.f82 := FtOk.of Tryz.func82 (by kernel_rfl)
theorem ft_83_ok : FtOk Tryz.prog 83 Tryz.f83 := FtOk.of Tryz.func83 (by kernel_rfl)
theorem ft_84_ok : FtOk Tryz.prog 84 Tryz.f84 := FtOk.of Tryz.func84 (by kernel_rfl)
theorem ft_85_ok : FtOk Tryz.prog 85 Tryz.f85 := FtOk.of Tryz.func85 (by kernel_rfl)
theorem ft_86_ok : FtOk Tryz.prog 86 Tryz.f86 := FtOk.of Tryz.func86 (by kernel_rfl)
theorem ft_87_ok : FtOk Tryz.prog 87 Tryz.f87 := FtOk.of Tryz.func87 (by kernel_rfl)
theorem ft_88_ok : FtOk Tryz.prog 88 Tryz.f88 := FtOk.of Tryz.func88 (by kernel_rfl)
theorem ft_89_ok : FtOk Tryz.prog 89 Tryz.f89 := FtOk.of Tryz.func89 (by kernel_rfl)
theorem ft_90_ok : FtOk Tryz.prog 90 Tryz.f90 := FtOk.of Tryz.func90 (by kernel_rfl)
theorem ft_91_ok : FtOk Tryz.prog 91 Tryz.f91 := FtOk.of Tryz.func91 (by kernel_rfl)
theorem ft_92_ok : FtOk Tryz.prog 92 Tryz.f92 := FtOk.of Tryz.func92 (by kernel_rfl)
theorem ft_93_ok : FtOk Tryz.prog 93 Tryz.f93 := FtOk.of Tryz.func93 (by kernel_rfl)
theorem ft_94_ok : FtOk Tryz.prog 94 Tryz.f94 := FtOk.of Tryz.func94 (by kernel_rfl)
theorem ft_95_ok : FtOk Tryz.prog 95 Tryz.f95 := FtOk.of Tryz.func95 (by kernel_rfl)
theorem ft_96_ok : FtOk Tryz.prog 96 Tryz.f96 := FtOk.of Tryz.func96 (by kernel_rfl)
theorem ft_97_ok : FtOk Tryz.prog 97 Tryz.f97 := FtOk.of Tryz.func97 (by kernel_rfl)
theorem ft_98_ok : FtOk Tryz.prog 98 Tryz.f98 := FtOk.of Tryz.func98 (by kernel_rfl)
theorem ft_99_ok : FtOk Tryz.prog 99 Tryz.f99 := FtOk.of Tryz.func99 (by kernel_rfl)
theorem ft_100_ok : FtOk Tryz.prog 100 Tryz.f100 := FtOk.of Tryz.func100 (by kernel_rfl)
theorem ft_101_ok : FtOk Tryz.prog 101 Tryz.f101 := FtOk.of Tryz.func101 (by kernel_rfl)
theorem ft_102_ok : FtOk Tryz.prog 102 Tryz.f102 := FtOk.of Tryz.func102 (by kernel_rfl)
theorem ft_103_ok : FtOk Tryz.prog 103 Tryz.f103 := FtOk.of Tryz.func103 (by kernel_rfl)
theorem ft_105_ok : FtOk Tryz.prog 105 Tryz.f105 := FtOk.of Tryz.func105 (by kernel_rfl)
theorem ft_106_ok : FtOk Tryz.prog 106 Tryz.f106 := FtOk.of Tryz.func106 (by kernel_rfl)
theorem ft_107_ok : FtOk Tryz.prog 107 Tryz.f107 := FtOk.of Tryz.func107 (by kernel_rfl)
theorem ft_108_ok : FtOk Tryz.prog 108 Tryz.f108 := FtOk.of Tryz.func108 (by kernel_rfl)
theorem ft_109_ok : FtOk Tryz.prog 109 Tryz.f109 := FtOk.of Tryz.func109 (by kernel_rfl)
theorem ft_110_ok : FtOk Tryz.prog 110 Tryz.f110 := FtOk.of Tryz.func110 (by kernel_rfl)
theorem ft_111_ok : FtOk Tryz.prog 111 Tryz.f111 := FtOk.of Tryz.func111 (by kernel_rfl)
theorem ft_112_ok : FtOk Tryz.prog 112 Tryz.f112 := FtOk.of Tryz.func112 (by kernel_rfl)
theorem ft_113_ok : FtOk Tryz.prog 113 Tryz.f113 := FtOk.of Tryz.func113 (by kernel_rfl)
theorem ft_114_ok : FtOk Tryz.prog 114 Tryz.f114 := FtOk.of Tryz.func114 (by kernel_rfl)
theorem ft_115_ok : FtOk Tryz.prog 115 Tryz.f115 := FtOk.of Tryz.func115 (by kernel_rfl)
theorem ft_116_ok : FtOk Tryz.prog 116 Tryz.f116 := FtOk.of Tryz.func116 (by kernel_rfl)
theorem ft_117_ok : FtOk Tryz.prog 117 Tryz.f117 := FtOk.of Tryz.func117 (by kernel_rfl)
theorem ft_118_ok : FtOk Tryz.prog 118 Tryz.f118 := FtOk.of Tryz.func118 (by kernel_rfl)
theorem ft_119_ok : FtOk Tryz.prog 119 Tryz.f119 := FtOk.of Tryz.func119 (by kernel_rfl)
theorem ft_120_ok : FtOk Tryz.prog 120 Tryz.f120 := FtOk.of Tryz.func120 (by kernel_rfl)
theorem ft_121_ok : FtOk Tryz.prog 121 Tryz.f121 := FtOk.of Tryz.func121 (by kernel_rfl)
theorem ft_122_ok : FtOk Tryz.prog 122 Tryz.f122 := FtOk.of Tryz.func122 (by kernel_rfl)
theorem ft_123_ok : FtOk Tryz.prog 123 Tryz.f123 := FtOk.of Tryz.func123 (by kernel_rfl)
theorem ft_124_ok : FtOk Tryz.prog 124 Tryz.f124 := FtOk.of Tryz.func124 (by kernel_rfl)
theorem ft_125_ok : FtOk Tryz.prog 125 Tryz.f125 := FtOk.of Tryz.func125 (by kernel_rfl)
theorem ft_126_ok : FtOk Tryz.prog 126 Tryz.f126 := FtOk.of Tryz.func126 (by kernel_rfl)
theorem ft_127_ok : FtOk Tryz.prog 127 Tryz.f127 := FtOk.of Tryz.func127 (by kernel_rfl)
theorem ft_128_ok : FtOk Tryz.prog 128 Tryz.f128 := FtOk.of Tryz.func128 (by kernel_rfl)
theorem ft_129_ok : FtOk Tryz.prog 129 Tryz.f129 := FtOk.of Tryz.func129 (by kernel_rfl)
theorem ft_130_ok : FtOk Tryz.prog 130 Tryz.f130 := FtOk.of Tryz.func130 (by kernel_rfl)
theorem ft_131_ok : FtOk Tryz.prog 131 Tryz.f131 := FtOk.of Tryz.func131 (by kernel_rfl)
theorem ft_132_ok : FtOk Tryz.prog 132 Tryz.f132 := FtOk.of Tryz.func132 (by kernel_rfl)
theorem ft_133_ok : FtOk Tryz.prog 133 Tryz.f133 := FtOk.of Tryz.func133 (by kernel_rfl)
theorem ft_134_ok : FtOk Tryz.prog 134 Tryz.f134 := FtOk.of Tryz.func134 (by kernel_rfl)
theorem ft_135_ok : FtOk Tryz.prog 135 Tryz.f135 := FtOk.of Tryz.func135 (by kernel_rfl)
theorem ft_136_ok : FtOk Tryz.prog 136 Tryz.f136 := FtOk.of Tryz.func136 (by kernel_rfl)
theorem ft_137_ok : FtOk Tryz.prog 137 Tryz.f137 := FtOk.of Tryz.func137 (by kernel_rfl)
theorem ft_138_ok : FtOk Tryz.prog 138 Tryz.f138 := FtOk.of Tryz.func138 (by kernel_rfl)
theorem ft_139_ok : FtOk Tryz.prog 139 Tryz.f139 := FtOk.of Tryz.func139 (by kernel_rfl)
theorem ft_140_ok : FtOk Tryz.prog 140 Tryz.f140 := FtOk.of Tryz.func140 (by kernel_rfl)
theorem ft_141_ok : FtOk Tryz.prog 141 Tryz.f141 := FtOk.of Tryz.func141 (by kernel_rfl)
theorem ft_142_ok : FtOk Tryz.prog 142 Tryz.f142 := FtOk.of Tryz.func142 (by kernel_rfl)
theorem ft_143_ok : FtOk Tryz.prog 143 Tryz.f143 := FtOk.of Tryz.func143 (by kernel_rfl)
theorem ft_144_ok : FtOk Tryz.prog 144 Tryz.f144 := FtOk.of Tryz.func144 (by kernel_rfl)
theorem ft_145_ok : FtOk Tryz.prog 145 Tryz.f145 := FtOk.of Tryz.func145 (by kernel_rfl)
theorem ft_146_ok : FtOk Tryz.prog 146 Tryz.f146 := FtOk.of Tryz.func146 (by kernel_rfl)
theorem ft_148_ok : FtOk Tryz.prog 148 Tryz.f148 := FtOk.of Tryz.func148 (by kernel_rfl)
theorem ft_149_ok : FtOk Tryz.prog 149 Tryz.f149 := FtOk.of Tryz.func149 (by kernel_rfl)
theorem ft_150_ok : FtOk Tryz.prog 150 Tryz.f150 := FtOk.of Tryz.func150 (by kernel_rfl)
theorem ft_151_ok : FtOk Tryz.prog 151 Tryz.f151 := FtOk.of Tryz.func151 (by kernel_rfl)
theorem ft_152_ok : FtOk Tryz.prog 152 Tryz.f152 := FtOk.of Tryz.func152 (by kernel_rfl)
theorem ft_153_ok : FtOk Tryz.prog 153 Tryz.f153 := FtOk.of Tryz.func153 (by kernel_rfl)
theorem ft_154_ok : FtOk Tryz.prog 154 Tryz.f154 := FtOk.of Tryz.func154 (by kernel_rfl)
theorem ft_155_ok : FtOk Tryz.prog 155 Tryz.f155 := FtOk.of Tryz.func155 (by kernel_rfl)
theorem ft_156_ok : FtOk Tryz.prog 156 Tryz.f156 := FtOk.of Tryz.func156 (by kernel_rfl)
theorem ft_157_ok : FtOk Tryz.prog 157 Tryz.f157 := FtOk.of Tryz.func157 (by kernel_rfl)
theorem ft_158_ok : FtOk Tryz.prog 158 Tryz.f158 := FtOk.of Tryz.func158 (by kernel_rfl)
theorem ft_159_ok : FtOk Tryz.prog 159 Tryz.f159 := FtOk.of Tryz.func159 (by kernel_rfl)
theorem ft_160_ok : FtOk Tryz.prog 160 Tryz.f160 := FtOk.of Tryz.func160 (by kernel_rfl)
theorem ft_161_ok : FtOk Tryz.prog 161 Tryz.f161 := FtOk.of Tryz.func161 (by kernel_rfl)
theorem ft_162_ok : FtOk Tryz.prog 162 Tryz.f162 := FtOk.of Tryz.func162 (by kernel_rfl)
theorem ft_163_ok : FtOk Tryz.prog 163 Tryz.f163 := FtOk.of Tryz.func163 (by kernel_rfl)
theorem ft_164_ok : FtOk Tryz.prog 164 Tryz.f164 := FtOk.of Tryz.func164 (by kernel_rfl)
theorem ft_165_ok : FtOk Tryz.prog 165 Tryz.f165 := FtOk.of Tryz.func165 (by kernel_rfl)
theorem ft_166_ok : FtOk Tryz.prog 166 Tryz.f166 := FtOk.of Tryz.func166 (by kernel_rfl)
theorem ft_167_ok : FtOk Tryz.prog 167 Tryz.f167 := FtOk.of Tryz.func167 (by kernel_rfl)
theorem ft_168_ok : FtOk Tryz.prog 168 Tryz.f168 := FtOk.of Tryz.func168 (by kernel_rfl)
theorem ft_169_ok : FtOk Tryz.prog 169 Tryz.f169 := FtOk.of Tryz.func169 (by kernel_rfl)
theorem ft_170_ok : FtOk Tryz.prog 170 Tryz.f170 := FtOk.of Tryz.func170 (by kernel_rfl)
theorem ft_171_ok : FtOk Tryz.prog 171 Tryz.f171 := FtOk.of Tryz.func171 (by kernel_rfl)
theorem ft_172_ok : FtOk Tryz.prog 172 Tryz.f172 := FtOk.of Tryz.func172 (by kernel_rfl)
theorem ft_173_ok : FtOk Tryz.prog 173 Tryz.f173 := FtOk.of Tryz.func173 (by kernel_rfl)
theorem ft_174_ok : FtOk Tryz.prog 174 Tryz.f174 := FtOk.of Tryz.func174 (by kernel_rfl)
theorem ft_175_ok : FtOk Tryz.prog 175 Tryz.f175 := FtOk.of Tryz.func175 (by kernel_rfl)
theorem ft_176_ok : FtOk Tryz.prog 176 Tryz.f176 := FtOk.of Tryz.func176 (by kernel_rfl)
theorem ft_177_ok : FtOk Tryz.prog 177 Tryz.f177 := FtOk.of Tryz.func177 (by kernel_rfl)
theorem ft_178_ok : FtOk Tryz.prog 178 Tryz.f178 := FtOk.of Tryz.func178 (by kernel_rfl)
theorem ft_179_ok : FtOk Tryz.prog 179 Tryz.f179 := FtOk.of Tryz.func179 (by kernel_rfl)
theorem ft_180_ok : FtOk Tryz.prog 180 Tryz.f180 := FtOk.of Tryz.func180 (by kernel_rfl)
theorem ft_181_ok : FtOk Tryz.prog 181 Tryz.f181 := FtOk.of Tryz.func181 (by kernel_rfl)
theorem ft_182_ok : FtOk Tryz.prog 182 Tryz.f182 := FtOk.of Tryz.func182 (by kernel_rfl)
theorem ft_183_ok : FtOk Tryz.prog 183 Tryz.f183 := FtOk.of Tryz.func183 (by kernel_rfl)
theorem ft_184_ok : FtOk Tryz.prog 184 Tryz.f184 := FtOk.of Tryz.func184 (by kernel_rfl)
theorem ft_185_ok : FtOk Tryz.prog 185 Tryz.f185 := FtOk.of Tryz.func185 (by kernel_rfl)
theorem ft_186_ok : FtOk Tryz.prog 186 Tryz.f186 := FtOk.of Tryz.func186 (by kernel_rfl)
theorem ft_187_ok : FtOk Tryz.prog 187 Tryz.f187 := FtOk.of Tryz.func187 (by kernel_rfl)
theorem ft_188_ok : FtOk Tryz.prog 188 Tryz.f188 := FtOk.of Tryz.func188 (by kernel_rfl)
theorem ft_189_ok : FtOk Tryz.prog 189 Tryz.f189 := FtOk.of Tryz.func189 (by kernel_rfl)
theorem ft_190_ok : FtOk Tryz.prog 190 Tryz.f190 := FtOk.of Tryz.func190 (by kernel_rfl)
theorem ft_191_ok : FtOk Tryz.prog 191 Tryz.f191 := FtOk.of Tryz.func191 (by kernel_rfl)
theorem ft_192_ok : FtOk Tryz.prog 192 Tryz.f192 := FtOk.of Tryz.func192 (by kernel_rfl)
theorem ft_193_ok : FtOk Tryz.prog 193 Tryz.f193 := FtOk.of Tryz.func193 (by kernel_rfl)
theorem ft_194_ok : FtOk Tryz.prog 194 Tryz.f194 := FtOk.of Tryz.func194 (by kernel_rfl)
theorem ft_195_ok : FtOk Tryz.prog 195 Tryz.f195 := FtOk.of Tryz.func195 (by kernel_rfl)
theorem ft_196_ok : FtOk Tryz.prog 196 Tryz.f196 := FtOk.of Tryz.func196 (by kernel_rfl)
theorem ft_197_ok : FtOk Tryz.prog 197 Tryz.f197 := FtOk.of Tryz.func197 (by kernel_rfl)
theorem ft_198_ok : FtOk Tryz.prog 198 Tryz.f198 := FtOk.of Tryz.func198 (by kernel_rfl)
theorem ft_199_ok : FtOk Tryz.prog 199 Tryz.f199 := FtOk.of Tryz.func199 (by kernel_rfl)
theorem ft_200_ok : FtOk Tryz.prog 200 Tryz.f200 := FtOk.of Tryz.func200 (by kernel_rfl)
theorem ft_201_ok : FtOk Tryz.prog 201 Tryz.f201 := FtOk.of Tryz.func201 (by kernel_rfl)
theorem ft_202_ok : FtOk Tryz.prog 202 Tryz.f202 := FtOk.of Tryz.func202 (by kernel_rfl)
theorem ft_203_ok : FtOk Tryz.prog 203 Tryz.f203 := FtOk.of Tryz.func203 (by kernel_rfl)
theorem ft_204_ok : FtOk Tryz.prog 204 Tryz.f204 := FtOk.of Tryz.func204 (by kernel_rfl)
theorem ft_205_ok : FtOk Tryz.prog 205 Tryz.f205 := FtOk.of Tryz.func205 (by kernel_rfl)
theorem ft_206_ok : FtOk Tryz.prog 206 Tryz.f206 := FtOk.of Tryz.func206 (by kernel_rfl)
theorem ft_207_ok : FtOk Tryz.prog 207 Tryz.f207 := FtOk.of Tryz.func207 (by kernel_rfl)
theorem ft_208_ok : FtOk Tryz.prog 208 Tryz.f208 := FtOk.of Tryz.func208 (by kernel_rfl)
theorem ft_209_ok : FtOk Tryz.prog 209 Tryz.f209 := FtOk.of Tryz.func209 (by kernel_rfl)
theorem ft_210_ok : FtOk Tryz.prog 210 Tryz.f210 := FtOk.of Tryz.func210 (by kernel_rfl)
theorem ft_211_ok : FtOk Tryz.prog 211 Tryz.f211 := FtOk.of Tryz.func211 (by kernel_rfl)
theorem ft_212_ok : FtOk Tryz.prog 212 Tryz.f212 := FtOk.of Tryz.func212 (by kernel_rfl)
theorem ft_213_ok : FtOk Tryz.prog 213 Tryz.f213 := FtOk.of Tryz.func213 (by kernel_rfl)
theorem ft_214_ok : FtOk Tryz.prog 214 Tryz.f214 := FtOk.of Tryz.func214 (by kernel_rfl)
theorem ft_215_ok : FtOk Tryz.prog 215 Tryz.f215 := FtOk.of Tryz.func215 (by kernel_rfl)
theorem ft_216_ok : FtOk Tryz.prog 216 Tryz.f216 := FtOk.of Tryz.func216 (by kernel_rfl)
theorem ft_217_ok : FtOk Tryz.prog 217 Tryz.f217 := FtOk.of Tryz.func217 (by kernel_rfl)
theorem ft_218_ok : FtOk Tryz.prog 218 Tryz.f218 := FtOk.of Tryz.func218 (by kernel_rfl)
theorem ft_219_ok : FtOk Tryz.prog 219 Tryz.f219 := FtOk.of Tryz.func219 (by kernel_rfl)
theorem ft_220_ok : FtOk Tryz.prog 220 Tryz.f220 := FtOk.of Tryz.func220 (by kernel_rfl)
theorem ft_221_ok : FtOk Tryz.prog 221 Tryz.f221 := FtOk.of Tryz.func221 (by kernel_rfl)
theorem ft_223_ok : FtOk Tryz.prog 223 Tryz.f223 := FtOk.of Tryz.func223 (by kernel_rfl)
theorem ft_224_ok : FtOk Tryz.prog 224 Tryz.f224 := FtOk.of Tryz.func224 (by kernel_rfl)
theorem ft_225_ok : FtOk Tryz.prog 225 Tryz.f225 := FtOk.of Tryz.func225 (by kernel_rfl)
theorem ft_226_ok : FtOk Tryz.prog 226 Tryz.f226 := FtOk.of Tryz.func226 (by kernel_rfl)
theorem ft_227_ok : FtOk Tryz.prog 227 Tryz.f227 := FtOk.of Tryz.func227 (by kernel_rfl)
theorem ft_228_ok : FtOk Tryz.prog 228 Tryz.f228 := FtOk.of Tryz.func228 (by kernel_rfl)
theorem ft_229_ok : FtOk Tryz.prog 229 Tryz.f229 := FtOk.of Tryz.func229 (by kernel_rfl)
theorem ft_230_ok : FtOk Tryz.prog 230 Tryz.f230 := FtOk.of Tryz.func230 (by kernel_rfl)
theorem ft_231_ok : FtOk Tryz.prog 231 Tryz.f231 := FtOk.of Tryz.func231 (by kernel_rfl)
theorem ft_232_ok : FtOk Tryz.prog 232 Tryz.f232 := FtOk.of Tryz.func232 (by kernel_rfl)
theorem ft_233_ok : FtOk Tryz.prog 233 Tryz.f233 := FtOk.of Tryz.func233 (by kernel_rfl)
theorem ft_234_ok : FtOk Tryz.prog 234 Tryz.f234 := FtOk.of Tryz.func234 (by kernel_rfl)
theorem ft_235_ok : FtOk Tryz.prog 235 Tryz.f235 := FtOk.of Tryz.func235 (by kernel_rfl)
theorem ft_236_ok : FtOk Tryz.prog 236 Tryz.f236 := FtOk.of Tryz.func236 (by kernel_rfl)
theorem ft_237_ok : FtOk Tryz.prog 237 Tryz.f237 := FtOk.of Tryz.func237 (by kernel_rfl)
theorem ft_238_ok : FtOk Tryz.prog 238 Tryz.f238 := FtOk.of Tryz.func238 (by kernel_rfl)
theorem ft_240_ok : FtOk Tryz.prog 240 Tryz.f240 := FtOk.of Tryz.func240 (by kernel_rfl)
theorem ft_241_ok : FtOk Tryz.prog 241 Tryz.f241 := FtOk.of Tryz.func241 (by kernel_rfl)
theorem ft_242_ok : FtOk Tryz.prog 242 Tryz.f242 := FtOk.of Tryz.func242 (by kernel_rfl)
theorem ft_243_ok : FtOk Tryz.prog 243 Tryz.f243 := FtOk.of Tryz.func243 (by kernel_rfl)
theorem ft_244_ok : FtOk Tryz.prog 244 Tryz.f244 := FtOk.of Tryz.func244 (by kernel_rfl)
theorem ft_245_ok : FtOk Tryz.prog 245 Tryz.f245 := FtOk.of Tryz.func245 (by kernel_rfl)
theorem ft_246_ok : FtOk Tryz.prog 246 Tryz.f246 := FtOk.of Tryz.func246 (by kernel_rfl)
theorem ft_247_ok : FtOk Tryz.prog 247 Tryz.f247 := FtOk.of Tryz.func247 (by kernel_rfl)
theorem ft_248_ok : FtOk Tryz.prog 248 Tryz.f248 := FtOk.of Tryz.func248 (by kernel_rfl)
theorem ft_249_ok : FtOk Tryz.prog 249 Tryz.f249 := FtOk.of Tryz.func249 (by kernel_rfl)
theorem ft_250_ok : FtOk Tryz.prog 250 Tryz.f250 := FtOk.of Tryz.func250 (by kernel_rfl)
theorem ft_251_ok : FtOk Tryz.prog 251 Tryz.f251 := FtOk.of Tryz.func251 (by kernel_rfl)
theorem ft_252_ok : FtOk Tryz.prog 252 Tryz.f252 := FtOk.of Tryz.func252 (by kernel_rfl)
theorem ft_253_ok : FtOk Tryz.prog 253 Tryz.f253 := FtOk.of Tryz.func253 (by kernel_rfl)
theorem ft_254_ok : FtOk Tryz.prog 254 Tryz.f254 := FtOk.of Tryz.func254 (by kernel_rfl)
theorem ft_256_ok : FtOk Tryz.prog 256 Tryz.f256 := FtOk.of Tryz.func256 (by kernel_rfl)
theorem ft_257_ok : FtOk Tryz.prog 257 Tryz.f257 := FtOk.of Tryz.func257 (by kernel_rfl)
theorem ft_258_ok : FtOk Tryz.prog 258 Tryz.f258 := FtOk.of Tryz.func258 (by kernel_rfl)
theorem ft_259_ok : FtOk Tryz.prog 259 Tryz.f259 := FtOk.of Tryz.func259 (by kernel_rfl)
theorem ft_260_ok : FtOk Tryz.prog 260 Tryz.f260 := FtOk.of Tryz.func260 (by kernel_rfl)
theorem ft_261_ok : FtOk Tryz.prog 261 Tryz.f261 := FtOk.of Tryz.func261 (by kernel_rfl)
theorem ft_262_ok : FtOk Tryz.prog 262 Tryz.f262 := FtOk.of Tryz.func262 (by kernel_rfl)
theorem ft_263_ok : FtOk Tryz.prog 263 Tryz.f263 := FtOk.of Tryz.func263 (by kernel_rfl)
theorem ft_264_ok : FtOk Tryz.prog 264 Tryz.f264 := FtOk.of Tryz.func264 (by kernel_rfl)
theorem ft_265_ok : FtOk Tryz.prog 265 Tryz.f265 := FtOk.of Tryz.func265 (by kernel_rfl)
theorem ft_268_ok : FtOk Tryz.prog 268 Tryz.f268 := FtOk.of Tryz.func268 (by kernel_rfl)
theorem ft_269_ok : FtOk Tryz.prog 269 Tryz.f269 := FtOk.of Tryz.func269 (by kernel_rfl)
theorem ft_270_ok : FtOk Tryz.prog 270 Tryz.f270 := FtOk.of Tryz.func270 (by kernel_rfl)
theorem ft_271_ok : FtOk Tryz.prog 271 Tryz.f271 := FtOk.of Tryz.func271 (by kernel_rfl)
theorem ft_272_ok : FtOk Tryz.prog 272 Tryz.f272 := FtOk.of Tryz.func272 (by kernel_rfl)
theorem ft_273_ok : FtOk Tryz.prog 273 Tryz.f273 := FtOk.of Tryz.func273 (by kernel_rfl)
theorem ft_274_ok : FtOk Tryz.prog 274 Tryz.f274 := FtOk.of Tryz.func274 (by kernel_rfl)
theorem ft_275_ok : FtOk Tryz.prog 275 Tryz.f275 := FtOk.of Tryz.func275 (by kernel_rfl)
theorem ft_276_ok : FtOk Tryz.prog 276 Tryz.f276 := FtOk.of Tryz.func276 (by kernel_rfl)
theorem ft_278_ok : FtOk Tryz.prog 278 Tryz.f278 := FtOk.of Tryz.func278 (by kernel_rfl)
theorem ft_279_ok : FtOk Tryz.prog 279 Tryz.f279 := FtOk.of Tryz.func279 (by kernel_rfl)
theorem ft_280_ok : FtOk Tryz.prog 280 Tryz.f280 := FtOk.of Tryz.func280 (by kernel_rfl)
theorem ft_281_ok : FtOk Tryz.prog 281 Tryz.f281 := FtOk.of Tryz.func281 (by kernel_rfl)
theorem ft_282_ok : FtOk Tryz.prog 282 Tryz.f282 := FtOk.of Tryz.func282 (by kernel_rfl)
theorem ft_283_ok : FtOk Tryz.prog 283 Tryz.f283 := FtOk.of Tryz.func283 (by kernel_rfl)
theorem ft_284_ok : FtOk Tryz.prog 284 Tryz.f284 := FtOk.of Tryz.func284 (by kernel_rfl)
theorem ft_285_ok : FtOk Tryz.prog 285 Tryz.f285 := FtOk.of Tryz.func285 (by kernel_rfl)
theorem ft_286_ok : FtOk Tryz.prog 286 Tryz.f286 := FtOk.of Tryz.func286 (by kernel_rfl)
theorem ft_287_ok : FtOk Tryz.prog 287 Tryz.f287 := FtOk.of Tryz.func287 (by kernel_rfl)
theorem ft_288_ok : FtOk Tryz.prog 288 Tryz.f288 := FtOk.of Tryz.func288 (by kernel_rfl)
theorem ft_293_ok : FtOk Tryz.prog 293 Tryz.f293 := FtOk.of Tryz.func293 (by kernel_rfl)
theorem ft_296_ok : FtOk Tryz.prog 296 Tryz.f296 := FtOk.of Tryz.func296 (by kernel_rfl)
theorem ft_297_ok : FtOk Tryz.prog 297 Tryz.f297 := FtOk.of Tryz.func297 (by kernel_rfl)
theorem ft_298_ok : FtOk Tryz.prog 298 Tryz.f298 := FtOk.of Tryz.func298 (by kernel_rfl)
theorem ft_299_ok : FtOk Tryz.prog 299 Tryz.f299 := FtOk.of Tryz.func299 (by kernel_rfl)
theorem ft_300_ok : FtOk Tryz.prog 300 Tryz.f300 := FtOk.of Tryz.func300 (by kernel_rfl)
theorem ft_301_ok : FtOk Tryz.prog 301 Tryz.f301 := FtOk.of Tryz.func301 (by kernel_rfl)
theorem ft_309_ok : FtOk Tryz.prog 309 Tryz.f309 := FtOk.of Tryz.func309 (by kernel_rfl)
theorem ft_310_ok : FtOk Tryz.prog 310 Tryz.f310 := FtOk.of Tryz.func310 (by kernel_rfl)
theorem ft_311_ok : FtOk Tryz.prog 311 Tryz.f311 := FtOk.of Tryz.func311 (by kernel_rfl)
theorem ft_312_ok : FtOk Tryz.prog 312 Tryz.f312 := FtOk.of Tryz.func312 (by kernel_rfl)
theorem ft_313_ok : FtOk Tryz.prog 313 Tryz.f313 := FtOk.of Tryz.func313 (by kernel_rfl)
theorem ft_314_ok : FtOk Tryz.prog 314 Tryz.f314 := FtOk.of Tryz.func314 (by kernel_rfl)
theorem ft_315_ok : FtOk Tryz.prog 315 Tryz.f315 := FtOk.of Tryz.func315 (by kernel_rfl)
theorem ft_316_ok : FtOk Tryz.prog 316 Tryz.f316 := FtOk.of Tryz.func316 (by kernel_rfl)
theorem ft_317_ok : FtOk Tryz.prog 317 Tryz.f317 := FtOk.of Tryz.func317 (by kernel_rfl)
theorem ft_318_ok : FtOk Tryz.prog 318 Tryz.f318 := FtOk.of Tryz.func318 (by kernel_rfl)
theorem ft_335_ok : FtOk Tryz.prog 335 Tryz.f335 := FtOk.of Tryz.func335 (by kernel_rfl)
theorem ft_337_ok : FtOk Tryz.prog 337 Tryz.f337 := FtOk.of Tryz.func337 (by kernel_rfl)
theorem ft_338_ok : FtOk Tryz.prog 338 Tryz.f338 := FtOk.of Tryz.func338 (by kernel_rfl)
theorem ft_339_ok : FtOk Tryz.prog 339 Tryz.f339 := FtOk.of Tryz.func339 (by kernel_rfl)
theorem ft_340_ok : FtOk Tryz.prog 340 Tryz.f340 := FtOk.of Tryz.func340 (by kernel_rfl)
theorem ft_363_ok : FtOk Tryz.prog 363 Tryz.f363 := FtOk.of Tryz.func363 (by kernel_rfl)
theorem ftT_rlllllll_ok : T.All (FtOk Tryz.prog) ftT_rlllllll (fun k => (fun k => (fun k => (fun k => (fun k => (fun k => (fun k => id (2 * k + 1)) (2 * k + 1)) (2 * k + 1)) (2 * k + 1)) (2 * k + 1)) (2 * k + 1)) (2 * k + 1)) := ⟨ft_127_ok, trivial, trivial⟩
theorem ftT_rllllllr_ok : T.All (FtOk Tryz.prog) ftT_rllllllr (fun k => (fun k => (fun k => (fun k => (fun k => (fun k => (fun k => id (2 * k + 1)) (2 * k + 1)) (2 * k + 1)) (2 * k + 1)) (2 * k + 1)) (2 * k + 1)) (2 * k + 2)) := ⟨ft_191_ok, trivial, trivial⟩
theorem ftT_rllllll_ok : T.All (FtOk Tryz.prog) ftT_rllllll (fun k => (fun k => (fun k => (fun k => (fun k => (fun k => id (2 * k + 1)) (2 * k + 1)) (2 * k + 1)) (2 * k + 1)) (2 * k + 1)) (2 * k + 1)) := ⟨ft_63_ok, ftT_rlllllll_ok, ftT_rllllllr_ok⟩
theorem ftT_rlllllrll_ok : T.All (FtOk Tryz.prog) ftT_rlllllrll (fun k => (fun k => (fun k => (fun k => (fun k => (fun k => (fun k => (fun k => id (2 * k + 1)) (2 * k + 1)) (2 * k + 1)) (2 * k + 1)) (2 * k + 1)) (2 * k + 2)) (2 * k + 1)) (2 * k + 1)) := ⟨ft_287_ok, trivial, trivial⟩
theorem ftT_rlllllrl_ok : T.All (FtOk Tryz.prog) ftT_rlllllrl (fun k => (fun k => (fun k => (fun k => (fun k => (fun k => (fun k => id (2 * k + 1)) (2 * k + 1)) (2 * k + 1)) (2 * k + 1)) (2 * k + 1)) (2 * k + 2)) (2 * k + 1)) := ⟨ft_159_ok, ftT_rlllllrll_ok, trivial⟩
theorem ftT_rlllllrr_ok : T.All (FtOk Tryz.prog) ftT_rlllllrr (fun k => (fun k => (fun k => (fun k => (fun k => (fun k => (fun k => id (2 * k + 1)) (2 * k + 1)) (2 * k + 1)) (2 * k + 1)) (2 * k + 1)) (2 * k + 2)) (2 * k + 2)) := ⟨ft_223_ok, trivial, trivial⟩
theorem ftT_rlllllr_ok : T.All (FtOk Tryz.prog) ftT_rlllllr (fun k => (fun k => (fun k => (fun k => (fun k => (fun k => id (2 * k + 1)) (2 * k + 1)) (2 * k + 1)) (2 * k + 1)) (2 * k + 1)) (2 * k + 2)) := ⟨ft_95_ok, ftT_rlllllrl_ok, ftT_rlllllrr_ok⟩
theorem ftT_rlllll_ok : T.All (FtOk Tryz.prog) ftT_rlllll (fun k => (fun k => (fun k => (fun k => (fun k => id (2 * k + 1)) (2 * k + 1)) (2 * k + 1)) (2 * k + 1)) (2 * k + 1)) := ⟨ft_31_ok, ftT_rllllll_ok, ftT_rlllllr_ok⟩
theorem ftT_rllllrlll_ok : T.All (FtOk Tryz.prog) ftT_rllllrlll (fun k => (fun k => (fun k => (fun k => (fun k => (fun k => (fun k => (fun k => id (2 * k + 1)) (2 * k + 1)) (2 * k + 1)) (2 * k + 1)) (2 * k + 2)) (2 * k + 1)) (2 * k + 1)) (2 * k + 1)) := ⟨ft_271_ok, trivial, trivial⟩
theorem ftT_rllllrll_ok : T.All (FtOk Tryz.prog) ftT_rllllrll (fun k => (fun k => (fun k => (fun k => (fun k => (fun k => (fun k => id (2 * k + 1)) (2 * k + 1)) (2 * k + 1)) (2 * k + 1)) (2 * k + 2)) (2 * k + 1)) (2 * k + 1)) := ⟨ft_143_ok, ftT_rllllrlll_ok, trivial⟩
theorem ftT_rllllrlrl_ok : T.All (FtOk Tryz.prog) ftT_rllllrlrl (fun k => (fun k => (fun k => (fun k => (fun k => (fun k => (fun k => (fun k => id (2 * k + 1)) (2 * k + 1)) (2 * k + 1)) (2 * k + 1)) (2 * k + 2)) (2 * k + 1)) (2 * k + 2)) (2 * k + 1)) := ⟨ft_335_ok, trivial, trivial⟩
theorem ftT_rllllrlr_ok : T.All (FtOk Tryz.prog) ftT_rllllrlr (fun k => (fun k => (fun k => (fun k => (fun k => (fun k => (fun k => id (2 * k + 1)) (2 * k + 1)) (2 * k + 1)) (2 * k + 1)) (2 * k + 2)) (2 * k + 1)) (2 * k + 2)) := ⟨ft_207_ok, ftT_rllllrlrl_ok, trivial⟩
theorem ftT_rllllrl_ok : T.All (FtOk Tryz.prog) ftT_rllllrl (fun k => (fun k => (fun k => (fun k => (fun k => (fun k => id (2 * k + 1)) (2 * k + 1)) (2 * k + 1)) (2 * k + 1)) (2 * k + 2)) (2 * k + 1)) := ⟨ft_79_ok, ftT_rllllrll_ok, ftT_rllllrlr_ok⟩
theorem ftT_rllllrrl_ok : T.All (FtOk Tryz.prog) ftT_rllllrrl (fun k => (fun k => (fun k => (fun k => (fun k => (fun k => (fun k => id (2 * k + 1)) (2 * k + 1)) (2 * k + 1)) (2 * k + 1)) (2 * k + 2)) (2 * k + 2)) (2 * k + 1)) := ⟨ft_175_ok, trivial, trivial⟩
theorem ftT_rllllrr_ok : T.All (FtOk Tryz.prog) ftT_rllllrr (fun k => (fun k => (fun k => (fun k => (fun k => (fun k => id (2 * k + 1)) (2 * k + 1)) (2 * k + 1)) (2 * k + 1)) (2 * k + 2)) (2 * k + 2)) := ⟨ft_111_ok, ftT_rllllrrl_ok, trivial⟩
theorem ftT_rllllr_ok : T.All (FtOk Tryz.prog) ftT_rllllr (fun k => (fun k => (fun k => (fun k => (fun k => id (2 * k + 1)) (2 * k + 1)) (2 * k + 1)) (2 * k + 1)) (2 * k + 2)) := ⟨ft_47_ok, ftT_rllllrl_ok, ftT_rllllrr_ok⟩
theorem ftT_rllll_ok : T.All (FtOk Tryz.prog) ftT_rllll (fun k => (fun k => (fun k => (fun k => id (2 * k + 1)) (2 * k + 1)) (2 * k + 1)) (2 * k + 1)) := ⟨ft_15_ok, ftT_rlllll_ok, ftT_rllllr_ok⟩
theorem ftT_rlllrllll_ok : T.All (FtOk Tryz.prog) ftT_rlllrllll (fun k => (fun k => (fun k => (fun k => (fun k => (fun k => (fun k => (fun k => id (2 * k + 1)) (2 * k + 1)) (2 * k + 1)) (2 * k + 2)) (2 * k + 1)) (2 * k + 1)) (2 * k + 1)) (2 * k + 1)) := ⟨ft_263_ok, trivial, trivial⟩
theorem ftT_rlllrlll_ok : T.All (FtOk Tryz.prog) ftT_rlllrlll (fun k => (fun k => (fun k => (fun k => (fun k => (fun k => (fun k => id (2 * k + 1)) (2 * k + 1)) (2 * k + 1)) (2 * k + 2)) (2 * k + 1)) (2 * k + 1)) (2 * k + 1)) := ⟨ft_135_ok, ftT_rlllrllll_ok, trivial⟩
theorem ftT_rlllrllr_ok : T.All (FtOk Tryz.prog) ftT_rlllrllr (fun k => (fun k => (fun k => (fun k => (fun k => (fun k => (fun k => id (2 * k + 1)) (2 * k + 1)) (2 * k + 1)) (2 * k + 2)) (2 * k + 1)) (2 * k + 1)) (2 * k + 2)) := ⟨ft_199_ok, trivial, trivial⟩
theorem ftT_rlllrll_ok : T.All (FtOk Tryz.prog) ftT_rlllrll (fun k => (fun k => (fun k => (fun k => (fun k => (fun k => id (2 * k + 1)) (2 * k + 1)) (2 * k + 1)) (2 * k + 2)) (2 * k + 1)) (2 * k + 1)) := ⟨ft_71_ok, ftT_rlllrlll_ok, ftT_rlllrllr_ok⟩
theorem ftT_rlllrlrl_ok : T.All (FtOk Tryz.prog) ftT_rlllrlrl (fun k => (fun k => (fun k => (fun k => (fun k => (fun k => (fun k => id (2 * k + 1)) (2 * k + 1)) (2 * k + 1)) (2 * k + 2)) (2 * k + 1)) (2 * k + 2)) (2 * k + 1)) := ⟨ft_167_ok, trivial, trivial⟩
theorem ftT_rlllrlrr_ok : T.All (FtOk Tryz.prog) ftT_rlllrlrr (fun k => (fun k => (fun k => (fun k => (fun k => (fun k => (fun k => id (2 * k + 1)) (2 * k + 1)) (2 * k + 1)) (2 * k + 2)) (2 * k + 1)) (2 * k + 2)) (2 * k + 2)) := ⟨ft_231_ok, trivial, trivial⟩
theorem ftT_rlllrlr_ok : T.All (FtOk Tryz.prog) ftT_rlllrlr (fun k => (fun k => (fun k => (fun k => (fun k => (fun k => id (2 * k + 1)) (2 * k + 1)) (2 * k + 1)) (2 * k + 2)) (2 * k + 1)) (2 * k + 2)) := ⟨ft_103_ok, ftT_rlllrlrl_ok, ftT_rlllrlrr_ok⟩
theorem ftT_rlllrl_ok : T.All (FtOk Tryz.prog) ftT_rlllrl (fun k => (fun k => (fun k => (fun k => (fun k => id (2 * k + 1)) (2 * k + 1)) (2 * k + 1)) (2 * k + 2)) (2 * k + 1)) := ⟨ft_39_ok, ftT_rlllrll_ok, ftT_rlllrlr_ok⟩
theorem ftT_rlllrrlll_ok : T.All (FtOk Tryz.prog) ftT_rlllrrlll (fun k => (fun k => (fun k => (fun k => (fun k => (fun k => (fun k => (fun k => id (2 * k + 1)) (2 * k + 1)) (2 * k + 1)) (2 * k + 2)) (2 * k + 2)) (2 * k + 1)) (2 * k + 1)) (2 * k + 1)) := ⟨ft_279_ok, trivial, trivial⟩
theorem ftT_rlllrrll_ok : T.All (FtOk Tryz.prog) ftT_rlllrrll (fun k => (fun k => (fun k => (fun k => (fun k => (fun k => (fun k => id (2 * k + 1)) (2 * k + 1)) (2 * k + 1)) (2 * k + 2)) (2 * k + 2)) (2 * k + 1)) (2 * k + 1)) := ⟨ft_151_ok, ftT_rlllrrlll_ok, trivial⟩
theorem ftT_rlllrrlr_ok : T.All (FtOk Tryz.prog) ftT_rlllrrlr (fun k => (fun k => (fun k => (fun k => (fun k => (fun k => (fun k => id (2 * k + 1)) (2 * k + 1)) (2 * k + 1)) (2 * k + 2)) (2 * k + 2)) (2 * k + 1)) (2 * k + 2)) := ⟨ft_215_ok, trivial, trivial⟩
theorem ftT_rlllrrl_ok : T.All (FtOk Tryz.prog) ftT_rlllrrl (fun k => (fun k => (fun k => (fun k => (fun k => (fun k => id (2 * k + 1)) (2 * k + 1)) (2 * k + 1)) (2 * k + 2)) (2 * k + 2)) (2 * k + 1)) := ⟨ft_87_ok, ftT_rlllrrll_ok, ftT_rlllrrlr_ok⟩
theorem ftT_rlllrrrll_ok : T.All (FtOk Tryz.prog) ftT_rlllrrrll (fun k => (fun k => (fun k => (fun k => (fun k => (fun k => (fun k => (fun k => id (2 * k + 1)) (2 * k + 1)) (2 * k + 1)) (2 * k + 2)) (2 * k + 2)) (2 * k + 2)) (2 * k + 1)) (2 * k + 1)) := ⟨ft_311_ok, trivial, trivial⟩
theorem ftT_rlllrrrl_ok : T.All (FtOk Tryz.prog) ftT_rlllrrrl (fun k => (fun k => (fun k => (fun k => (fun k => (fun k => (fun k => id (2 * k + 1)) (2 * k + 1)) (2 * k + 1)) (2 * k + 2)) (2 * k + 2)) (2 * k + 2)) (2 * k + 1)) := ⟨ft_183_ok, ftT_rlllrrrll_ok, trivial⟩
theorem ftT_rlllrrrr_ok : T.All (FtOk Tryz.prog) ftT_rlllrrrr (fun k => (fun k => (fun k => (fun k => (fun k => (fun k => (fun k => id (2 * k + 1)) (2 * k + 1)) (2 * k + 1)) (2 * k + 2)) (2 * k + 2)) (2 * k + 2)) (2 * k + 2)) := ⟨ft_247_ok, trivial, trivial⟩
theorem ftT_rlllrrr_ok : T.All (FtOk Tryz.prog) ftT_rlllrrr (fun k => (fun k => (fun k => (fun k => (fun k => (fun k => id (2 * k + 1)) (2 * k + 1)) (2 * k + 1)) (2 * k + 2)) (2 * k + 2)) (2 * k + 2)) := ⟨ft_119_ok, ftT_rlllrrrl_ok, ftT_rlllrrrr_ok⟩
theorem ftT_rlllrr_ok : T.All (FtOk Tryz.prog) ftT_rlllrr (fun k => (fun k => (fun k => (fun k => (fun k => id (2 * k + 1)) (2 * k + 1)) (2 * k + 1)) (2 * k + 2)) (2 * k + 2)) := ⟨ft_55_ok, ftT_rlllrrl_ok, ftT_rlllrrr_ok⟩
theorem ftT_rlllr_ok : T.All (FtOk Tryz.prog) ftT_rlllr (fun k => (fun k => (fun k => (fun k => id (2 * k + 1)) (2 * k + 1)) (2 * k + 1)) (2 * k + 2)) := ⟨ft_23_ok, ftT_rlllrl_ok, ftT_rlllrr_ok⟩
theorem ftT_rlll_ok : T.All (FtOk Tryz.prog) ftT_rlll (fun k => (fun k => (fun k => id (2 * k + 1)) (2 * k + 1)) (2 * k + 1)) := ⟨ft_7_ok, ftT_rllll_ok, ftT_rlllr_ok⟩
theorem ftT_rllrlllll_ok : T.All (FtOk Tryz.prog) ftT_rllrlllll (fun k => (fun k => (fun k => (fun k => (fun k => (fun k => (fun k => (fun k => id (2 * k + 1)) (2 * k + 1)) (2 * k + 2)) (2 * k + 1)) (2 * k + 1)) (2 * k + 1)) (2 * k + 1)) (2 * k + 1)) := ⟨ft_259_ok, trivial, trivial⟩
theorem ftT_rllrllll_ok : T.All (FtOk Tryz.prog) ftT_rllrllll (fun k => (fun k => (fun k => (fun k => (fun k => (fun k => (fun k => id (2 * k + 1)) (2 * k + 1)) (2 * k + 2)) (2 * k + 1)) (2 * k + 1)) (2 * k + 1)) (2 * k + 1)) := ⟨ft_131_ok, ftT_rllrlllll_ok, trivial⟩
theorem ftT_rllrlllr_ok : T.All (FtOk Tryz.prog) ftT_rllrlllr (fun k => (fun k => (fun k => (fun k => (fun k => (fun k => (fun k => id (2 * k + 1)) (2 * k + 1)) (2 * k + 2)) (2 * k + 1)) (2 * k + 1)) (2 * k + 1)) (2 * k + 2)) := ⟨ft_195_ok, trivial, trivial⟩
theorem ftT_rllrlll_ok : T.All (FtOk Tryz.prog) ftT_rllrlll (fun k => (fun k => (fun k => (fun k => (fun k => (fun k => id (2 * k + 1)) (2 * k + 1)) (2 * k + 2)) (2 * k + 1)) (2 * k + 1)) (2 * k + 1)) := ⟨ft_67_ok, ftT_rllrllll_ok, ftT_rllrlllr_ok⟩
theorem ftT_rllrllrl_ok : T.All (FtOk Tryz.prog) ftT_rllrllrl (fun k => (fun k => (fun k => (fun k => (fun k => (fun k => (fun k => id (2 * k + 1)) (2 * k + 1)) (2 * k + 2)) (2 * k + 1)) (2 * k + 1)) (2 * k + 2)) (2 * k + 1)) := ⟨ft_163_ok, trivial, trivial⟩
theorem ftT_rllrllrr_ok : T.All (FtOk Tryz.prog) ftT_rllrllrr (fun k => (fun k => (fun k => (fun k => (fun k => (fun k => (fun k => id (2 * k + 1)) (2 * k + 1)) (2 * k + 2)) (2 * k + 1)) (2 * k + 1)) (2 * k + 2)) (2 * k + 2)) := ⟨ft_227_ok, trivial, trivial⟩
theorem ftT_rllrllr_ok : T.All (FtOk Tryz.prog) ftT_rllrllr (fun k => (fun k => (fun k => (fun k => (fun k => (fun k => id (2 * k + 1)) (2 * k + 1)) (2 * k + 2)) (2 * k + 1)) (2 * k + 1)) (2 * k + 2)) := ⟨ft_99_ok, ftT_rllrllrl_ok, ftT_rllrllrr_ok⟩
theorem ftT_rllrll_ok : T.All (FtOk Tryz.prog) ftT_rllrll (fun k => (fun k => (fun k => (fun k => (fun k => id (2 * k + 1)) (2 * k + 1)) (2 * k + 2)) (2 * k + 1)) (2 * k + 1)) := ⟨ft_35_ok, ftT_rllrlll_ok, ftT_rllrllr_ok⟩
theorem ftT_rllrlrlll_ok : T.All (FtOk Tryz.prog) ftT_rllrlrlll (fun k => (fun k => (fun k => (fun k => (fun k => (fun k => (fun k => (fun k => id (2 * k + 1)) (2 * k + 1)) (2 * k + 2)) (2 * k + 1)) (2 * k + 2)) (2 * k + 1)) (2 * k + 1)) (2 * k + 1)) := ⟨ft_275_ok, trivial, trivial⟩
theorem ftT_rllrlrll_ok : T.All (FtOk Tryz.prog) ftT_rllrlrll (fun k => (fun k => (fun k => (fun k => (fun k => (fun k => (fun k => id (2 * k + 1)) (2 * k + 1)) (2 * k + 2)) (2 * k + 1)) (2 * k + 2)) (2 * k + 1)) (2 * k + 1)) := ⟨trivial, ftT_rllrlrlll_ok, trivial⟩
theorem ftT_rllrlrlrl_ok : T.All (FtOk Tryz.prog) ftT_rllrlrlrl (fun k => (fun k => (fun k => (fun k => (fun k => (fun k => (fun k => (fun k => id (2 * k + 1)) (2 * k + 1)) (2 * k + 2)) (2 * k + 1)) (2 * k + 2)) (2 * k + 1)) (2 * k + 2)) (2 * k + 1)) := ⟨ft_339_ok, trivial, trivial⟩
theorem ftT_rllrlrlr_ok : T.All (FtOk Tryz.prog) ftT_rllrlrlr (fun k => (fun k => (fun k => (fun k => (fun k => (fun k => (fun k => id (2 * k + 1)) (2 * k + 1)) (2 * k + 2)) (2 * k + 1)) (2 * k + 2)) (2 * k + 1)) (2 * k + 2)) := ⟨ft_211_ok, ftT_rllrlrlrl_ok, trivial⟩
theorem ftT_rllrlrl_ok : T.All (FtOk Tryz.prog) ftT_rllrlrl (fun k => (fun k => (fun k => (fun k => (fun k => (fun k => id (2 * k + 1)) (2 * k + 1)) (2 * k + 2)) (2 * k + 1)) (2 * k + 2)) (2 * k + 1)) := ⟨ft_83_ok, ftT_rllrlrll_ok, ftT_rllrlrlr_ok⟩
theorem ftT_rllrlrrl_ok : T.All (FtOk Tryz.prog) ftT_rllrlrrl (fun k => (fun k => (fun k => (fun k => (fun k => (fun k => (fun k => id (2 * k + 1)) (2 * k + 1)) (2 * k + 2)) (2 * k + 1)) (2 * k + 2)) (2 * k + 2)) (2 * k + 1)) := ⟨ft_179_ok, trivial, trivial⟩
theorem ftT_rllrlrrr_ok : T.All (FtOk Tryz.prog) ftT_rllrlrrr (fun k => (fun k => (fun k => (fun k => (fun k => (fun k => (fun k => id (2 * k + 1)) (2 * k + 1)) (2 * k + 2)) (2 * k + 1)) (2 * k + 2)) (2 * k + 2)) (2 * k + 2)) := ⟨ft_243_ok, trivial, trivial⟩
theorem ftT_rllrlrr_ok : T.All (FtOk Tryz.prog) ftT_rllrlrr (fun k => (fun k => (fun k => (fun k => (fun k => (fun k => id (2 * k + 1)) (2 * k + 1)) (2 * k + 2)) (2 * k + 1)) (2 * k + 2)) (2 * k + 2)) := ⟨ft_115_ok, ftT_rllrlrrl_ok, ftT_rllrlrrr_ok⟩
theorem ftT_rllrlr_ok : T.All (FtOk Tryz.prog) ftT_rllrlr (fun k => (fun k => (fun k => (fun k => (fun k => id (2 * k + 1)) (2 * k + 1)) (2 * k + 2)) (2 * k + 1)) (2 * k + 2)) := ⟨ft_51_ok, ftT_rllrlrl_ok, ftT_rllrlrr_ok⟩
theorem ftT_rllrl_ok : T.All (FtOk Tryz.prog) ftT_rllrl (fun k => (fun k => (fun k => (fun k => id (2 * k + 1)) (2 * k + 1)) (2 * k + 2)) (2 * k + 1)) := ⟨ft_19_ok, ftT_rllrll_ok, ftT_rllrlr_ok⟩
theorem ftT_rllrrlll_ok : T.All (FtOk Tryz.prog) ftT_rllrrlll (fun k => (fun k => (fun k => (fun k => (fun k => (fun k => (fun k => id (2 * k + 1)) (2 * k + 1)) (2 * k + 2)) (2 * k + 2)) (2 * k + 1)) (2 * k + 1)) (2 * k + 1)) := ⟨ft_139_ok, trivial, trivial⟩
theorem ftT_rllrrllr_ok : T.All (FtOk Tryz.prog) ftT_rllrrllr (fun k => (fun k => (fun k => (fun k => (fun k => (fun k => (fun k => id (2 * k + 1)) (2 * k + 1)) (2 * k + 2)) (2 * k + 2)) (2 * k + 1)) (2 * k + 1)) (2 * k + 2)) := ⟨ft_203_ok, trivial, trivial⟩
theorem ftT_rllrrll_ok : T.All (FtOk Tryz.prog) ftT_rllrrll (fun k => (fun k => (fun k => (fun k => (fun k => (fun k => id (2 * k + 1)) (2 * k + 1)) (2 * k + 2)) (2 * k + 2)) (2 * k + 1)) (2 * k + 1)) := ⟨ft_75_ok, ftT_rllrrlll_ok, ftT_rllrrllr_ok⟩
theorem ftT_rllrrlrll_ok : T.All (FtOk Tryz.prog) ftT_rllrrlrll (fun k => (fun k => (fun k => (fun k => (fun k => (fun k => (fun k => (fun k => id (2 * k + 1)) (2 * k + 1)) (2 * k + 2)) (2 * k + 2)) (2 * k + 1)) (2 * k + 2)) (2 * k + 1)) (2 * k + 1)) := ⟨ft_299_ok, trivial, trivial⟩
theorem ftT_rllrrlrl_ok : T.All (FtOk Tryz.prog) ftT_rllrrlrl (fun k => (fun k => (fun k => (fun k => (fun k => (fun k => (fun k => id (2 * k + 1)) (2 * k + 1)) (2 * k + 2)) (2 * k + 2)) (2 * k + 1)) (2 * k + 2)) (2 * k + 1)) := ⟨ft_171_ok, ftT_rllrrlrll_ok, trivial⟩
theorem ftT_rllrrlrrl_ok : T.All (FtOk Tryz.prog) ftT_rllrrlrrl (fun k => (fun k => (fun k => (fun k => (fun k => (fun k => (fun k => (fun k => id (2 * k + 1)) (2 * k + 1)) (2 * k + 2)) (2 * k + 2)) (2 * k + 1)) (2 * k + 2)) (2 * k + 2)) (2 * k + 1)) := ⟨ft_363_ok, trivial, trivial⟩
theorem ftT_rllrrlrr_ok : T.All (FtOk Tryz.prog) ftT_rllrrlrr (fun k => (fun k => (fun k => (fun k => (fun k => (fun k => (fun k => id (2 * k + 1)) (2 * k + 1)) (2 * k + 2)) (2 * k + 2)) (2 * k + 1)) (2 * k + 2)) (2 * k + 2)) := ⟨ft_235_ok, ftT_rllrrlrrl_ok, trivial⟩
theorem ftT_rllrrlr_ok : T.All (FtOk Tryz.prog) ftT_rllrrlr (fun k => (fun k => (fun k => (fun k => (fun k => (fun k => id (2 * k + 1)) (2 * k + 1)) (2 * k + 2)) (2 * k + 2)) (2 * k + 1)) (2 * k + 2)) := ⟨ft_107_ok, ftT_rllrrlrl_ok, ftT_rllrrlrr_ok⟩
theorem ftT_rllrrl_ok : T.All (FtOk Tryz.prog) ftT_rllrrl (fun k => (fun k => (fun k => (fun k => (fun k => id (2 * k + 1)) (2 * k + 1)) (2 * k + 2)) (2 * k + 2)) (2 * k + 1)) := ⟨ft_43_ok, ftT_rllrrll_ok, ftT_rllrrlr_ok⟩
theorem ftT_rllrrrlll_ok : T.All (FtOk Tryz.prog) ftT_rllrrrlll (fun k => (fun k => (fun k => (fun k => (fun k => (fun k => (fun k => (fun k => id (2 * k + 1)) (2 * k + 1)) (2 * k + 2)) (2 * k + 2)) (2 * k + 2)) (2 * k + 1)) (2 * k + 1)) (2 * k + 1)) := ⟨ft_283_ok, trivial, trivial⟩
theorem ftT_rllrrrll_ok : T.All (FtOk Tryz.prog) ftT_rllrrrll (fun k => (fun k => (fun k => (fun k => (fun k => (fun k => (fun k => id (2 * k + 1)) (2 * k + 1)) (2 * k + 2)) (2 * k + 2)) (2 * k + 2)) (2 * k + 1)) (2 * k + 1)) := ⟨ft_155_ok, ftT_rllrrrlll_ok, trivial⟩
theorem ftT_rllrrrlr_ok : T.All (FtOk Tryz.prog) ftT_rllrrrlr (fun k => (fun k => (fun k => (fun k => (fun k => (fun k => (fun k => id (2 * k + 1)) (2 * k + 1)) (2 * k + 2)) (2 * k + 2)) (2 * k + 2)) (2 * k + 1)) (2 * k + 2)) := ⟨ft_219_ok, trivial, trivial⟩
theorem ftT_rllrrrl_ok : T.All (FtOk Tryz.prog) ftT_rllrrrl (fun k => (fun k => (fun k => (fun k => (fun k => (fun k => id (2 * k + 1)) (2 * k + 1)) (2 * k + 2)) (2 * k + 2)) (2 * k + 2)) (2 * k + 1)) := ⟨ft_91_ok, ftT_rllrrrll_ok, ftT_rllrrrlr_ok⟩
theorem ftT_rllrrrrll_ok : T.All (FtOk Tryz.prog) ftT_rllrrrrll (fun k => (fun k => (fun k => (fun k => (fun k => (fun k => (fun k => (fun k => id (2 * k + 1)) (2 * k + 1)) (2 * k + 2)) (2 * k + 2)) (2 * k + 2)) (2 * k + 2)) (2 * k + 1)) (2 * k + 1)) := ⟨ft_315_ok, trivial, trivial⟩
theorem ftT_rllrrrrl_ok : T.All (FtOk Tryz.prog) ftT_rllrrrrl (fun k => (fun k => (fun k => (fun k => (fun k => (fun k => (fun k => id (2 * k + 1)) (2 * k + 1)) (2 * k + 2)) (2 * k + 2)) (2 * k + 2)) (2 * k + 2)) (2 * k + 1)) := ⟨ft_187_ok, ftT_rllrrrrll_ok, trivial⟩
theorem ftT_rllrrrrr_ok : T.All (FtOk Tryz.prog) ftT_rllrrrrr (fun k => (fun k => (fun k => (fun k => (fun k => (fun k => (fun k => id (2 * k + 1)) (2 * k + 1)) (2 * k + 2)) (2 * k + 2)) (2 * k + 2)) (2 * k + 2)) (2 * k + 2)) := ⟨ft_251_ok, trivial, trivial⟩
theorem ftT_rllrrrr_ok : T.All (FtOk Tryz.prog) ftT_rllrrrr (fun k => (fun k => (fun k => (fun k => (fun k => (fun k => id (2 * k + 1)) (2 * k + 1)) (2 * k + 2)) (2 * k + 2)) (2 * k + 2)) (2 * k + 2)) := ⟨ft_123_ok, ftT_rllrrrrl_ok, ftT_rllrrrrr_ok⟩
theorem ftT_rllrrr_ok : T.All (FtOk Tryz.prog) ftT_rllrrr (fun k => (fun k => (fun k => (fun k => (fun k => id (2 * k + 1)) (2 * k + 1)) (2 * k + 2)) (2 * k + 2)) (2 * k + 2)) := ⟨ft_59_ok, ftT_rllrrrl_ok, ftT_rllrrrr_ok⟩
theorem ftT_rllrr_ok : T.All (FtOk Tryz.prog) ftT_rllrr (fun k => (fun k => (fun k => (fun k => id (2 * k + 1)) (2 * k + 1)) (2 * k + 2)) (2 * k + 2)) := ⟨ft_27_ok, ftT_rllrrl_ok, ftT_rllrrr_ok⟩
theorem ftT_rllr_ok : T.All (FtOk Tryz.prog) ftT_rllr (fun k => (fun k => (fun k => id (2 * k + 1)) (2 * k + 1)) (2 * k + 2)) := ⟨ft_11_ok, ftT_rllrl_ok, ftT_rllrr_ok⟩
theorem ftT_rll_ok : T.All (FtOk Tryz.prog) ftT_rll (fun k => (fun k => id (2 * k + 1)) (2 * k + 1)) := ⟨ft_3_ok, ftT_rlll_ok, ftT_rllr_ok⟩
theorem ftT_rlrllllll_ok : T.All (FtOk Tryz.prog) ftT_rlrllllll (fun k => (fun k => (fun k => (fun k => (fun k => (fun k => (fun k => (fun k => id (2 * k + 1)) (2 * k + 2)) (2 * k + 1)) (2 * k + 1)) (2 * k + 1)) (2 * k + 1)) (2 * k + 1)) (2 * k + 1)) := ⟨ft_257_ok, trivial, trivial⟩
theorem ftT_rlrlllll_ok : T.All (FtOk Tryz.prog) ftT_rlrlllll (fun k => (fun k => (fun k => (fun k => (fun k => (fun k => (fun k => id (2 * k + 1)) (2 * k + 2)) (2 * k + 1)) (2 * k + 1)) (2 * k + 1)) (2 * k + 1)) (2 * k + 1)) := ⟨ft_129_ok, ftT_rlrllllll_ok, trivial⟩
theorem ftT_rlrllllr_ok : T.All (FtOk Tryz.prog) ftT_rlrllllr (fun k => (fun k => (fun k => (fun k => (fun k => (fun k => (fun k => id (2 * k + 1)) (2 * k + 2)) (2 * k + 1)) (2 * k + 1)) (2 * k + 1)) (2 * k + 1)) (2 * k + 2)) := ⟨ft_193_ok, trivial, trivial⟩
theorem ftT_rlrllll_ok : T.All (FtOk Tryz.prog) ftT_rlrllll (fun k => (fun k => (fun k => (fun k => (fun k => (fun k => id (2 * k + 1)) (2 * k + 2)) (2 * k + 1)) (2 * k + 1)) (2 * k + 1)) (2 * k + 1)) := ⟨ft_65_ok, ftT_rlrlllll_ok, ftT_rlrllllr_ok⟩
theorem ftT_rlrlllrl_ok : T.All (FtOk Tryz.prog) ftT_rlrlllrl (fun k => (fun k => (fun k => (fun k => (fun k => (fun k => (fun k => id (2 * k + 1)) (2 * k + 2)) (2 * k + 1)) (2 * k + 1)) (2 * k + 1)) (2 * k + 2)) (2 * k + 1)) := ⟨ft_161_ok, trivial, trivial⟩
theorem ftT_rlrlllrr_ok : T.All (FtOk Tryz.prog) ftT_rlrlllrr (fun k => (fun k => (fun k => (fun k => (fun k => (fun k => (fun k => id (2 * k + 1)) (2 * k + 2)) (2 * k + 1)) (2 * k + 1)) (2 * k + 1)) (2 * k + 2)) (2 * k + 2)) := ⟨ft_225_ok, trivial, trivial⟩
theorem ftT_rlrlllr_ok : T.All (FtOk Tryz.prog) ftT_rlrlllr (fun k => (fun k => (fun k => (fun k => (fun k => (fun k => id (2 * k + 1)) (2 * k + 2)) (2 * k + 1)) (2 * k + 1)) (2 * k + 1)) (2 * k + 2)) := ⟨ft_97_ok, ftT_rlrlllrl_ok, ftT_rlrlllrr_ok⟩
theorem ftT_rlrlll_ok : T.All (FtOk Tryz.prog) ftT_rlrlll (fun k => (fun k => (fun k => (fun k => (fun k => id (2 * k + 1)) (2 * k + 2)) (2 * k + 1)) (2 * k + 1)) (2 * k + 1)) := ⟨ft_33_ok, ftT_rlrllll_ok, ftT_rlrlllr_ok⟩
theorem ftT_rlrllrlll_ok : T.All (FtOk Tryz.prog) ftT_rlrllrlll (fun k => (fun k => (fun k => (fun k => (fun k => (fun k => (fun k => (fun k => id (2 * k + 1)) (2 * k + 2)) (2 * k + 1)) (2 * k + 1)) (2 * k + 2)) (2 * k + 1)) (2 * k + 1)) (2 * k + 1)) := ⟨ft_273_ok, trivial, trivial⟩
theorem ftT_rlrllrll_ok : T.All (FtOk Tryz.prog) ftT_rlrllrll (fun k => (fun k => (fun k => (fun k => (fun k => (fun k => (fun k => id (2 * k + 1)) (2 * k + 2)) (2 * k + 1)) (2 * k + 1)) (2 * k + 2)) (2 * k + 1)) (2 * k + 1)) := ⟨ft_145_ok, ftT_rlrllrlll_ok, trivial⟩
theorem ftT_rlrllrlrl_ok : T.All (FtOk Tryz.prog) ftT_rlrllrlrl (fun k => (fun k => (fun k => (fun k => (fun k => (fun k => (fun k => (fun k => id (2 * k + 1)) (2 * k + 2)) (2 * k + 1)) (2 * k + 1)) (2 * k + 2)) (2 * k + 1)) (2 * k + 2)) (2 * k + 1)) := ⟨ft_337_ok, trivial, trivial⟩
theorem ftT_rlrllrlr_ok : T.All (FtOk Tryz.prog) ftT_rlrllrlr (fun k => (fun k => (fun k => (fun k => (fun k => (fun k => (fun k => id (2 * k + 1)) (2 * k + 2)) (2 * k + 1)) (2 * k + 1)) (2 * k + 2)) (2 * k + 1)) (2 * k + 2)) := ⟨ft_209_ok, ftT_rlrllrlrl_ok, trivial⟩
theorem ftT_rlrllrl_ok : T.All (FtOk Tryz.prog) ftT_rlrllrl (fun k => (fun k => (fun k => (fun k => (fun k => (fun k => id (2 * k + 1)) (2 * k + 2)) (2 * k + 1)) (2 * k + 1)) (2 * k + 2)) (2 * k + 1)) := ⟨ft_81_ok, ftT_rlrllrll_ok, ftT_rlrllrlr_ok⟩
theorem ftT_rlrllrrl_ok : T.All (FtOk Tryz.prog) ftT_rlrllrrl (fun k => (fun k => (fun k => (fun k => (fun k => (fun k => (fun k => id (2 * k + 1)) (2 * k + 2)) (2 * k + 1)) (2 * k + 1)) (2 * k + 2)) (2 * k + 2)) (2 * k + 1)) := ⟨ft_177_ok, trivial, trivial⟩
theorem ftT_rlrllrrr_ok : T.All (FtOk Tryz.prog) ftT_rlrllrrr (fun k => (fun k => (fun k => (fun k => (fun k => (fun k => (fun k => id (2 * k + 1)) (2 * k + 2)) (2 * k + 1)) (2 * k + 1)) (2 * k + 2)) (2 * k + 2)) (2 * k + 2)) := ⟨ft_241_ok, trivial, trivial⟩
theorem ftT_rlrllrr_ok : T.All (FtOk Tryz.prog) ftT_rlrllrr (fun k => (fun k => (fun k => (fun k => (fun k => (fun k => id (2 * k + 1)) (2 * k + 2)) (2 * k + 1)) (2 * k + 1)) (2 * k + 2)) (2 * k + 2)) := ⟨ft_113_ok, ftT_rlrllrrl_ok, ftT_rlrllrrr_ok⟩
theorem ftT_rlrllr_ok : T.All (FtOk Tryz.prog) ftT_rlrllr (fun k => (fun k => (fun k => (fun k => (fun k => id (2 * k + 1)) (2 * k + 2)) (2 * k + 1)) (2 * k + 1)) (2 * k + 2)) := ⟨ft_49_ok, ftT_rlrllrl_ok, ftT_rlrllrr_ok⟩
theorem ftT_rlrll_ok : T.All (FtOk Tryz.prog) ftT_rlrll (fun k => (fun k => (fun k => (fun k => id (2 * k + 1)) (2 * k + 2)) (2 * k + 1)) (2 * k + 1)) := ⟨ft_17_ok, ftT_rlrlll_ok, ftT_rlrllr_ok⟩
theorem ftT_rlrlrllll_ok : T.All (FtOk Tryz.prog) ftT_rlrlrllll (fun k => (fun k => (fun k => (fun k => (fun k => (fun k => (fun k => (fun k => id (2 * k + 1)) (2 * k + 2)) (2 * k + 1)) (2 * k + 2)) (2 * k + 1)) (2 * k + 1)) (2 * k + 1)) (2 * k + 1)) := ⟨ft_265_ok, trivial, trivial⟩
theorem ftT_rlrlrlll_ok : T.All (FtOk Tryz.prog) ftT_rlrlrlll (fun k => (fun k => (fun k => (fun k => (fun k => (fun k => (fun k => id (2 * k + 1)) (2 * k + 2)) (2 * k + 1)) (2 * k + 2)) (2 * k + 1)) (2 * k + 1)) (2 * k + 1)) := ⟨ft_137_ok, ftT_rlrlrllll_ok, trivial⟩
theorem ftT_rlrlrllr_ok : T.All (FtOk Tryz.prog) ftT_rlrlrllr (fun k => (fun k => (fun k => (fun k => (fun k => (fun k => (fun k => id (2 * k + 1)) (2 * k + 2)) (2 * k + 1)) (2 * k + 2)) (2 * k + 1)) (2 * k + 1)) (2 * k + 2)) := ⟨ft_201_ok, trivial, trivial⟩
theorem ftT_rlrlrll_ok : T.All (FtOk Tryz.prog) ftT_rlrlrll (fun k => (fun k => (fun k => (fun k => (fun k => (fun k => id (2 * k + 1)) (2 * k + 2)) (2 * k + 1)) (2 * k + 2)) (2 * k + 1)) (2 * k + 1)) := ⟨ft_73_ok, ftT_rlrlrlll_ok, ftT_rlrlrllr_ok⟩
theorem ftT_rlrlrlrll_ok : T.All (FtOk Tryz.prog) ftT_rlrlrlrll (fun k => (fun k => (fun k => (fun k => (fun k => (fun k => (fun k => (fun k => id (2 * k + 1)) (2 * k + 2)) (2 * k + 1)) (2 * k + 2)) (2 * k + 1)) (2 * k + 2)) (2 * k + 1)) (2 * k + 1)) := ⟨ft_297_ok, trivial, trivial⟩
theorem ftT_rlrlrlrl_ok : T.All (FtOk Tryz.prog) ftT_rlrlrlrl (fun k => (fun k => (fun k => (fun k => (fun k => (fun k => (fun k => id (2 * k + 1)) (2 * k + 2)) (2 * k + 1)) (2 * k + 2)) (2 * k + 1)) (2 * k + 2)) (2 * k + 1)) := ⟨ft_169_ok, ftT_rlrlrlrll_ok, trivial⟩
theorem ftT_rlrlrlrr_ok : T.All (FtOk Tryz.prog) ftT_rlrlrlrr (fun k => (fun k => (fun k => (fun k => (fun k => (fun k => (fun k => id (2 * k + 1)) (2 * k + 2)) (2 * k + 1)) (2 * k + 2)) (2 * k + 1)) (2 * k + 2)) (2 * k + 2)) := ⟨ft_233_ok, trivial, trivial⟩
theorem ftT_rlrlrlr_ok : T.All (FtOk Tryz.prog) ftT_rlrlrlr (fun k => (fun k => (fun k => (fun k => (fun k => (fun k => id (2 * k + 1)) (2 * k + 2)) (2 * k + 1)) (2 * k + 2)) (2 * k + 1)) (2 * k + 2)) := ⟨ft_105_ok, ftT_rlrlrlrl_ok, ftT_rlrlrlrr_ok⟩
theorem ftT_rlrlrl_ok : T.All (FtOk Tryz.prog) ftT_rlrlrl (fun k => (fun k => (fun k => (fun k => (fun k => id (2 * k + 1)) (2 * k + 2)) (2 * k + 1)) (2 * k + 2)) (2 * k + 1)) := ⟨ft_41_ok, ftT_rlrlrll_ok, ftT_rlrlrlr_ok⟩
theorem ftT_rlrlrrlll_ok : T.All (FtOk Tryz.prog) ftT_rlrlrrlll (fun k => (fun k => (fun k => (fun k => (fun k => (fun k => (fun k => (fun k => id (2 * k + 1)) (2 * k + 2)) (2 * k + 1)) (2 * k + 2)) (2 * k + 2)) (2 * k + 1)) (2 * k + 1)) (2 * k + 1)) := ⟨ft_281_ok, trivial, trivial⟩
theorem ftT_rlrlrrll_ok : T.All (FtOk Tryz.prog) ftT_rlrlrrll (fun k => (fun k => (fun k => (fun k => (fun k => (fun k => (fun k => id (2 * k + 1)) (2 * k + 2)) (2 * k + 1)) (2 * k + 2)) (2 * k + 2)) (2 * k + 1)) (2 * k + 1)) := ⟨ft_153_ok, ftT_rlrlrrlll_ok, trivial⟩
theorem ftT_rlrlrrlr_ok : T.All (FtOk Tryz.prog) ftT_rlrlrrlr (fun k => (fun k => (fun k => (fun k => (fun k => (fun k => (fun k => id (2 * k + 1)) (2 * k + 2)) (2 * k + 1)) (2 * k + 2)) (2 * k + 2)) (2 * k + 1)) (2 * k + 2)) := ⟨ft_217_ok, trivial, trivial⟩
theorem ftT_rlrlrrl_ok : T.All (FtOk Tryz.prog) ftT_rlrlrrl (fun k => (fun k => (fun k => (fun k => (fun k => (fun k => id (2 * k + 1)) (2 * k + 2)) (2 * k + 1)) (2 * k + 2)) (2 * k + 2)) (2 * k + 1)) := ⟨ft_89_ok, ftT_rlrlrrll_ok, ftT_rlrlrrlr_ok⟩
theorem ftT_rlrlrrrll_ok : T.All (FtOk Tryz.prog) ftT_rlrlrrrll (fun k => (fun k => (fun k => (fun k => (fun k => (fun k => (fun k => (fun k => id (2 * k + 1)) (2 * k + 2)) (2 * k + 1)) (2 * k + 2)) (2 * k + 2)) (2 * k + 2)) (2 * k + 1)) (2 * k + 1)) := ⟨ft_313_ok, trivial, trivial⟩
theorem ftT_rlrlrrrl_ok : T.All (FtOk Tryz.prog) ftT_rlrlrrrl (fun k => (fun k => (fun k => (fun k => (fun k => (fun k => (fun k => id (2 * k + 1)) (2 * k + 2)) (2 * k + 1)) (2 * k + 2)) (2 * k + 2)) (2 * k + 2)) (2 * k + 1)) := ⟨ft_185_ok, ftT_rlrlrrrll_ok, trivial⟩
theorem ftT_rlrlrrrr_ok : T.All (FtOk Tryz.prog) ftT_rlrlrrrr (fun k => (fun k => (fun k => (fun k => (fun k => (fun k => (fun k => id (2 * k + 1)) (2 * k + 2)) (2 * k + 1)) (2 * k + 2)) (2 * k + 2)) (2 * k + 2)) (2 * k + 2)) := ⟨ft_249_ok, trivial, trivial⟩
theorem ftT_rlrlrrr_ok : T.All (FtOk Tryz.prog) ftT_rlrlrrr (fun k => (fun k => (fun k => (fun k => (fun k => (fun k => id (2 * k + 1)) (2 * k + 2)) (2 * k + 1)) (2 * k + 2)) (2 * k + 2)) (2 * k + 2)) := ⟨ft_121_ok, ftT_rlrlrrrl_ok, ftT_rlrlrrrr_ok⟩
theorem ftT_rlrlrr_ok : T.All (FtOk Tryz.prog) ftT_rlrlrr (fun k => (fun k => (fun k => (fun k => (fun k => id (2 * k + 1)) (2 * k + 2)) (2 * k + 1)) (2 * k + 2)) (2 * k + 2)) := ⟨ft_57_ok, ftT_rlrlrrl_ok, ftT_rlrlrrr_ok⟩
theorem ftT_rlrlr_ok : T.All (FtOk Tryz.prog) ftT_rlrlr (fun k => (fun k => (fun k => (fun k => id (2 * k + 1)) (2 * k + 2)) (2 * k + 1)) (2 * k + 2)) := ⟨ft_25_ok, ftT_rlrlrl_ok, ftT_rlrlrr_ok⟩
theorem ftT_rlrl_ok : T.All (FtOk Tryz.prog) ftT_rlrl (fun k => (fun k => (fun k => id (2 * k + 1)) (2 * k + 2)) (2 * k + 1)) := ⟨ft_9_ok, ftT_rlrll_ok, ftT_rlrlr_ok⟩
theorem ftT_rlrrlllll_ok : T.All (FtOk Tryz.prog) ftT_rlrrlllll (fun k => (fun k => (fun k => (fun k => (fun k => (fun k => (fun k => (fun k => id (2 * k + 1)) (2 * k + 2)) (2 * k + 2)) (2 * k + 1)) (2 * k + 1)) (2 * k + 1)) (2 * k + 1)) (2 * k + 1)) := ⟨ft_261_ok, trivial, trivial⟩
theorem ftT_rlrrllll_ok : T.All (FtOk Tryz.prog) ftT_rlrrllll (fun k => (fun k => (fun k => (fun k => (fun k => (fun k => (fun k => id (2 * k + 1)) (2 * k + 2)) (2 * k + 2)) (2 * k + 1)) (2 * k + 1)) (2 * k + 1)) (2 * k + 1)) := ⟨ft_133_ok, ftT_rlrrlllll_ok, trivial⟩
theorem ftT_rlrrlllr_ok : T.All (FtOk Tryz.prog) ftT_rlrrlllr (fun k => (fun k => (fun k => (fun k => (fun k => (fun k => (fun k => id (2 * k + 1)) (2 * k + 2)) (2 * k + 2)) (2 * k + 1)) (2 * k + 1)) (2 * k + 1)) (2 * k + 2)) := ⟨ft_197_ok, trivial, trivial⟩
theorem ftT_rlrrlll_ok : T.All (FtOk Tryz.prog) ftT_rlrrlll (fun k => (fun k => (fun k => (fun k => (fun k => (fun k => id (2 * k + 1)) (2 * k + 2)) (2 * k + 2)) (2 * k + 1)) (2 * k + 1)) (2 * k + 1)) := ⟨ft_69_ok, ftT_rlrrllll_ok, ftT_rlrrlllr_ok⟩
theorem ftT_rlrrllrll_ok : T.All (FtOk Tryz.prog) ftT_rlrrllrll (fun k => (fun k => (fun k => (fun k => (fun k => (fun k => (fun k => (fun k => id (2 * k + 1)) (2 * k + 2)) (2 * k + 2)) (2 * k + 1)) (2 * k + 1)) (2 * k + 2)) (2 * k + 1)) (2 * k + 1)) := ⟨ft_293_ok, trivial, trivial⟩
theorem ftT_rlrrllrl_ok : T.All (FtOk Tryz.prog) ftT_rlrrllrl (fun k => (fun k => (fun k => (fun k => (fun k => (fun k => (fun k => id (2 * k + 1)) (2 * k + 2)) (2 * k + 2)) (2 * k + 1)) (2 * k + 1)) (2 * k + 2)) (2 * k + 1)) := ⟨ft_165_ok, ftT_rlrrllrll_ok, trivial⟩
theorem ftT_rlrrllrr_ok : T.All (FtOk Tryz.prog) ftT_rlrrllrr (fun k => (fun k => (fun k => (fun k => (fun k => (fun k => (fun k => id (2 * k + 1)) (2 * k + 2)) (2 * k + 2)) (2 * k + 1)) (2 * k + 1)) (2 * k + 2)) (2 * k + 2)) := ⟨ft_229_ok, trivial, trivial⟩
theorem ftT_rlrrllr_ok : T.All (FtOk Tryz.prog) ftT_rlrrllr (fun k => (fun k => (fun k => (fun k => (fun k => (fun k => id (2 * k + 1)) (2 * k + 2)) (2 * k + 2)) (2 * k + 1)) (2 * k + 1)) (2 * k + 2)) := ⟨ft_101_ok, ftT_rlrrllrl_ok, ftT_rlrrllrr_ok⟩
theorem ftT_rlrrll_ok : T.All (FtOk Tryz.prog) ftT_rlrrll (fun k => (fun k => (fun k => (fun k => (fun k => id (2 * k + 1)) (2 * k + 2)) (2 * k + 2)) (2 * k + 1)) (2 * k + 1)) := ⟨ft_37_ok, ftT_rlrrlll_ok, ftT_rlrrllr_ok⟩
theorem ftT_rlrrlrll_ok : T.All (FtOk Tryz.prog) ftT_rlrrlrll (fun k => (fun k => (fun k => (fun k => (fun k => (fun k => (fun k => id (2 * k + 1)) (2 * k + 2)) (2 * k + 2)) (2 * k + 1)) (2 * k + 2)) (2 * k + 1)) (2 * k + 1)) := ⟨ft_149_ok, trivial, trivial⟩
theorem ftT_rlrrlrlr_ok : T.All (FtOk Tryz.prog) ftT_rlrrlrlr (fun k => (fun k => (fun k => (fun k => (fun k => (fun k => (fun k => id (2 * k + 1)) (2 * k + 2)) (2 * k + 2)) (2 * k + 1)) (2 * k + 2)) (2 * k + 1)) (2 * k + 2)) := ⟨ft_213_ok, trivial, trivial⟩
theorem ftT_rlrrlrl_ok : T.All (FtOk Tryz.prog) ftT_rlrrlrl (fun k => (fun k => (fun k => (fun k => (fun k => (fun k => id (2 * k + 1)) (2 * k + 2)) (2 * k + 2)) (2 * k + 1)) (2 * k + 2)) (2 * k + 1)) := ⟨ft_85_ok, ftT_rlrrlrll_ok, ftT_rlrrlrlr_ok⟩
theorem ftT_rlrrlrrll_ok : T.All (FtOk Tryz.prog) ftT_rlrrlrrll (fun k => (fun k => (fun k => (fun k => (fun k => (fun k => (fun k => (fun k => id (2 * k + 1)) (2 * k + 2)) (2 * k + 2)) (2 * k + 1)) (2 * k + 2)) (2 * k + 2)) (2 * k + 1)) (2 * k + 1)) := ⟨ft_309_ok, trivial, trivial⟩
theorem ftT_rlrrlrrl_ok : T.All (FtOk Tryz.prog) ftT_rlrrlrrl (fun k => (fun k => (fun k => (fun k => (fun k => (fun k => (fun k => id (2 * k + 1)) (2 * k + 2)) (2 * k + 2)) (2 * k + 1)) (2 * k + 2)) (2 * k + 2)) (2 * k + 1)) := ⟨ft_181_ok, ftT_rlrrlrrll_ok, trivial⟩
theorem ftT_rlrrlrrr_ok : T.All (FtOk Tryz.prog) ftT_rlrrlrrr (fun k => (fun k => (fun k => (fun k => (fun k => (fun k => (fun k => id (2 * k + 1)) (2 * k + 2)) (2 * k + 2)) (2 * k + 1)) (2 * k + 2)) (2 * k + 2)) (2 * k + 2)) := ⟨ft_245_ok, trivial, trivial⟩
theorem ftT_rlrrlrr_ok : T.All (FtOk Tryz.prog) ftT_rlrrlrr (fun k => (fun k => (fun k => (fun k => (fun k => (fun k => id (2 * k + 1)) (2 * k + 2)) (2 * k + 2)) (2 * k + 1)) (2 * k + 2)) (2 * k + 2)) := ⟨ft_117_ok, ftT_rlrrlrrl_ok, ftT_rlrrlrrr_ok⟩
theorem ftT_rlrrlr_ok : T.All (FtOk Tryz.prog) ftT_rlrrlr (fun k => (fun k => (fun k => (fun k => (fun k => id (2 * k + 1)) (2 * k + 2)) (2 * k + 2)) (2 * k + 1)) (2 * k + 2)) := ⟨ft_53_ok, ftT_rlrrlrl_ok, ftT_rlrrlrr_ok⟩
theorem ftT_rlrrl_ok : T.All (FtOk Tryz.prog) ftT_rlrrl (fun k => (fun k => (fun k => (fun k => id (2 * k + 1)) (2 * k + 2)) (2 * k + 2)) (2 * k + 1)) := ⟨ft_21_ok, ftT_rlrrll_ok, ftT_rlrrlr_ok⟩
theorem ftT_rlrrrllll_ok : T.All (FtOk Tryz.prog) ftT_rlrrrllll (fun k => (fun k => (fun k => (fun k => (fun k => (fun k => (fun k => (fun k => id (2 * k + 1)) (2 * k + 2)) (2 * k + 2)) (2 * k + 2)) (2 * k + 1)) (2 * k + 1)) (2 * k + 1)) (2 * k + 1)) := ⟨ft_269_ok, trivial, trivial⟩
theorem ftT_rlrrrlll_ok : T.All (FtOk Tryz.prog) ftT_rlrrrlll (fun k => (fun k => (fun k => (fun k => (fun k => (fun k => (fun k => id (2 * k + 1)) (2 * k + 2)) (2 * k + 2)) (2 * k + 2)) (2 * k + 1)) (2 * k + 1)) (2 * k + 1)) := ⟨ft_141_ok, ftT_rlrrrllll_ok, trivial⟩
theorem ftT_rlrrrllr_ok : T.All (FtOk Tryz.prog) ftT_rlrrrllr (fun k => (fun k => (fun k => (fun k => (fun k => (fun k => (fun k => id (2 * k + 1)) (2 * k + 2)) (2 * k + 2)) (2 * k + 2)) (2 * k + 1)) (2 * k + 1)) (2 * k + 2)) := ⟨ft_205_ok, trivial, trivial⟩
theorem ftT_rlrrrll_ok : T.All (FtOk Tryz.prog) ftT_rlrrrll (fun k => (fun k => (fun k => (fun k => (fun k => (fun k => id (2 * k + 1)) (2 * k + 2)) (2 * k + 2)) (2 * k + 2)) (2 * k + 1)) (2 * k + 1)) := ⟨ft_77_ok, ftT_rlrrrlll_ok, ftT_rlrrrllr_ok⟩
theorem ftT_rlrrrlrll_ok : T.All (FtOk Tryz.prog) ftT_rlrrrlrll (fun k => (fun k => (fun k => (fun k => (fun k => (fun k => (fun k => (fun k => id (2 * k + 1)) (2 * k + 2)) (2 * k + 2)) (2 * k + 2)) (2 * k + 1)) (2 * k + 2)) (2 * k + 1)) (2 * k + 1)) := ⟨ft_301_ok, trivial, trivial⟩
theorem ftT_rlrrrlrl_ok : T.All (FtOk Tryz.prog) ftT_rlrrrlrl (fun k => (fun k => (fun k => (fun k => (fun k => (fun k => (fun k => id (2 * k + 1)) (2 * k + 2)) (2 * k + 2)) (2 * k + 2)) (2 * k + 1)) (2 * k + 2)) (2 * k + 1)) := ⟨ft_173_ok, ftT_rlrrrlrll_ok, trivial⟩
theorem ftT_rlrrrlrr_ok : T.All (FtOk Tryz.prog) ftT_rlrrrlrr (fun k => (fun k => (fun k => (fun k => (fun k => (fun k => (fun k => id (2 * k + 1)) (2 * k + 2)) (2 * k + 2)) (2 * k + 2)) (2 * k + 1)) (2 * k + 2)) (2 * k + 2)) := ⟨ft_237_ok, trivial, trivial⟩
theorem ftT_rlrrrlr_ok : T.All (FtOk Tryz.prog) ftT_rlrrrlr (fun k => (fun k => (fun k => (fun k => (fun k => (fun k => id (2 * k + 1)) (2 * k + 2)) (2 * k + 2)) (2 * k + 2)) (2 * k + 1)) (2 * k + 2)) := ⟨ft_109_ok, ftT_rlrrrlrl_ok, ftT_rlrrrlrr_ok⟩
theorem ftT_rlrrrl_ok : T.All (FtOk Tryz.prog) ftT_rlrrrl (fun k => (fun k => (fun k => (fun k => (fun k => id (2 * k + 1)) (2 * k + 2)) (2 * k + 2)) (2 * k + 2)) (2 * k + 1)) := ⟨ft_45_ok, ftT_rlrrrll_ok, ftT_rlrrrlr_ok⟩
theorem ftT_rlrrrrlll_ok : T.All (FtOk Tryz.prog) ftT_rlrrrrlll (fun k => (fun k => (fun k => (fun k => (fun k => (fun k => (fun k => (fun k => id (2 * k + 1)) (2 * k + 2)) (2 * k + 2)) (2 * k + 2)) (2 * k + 2)) (2 * k + 1)) (2 * k + 1)) (2 * k + 1)) := ⟨ft_285_ok, trivial, trivial⟩
theorem ftT_rlrrrrll_ok : T.All (FtOk Tryz.prog) ftT_rlrrrrll (fun k => (fun k => (fun k => (fun k => (fun k => (fun k => (fun k => id (2 * k + 1)) (2 * k + 2)) (2 * k + 2)) (2 * k + 2)) (2 * k + 2)) (2 * k + 1)) (2 * k + 1)) := ⟨ft_157_ok, ftT_rlrrrrlll_ok, trivial⟩
theorem ftT_rlrrrrlr_ok : T.All (FtOk Tryz.prog) ftT_rlrrrrlr (fun k => (fun k => (fun k => (fun k => (fun k => (fun k => (fun k => id (2 * k + 1)) (2 * k + 2)) (2 * k + 2)) (2 * k + 2)) (2 * k + 2)) (2 * k + 1)) (2 * k + 2)) := ⟨ft_221_ok, trivial, trivial⟩
theorem ftT_rlrrrrl_ok : T.All (FtOk Tryz.prog) ftT_rlrrrrl (fun k => (fun k => (fun k => (fun k => (fun k => (fun k => id (2 * k + 1)) (2 * k + 2)) (2 * k + 2)) (2 * k + 2)) (2 * k + 2)) (2 * k + 1)) := ⟨ft_93_ok, ftT_rlrrrrll_ok, ftT_rlrrrrlr_ok⟩
theorem ftT_rlrrrrrll_ok : T.All (FtOk Tryz.prog) ftT_rlrrrrrll (fun k => (fun k => (fun k => (fun k => (fun k => (fun k => (fun k => (fun k => id (2 * k + 1)) (2 * k + 2)) (2 * k + 2)) (2 * k + 2)) (2 * k + 2)) (2 * k + 2)) (2 * k + 1)) (2 * k + 1)) := ⟨ft_317_ok, trivial, trivial⟩
theorem ftT_rlrrrrrl_ok : T.All (FtOk Tryz.prog) ftT_rlrrrrrl (fun k => (fun k => (fun k => (fun k => (fun k => (fun k => (fun k => id (2 * k + 1)) (2 * k + 2)) (2 * k + 2)) (2 * k + 2)) (2 * k + 2)) (2 * k + 2)) (2 * k + 1)) := ⟨ft_189_ok, ftT_rlrrrrrll_ok, trivial⟩
theorem ftT_rlrrrrrr_ok : T.All (FtOk Tryz.prog) ftT_rlrrrrrr (fun k => (fun k => (fun k => (fun k => (fun k => (fun k => (fun k => id (2 * k + 1)) (2 * k + 2)) (2 * k + 2)) (2 * k + 2)) (2 * k + 2)) (2 * k + 2)) (2 * k + 2)) := ⟨ft_253_ok, trivial, trivial⟩
theorem ftT_rlrrrrr_ok : T.All (FtOk Tryz.prog) ftT_rlrrrrr (fun k => (fun k => (fun k => (fun k => (fun k => (fun k => id (2 * k + 1)) (2 * k + 2)) (2 * k + 2)) (2 * k + 2)) (2 * k + 2)) (2 * k + 2)) := ⟨ft_125_ok, ftT_rlrrrrrl_ok, ftT_rlrrrrrr_ok⟩
theorem ftT_rlrrrr_ok : T.All (FtOk Tryz.prog) ftT_rlrrrr (fun k => (fun k => (fun k => (fun k => (fun k => id (2 * k + 1)) (2 * k + 2)) (2 * k + 2)) (2 * k + 2)) (2 * k + 2)) := ⟨ft_61_ok, ftT_rlrrrrl_ok, ftT_rlrrrrr_ok⟩
theorem ftT_rlrrr_ok : T.All (FtOk Tryz.prog) ftT_rlrrr (fun k => (fun k => (fun k => (fun k => id (2 * k + 1)) (2 * k + 2)) (2 * k + 2)) (2 * k + 2)) := ⟨ft_29_ok, ftT_rlrrrl_ok, ftT_rlrrrr_ok⟩
theorem ftT_rlrr_ok : T.All (FtOk Tryz.prog) ftT_rlrr (fun k => (fun k => (fun k => id (2 * k + 1)) (2 * k + 2)) (2 * k + 2)) := ⟨ft_13_ok, ftT_rlrrl_ok, ftT_rlrrr_ok⟩
theorem ftT_rlr_ok : T.All (FtOk Tryz.prog) ftT_rlr (fun k => (fun k => id (2 * k + 1)) (2 * k + 2)) := ⟨ft_5_ok, ftT_rlrl_ok, ftT_rlrr_ok⟩
theorem ftT_rl_ok : T.All (FtOk Tryz.prog) ftT_rl (fun k => id (2 * k + 1)) := ⟨trivial, ftT_rll_ok, ftT_rlr_ok⟩
theorem ftT_rrlllllll_ok : T.All (FtOk Tryz.prog) ftT_rrlllllll (fun k => (fun k => (fun k => (fun k => (fun k => (fun k => (fun k => (fun k => id (2 * k + 2)) (2 * k + 1)) (2 * k + 1)) (2 * k + 1)) (2 * k + 1)) (2 * k + 1)) (2 * k + 1)) (2 * k + 1)) := ⟨ft_256_ok, trivial, trivial⟩
theorem ftT_rrllllll_ok : T.All (FtOk Tryz.prog) ftT_rrllllll (fun k => (fun k => (fun k => (fun k => (fun k => (fun k => (fun k => id (2 * k + 2)) (2 * k + 1)) (2 * k + 1)) (2 * k + 1)) (2 * k + 1)) (2 * k + 1)) (2 * k + 1)) := ⟨ft_128_ok, ftT_rrlllllll_ok, trivial⟩
theorem ftT_rrlllllr_ok : T.All (FtOk Tryz.prog) ftT_rrlllllr (fun k => (fun k => (fun k => (fun k => (fun k => (fun k => (fun k => id (2 * k + 2)) (2 * k + 1)) (2 * k + 1)) (2 * k + 1)) (2 * k + 1)) (2 * k + 1)) (2 * k + 2)) := ⟨ft_192_ok, trivial, trivial⟩
theorem ftT_rrlllll_ok : T.All (FtOk Tryz.prog) ftT_rrlllll (fun k => (fun k => (fun k => (fun k => (fun k => (fun k => id (2 * k + 2)) (2 * k + 1)) (2 * k + 1)) (2 * k + 1)) (2 * k + 1)) (2 * k + 1)) := ⟨ft_64_ok, ftT_rrllllll_ok, ftT_rrlllllr_ok⟩
theorem ftT_rrllllrll_ok : T.All (FtOk Tryz.prog) ftT_rrllllrll (fun k => (fun k => (fun k => (fun k => (fun k => (fun k => (fun k => (fun k => id (2 * k + 2)) (2 * k + 1)) (2 * k + 1)) (2 * k + 1)) (2 * k + 1)) (2 * k + 2)) (2 * k + 1)) (2 * k + 1)) := ⟨ft_288_ok, trivial, trivial⟩
theorem ftT_rrllllrl_ok : T.All (FtOk Tryz.prog) ftT_rrllllrl (fun k => (fun k => (fun k => (fun k => (fun k => (fun k => (fun k => id (2 * k + 2)) (2 * k + 1)) (2 * k + 1)) (2 * k + 1)) (2 * k + 1)) (2 * k + 2)) (2 * k + 1)) := ⟨ft_160_ok, ftT_rrllllrll_ok, trivial⟩
theorem ftT_rrllllrr_ok : T.All (FtOk Tryz.prog) ftT_rrllllrr (fun k => (fun k => (fun k => (fun k => (fun k => (fun k => (fun k => id (2 * k + 2)) (2 * k + 1)) (2 * k + 1)) (2 * k + 1)) (2 * k + 1)) (2 * k + 2)) (2 * k + 2)) := ⟨ft_224_ok, trivial, trivial⟩
theorem ftT_rrllllr_ok : T.All (FtOk Tryz.prog) ftT_rrllllr (fun k => (fun k => (fun k => (fun k => (fun k => (fun k => id (2 * k + 2)) (2 * k + 1)) (2 * k + 1)) (2 * k + 1)) (2 * k + 1)) (2 * k + 2)) := ⟨ft_96_ok, ftT_rrllllrl_ok, ftT_rrllllrr_ok⟩
theorem ftT_rrllll_ok : T.All (FtOk Tryz.prog) ftT_rrllll (fun k => (fun k => (fun k => (fun k => (fun k => id (2 * k + 2)) (2 * k + 1)) (2 * k + 1)) (2 * k + 1)) (2 * k + 1)) := ⟨ft_32_ok, ftT_rrlllll_ok, ftT_rrllllr_ok⟩
theorem ftT_rrlllrlll_ok : T.All (FtOk Tryz.prog) ftT_rrlllrlll (fun k => (fun k => (fun k => (fun k => (fun k => (fun k => (fun k => (fun k => id (2 * k + 2)) (2 * k + 1)) (2 * k + 1)) (2 * k + 1)) (2 * k + 2)) (2 * k + 1)) (2 * k + 1)) (2 * k + 1)) := ⟨ft_272_ok, trivial, trivial⟩
theorem ftT_rrlllrll_ok : T.All (FtOk Tryz.prog) ftT_rrlllrll (fun k => (fun k => (fun k => (fun k => (fun k => (fun k => (fun k => id (2 * k + 2)) (2 * k + 1)) (2 * k + 1)) (2 * k + 1)) (2 * k + 2)) (2 * k + 1)) (2 * k + 1)) := ⟨ft_144_ok, ftT_rrlllrlll_ok, trivial⟩
theorem ftT_rrlllrlr_ok : T.All (FtOk Tryz.prog) ftT_rrlllrlr (fun k => (fun k => (fun k => (fun k => (fun k => (fun k => (fun k => id (2 * k + 2)) (2 * k + 1)) (2 * k + 1)) (2 * k + 1)) (2 * k + 2)) (2 * k + 1)) (2 * k + 2)) := ⟨ft_208_ok, trivial, trivial⟩
theorem ftT_rrlllrl_ok : T.All (FtOk Tryz.prog) ftT_rrlllrl (fun k => (fun k => (fun k => (fun k => (fun k => (fun k => id (2 * k + 2)) (2 * k + 1)) (2 * k + 1)) (2 * k + 1)) (2 * k + 2)) (2 * k + 1)) := ⟨ft_80_ok, ftT_rrlllrll_ok, ftT_rrlllrlr_ok⟩
theorem ftT_rrlllrrl_ok : T.All (FtOk Tryz.prog) ftT_rrlllrrl (fun k => (fun k => (fun k => (fun k => (fun k => (fun k => (fun k => id (2 * k + 2)) (2 * k + 1)) (2 * k + 1)) (2 * k + 1)) (2 * k + 2)) (2 * k + 2)) (2 * k + 1)) := ⟨ft_176_ok, trivial, trivial⟩
theorem ftT_rrlllrrr_ok : T.All (FtOk Tryz.prog) ftT_rrlllrrr (fun k => (fun k => (fun k => (fun k => (fun k => (fun k => (fun k => id (2 * k + 2)) (2 * k + 1)) (2 * k + 1)) (2 * k + 1)) (2 * k + 2)) (2 * k + 2)) (2 * k + 2)) := ⟨ft_240_ok, trivial, trivial⟩
theorem ftT_rrlllrr_ok : T.All (FtOk Tryz.prog) ftT_rrlllrr (fun k => (fun k => (fun k => (fun k => (fun k => (fun k => id (2 * k + 2)) (2 * k + 1)) (2 * k + 1)) (2 * k + 1)) (2 * k + 2)) (2 * k + 2)) := ⟨ft_112_ok, ftT_rrlllrrl_ok, ftT_rrlllrrr_ok⟩
theorem ftT_rrlllr_ok : T.All (FtOk Tryz.prog) ftT_rrlllr (fun k => (fun k => (fun k => (fun k => (fun k => id (2 * k + 2)) (2 * k + 1)) (2 * k + 1)) (2 * k + 1)) (2 * k + 2)) := ⟨ft_48_ok, ftT_rrlllrl_ok, ftT_rrlllrr_ok⟩
theorem ftT_rrlll_ok : T.All (FtOk Tryz.prog) ftT_rrlll (fun k => (fun k => (fun k => (fun k => id (2 * k + 2)) (2 * k + 1)) (2 * k + 1)) (2 * k + 1)) := ⟨ft_16_ok, ftT_rrllll_ok, ftT_rrlllr_ok⟩
theorem ftT_rrllrllll_ok : T.All (FtOk Tryz.prog) ftT_rrllrllll (fun k => (fun k => (fun k => (fun k => (fun k => (fun k => (fun k => (fun k => id (2 * k + 2)) (2 * k + 1)) (2 * k + 1)) (2 * k + 2)) (2 * k + 1)) (2 * k + 1)) (2 * k + 1)) (2 * k + 1)) := ⟨ft_264_ok, trivial, trivial⟩
theorem ftT_rrllrlll_ok : T.All (FtOk Tryz.prog) ftT_rrllrlll (fun k => (fun k => (fun k => (fun k => (fun k => (fun k => (fun k => id (2 * k + 2)) (2 * k + 1)) (2 * k + 1)) (2 * k + 2)) (2 * k + 1)) (2 * k + 1)) (2 * k + 1)) := ⟨ft_136_ok, ftT_rrllrllll_ok, trivial⟩
theorem ftT_rrllrllr_ok : T.All (FtOk Tryz.prog) ftT_rrllrllr (fun k => (fun k => (fun k => (fun k => (fun k => (fun k => (fun k => id (2 * k + 2)) (2 * k + 1)) (2 * k + 1)) (2 * k + 2)) (2 * k + 1)) (2 * k + 1)) (2 * k + 2)) := ⟨ft_200_ok, trivial, trivial⟩
theorem ftT_rrllrll_ok : T.All (FtOk Tryz.prog) ftT_rrllrll (fun k => (fun k => (fun k => (fun k => (fun k => (fun k => id (2 * k + 2)) (2 * k + 1)) (2 * k + 1)) (2 * k + 2)) (2 * k + 1)) (2 * k + 1)) := ⟨ft_72_ok, ftT_rrllrlll_ok, ftT_rrllrllr_ok⟩
theorem ftT_rrllrlrll_ok : T.All (FtOk Tryz.prog) ftT_rrllrlrll (fun k => (fun k => (fun k => (fun k => (fun k => (fun k => (fun k => (fun k => id (2 * k + 2)) (2 * k + 1)) (2 * k + 1)) (2 * k + 2)) (2 * k + 1)) (2 * k + 2)) (2 * k + 1)) (2 * k + 1)) := ⟨ft_296_ok, trivial, trivial⟩
theorem ftT_rrllrlrl_ok : T.All (FtOk Tryz.prog) ftT_rrllrlrl (fun k => (fun k => (fun k => (fun k => (fun k => (fun k => (fun k => id (2 * k + 2)) (2 * k + 1)) (2 * k + 1)) (2 * k + 2)) (2 * k + 1)) (2 * k + 2)) (2 * k + 1)) := ⟨ft_168_ok, ftT_rrllrlrll_ok, trivial⟩
theorem ftT_rrllrlrr_ok : T.All (FtOk Tryz.prog) ftT_rrllrlrr (fun k => (fun k => (fun k => (fun k => (fun k => (fun k => (fun k => id (2 * k + 2)) (2 * k + 1)) (2 * k + 1)) (2 * k + 2)) (2 * k + 1)) (2 * k + 2)) (2 * k + 2)) := ⟨ft_232_ok, trivial, trivial⟩
theorem ftT_rrllrlr_ok : T.All (FtOk Tryz.prog) ftT_rrllrlr (fun k => (fun k => (fun k => (fun k => (fun k => (fun k => id (2 * k + 2)) (2 * k + 1)) (2 * k + 1)) (2 * k + 2)) (2 * k + 1)) (2 * k + 2)) := ⟨trivial, ftT_rrllrlrl_ok, ftT_rrllrlrr_ok⟩
theorem ftT_rrllrl_ok : T.All (FtOk Tryz.prog) ftT_rrllrl (fun k => (fun k => (fun k => (fun k => (fun k => id (2 * k + 2)) (2 * k + 1)) (2 * k + 1)) (2 * k + 2)) (2 * k + 1)) := ⟨ft_40_ok, ftT_rrllrll_ok, ftT_rrllrlr_ok⟩
theorem ftT_rrllrrlll_ok : T.All (FtOk Tryz.prog) ftT_rrllrrlll (fun k => (fun k => (fun k => (fun k => (fun k => (fun k => (fun k => (fun k => id (2 * k + 2)) (2 * k + 1)) (2 * k + 1)) (2 * k + 2)) (2 * k + 2)) (2 * k + 1)) (2 * k + 1)) (2 * k + 1)) := ⟨ft_280_ok, trivial, trivial⟩
theorem ftT_rrllrrll_ok : T.All (FtOk Tryz.prog) ftT_rrllrrll (fun k => (fun k => (fun k => (fun k => (fun k => (fun k => (fun k => id (2 * k + 2)) (2 * k + 1)) (2 * k + 1)) (2 * k + 2)) (2 * k + 2)) (2 * k + 1)) (2 * k + 1)) := ⟨ft_152_ok, ftT_rrllrrlll_ok, trivial⟩
theorem ftT_rrllrrlr_ok : T.All (FtOk Tryz.prog) ftT_rrllrrlr (fun k => (fun k => (fun k => (fun k => (fun k => (fun k => (fun k => id (2 * k + 2)) (2 * k + 1)) (2 * k + 1)) (2 * k + 2)) (2 * k + 2)) (2 * k + 1)) (2 * k + 2)) := ⟨ft_216_ok, trivial, trivial⟩
theorem ftT_rrllrrl_ok : T.All (FtOk Tryz.prog) ftT_rrllrrl (fun k => (fun k => (fun k => (fun k => (fun k => (fun k => id (2 * k + 2)) (2 * k + 1)) (2 * k + 1)) (2 * k + 2)) (2 * k + 2)) (2 * k + 1)) := ⟨ft_88_ok, ftT_rrllrrll_ok, ftT_rrllrrlr_ok⟩
theorem ftT_rrllrrrll_ok : T.All (FtOk Tryz.prog) ftT_rrllrrrll (fun k => (fun k => (fun k => (fun k => (fun k => (fun k => (fun k => (fun k => id (2 * k + 2)) (2 * k + 1)) (2 * k + 1)) (2 * k + 2)) (2 * k + 2)) (2 * k + 2)) (2 * k + 1)) (2 * k + 1)) := ⟨ft_312_ok, trivial, trivial⟩
theorem ftT_rrllrrrl_ok : T.All (FtOk Tryz.prog) ftT_rrllrrrl (fun k => (fun k => (fun k => (fun k => (fun k => (fun k => (fun k => id (2 * k + 2)) (2 * k + 1)) (2 * k + 1)) (2 * k + 2)) (2 * k + 2)) (2 * k + 2)) (2 * k + 1)) := ⟨ft_184_ok, ftT_rrllrrrll_ok, trivial⟩
theorem ftT_rrllrrrr_ok : T.All (FtOk Tryz.prog) ftT_rrllrrrr (fun k => (fun k => (fun k => (fun k => (fun k => (fun k => (fun k => id (2 * k + 2)) (2 * k + 1)) (2 * k + 1)) (2 * k + 2)) (2 * k + 2)) (2 * k + 2)) (2 * k + 2)) := ⟨ft_248_ok, trivial, trivial⟩
theorem ftT_rrllrrr_ok : T.All (FtOk Tryz.prog) ftT_rrllrrr (fun k => (fun k => (fun k => (fun k => (fun k => (fun k => id (2 * k + 2)) (2 * k + 1)) (2 * k + 1)) (2 * k + 2)) (2 * k + 2)) (2 * k + 2)) := ⟨ft_120_ok, ftT_rrllrrrl_ok, ftT_rrllrrrr_ok⟩
theorem ftT_rrllrr_ok : T.All (FtOk Tryz.prog) ftT_rrllrr (fun k => (fun k => (fun k => (fun k => (fun k => id (2 * k + 2)) (2 * k + 1)) (2 * k + 1)) (2 * k + 2)) (2 * k + 2)) := ⟨ft_56_ok, ftT_rrllrrl_ok, ftT_rrllrrr_ok⟩
theorem ftT_rrllr_ok : T.All (FtOk Tryz.prog) ftT_rrllr (fun k => (fun k => (fun k => (fun k => id (2 * k + 2)) (2 * k + 1)) (2 * k + 1)) (2 * k + 2)) := ⟨ft_24_ok, ftT_rrllrl_ok, ftT_rrllrr_ok⟩
theorem ftT_rrll_ok : T.All (FtOk Tryz.prog) ftT_rrll (fun k => (fun k => (fun k => id (2 * k + 2)) (2 * k + 1)) (2 * k + 1)) := ⟨ft_8_ok, ftT_rrlll_ok, ftT_rrllr_ok⟩
theorem ftT_rrlrlllll_ok : T.All (FtOk Tryz.prog) ftT_rrlrlllll (fun k => (fun k => (fun k => (fun k => (fun k => (fun k => (fun k => (fun k => id (2 * k + 2)) (2 * k + 1)) (2 * k + 2)) (2 * k + 1)) (2 * k + 1)) (2 * k + 1)) (2 * k + 1)) (2 * k + 1)) := ⟨ft_260_ok, trivial, trivial⟩
theorem ftT_rrlrllll_ok : T.All (FtOk Tryz.prog) ftT_rrlrllll (fun k => (fun k => (fun k => (fun k => (fun k => (fun k => (fun k => id (2 * k + 2)) (2 * k + 1)) (2 * k + 2)) (2 * k + 1)) (2 * k + 1)) (2 * k + 1)) (2 * k + 1)) := ⟨ft_132_ok, ftT_rrlrlllll_ok, trivial⟩
theorem ftT_rrlrlllr_ok : T.All (FtOk Tryz.prog) ftT_rrlrlllr (fun k => (fun k => (fun k => (fun k => (fun k => (fun k => (fun k => id (2 * k + 2)) (2 * k + 1)) (2 * k + 2)) (2 * k + 1)) (2 * k + 1)) (2 * k + 1)) (2 * k + 2)) := ⟨ft_196_ok, trivial, trivial⟩
theorem ftT_rrlrlll_ok : T.All (FtOk Tryz.prog) ftT_rrlrlll (fun k => (fun k => (fun k => (fun k => (fun k => (fun k => id (2 * k + 2)) (2 * k + 1)) (2 * k + 2)) (2 * k + 1)) (2 * k + 1)) (2 * k + 1)) := ⟨ft_68_ok, ftT_rrlrllll_ok, ftT_rrlrlllr_ok⟩
theorem ftT_rrlrllrl_ok : T.All (FtOk Tryz.prog) ftT_rrlrllrl (fun k => (fun k => (fun k => (fun k => (fun k => (fun k => (fun k => id (2 * k + 2)) (2 * k + 1)) (2 * k + 2)) (2 * k + 1)) (2 * k + 1)) (2 * k + 2)) (2 * k + 1)) := ⟨ft_164_ok, trivial, trivial⟩
theorem ftT_rrlrllrr_ok : T.All (FtOk Tryz.prog) ftT_rrlrllrr (fun k => (fun k => (fun k => (fun k => (fun k => (fun k => (fun k => id (2 * k + 2)) (2 * k + 1)) (2 * k + 2)) (2 * k + 1)) (2 * k + 1)) (2 * k + 2)) (2 * k + 2)) := ⟨ft_228_ok, trivial, trivial⟩
theorem ftT_rrlrllr_ok : T.All (FtOk Tryz.prog) ftT_rrlrllr (fun k => (fun k => (fun k => (fun k => (fun k => (fun k => id (2 * k + 2)) (2 * k + 1)) (2 * k + 2)) (2 * k + 1)) (2 * k + 1)) (2 * k + 2)) := ⟨ft_100_ok, ftT_rrlrllrl_ok, ftT_rrlrllrr_ok⟩
theorem ftT_rrlrll_ok : T.All (FtOk Tryz.prog) ftT_rrlrll (fun k => (fun k => (fun k => (fun k => (fun k => id (2 * k + 2)) (2 * k + 1)) (2 * k + 2)) (2 * k + 1)) (2 * k + 1)) := ⟨ft_36_ok, ftT_rrlrlll_ok, ftT_rrlrllr_ok⟩
theorem ftT_rrlrlrlll_ok : T.All (FtOk Tryz.prog) ftT_rrlrlrlll (fun k => (fun k => (fun k => (fun k => (fun k => (fun k => (fun k => (fun k => id (2 * k + 2)) (2 * k + 1)) (2 * k + 2)) (2 * k + 1)) (2 * k + 2)) (2 * k + 1)) (2 * k + 1)) (2 * k + 1)) := ⟨ft_276_ok, trivial, trivial⟩
theorem ftT_rrlrlrll_ok : T.All (FtOk Tryz.prog) ftT_rrlrlrll (fun k => (fun k => (fun k => (fun k => (fun k => (fun k => (fun k => id (2 * k + 2)) (2 * k + 1)) (2 * k + 2)) (2 * k + 1)) (2 * k + 2)) (2 * k + 1)) (2 * k + 1)) := ⟨ft_148_ok, ftT_rrlrlrlll_ok, trivial⟩
theorem ftT_rrlrlrlrl_ok : T.All (FtOk Tryz.prog) ftT_rrlrlrlrl (fun k => (fun k => (fun k => (fun k => (fun k => (fun k => (fun k => (fun k => id (2 * k + 2)) (2 * k + 1)) (2 * k + 2)) (2 * k + 1)) (2 * k + 2)) (2 * k + 1)) (2 * k + 2)) (2 * k + 1)) := ⟨ft_340_ok, trivial, trivial⟩
theorem ftT_rrlrlrlr_ok : T.All (FtOk Tryz.prog) ftT_rrlrlrlr (fun k => (fun k => (fun k => (fun k => (fun k => (fun k => (fun k => id (2 * k + 2)) (2 * k + 1)) (2 * k + 2)) (2 * k + 1)) (2 * k + 2)) (2 * k + 1)) (2 * k + 2)) := ⟨ft_212_ok, ftT_rrlrlrlrl_ok, trivial⟩
theorem ftT_rrlrlrl_ok : T.All (FtOk Tryz.prog) ftT_rrlrlrl (fun k => (fun k => (fun k => (fun k => (fun k => (fun k => id (2 * k + 2)) (2 * k + 1)) (2 * k + 2)) (2 * k + 1)) (2 * k + 2)) (2 * k + 1)) := ⟨ft_84_ok, ftT_rrlrlrll_ok, ftT_rrlrlrlr_ok⟩
theorem ftT_rrlrlrrl_ok : T.All (FtOk Tryz.prog) ftT_rrlrlrrl (fun k => (fun k => (fun k => (fun k => (fun k => (fun k => (fun k => id (2 * k + 2)) (2 * k + 1)) (2 * k + 2)) (2 * k + 1)) (2 * k + 2)) (2 * k + 2)) (2 * k + 1)) := ⟨ft_180_ok, trivial, trivial⟩
theorem ftT_rrlrlrrr_ok : T.All (FtOk Tryz.prog) ftT_rrlrlrrr (fun k => (fun k => (fun k => (fun k => (fun k => (fun k => (fun k => id (2 * k + 2)) (2 * k + 1)) (2 * k + 2)) (2 * k + 1)) (2 * k + 2)) (2 * k + 2)) (2 * k + 2)) := ⟨ft_244_ok, trivial, trivial⟩
theorem ftT_rrlrlrr_ok : T.All (FtOk Tryz.prog) ftT_rrlrlrr (fun k => (fun k => (fun k => (fun k => (fun k => (fun k => id (2 * k + 2)) (2 * k + 1)) (2 * k + 2)) (2 * k + 1)) (2 * k + 2)) (2 * k + 2)) := ⟨ft_116_ok, ftT_rrlrlrrl_ok, ftT_rrlrlrrr_ok⟩
theorem ftT_rrlrlr_ok : T.All (FtOk Tryz.prog) ftT_rrlrlr (fun k => (fun k => (fun k => (fun k => (fun k => id (2 * k + 2)) (2 * k + 1)) (2 * k + 2)) (2 * k + 1)) (2 * k + 2)) := ⟨ft_52_ok, ftT_rrlrlrl_ok, ftT_rrlrlrr_ok⟩
theorem ftT_rrlrl_ok : T.All (FtOk Tryz.prog) ftT_rrlrl (fun k => (fun k => (fun k => (fun k => id (2 * k + 2)) (2 * k + 1)) (2 * k + 2)) (2 * k + 1)) := ⟨ft_20_ok, ftT_rrlrll_ok, ftT_rrlrlr_ok⟩
theorem ftT_rrlrrllll_ok : T.All (FtOk Tryz.prog) ftT_rrlrrllll (fun k => (fun k => (fun k => (fun k => (fun k => (fun k => (fun k => (fun k => id (2 * k + 2)) (2 * k + 1)) (2 * k + 2)) (2 * k + 2)) (2 * k + 1)) (2 * k + 1)) (2 * k + 1)) (2 * k + 1)) := ⟨ft_268_ok, trivial, trivial⟩
theorem ftT_rrlrrlll_ok : T.All (FtOk Tryz.prog) ftT_rrlrrlll (fun k => (fun k => (fun k => (fun k => (fun k => (fun k => (fun k => id (2 * k + 2)) (2 * k + 1)) (2 * k + 2)) (2 * k + 2)) (2 * k + 1)) (2 * k + 1)) (2 * k + 1)) := ⟨ft_140_ok, ftT_rrlrrllll_ok, trivial⟩
theorem ftT_rrlrrllr_ok : T.All (FtOk Tryz.prog) ftT_rrlrrllr (fun k => (fun k => (fun k => (fun k => (fun k => (fun k => (fun k => id (2 * k + 2)) (2 * k + 1)) (2 * k + 2)) (2 * k + 2)) (2 * k + 1)) (2 * k + 1)) (2 * k + 2)) := ⟨ft_204_ok, trivial, trivial⟩
theorem ftT_rrlrrll_ok : T.All (FtOk Tryz.prog) ftT_rrlrrll (fun k => (fun k => (fun k => (fun k => (fun k => (fun k => id (2 * k + 2)) (2 * k + 1)) (2 * k + 2)) (2 * k + 2)) (2 * k + 1)) (2 * k + 1)) := ⟨ft_76_ok, ftT_rrlrrlll_ok, ftT_rrlrrllr_ok⟩
theorem ftT_rrlrrlrll_ok : T.All (FtOk Tryz.prog) ftT_rrlrrlrll (fun k => (fun k => (fun k => (fun k => (fun k => (fun k => (fun k => (fun k => id (2 * k + 2)) (2 * k + 1)) (2 * k + 2)) (2 * k + 2)) (2 * k + 1)) (2 * k + 2)) (2 * k + 1)) (2 * k + 1)) := ⟨ft_300_ok, trivial, trivial⟩
theorem ftT_rrlrrlrl_ok : T.All (FtOk Tryz.prog) ftT_rrlrrlrl (fun k => (fun k => (fun k => (fun k => (fun k => (fun k => (fun k => id (2 * k + 2)) (2 * k + 1)) (2 * k + 2)) (2 * k + 2)) (2 * k + 1)) (2 * k + 2)) (2 * k + 1)) := ⟨ft_172_ok, ftT_rrlrrlrll_ok, trivial⟩
theorem ftT_rrlrrlrr_ok : T.All (FtOk Tryz.prog) ftT_rrlrrlrr (fun k => (fun k => (fun k => (fun k => (fun k => (fun k => (fun k => id (2 * k + 2)) (2 * k + 1)) (2 * k + 2)) (2 * k + 2)) (2 * k + 1)) (2 * k + 2)) (2 * k + 2)) := ⟨ft_236_ok, trivial, trivial⟩
theorem ftT_rrlrrlr_ok : T.All (FtOk Tryz.prog) ftT_rrlrrlr (fun k => (fun k => (fun k => (fun k => (fun k => (fun k => id (2 * k + 2)) (2 * k + 1)) (2 * k + 2)) (2 * k + 2)) (2 * k + 1)) (2 * k + 2)) := ⟨ft_108_ok, ftT_rrlrrlrl_ok, ftT_rrlrrlrr_ok⟩
theorem ftT_rrlrrl_ok : T.All (FtOk Tryz.prog) ftT_rrlrrl (fun k => (fun k => (fun k => (fun k => (fun k => id (2 * k + 2)) (2 * k + 1)) (2 * k + 2)) (2 * k + 2)) (2 * k + 1)) := ⟨ft_44_ok, ftT_rrlrrll_ok, ftT_rrlrrlr_ok⟩
theorem ftT_rrlrrrlll_ok : T.All (FtOk Tryz.prog) ftT_rrlrrrlll (fun k => (fun k => (fun k => (fun k => (fun k => (fun k => (fun k => (fun k => id (2 * k + 2)) (2 * k + 1)) (2 * k + 2)) (2 * k + 2)) (2 * k + 2)) (2 * k + 1)) (2 * k + 1)) (2 * k + 1)) := ⟨ft_284_ok, trivial, trivial⟩
theorem ftT_rrlrrrll_ok : T.All (FtOk Tryz.prog) ftT_rrlrrrll (fun k => (fun k => (fun k => (fun k => (fun k => (fun k => (fun k => id (2 * k + 2)) (2 * k + 1)) (2 * k + 2)) (2 * k + 2)) (2 * k + 2)) (2 * k + 1)) (2 * k + 1)) := ⟨ft_156_ok, ftT_rrlrrrlll_ok, trivial⟩
theorem ftT_rrlrrrlr_ok : T.All (FtOk Tryz.prog) ftT_rrlrrrlr (fun k => (fun k => (fun k => (fun k => (fun k => (fun k => (fun k => id (2 * k + 2)) (2 * k + 1)) (2 * k + 2)) (2 * k + 2)) (2 * k + 2)) (2 * k + 1)) (2 * k + 2)) := ⟨ft_220_ok, trivial, trivial⟩
theorem ftT_rrlrrrl_ok : T.All (FtOk Tryz.prog) ftT_rrlrrrl (fun k => (fun k => (fun k => (fun k => (fun k => (fun k => id (2 * k + 2)) (2 * k + 1)) (2 * k + 2)) (2 * k + 2)) (2 * k + 2)) (2 * k + 1)) := ⟨ft_92_ok, ftT_rrlrrrll_ok, ftT_rrlrrrlr_ok⟩
theorem ftT_rrlrrrrll_ok : T.All (FtOk Tryz.prog) ftT_rrlrrrrll (fun k => (fun k => (fun k => (fun k => (fun k => (fun k => (fun k => (fun k => id (2 * k + 2)) (2 * k + 1)) (2 * k + 2)) (2 * k + 2)) (2 * k + 2)) (2 * k + 2)) (2 * k + 1)) (2 * k + 1)) := ⟨ft_316_ok, trivial, trivial⟩
theorem ftT_rrlrrrrl_ok : T.All (FtOk Tryz.prog) ftT_rrlrrrrl (fun k => (fun k => (fun k => (fun k => (fun k => (fun k => (fun k => id (2 * k + 2)) (2 * k + 1)) (2 * k + 2)) (2 * k + 2)) (2 * k + 2)) (2 * k + 2)) (2 * k + 1)) := ⟨ft_188_ok, ftT_rrlrrrrll_ok, trivial⟩
theorem ftT_rrlrrrrr_ok : T.All (FtOk Tryz.prog) ftT_rrlrrrrr (fun k => (fun k => (fun k => (fun k => (fun k => (fun k => (fun k => id (2 * k + 2)) (2 * k + 1)) (2 * k + 2)) (2 * k + 2)) (2 * k + 2)) (2 * k + 2)) (2 * k + 2)) := ⟨ft_252_ok, trivial, trivial⟩
theorem ftT_rrlrrrr_ok : T.All (FtOk Tryz.prog) ftT_rrlrrrr (fun k => (fun k => (fun k => (fun k => (fun k => (fun k => id (2 * k + 2)) (2 * k + 1)) (2 * k + 2)) (2 * k + 2)) (2 * k + 2)) (2 * k + 2)) := ⟨ft_124_ok, ftT_rrlrrrrl_ok, ftT_rrlrrrrr_ok⟩
theorem ftT_rrlrrr_ok : T.All (FtOk Tryz.prog) ftT_rrlrrr (fun k => (fun k => (fun k => (fun k => (fun k => id (2 * k + 2)) (2 * k + 1)) (2 * k + 2)) (2 * k + 2)) (2 * k + 2)) := ⟨ft_60_ok, ftT_rrlrrrl_ok, ftT_rrlrrrr_ok⟩
theorem ftT_rrlrr_ok : T.All (FtOk Tryz.prog) ftT_rrlrr (fun k => (fun k => (fun k => (fun k => id (2 * k + 2)) (2 * k + 1)) (2 * k + 2)) (2 * k + 2)) := ⟨ft_28_ok, ftT_rrlrrl_ok, ftT_rrlrrr_ok⟩
theorem ftT_rrlr_ok : T.All (FtOk Tryz.prog) ftT_rrlr (fun k => (fun k => (fun k => id (2 * k + 2)) (2 * k + 1)) (2 * k + 2)) := ⟨ft_12_ok, ftT_rrlrl_ok, ftT_rrlrr_ok⟩
theorem ftT_rrl_ok : T.All (FtOk Tryz.prog) ftT_rrl (fun k => (fun k => id (2 * k + 2)) (2 * k + 1)) := ⟨ft_4_ok, ftT_rrll_ok, ftT_rrlr_ok⟩
theorem ftT_rrrllllll_ok : T.All (FtOk Tryz.prog) ftT_rrrllllll (fun k => (fun k => (fun k => (fun k => (fun k => (fun k => (fun k => (fun k => id (2 * k + 2)) (2 * k + 2)) (2 * k + 1)) (2 * k + 1)) (2 * k + 1)) (2 * k + 1)) (2 * k + 1)) (2 * k + 1)) := ⟨ft_258_ok, trivial, trivial⟩
theorem ftT_rrrlllll_ok : T.All (FtOk Tryz.prog) ftT_rrrlllll (fun k => (fun k => (fun k => (fun k => (fun k => (fun k => (fun k => id (2 * k + 2)) (2 * k + 2)) (2 * k + 1)) (2 * k + 1)) (2 * k + 1)) (2 * k + 1)) (2 * k + 1)) := ⟨ft_130_ok, ftT_rrrllllll_ok, trivial⟩
theorem ftT_rrrllllr_ok : T.All (FtOk Tryz.prog) ftT_rrrllllr (fun k => (fun k => (fun k => (fun k => (fun k => (fun k => (fun k => id (2 * k + 2)) (2 * k + 2)) (2 * k + 1)) (2 * k + 1)) (2 * k + 1)) (2 * k + 1)) (2 * k + 2)) := ⟨ft_194_ok, trivial, trivial⟩
theorem ftT_rrrllll_ok : T.All (FtOk Tryz.prog) ftT_rrrllll (fun k => (fun k => (fun k => (fun k => (fun k => (fun k => id (2 * k + 2)) (2 * k + 2)) (2 * k + 1)) (2 * k + 1)) (2 * k + 1)) (2 * k + 1)) := ⟨ft_66_ok, ftT_rrrlllll_ok, ftT_rrrllllr_ok⟩
theorem ftT_rrrlllrl_ok : T.All (FtOk Tryz.prog) ftT_rrrlllrl (fun k => (fun k => (fun k => (fun k => (fun k => (fun k => (fun k => id (2 * k + 2)) (2 * k + 2)) (2 * k + 1)) (2 * k + 1)) (2 * k + 1)) (2 * k + 2)) (2 * k + 1)) := ⟨ft_162_ok, trivial, trivial⟩
theorem ftT_rrrlllrr_ok : T.All (FtOk Tryz.prog) ftT_rrrlllrr (fun k => (fun k => (fun k => (fun k => (fun k => (fun k => (fun k => id (2 * k + 2)) (2 * k + 2)) (2 * k + 1)) (2 * k + 1)) (2 * k + 1)) (2 * k + 2)) (2 * k + 2)) := ⟨ft_226_ok, trivial, trivial⟩
theorem ftT_rrrlllr_ok : T.All (FtOk Tryz.prog) ftT_rrrlllr (fun k => (fun k => (fun k => (fun k => (fun k => (fun k => id (2 * k + 2)) (2 * k + 2)) (2 * k + 1)) (2 * k + 1)) (2 * k + 1)) (2 * k + 2)) := ⟨ft_98_ok, ftT_rrrlllrl_ok, ftT_rrrlllrr_ok⟩
theorem ftT_rrrlll_ok : T.All (FtOk Tryz.prog) ftT_rrrlll (fun k => (fun k => (fun k => (fun k => (fun k => id (2 * k + 2)) (2 * k + 2)) (2 * k + 1)) (2 * k + 1)) (2 * k + 1)) := ⟨ft_34_ok, ftT_rrrllll_ok, ftT_rrrlllr_ok⟩
theorem ftT_rrrllrlll_ok : T.All (FtOk Tryz.prog) ftT_rrrllrlll (fun k => (fun k => (fun k => (fun k => (fun k => (fun k => (fun k => (fun k => id (2 * k + 2)) (2 * k + 2)) (2 * k + 1)) (2 * k + 1)) (2 * k + 2)) (2 * k + 1)) (2 * k + 1)) (2 * k + 1)) := ⟨ft_274_ok, trivial, trivial⟩
theorem ftT_rrrllrll_ok : T.All (FtOk Tryz.prog) ftT_rrrllrll (fun k => (fun k => (fun k => (fun k => (fun k => (fun k => (fun k => id (2 * k + 2)) (2 * k + 2)) (2 * k + 1)) (2 * k + 1)) (2 * k + 2)) (2 * k + 1)) (2 * k + 1)) := ⟨ft_146_ok, ftT_rrrllrlll_ok, trivial⟩
theorem ftT_rrrllrlrl_ok : T.All (FtOk Tryz.prog) ftT_rrrllrlrl (fun k => (fun k => (fun k => (fun k => (fun k => (fun k => (fun k => (fun k => id (2 * k + 2)) (2 * k + 2)) (2 * k + 1)) (2 * k + 1)) (2 * k + 2)) (2 * k + 1)) (2 * k + 2)) (2 * k + 1)) := ⟨ft_338_ok, trivial, trivial⟩
theorem ftT_rrrllrlr_ok : T.All (FtOk Tryz.prog) ftT_rrrllrlr (fun k => (fun k => (fun k => (fun k => (fun k => (fun k => (fun k => id (2 * k + 2)) (2 * k + 2)) (2 * k + 1)) (2 * k + 1)) (2 * k + 2)) (2 * k + 1)) (2 * k + 2)) := ⟨ft_210_ok, ftT_rrrllrlrl_ok, trivial⟩
theorem ftT_rrrllrl_ok : T.All (FtOk Tryz.prog) ftT_rrrllrl (fun k => (fun k => (fun k => (fun k => (fun k => (fun k => id (2 * k + 2)) (2 * k + 2)) (2 * k + 1)) (2 * k + 1)) (2 * k + 2)) (2 * k + 1)) := ⟨ft_82_ok, ftT_rrrllrll_ok, ftT_rrrllrlr_ok⟩
theorem ftT_rrrllrrl_ok : T.All (FtOk Tryz.prog) ftT_rrrllrrl (fun k => (fun k => (fun k => (fun k => (fun k => (fun k => (fun k => id (2 * k + 2)) (2 * k + 2)) (2 * k + 1)) (2 * k + 1)) (2 * k + 2)) (2 * k + 2)) (2 * k + 1)) := ⟨ft_178_ok, trivial, trivial⟩
theorem ftT_rrrllrrr_ok : T.All (FtOk Tryz.prog) ftT_rrrllrrr (fun k => (fun k => (fun k => (fun k => (fun k => (fun k => (fun k => id (2 * k + 2)) (2 * k + 2)) (2 * k + 1)) (2 * k + 1)) (2 * k + 2)) (2 * k + 2)) (2 * k + 2)) := ⟨ft_242_ok, trivial, trivial⟩
theorem ftT_rrrllrr_ok : T.All (FtOk Tryz.prog) ftT_rrrllrr (fun k => (fun k => (fun k => (fun k => (fun k => (fun k => id (2 * k + 2)) (2 * k + 2)) (2 * k + 1)) (2 * k + 1)) (2 * k + 2)) (2 * k + 2)) := ⟨ft_114_ok, ftT_rrrllrrl_ok, ftT_rrrllrrr_ok⟩
theorem ftT_rrrllr_ok : T.All (FtOk Tryz.prog) ftT_rrrllr (fun k => (fun k => (fun k => (fun k => (fun k => id (2 * k + 2)) (2 * k + 2)) (2 * k + 1)) (2 * k + 1)) (2 * k + 2)) := ⟨ft_50_ok, ftT_rrrllrl_ok, ftT_rrrllrr_ok⟩
theorem ftT_rrrll_ok : T.All (FtOk Tryz.prog) ftT_rrrll (fun k => (fun k => (fun k => (fun k => id (2 * k + 2)) (2 * k + 2)) (2 * k + 1)) (2 * k + 1)) := ⟨ft_18_ok, ftT_rrrlll_ok, ftT_rrrllr_ok⟩
theorem ftT_rrrlrlll_ok : T.All (FtOk Tryz.prog) ftT_rrrlrlll (fun k => (fun k => (fun k => (fun k => (fun k => (fun k => (fun k => id (2 * k + 2)) (2 * k + 2)) (2 * k + 1)) (2 * k + 2)) (2 * k + 1)) (2 * k + 1)) (2 * k + 1)) := ⟨ft_138_ok, trivial, trivial⟩
theorem ftT_rrrlrllr_ok : T.All (FtOk Tryz.prog) ftT_rrrlrllr (fun k => (fun k => (fun k => (fun k => (fun k => (fun k => (fun k => id (2 * k + 2)) (2 * k + 2)) (2 * k + 1)) (2 * k + 2)) (2 * k + 1)) (2 * k + 1)) (2 * k + 2)) := ⟨ft_202_ok, trivial, trivial⟩
theorem ftT_rrrlrll_ok : T.All (FtOk Tryz.prog) ftT_rrrlrll (fun k => (fun k => (fun k => (fun k => (fun k => (fun k => id (2 * k + 2)) (2 * k + 2)) (2 * k + 1)) (2 * k + 2)) (2 * k + 1)) (2 * k + 1)) := ⟨ft_74_ok, ftT_rrrlrlll_ok, ftT_rrrlrllr_ok⟩
theorem ftT_rrrlrlrll_ok : T.All (FtOk Tryz.prog) ftT_rrrlrlrll (fun k => (fun k => (fun k => (fun k => (fun k => (fun k => (fun k => (fun k => id (2 * k + 2)) (2 * k + 2)) (2 * k + 1)) (2 * k + 2)) (2 * k + 1)) (2 * k + 2)) (2 * k + 1)) (2 * k + 1)) := ⟨ft_298_ok, trivial, trivial⟩
theorem ftT_rrrlrlrl_ok : T.All (FtOk Tryz.prog) ftT_rrrlrlrl (fun k => (fun k => (fun k => (fun k => (fun k => (fun k => (fun k => id (2 * k + 2)) (2 * k + 2)) (2 * k + 1)) (2 * k + 2)) (2 * k + 1)) (2 * k + 2)) (2 * k + 1)) := ⟨ft_170_ok, ftT_rrrlrlrll_ok, trivial⟩
theorem ftT_rrrlrlrr_ok : T.All (FtOk Tryz.prog) ftT_rrrlrlrr (fun k => (fun k => (fun k => (fun k => (fun k => (fun k => (fun k => id (2 * k + 2)) (2 * k + 2)) (2 * k + 1)) (2 * k + 2)) (2 * k + 1)) (2 * k + 2)) (2 * k + 2)) := ⟨ft_234_ok, trivial, trivial⟩
theorem ftT_rrrlrlr_ok : T.All (FtOk Tryz.prog) ftT_rrrlrlr (fun k => (fun k => (fun k => (fun k => (fun k => (fun k => id (2 * k + 2)) (2 * k + 2)) (2 * k + 1)) (2 * k + 2)) (2 * k + 1)) (2 * k + 2)) := ⟨ft_106_ok, ftT_rrrlrlrl_ok, ftT_rrrlrlrr_ok⟩
theorem ftT_rrrlrl_ok : T.All (FtOk Tryz.prog) ftT_rrrlrl (fun k => (fun k => (fun k => (fun k => (fun k => id (2 * k + 2)) (2 * k + 2)) (2 * k + 1)) (2 * k + 2)) (2 * k + 1)) := ⟨ft_42_ok, ftT_rrrlrll_ok, ftT_rrrlrlr_ok⟩
theorem ftT_rrrlrrlll_ok : T.All (FtOk Tryz.prog) ftT_rrrlrrlll (fun k => (fun k => (fun k => (fun k => (fun k => (fun k => (fun k => (fun k => id (2 * k + 2)) (2 * k + 2)) (2 * k + 1)) (2 * k + 2)) (2 * k + 2)) (2 * k + 1)) (2 * k + 1)) (2 * k + 1)) := ⟨ft_282_ok, trivial, trivial⟩
theorem ftT_rrrlrrll_ok : T.All (FtOk Tryz.prog) ftT_rrrlrrll (fun k => (fun k => (fun k => (fun k => (fun k => (fun k => (fun k => id (2 * k + 2)) (2 * k + 2)) (2 * k + 1)) (2 * k + 2)) (2 * k + 2)) (2 * k + 1)) (2 * k + 1)) := ⟨ft_154_ok, ftT_rrrlrrlll_ok, trivial⟩
theorem ftT_rrrlrrlr_ok : T.All (FtOk Tryz.prog) ftT_rrrlrrlr (fun k => (fun k => (fun k => (fun k => (fun k => (fun k => (fun k => id (2 * k + 2)) (2 * k + 2)) (2 * k + 1)) (2 * k + 2)) (2 * k + 2)) (2 * k + 1)) (2 * k + 2)) := ⟨ft_218_ok, trivial, trivial⟩
theorem ftT_rrrlrrl_ok : T.All (FtOk Tryz.prog) ftT_rrrlrrl (fun k => (fun k => (fun k => (fun k => (fun k => (fun k => id (2 * k + 2)) (2 * k + 2)) (2 * k + 1)) (2 * k + 2)) (2 * k + 2)) (2 * k + 1)) := ⟨ft_90_ok, ftT_rrrlrrll_ok, ftT_rrrlrrlr_ok⟩
theorem ftT_rrrlrrrll_ok : T.All (FtOk Tryz.prog) ftT_rrrlrrrll (fun k => (fun k => (fun k => (fun k => (fun k => (fun k => (fun k => (fun k => id (2 * k + 2)) (2 * k + 2)) (2 * k + 1)) (2 * k + 2)) (2 * k + 2)) (2 * k + 2)) (2 * k + 1)) (2 * k + 1)) := ⟨ft_314_ok, trivial, trivial⟩
theorem ftT_rrrlrrrl_ok : T.All (FtOk Tryz.prog) ftT_rrrlrrrl (fun k => (fun k => (fun k => (fun k => (fun k => (fun k => (fun k => id (2 * k + 2)) (2 * k + 2)) (2 * k + 1)) (2 * k + 2)) (2 * k + 2)) (2 * k + 2)) (2 * k + 1)) := ⟨ft_186_ok, ftT_rrrlrrrll_ok, trivial⟩
theorem ftT_rrrlrrrr_ok : T.All (FtOk Tryz.prog) ftT_rrrlrrrr (fun k => (fun k => (fun k => (fun k => (fun k => (fun k => (fun k => id (2 * k + 2)) (2 * k + 2)) (2 * k + 1)) (2 * k + 2)) (2 * k + 2)) (2 * k + 2)) (2 * k + 2)) := ⟨ft_250_ok, trivial, trivial⟩
theorem ftT_rrrlrrr_ok : T.All (FtOk Tryz.prog) ftT_rrrlrrr (fun k => (fun k => (fun k => (fun k => (fun k => (fun k => id (2 * k + 2)) (2 * k + 2)) (2 * k + 1)) (2 * k + 2)) (2 * k + 2)) (2 * k + 2)) := ⟨ft_122_ok, ftT_rrrlrrrl_ok, ftT_rrrlrrrr_ok⟩
theorem ftT_rrrlrr_ok : T.All (FtOk Tryz.prog) ftT_rrrlrr (fun k => (fun k => (fun k => (fun k => (fun k => id (2 * k + 2)) (2 * k + 2)) (2 * k + 1)) (2 * k + 2)) (2 * k + 2)) := ⟨ft_58_ok, ftT_rrrlrrl_ok, ftT_rrrlrrr_ok⟩
theorem ftT_rrrlr_ok : T.All (FtOk Tryz.prog) ftT_rrrlr (fun k => (fun k => (fun k => (fun k => id (2 * k + 2)) (2 * k + 2)) (2 * k + 1)) (2 * k + 2)) := ⟨ft_26_ok, ftT_rrrlrl_ok, ftT_rrrlrr_ok⟩
theorem ftT_rrrl_ok : T.All (FtOk Tryz.prog) ftT_rrrl (fun k => (fun k => (fun k => id (2 * k + 2)) (2 * k + 2)) (2 * k + 1)) := ⟨ft_10_ok, ftT_rrrll_ok, ftT_rrrlr_ok⟩
theorem ftT_rrrrlllll_ok : T.All (FtOk Tryz.prog) ftT_rrrrlllll (fun k => (fun k => (fun k => (fun k => (fun k => (fun k => (fun k => (fun k => id (2 * k + 2)) (2 * k + 2)) (2 * k + 2)) (2 * k + 1)) (2 * k + 1)) (2 * k + 1)) (2 * k + 1)) (2 * k + 1)) := ⟨ft_262_ok, trivial, trivial⟩
theorem ftT_rrrrllll_ok : T.All (FtOk Tryz.prog) ftT_rrrrllll (fun k => (fun k => (fun k => (fun k => (fun k => (fun k => (fun k => id (2 * k + 2)) (2 * k + 2)) (2 * k + 2)) (2 * k + 1)) (2 * k + 1)) (2 * k + 1)) (2 * k + 1)) := ⟨ft_134_ok, ftT_rrrrlllll_ok, trivial⟩
theorem ftT_rrrrlllr_ok : T.All (FtOk Tryz.prog) ftT_rrrrlllr (fun k => (fun k => (fun k => (fun k => (fun k => (fun k => (fun k => id (2 * k + 2)) (2 * k + 2)) (2 * k + 2)) (2 * k + 1)) (2 * k + 1)) (2 * k + 1)) (2 * k + 2)) := ⟨ft_198_ok, trivial, trivial⟩
theorem ftT_rrrrlll_ok : T.All (FtOk Tryz.prog) ftT_rrrrlll (fun k => (fun k => (fun k => (fun k => (fun k => (fun k => id (2 * k + 2)) (2 * k + 2)) (2 * k + 2)) (2 * k + 1)) (2 * k + 1)) (2 * k + 1)) := ⟨ft_70_ok, ftT_rrrrllll_ok, ftT_rrrrlllr_ok⟩
theorem ftT_rrrrllrl_ok : T.All (FtOk Tryz.prog) ftT_rrrrllrl (fun k => (fun k => (fun k => (fun k => (fun k => (fun k => (fun k => id (2 * k + 2)) (2 * k + 2)) (2 * k + 2)) (2 * k + 1)) (2 * k + 1)) (2 * k + 2)) (2 * k + 1)) := ⟨ft_166_ok, trivial, trivial⟩
theorem ftT_rrrrllrr_ok : T.All (FtOk Tryz.prog) ftT_rrrrllrr (fun k => (fun k => (fun k => (fun k => (fun k => (fun k => (fun k => id (2 * k + 2)) (2 * k + 2)) (2 * k + 2)) (2 * k + 1)) (2 * k + 1)) (2 * k + 2)) (2 * k + 2)) := ⟨ft_230_ok, trivial, trivial⟩
theorem ftT_rrrrllr_ok : T.All (FtOk Tryz.prog) ftT_rrrrllr (fun k => (fun k => (fun k => (fun k => (fun k => (fun k => id (2 * k + 2)) (2 * k + 2)) (2 * k + 2)) (2 * k + 1)) (2 * k + 1)) (2 * k + 2)) := ⟨ft_102_ok, ftT_rrrrllrl_ok, ftT_rrrrllrr_ok⟩
theorem ftT_rrrrll_ok : T.All (FtOk Tryz.prog) ftT_rrrrll (fun k => (fun k => (fun k => (fun k => (fun k => id (2 * k + 2)) (2 * k + 2)) (2 * k + 2)) (2 * k + 1)) (2 * k + 1)) := ⟨ft_38_ok, ftT_rrrrlll_ok, ftT_rrrrllr_ok⟩
theorem ftT_rrrrlrlll_ok : T.All (FtOk Tryz.prog) ftT_rrrrlrlll (fun k => (fun k => (fun k => (fun k => (fun k => (fun k => (fun k => (fun k => id (2 * k + 2)) (2 * k + 2)) (2 * k + 2)) (2 * k + 1)) (2 * k + 2)) (2 * k + 1)) (2 * k + 1)) (2 * k + 1)) := ⟨ft_278_ok, trivial, trivial⟩
theorem ftT_rrrrlrll_ok : T.All (FtOk Tryz.prog) ftT_rrrrlrll (fun k => (fun k => (fun k => (fun k => (fun k => (fun k => (fun k => id (2 * k + 2)) (2 * k + 2)) (2 * k + 2)) (2 * k + 1)) (2 * k + 2)) (2 * k + 1)) (2 * k + 1)) := ⟨ft_150_ok, ftT_rrrrlrlll_ok, trivial⟩
theorem ftT_rrrrlrlr_ok : T.All (FtOk Tryz.prog) ftT_rrrrlrlr (fun k => (fun k => (fun k => (fun k => (fun k => (fun k => (fun k => id (2 * k + 2)) (2 * k + 2)) (2 * k + 2)) (2 * k + 1)) (2 * k + 2)) (2 * k + 1)) (2 * k + 2)) := ⟨ft_214_ok, trivial, trivial⟩
theorem ftT_rrrrlrl_ok : T.All (FtOk Tryz.prog) ftT_rrrrlrl (fun k => (fun k => (fun k => (fun k => (fun k => (fun k => id (2 * k + 2)) (2 * k + 2)) (2 * k + 2)) (2 * k + 1)) (2 * k + 2)) (2 * k + 1)) := ⟨ft_86_ok, ftT_rrrrlrll_ok, ftT_rrrrlrlr_ok⟩
theorem ftT_rrrrlrrll_ok : T.All (FtOk Tryz.prog) ftT_rrrrlrrll (fun k => (fun k => (fun k => (fun k => (fun k => (fun k => (fun k => (fun k => id (2 * k + 2)) (2 * k + 2)) (2 * k + 2)) (2 * k + 1)) (2 * k + 2)) (2 * k + 2)) (2 * k + 1)) (2 * k + 1)) := ⟨ft_310_ok, trivial, trivial⟩
theorem ftT_rrrrlrrl_ok : T.All (FtOk Tryz.prog) ftT_rrrrlrrl (fun k => (fun k => (fun k => (fun k => (fun k => (fun k => (fun k => id (2 * k + 2)) (2 * k + 2)) (2 * k + 2)) (2 * k + 1)) (2 * k + 2)) (2 * k + 2)) (2 * k + 1)) := ⟨ft_182_ok, ftT_rrrrlrrll_ok, trivial⟩
theorem ftT_rrrrlrrr_ok : T.All (FtOk Tryz.prog) ftT_rrrrlrrr (fun k => (fun k => (fun k => (fun k => (fun k => (fun k => (fun k => id (2 * k + 2)) (2 * k + 2)) (2 * k + 2)) (2 * k + 1)) (2 * k + 2)) (2 * k + 2)) (2 * k + 2)) := ⟨ft_246_ok, trivial, trivial⟩
theorem ftT_rrrrlrr_ok : T.All (FtOk Tryz.prog) ftT_rrrrlrr (fun k => (fun k => (fun k => (fun k => (fun k => (fun k => id (2 * k + 2)) (2 * k + 2)) (2 * k + 2)) (2 * k + 1)) (2 * k + 2)) (2 * k + 2)) := ⟨ft_118_ok, ftT_rrrrlrrl_ok, ftT_rrrrlrrr_ok⟩
theorem ftT_rrrrlr_ok : T.All (FtOk Tryz.prog) ftT_rrrrlr (fun k => (fun k => (fun k => (fun k => (fun k => id (2 * k + 2)) (2 * k + 2)) (2 * k + 2)) (2 * k + 1)) (2 * k + 2)) := ⟨ft_54_ok, ftT_rrrrlrl_ok, ftT_rrrrlrr_ok⟩
theorem ftT_rrrrl_ok : T.All (FtOk Tryz.prog) ftT_rrrrl (fun k => (fun k => (fun k => (fun k => id (2 * k + 2)) (2 * k + 2)) (2 * k + 2)) (2 * k + 1)) := ⟨ft_22_ok, ftT_rrrrll_ok, ftT_rrrrlr_ok⟩
theorem ftT_rrrrrllll_ok : T.All (FtOk Tryz.prog) ftT_rrrrrllll (fun k => (fun k => (fun k => (fun k => (fun k => (fun k => (fun k => (fun k => id (2 * k + 2)) (2 * k + 2)) (2 * k + 2)) (2 * k + 2)) (2 * k + 1)) (2 * k + 1)) (2 * k + 1)) (2 * k + 1)) := ⟨ft_270_ok, trivial, trivial⟩
theorem ftT_rrrrrlll_ok : T.All (FtOk Tryz.prog) ftT_rrrrrlll (fun k => (fun k => (fun k => (fun k => (fun k => (fun k => (fun k => id (2 * k + 2)) (2 * k + 2)) (2 * k + 2)) (2 * k + 2)) (2 * k + 1)) (2 * k + 1)) (2 * k + 1)) := ⟨ft_142_ok, ftT_rrrrrllll_ok, trivial⟩
theorem ftT_rrrrrllr_ok : T.All (FtOk Tryz.prog) ftT_rrrrrllr (fun k => (fun k => (fun k => (fun k => (fun k => (fun k => (fun k => id (2 * k + 2)) (2 * k + 2)) (2 * k + 2)) (2 * k + 2)) (2 * k + 1)) (2 * k + 1)) (2 * k + 2)) := ⟨ft_206_ok, trivial, trivial⟩
theorem ftT_rrrrrll_ok : T.All (FtOk Tryz.prog) ftT_rrrrrll (fun k => (fun k => (fun k => (fun k => (fun k => (fun k => id (2 * k + 2)) (2 * k + 2)) (2 * k + 2)) (2 * k + 2)) (2 * k + 1)) (2 * k + 1)) := ⟨ft_78_ok, ftT_rrrrrlll_ok, ftT_rrrrrllr_ok⟩
theorem ftT_rrrrrlrl_ok : T.All (FtOk Tryz.prog) ftT_rrrrrlrl (fun k => (fun k => (fun k => (fun k => (fun k => (fun k => (fun k => id (2 * k + 2)) (2 * k + 2)) (2 * k + 2)) (2 * k + 2)) (2 * k + 1)) (2 * k + 2)) (2 * k + 1)) := ⟨ft_174_ok, trivial, trivial⟩
theorem ftT_rrrrrlrr_ok : T.All (FtOk Tryz.prog) ftT_rrrrrlrr (fun k => (fun k => (fun k => (fun k => (fun k => (fun k => (fun k => id (2 * k + 2)) (2 * k + 2)) (2 * k + 2)) (2 * k + 2)) (2 * k + 1)) (2 * k + 2)) (2 * k + 2)) := ⟨ft_238_ok, trivial, trivial⟩
theorem ftT_rrrrrlr_ok : T.All (FtOk Tryz.prog) ftT_rrrrrlr (fun k => (fun k => (fun k => (fun k => (fun k => (fun k => id (2 * k + 2)) (2 * k + 2)) (2 * k + 2)) (2 * k + 2)) (2 * k + 1)) (2 * k + 2)) := ⟨ft_110_ok, ftT_rrrrrlrl_ok, ftT_rrrrrlrr_ok⟩
theorem ftT_rrrrrl_ok : T.All (FtOk Tryz.prog) ftT_rrrrrl (fun k => (fun k => (fun k => (fun k => (fun k => id (2 * k + 2)) (2 * k + 2)) (2 * k + 2)) (2 * k + 2)) (2 * k + 1)) := ⟨ft_46_ok, ftT_rrrrrll_ok, ftT_rrrrrlr_ok⟩
theorem ftT_rrrrrrlll_ok : T.All (FtOk Tryz.prog) ftT_rrrrrrlll (fun k => (fun k => (fun k => (fun k => (fun k => (fun k => (fun k => (fun k => id (2 * k + 2)) (2 * k + 2)) (2 * k + 2)) (2 * k + 2)) (2 * k + 2)) (2 * k + 1)) (2 * k + 1)) (2 * k + 1)) := ⟨ft_286_ok, trivial, trivial⟩
theorem ftT_rrrrrrll_ok : T.All (FtOk Tryz.prog) ftT_rrrrrrll (fun k => (fun k => (fun k => (fun k => (fun k => (fun k => (fun k => id (2 * k + 2)) (2 * k + 2)) (2 * k + 2)) (2 * k + 2)) (2 * k + 2)) (2 * k + 1)) (2 * k + 1)) := ⟨ft_158_ok, ftT_rrrrrrlll_ok, trivial⟩
theorem ftT_rrrrrrl_ok : T.All (FtOk Tryz.prog) ftT_rrrrrrl (fun k => (fun k => (fun k => (fun k => (fun k => (fun k => id (2 * k + 2)) (2 * k + 2)) (2 * k + 2)) (2 * k + 2)) (2 * k + 2)) (2 * k + 1)) := ⟨ft_94_ok, ftT_rrrrrrll_ok, trivial⟩
theorem ftT_rrrrrrrll_ok : T.All (FtOk Tryz.prog) ftT_rrrrrrrll (fun k => (fun k => (fun k => (fun k => (fun k => (fun k => (fun k => (fun k => id (2 * k + 2)) (2 * k + 2)) (2 * k + 2)) (2 * k + 2)) (2 * k + 2)) (2 * k + 2)) (2 * k + 1)) (2 * k + 1)) := ⟨ft_318_ok, trivial, trivial⟩
theorem ftT_rrrrrrrl_ok : T.All (FtOk Tryz.prog) ftT_rrrrrrrl (fun k => (fun k => (fun k => (fun k => (fun k => (fun k => (fun k => id (2 * k + 2)) (2 * k + 2)) (2 * k + 2)) (2 * k + 2)) (2 * k + 2)) (2 * k + 2)) (2 * k + 1)) := ⟨ft_190_ok, ftT_rrrrrrrll_ok, trivial⟩
theorem ftT_rrrrrrrr_ok : T.All (FtOk Tryz.prog) ftT_rrrrrrrr (fun k => (fun k => (fun k => (fun k => (fun k => (fun k => (fun k => id (2 * k + 2)) (2 * k + 2)) (2 * k + 2)) (2 * k + 2)) (2 * k + 2)) (2 * k + 2)) (2 * k + 2)) := ⟨ft_254_ok, trivial, trivial⟩
theorem ftT_rrrrrrr_ok : T.All (FtOk Tryz.prog) ftT_rrrrrrr (fun k => (fun k => (fun k => (fun k => (fun k => (fun k => id (2 * k + 2)) (2 * k + 2)) (2 * k + 2)) (2 * k + 2)) (2 * k + 2)) (2 * k + 2)) := ⟨ft_126_ok, ftT_rrrrrrrl_ok, ftT_rrrrrrrr_ok⟩
theorem ftT_rrrrrr_ok : T.All (FtOk Tryz.prog) ftT_rrrrrr (fun k => (fun k => (fun k => (fun k => (fun k => id (2 * k + 2)) (2 * k + 2)) (2 * k + 2)) (2 * k + 2)) (2 * k + 2)) := ⟨ft_62_ok, ftT_rrrrrrl_ok, ftT_rrrrrrr_ok⟩
theorem ftT_rrrrr_ok : T.All (FtOk Tryz.prog) ftT_rrrrr (fun k => (fun k => (fun k => (fun k => id (2 * k + 2)) (2 * k + 2)) (2 * k + 2)) (2 * k + 2)) := ⟨ft_30_ok, ftT_rrrrrl_ok, ftT_rrrrrr_ok⟩
theorem ftT_rrrr_ok : T.All (FtOk Tryz.prog) ftT_rrrr (fun k => (fun k => (fun k => id (2 * k + 2)) (2 * k + 2)) (2 * k + 2)) := ⟨ft_14_ok, ftT_rrrrl_ok, ftT_rrrrr_ok⟩
theorem ftT_rrr_ok : T.All (FtOk Tryz.prog) ftT_rrr (fun k => (fun k => id (2 * k + 2)) (2 * k + 2)) := ⟨ft_6_ok, ftT_rrrl_ok, ftT_rrrr_ok⟩
theorem ftT_rr_ok : T.All (FtOk Tryz.prog) ftT_rr (fun k => id (2 * k + 2)) := ⟨trivial, ftT_rrl_ok, ftT_rrr_ok⟩
theorem ftT_r_ok : T.All (FtOk Tryz.prog) ftT_r id := ⟨trivial, ftT_rl_ok, ftT_rr_ok⟩
theorem ftTab_ok : T.All (FtOk Tryz.prog) ftTab id := ftT_r_ok
theorem xt_147_ok : ExtE Tryz.prog 147 (Ext.indexByteString) := ⟨⟨Tryz.f147, Tryz.func147, by decide, rfl, by kernel_rfl, by kernel_rfl⟩⟩
theorem xt_222_ok : ExtE Tryz.prog 222 (Ext.addI64) := ⟨⟨Tryz.f222, Tryz.func222, by decide, rfl, by kernel_rfl, by kernel_rfl⟩⟩
theorem xt_239_ok : ExtE Tryz.prog 239 (Ext.countString) := ⟨⟨Tryz.f239, Tryz.func239, by decide, rfl, by kernel_rfl, by kernel_rfl⟩⟩
theorem xt_255_ok : ExtE Tryz.prog 255 (Ext.loadU32) := ⟨⟨Tryz.f255, Tryz.func255, by decide, rfl, by kernel_rfl, by kernel_rfl⟩⟩
theorem xt_266_ok : ExtE Tryz.prog 266 (Ext.noEscape) := ⟨⟨Tryz.f266, Tryz.func266, by decide, rfl, by kernel_rfl, by kernel_rfl⟩⟩
theorem xt_267_ok : ExtE Tryz.prog 267 (Ext.makeNoZero 5) := ⟨Tryz.f267.params, Tryz.f267.resultTypes, 24, rfl, by kernel_rfl, ⟨⟨Tryz.f267, Tryz.func267, by decide, rfl, by kernel_rfl, by kernel_rfl⟩⟩⟩
theorem xt_277_ok : ExtE Tryz.prog 277 (Ext.storeU32) := ⟨⟨Tryz.f277, Tryz.func277, by decide, rfl, by kernel_rfl, by kernel_rfl⟩⟩
theorem xt_289_ok : ExtE Tryz.prog 289 (Ext.noop) := ⟨(fun _ => do mark .disable; pure Extern.Race.none_), ⟨⟨Tryz.f289, Tryz.func289, by decide, rfl, by kernel_rfl, by kernel_rfl⟩⟩, fun w => rfl⟩
theorem xt_290_ok : ExtE Tryz.prog 290 (Ext.casI32) := ⟨⟨Tryz.f290, Tryz.func290, by decide, rfl, by kernel_rfl, by kernel_rfl⟩⟩
theorem xt_291_ok : ExtE Tryz.prog 291 (Ext.noop) := ⟨(fun _ => do mark .enable; pure Extern.Race.none_), ⟨⟨Tryz.f291, Tryz.func291, by decide, rfl, by kernel_rfl, by kernel_rfl⟩⟩, fun w => rfl⟩
theorem xt_292_ok : ExtE Tryz.prog 292 (Ext.noop1) := ⟨(Extern.Race.marked .acquire), ⟨⟨Tryz.f292, Tryz.func292, by decide, rfl, by kernel_rfl, by kernel_rfl⟩⟩, fun a w => rfl⟩
theorem xt_294_ok : ExtE Tryz.prog 294 (Ext.noop1) := ⟨(Extern.Race.marked .releaseMerge), ⟨⟨Tryz.f294, Tryz.func294, by decide, rfl, by kernel_rfl, by kernel_rfl⟩⟩, fun a w => rfl⟩
theorem xt_295_ok : ExtE Tryz.prog 295 (Ext.addI32) := ⟨⟨Tryz.f295, Tryz.func295, by decide, rfl, by kernel_rfl, by kernel_rfl⟩⟩
theorem xtT_rllllllll_ok : T.All (ExtE Tryz.prog) xtT_rllllllll (fun k => (fun k => (fun k => (fun k => (fun k => (fun k => (fun k => (fun k => id (2 * k + 1)) (2 * k + 1)) (2 * k + 1)) (2 * k + 1)) (2 * k + 1)) (2 * k + 1)) (2 * k + 1)) (2 * k + 1)) := ⟨xt_255_ok, trivial, trivial⟩
theorem xtT_rlllllll_ok : T.All (ExtE Tryz.prog) xtT_rlllllll (fun k => (fun k => (fun k => (fun k => (fun k => (fun k => (fun k => id (2 * k + 1)) (2 * k + 1)) (2 * k + 1)) (2 * k + 1)) (2 * k + 1)) (2 * k + 1)) (2 * k + 1)) := ⟨trivial, xtT_rllllllll_ok, trivial⟩
theorem xtT_rllllll_ok : T.All (ExtE Tryz.prog) xtT_rllllll (fun k => (fun k => (fun k => (fun k => (fun k => (fun k => id (2 * k + 1)) (2 * k + 1)) (2 * k + 1)) (2 * k + 1)) (2 * k + 1)) (2 * k + 1)) := ⟨trivial, xtT_rlllllll_ok, trivial⟩
theorem xtT_rlllll_ok : T.All (ExtE Tryz.prog) xtT_rlllll (fun k => (fun k => (fun k => (fun k => (fun k => id (2 * k + 1)) (2 * k + 1)) (2 * k + 1)) (2 * k + 1)) (2 * k + 1)) := ⟨trivial, xtT_rllllll_ok, trivial⟩
theorem xtT_rllllrrr_ok : T.All (ExtE Tryz.prog) xtT_rllllrrr (fun k => (fun k => (fun k => (fun k => (fun k => (fun k => (fun k => id (2 * k + 1)) (2 * k + 1)) (2 * k + 1)) (2 * k + 1)) (2 * k + 2)) (2 * k + 2)) (2 * k + 2)) := ⟨xt_239_ok, trivial, trivial⟩
theorem xtT_rllllrr_ok : T.All (ExtE Tryz.prog) xtT_rllllrr (fun k => (fun k => (fun k => (fun k => (fun k => (fun k => id (2 * k + 1)) (2 * k + 1)) (2 * k + 1)) (2 * k + 1)) (2 * k + 2)) (2 * k + 2)) := ⟨trivial, trivial, xtT_rllllrrr_ok⟩
theorem xtT_rllllr_ok : T.All (ExtE Tryz.prog) xtT_rllllr (fun k => (fun k => (fun k => (fun k => (fun k => id (2 * k + 1)) (2 * k + 1)) (2 * k + 1)) (2 * k + 1)) (2 * k + 2)) := ⟨trivial, trivial, xtT_rllllrr_ok⟩
theorem xtT_rllll_ok : T.All (ExtE Tryz.prog) xtT_rllll (fun k => (fun k => (fun k => (fun k => id (2 * k + 1)) (2 * k + 1)) (2 * k + 1)) (2 * k + 1)) := ⟨trivial, xtT_rlllll_ok, xtT_rllllr_ok⟩
theorem xtT_rlllrlrll_ok : T.All (ExtE Tryz.prog) xtT_rlllrlrll (fun k => (fun k => (fun k => (fun k => (fun k => (fun k => (fun k => (fun k => id (2 * k + 1)) (2 * k + 1)) (2 * k + 1)) (2 * k + 2)) (2 * k + 1)) (2 * k + 2)) (2 * k + 1)) (2 * k + 1)) := ⟨xt_295_ok, trivial, trivial⟩
theorem xtT_rlllrlrl_ok : T.All (ExtE Tryz.prog) xtT_rlllrlrl (fun k => (fun k => (fun k => (fun k => (fun k => (fun k => (fun k => id (2 * k + 1)) (2 * k + 1)) (2 * k + 1)) (2 * k + 2)) (2 * k + 1)) (2 * k + 2)) (2 * k + 1)) := ⟨trivial, xtT_rlllrlrll_ok, trivial⟩
theorem xtT_rlllrlr_ok : T.All (ExtE Tryz.prog) xtT_rlllrlr (fun k => (fun k => (fun k => (fun k => (fun k => (fun k => id (2 * k + 1)) (2 * k + 1)) (2 * k + 1)) (2 * k + 2)) (2 * k + 1)) (2 * k + 2)) := ⟨trivial, xtT_rlllrlrl_ok, trivial⟩
theorem xtT_rlllrl_ok : T.All (ExtE Tryz.prog) xtT_rlllrl (fun k => (fun k => (fun k => (fun k => (fun k => id (2 * k + 1)) (2 * k + 1)) (2 * k + 1)) (2 * k + 2)) (2 * k + 1)) := ⟨trivial, trivial, xtT_rlllrlr_ok⟩
theorem xtT_rlllr_ok : T.All (ExtE Tryz.prog) xtT_rlllr (fun k => (fun k => (fun k => (fun k => id (2 * k + 1)) (2 * k + 1)) (2 * k + 1)) (2 * k + 2)) := ⟨trivial, xtT_rlllrl_ok, trivial⟩
theorem xtT_rlll_ok : T.All (ExtE Tryz.prog) xtT_rlll (fun k => (fun k => (fun k => id (2 * k + 1)) (2 * k + 1)) (2 * k + 1)) := ⟨trivial, xtT_rllll_ok, xtT_rlllr_ok⟩
theorem xtT_rllrllrll_ok : T.All (ExtE Tryz.prog) xtT_rllrllrll (fun k => (fun k => (fun k => (fun k => (fun k => (fun k => (fun k => (fun k => id (2 * k + 1)) (2 * k + 1)) (2 * k + 2)) (2 * k + 1)) (2 * k + 1)) (2 * k + 2)) (2 * k + 1)) (2 * k + 1)) := ⟨xt_291_ok, trivial, trivial⟩
theorem xtT_rllrllrl_ok : T.All (ExtE Tryz.prog) xtT_rllrllrl (fun k => (fun k => (fun k => (fun k => (fun k => (fun k => (fun k => id (2 * k + 1)) (2 * k + 1)) (2 * k + 2)) (2 * k + 1)) (2 * k + 1)) (2 * k + 2)) (2 * k + 1)) := ⟨trivial, xtT_rllrllrll_ok, trivial⟩
theorem xtT_rllrllr_ok : T.All (ExtE Tryz.prog) xtT_rllrllr (fun k => (fun k => (fun k => (fun k => (fun k => (fun k => id (2 * k + 1)) (2 * k + 1)) (2 * k + 2)) (2 * k + 1)) (2 * k + 1)) (2 * k + 2)) := ⟨trivial, xtT_rllrllrl_ok, trivial⟩
theorem xtT_rllrll_ok : T.All (ExtE Tryz.prog) xtT_rllrll (fun k => (fun k => (fun k => (fun k => (fun k => id (2 * k + 1)) (2 * k + 1)) (2 * k + 2)) (2 * k + 1)) (2 * k + 1)) := ⟨trivial, trivial, xtT_rllrllr_ok⟩
theorem xtT_rllrlrll_ok : T.All (ExtE Tryz.prog) xtT_rllrlrll (fun k => (fun k => (fun k => (fun k => (fun k => (fun k => (fun k => id (2 * k + 1)) (2 * k + 1)) (2 * k + 2)) (2 * k + 1)) (2 * k + 2)) (2 * k + 1)) (2 * k + 1)) := ⟨xt_147_ok, trivial, trivial⟩
theorem xtT_rllrlrl_ok : T.All (ExtE Tryz.prog) xtT_rllrlrl (fun k => (fun k => (fun k => (fun k => (fun k => (fun k => id (2 * k + 1)) (2 * k + 1)) (2 * k + 2)) (2 * k + 1)) (2 * k + 2)) (2 * k + 1)) := ⟨trivial, xtT_rllrlrll_ok, trivial⟩
theorem xtT_rllrlr_ok : T.All (ExtE Tryz.prog) xtT_rllrlr (fun k => (fun k => (fun k => (fun k => (fun k => id (2 * k + 1)) (2 * k + 1)) (2 * k + 2)) (2 * k + 1)) (2 * k + 2)) := ⟨trivial, xtT_rllrlrl_ok, trivial⟩
theorem xtT_rllrl_ok : T.All (ExtE Tryz.prog) xtT_rllrl (fun k => (fun k => (fun k => (fun k => id (2 * k + 1)) (2 * k + 1)) (2 * k + 2)) (2 * k + 1)) := ⟨trivial, xtT_rllrll_ok, xtT_rllrlr_ok⟩
theorem xtT_rllrrllll_ok : T.All (ExtE Tryz.prog) xtT_rllrrllll (fun k => (fun k => (fun k => (fun k => (fun k => (fun k => (fun k => (fun k => id (2 * k + 1)) (2 * k + 1)) (2 * k + 2)) (2 * k + 2)) (2 * k + 1)) (2 * k + 1)) (2 * k + 1)) (2 * k + 1)) := ⟨xt_267_ok, trivial, trivial⟩
theorem xtT_rllrrlll_ok : T.All (ExtE Tryz.prog) xtT_rllrrlll (fun k => (fun k => (fun k => (fun k => (fun k => (fun k => (fun k => id (2 * k + 1)) (2 * k + 1)) (2 * k + 2)) (2 * k + 2)) (2 * k + 1)) (2 * k + 1)) (2 * k + 1)) := ⟨trivial, xtT_rllrrllll_ok, trivial⟩
theorem xtT_rllrrll_ok : T.All (ExtE Tryz.prog) xtT_rllrrll (fun k => (fun k => (fun k => (fun k => (fun k => (fun k => id (2 * k + 1)) (2 * k + 1)) (2 * k + 2)) (2 * k + 2)) (2 * k + 1)) (2 * k + 1)) := ⟨trivial, xtT_rllrrlll_ok, trivial⟩
theorem xtT_rllrrl_ok : T.All (ExtE Tryz.prog) xtT_rllrrl (fun k => (fun k => (fun k => (fun k => (fun k => id (2 * k + 1)) (2 * k + 1)) (2 * k + 2)) (2 * k + 2)) (2 * k + 1)) := ⟨trivial, xtT_rllrrll_ok, trivial⟩
theorem xtT_rllrr_ok : T.All (ExtE Tryz.prog) xtT_rllrr (fun k => (fun k => (fun k => (fun k => id (2 * k + 1)) (2 * k + 1)) (2 * k + 2)) (2 * k + 2)) := ⟨trivial, xtT_rllrrl_ok, trivial⟩
theorem xtT_rllr_ok : T.All (ExtE Tryz.prog) xtT_rllr (fun k => (fun k => (fun k => id (2 * k + 1)) (2 * k + 1)) (2 * k + 2)) := ⟨trivial, xtT_rllrl_ok, xtT_rllrr_ok⟩
theorem xtT_rll_ok : T.All (ExtE Tryz.prog) xtT_rll (fun k => (fun k => id (2 * k + 1)) (2 * k + 1)) := ⟨trivial, xtT_rlll_ok, xtT_rllr_ok⟩
theorem xtT_rlrlllrll_ok : T.All (ExtE Tryz.prog) xtT_rlrlllrll (fun k => (fun k => (fun k => (fun k => (fun k => (fun k => (fun k => (fun k => id (2 * k + 1)) (2 * k + 2)) (2 * k + 1)) (2 * k + 1)) (2 * k + 1)) (2 * k + 2)) (2 * k + 1)) (2 * k + 1)) := ⟨xt_289_ok, trivial, trivial⟩
theorem xtT_rlrlllrl_ok : T.All (ExtE Tryz.prog) xtT_rlrlllrl (fun k => (fun k => (fun k => (fun k => (fun k => (fun k => (fun k => id (2 * k + 1)) (2 * k + 2)) (2 * k + 1)) (2 * k + 1)) (2 * k + 1)) (2 * k + 2)) (2 * k + 1)) := ⟨trivial, xtT_rlrlllrll_ok, trivial⟩
theorem xtT_rlrlllr_ok : T.All (ExtE Tryz.prog) xtT_rlrlllr (fun k => (fun k => (fun k => (fun k => (fun k => (fun k => id (2 * k + 1)) (2 * k + 2)) (2 * k + 1)) (2 * k + 1)) (2 * k + 1)) (2 * k + 2)) := ⟨trivial, xtT_rlrlllrl_ok, trivial⟩
theorem xtT_rlrlll_ok : T.All (ExtE Tryz.prog) xtT_rlrlll (fun k => (fun k => (fun k => (fun k => (fun k => id (2 * k + 1)) (2 * k + 2)) (2 * k + 1)) (2 * k + 1)) (2 * k + 1)) := ⟨trivial, trivial, xtT_rlrlllr_ok⟩
theorem xtT_rlrll_ok : T.All (ExtE Tryz.prog) xtT_rlrll (fun k => (fun k => (fun k => (fun k => id (2 * k + 1)) (2 * k + 2)) (2 * k + 1)) (2 * k + 1)) := ⟨trivial, xtT_rlrlll_ok, trivial⟩
theorem xtT_rlrl_ok : T.All (ExtE Tryz.prog) xtT_rlrl (fun k => (fun k => (fun k => id (2 * k + 1)) (2 * k + 2)) (2 * k + 1)) := ⟨trivial, xtT_rlrll_ok, trivial⟩
theorem xtT_rlrrlrlll_ok : T.All (ExtE Tryz.prog) xtT_rlrrlrlll (fun k => (fun k => (fun k => (fun k => (fun k => (fun k => (fun k => (fun k => id (2 * k + 1)) (2 * k + 2)) (2 * k + 2)) (2 * k + 1)) (2 * k + 2)) (2 * k + 1)) (2 * k + 1)) (2 * k + 1)) := ⟨xt_277_ok, trivial, trivial⟩
theorem xtT_rlrrlrll_ok : T.All (ExtE Tryz.prog) xtT_rlrrlrll (fun k => (fun k => (fun k => (fun k => (fun k => (fun k => (fun k => id (2 * k + 1)) (2 * k + 2)) (2 * k + 2)) (2 * k + 1)) (2 * k + 2)) (2 * k + 1)) (2 * k + 1)) := ⟨trivial, xtT_rlrrlrlll_ok, trivial⟩
theorem xtT_rlrrlrl_ok : T.All (ExtE Tryz.prog) xtT_rlrrlrl (fun k => (fun k => (fun k => (fun k => (fun k => (fun k => id (2 * k + 1)) (2 * k + 2)) (2 * k + 2)) (2 * k + 1)) (2 * k + 2)) (2 * k + 1)) := ⟨trivial, xtT_rlrrlrll_ok, trivial⟩
theorem xtT_rlrrlr_ok : T.All (ExtE Tryz.prog) xtT_rlrrlr (fun k => (fun k => (fun k => (fun k => (fun k => id (2 * k + 1)) (2 * k + 2)) (2 * k + 2)) (2 * k + 1)) (2 * k + 2)) := ⟨trivial, xtT_rlrrlrl_ok, trivial⟩
theorem xtT_rlrrl_ok : T.All (ExtE Tryz.prog) xtT_rlrrl (fun k => (fun k => (fun k => (fun k => id (2 * k + 1)) (2 * k + 2)) (2 * k + 2)) (2 * k + 1)) := ⟨trivial, trivial, xtT_rlrrlr_ok⟩
theorem xtT_rlrr_ok : T.All (ExtE Tryz.prog) xtT_rlrr (fun k => (fun k => (fun k => id (2 * k + 1)) (2 * k + 2)) (2 * k + 2)) := ⟨trivial, xtT_rlrrl_ok, trivial⟩
theorem xtT_rlr_ok : T.All (ExtE Tryz.prog) xtT_rlr (fun k => (fun k => id (2 * k + 1)) (2 * k + 2)) := ⟨trivial, xtT_rlrl_ok, xtT_rlrr_ok⟩
theorem xtT_rl_ok : T.All (ExtE Tryz.prog) xtT_rl (fun k => id (2 * k + 1)) := ⟨trivial, xtT_rll_ok, xtT_rlr_ok⟩
theorem xtT_rrlrllrll_ok : T.All (ExtE Tryz.prog) xtT_rrlrllrll (fun k => (fun k => (fun k => (fun k => (fun k => (fun k => (fun k => (fun k => id (2 * k + 2)) (2 * k + 1)) (2 * k + 2)) (2 * k + 1)) (2 * k + 1)) (2 * k + 2)) (2 * k + 1)) (2 * k + 1)) := ⟨xt_292_ok, trivial, trivial⟩
theorem xtT_rrlrllrl_ok : T.All (ExtE Tryz.prog) xtT_rrlrllrl (fun k => (fun k => (fun k => (fun k => (fun k => (fun k => (fun k => id (2 * k + 2)) (2 * k + 1)) (2 * k + 2)) (2 * k + 1)) (2 * k + 1)) (2 * k + 2)) (2 * k + 1)) := ⟨trivial, xtT_rrlrllrll_ok, trivial⟩
theorem xtT_rrlrllr_ok : T.All (ExtE Tryz.prog) xtT_rrlrllr (fun k => (fun k => (fun k => (fun k => (fun k => (fun k => id (2 * k + 2)) (2 * k + 1)) (2 * k + 2)) (2 * k + 1)) (2 * k + 1)) (2 * k + 2)) := ⟨trivial, xtT_rrlrllrl_ok, trivial⟩
theorem xtT_rrlrll_ok : T.All (ExtE Tryz.prog) xtT_rrlrll (fun k => (fun k => (fun k => (fun k => (fun k => id (2 * k + 2)) (2 * k + 1)) (2 * k + 2)) (2 * k + 1)) (2 * k + 1)) := ⟨trivial, trivial, xtT_rrlrllr_ok⟩
theorem xtT_rrlrl_ok : T.All (ExtE Tryz.prog) xtT_rrlrl (fun k => (fun k => (fun k => (fun k => id (2 * k + 2)) (2 * k + 1)) (2 * k + 2)) (2 * k + 1)) := ⟨trivial, xtT_rrlrll_ok, trivial⟩
theorem xtT_rrlr_ok : T.All (ExtE Tryz.prog) xtT_rrlr (fun k => (fun k => (fun k => id (2 * k + 2)) (2 * k + 1)) (2 * k + 2)) := ⟨trivial, xtT_rrlrl_ok, trivial⟩
theorem xtT_rrl_ok : T.All (ExtE Tryz.prog) xtT_rrl (fun k => (fun k => id (2 * k + 2)) (2 * k + 1)) := ⟨trivial, trivial, xtT_rrlr_ok⟩
theorem xtT_rrrlllrll_ok : T.All (ExtE Tryz.prog) xtT_rrrlllrll (fun k => (fun k => (fun k => (fun k => (fun k => (fun k => (fun k => (fun k => id (2 * k + 2)) (2 * k + 2)) (2 * k + 1)) (2 * k + 1)) (2 * k + 1)) (2 * k + 2)) (2 * k + 1)) (2 * k + 1)) := ⟨xt_290_ok, trivial, trivial⟩
theorem xtT_rrrlllrl_ok : T.All (ExtE Tryz.prog) xtT_rrrlllrl (fun k => (fun k => (fun k => (fun k => (fun k => (fun k => (fun k => id (2 * k + 2)) (2 * k + 2)) (2 * k + 1)) (2 * k + 1)) (2 * k + 1)) (2 * k + 2)) (2 * k + 1)) := ⟨trivial, xtT_rrrlllrll_ok, trivial⟩
theorem xtT_rrrlllr_ok : T.All (ExtE Tryz.prog) xtT_rrrlllr (fun k => (fun k => (fun k => (fun k => (fun k => (fun k => id (2 * k + 2)) (2 * k + 2)) (2 * k + 1)) (2 * k + 1)) (2 * k + 1)) (2 * k + 2)) := ⟨trivial, xtT_rrrlllrl_ok, trivial⟩
theorem xtT_rrrlll_ok : T.All (ExtE Tryz.prog) xtT_rrrlll (fun k => (fun k => (fun k => (fun k => (fun k => id (2 * k + 2)) (2 * k + 2)) (2 * k + 1)) (2 * k + 1)) (2 * k + 1)) := ⟨trivial, trivial, xtT_rrrlllr_ok⟩
theorem xtT_rrrll_ok : T.All (ExtE Tryz.prog) xtT_rrrll (fun k => (fun k => (fun k => (fun k => id (2 * k + 2)) (2 * k + 2)) (2 * k + 1)) (2 * k + 1)) := ⟨trivial, xtT_rrrlll_ok, trivial⟩
theorem xtT_rrrlrllll_ok : T.All (ExtE Tryz.prog) xtT_rrrlrllll (fun k => (fun k => (fun k => (fun k => (fun k => (fun k => (fun k => (fun k => id (2 * k + 2)) (2 * k + 2)) (2 * k + 1)) (2 * k + 2)) (2 * k + 1)) (2 * k + 1)) (2 * k + 1)) (2 * k + 1)) := ⟨xt_266_ok, trivial, trivial⟩
theorem xtT_rrrlrlll_ok : T.All (ExtE Tryz.prog) xtT_rrrlrlll (fun k => (fun k => (fun k => (fun k => (fun k => (fun k => (fun k => id (2 * k + 2)) (2 * k + 2)) (2 * k + 1)) (2 * k + 2)) (2 * k + 1)) (2 * k + 1)) (2 * k + 1)) := ⟨trivial, xtT_rrrlrllll_ok, trivial⟩
theorem xtT_rrrlrll_ok : T.All (ExtE Tryz.prog) xtT_rrrlrll (fun k => (fun k => (fun k => (fun k => (fun k => (fun k => id (2 * k + 2)) (2 * k + 2)) (2 * k + 1)) (2 * k + 2)) (2 * k + 1)) (2 * k + 1)) := ⟨trivial, xtT_rrrlrlll_ok, trivial⟩
theorem xtT_rrrlrl_ok : T.All (ExtE Tryz.prog) xtT_rrrlrl (fun k => (fun k => (fun k => (fun k => (fun k => id (2 * k + 2)) (2 * k + 2)) (2 * k + 1)) (2 * k + 2)) (2 * k + 1)) := ⟨trivial, xtT_rrrlrll_ok, trivial⟩
theorem xtT_rrrlr_ok : T.All (ExtE Tryz.prog) xtT_rrrlr (fun k => (fun k => (fun k => (fun k => id (2 * k + 2)) (2 * k + 2)) (2 * k + 1)) (2 * k + 2)) := ⟨trivial, xtT_rrrlrl_ok, trivial⟩
theorem xtT_rrrl_ok : T.All (ExtE Tryz.prog) xtT_rrrl (fun k => (fun k => (fun k => id (2 * k + 2)) (2 * k + 2)) (2 * k + 1)) := ⟨trivial, xtT_rrrll_ok, xtT_rrrlr_ok⟩
theorem xtT_rrrrllrll_ok : T.All (ExtE Tryz.prog) xtT_rrrrllrll (fun k => (fun k => (fun k => (fun k => (fun k => (fun k => (fun k => (fun k => id (2 * k + 2)) (2 * k + 2)) (2 * k + 2)) (2 * k + 1)) (2 * k + 1)) (2 * k + 2)) (2 * k + 1)) (2 * k + 1)) := ⟨xt_294_ok, trivial, trivial⟩
theorem xtT_rrrrllrl_ok : T.All (ExtE Tryz.prog) xtT_rrrrllrl (fun k => (fun k => (fun k => (fun k => (fun k => (fun k => (fun k => id (2 * k + 2)) (2 * k + 2)) (2 * k + 2)) (2 * k + 1)) (2 * k + 1)) (2 * k + 2)) (2 * k + 1)) := ⟨trivial, xtT_rrrrllrll_ok, trivial⟩
theorem xtT_rrrrllr_ok : T.All (ExtE Tryz.prog) xtT_rrrrllr (fun k => (fun k => (fun k => (fun k => (fun k => (fun k => id (2 * k + 2)) (2 * k + 2)) (2 * k + 2)) (2 * k + 1)) (2 * k + 1)) (2 * k + 2)) := ⟨trivial, xtT_rrrrllrl_ok, trivial⟩
theorem xtT_rrrrll_ok : T.All (ExtE Tryz.prog) xtT_rrrrll (fun k => (fun k => (fun k => (fun k => (fun k => id (2 * k + 2)) (2 * k + 2)) (2 * k + 2)) (2 * k + 1)) (2 * k + 1)) := ⟨trivial, trivial, xtT_rrrrllr_ok⟩
theorem xtT_rrrrl_ok : T.All (ExtE Tryz.prog) xtT_rrrrl (fun k => (fun k => (fun k => (fun k => id (2 * k + 2)) (2 * k + 2)) (2 * k + 2)) (2 * k + 1)) := ⟨trivial, xtT_rrrrll_ok, trivial⟩
theorem xtT_rrrrrrlr_ok : T.All (ExtE Tryz.prog) xtT_rrrrrrlr (fun k => (fun k => (fun k => (fun k => (fun k => (fun k => (fun k => id (2 * k + 2)) (2 * k + 2)) (2 * k + 2)) (2 * k + 2)) (2 * k + 2)) (2 * k + 1)) (2 * k + 2)) := ⟨xt_222_ok, trivial, trivial⟩
theorem xtT_rrrrrrl_ok : T.All (ExtE Tryz.prog) xtT_rrrrrrl (fun k => (fun k => (fun k => (fun k => (fun k => (fun k => id (2 * k + 2)) (2 * k + 2)) (2 * k + 2)) (2 * k + 2)) (2 * k + 2)) (2 * k + 1)) := ⟨trivial, trivial, xtT_rrrrrrlr_ok⟩
theorem xtT_rrrrrr_ok : T.All (ExtE Tryz.prog) xtT_rrrrrr (fun k => (fun k => (fun k => (fun k => (fun k => id (2 * k + 2)) (2 * k + 2)) (2 * k + 2)) (2 * k + 2)) (2 * k + 2)) := ⟨trivial, xtT_rrrrrrl_ok, trivial⟩
theorem xtT_rrrrr_ok : T.All (ExtE Tryz.prog) xtT_rrrrr (fun k => (fun k => (fun k => (fun k => id (2 * k + 2)) (2 * k + 2)) (2 * k + 2)) (2 * k + 2)) := ⟨trivial, trivial, xtT_rrrrrr_ok⟩
theorem xtT_rrrr_ok : T.All (ExtE Tryz.prog) xtT_rrrr (fun k => (fun k => (fun k => id (2 * k + 2)) (2 * k + 2)) (2 * k + 2)) := ⟨trivial, xtT_rrrrl_ok, xtT_rrrrr_ok⟩
theorem xtT_rrr_ok : T.All (ExtE Tryz.prog) xtT_rrr (fun k => (fun k => id (2 * k + 2)) (2 * k + 2)) := ⟨trivial, xtT_rrrl_ok, xtT_rrrr_ok⟩
theorem xtT_rr_ok : T.All (ExtE Tryz.prog) xtT_rr (fun k => id (2 * k + 2)) := ⟨trivial, xtT_rrl_ok, xtT_rrr_ok⟩
theorem xtT_r_ok : T.All (ExtE Tryz.prog) xtT_r id := ⟨trivial, xtT_rl_ok, xtT_rr_ok⟩
theorem xtTab_ok : T.All (ExtE Tryz.prog) xtTab id := xtT_r_ok
theorem env_ok (n d : Nat) : CallOk env (callA env n d) := callOk_of tiTab_ok ftTab_ok xtTab_ok (by kernel_rfl) n d
end Go.Proofs.YtmhajfnfjjbflaaGreatDoor.Ev
