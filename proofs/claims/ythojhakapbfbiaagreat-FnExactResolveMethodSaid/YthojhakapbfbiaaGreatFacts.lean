/- What the program says of its types. Written by a program of mine. -/
import Derived.Test.YthojhakapbfbiaaGreatProg
import Derived.Test.YthojhakapbfbiaaGreatEng37
namespace Go.Proofs.YthojhakapbfbiaaGreat
open Go Go.Eng
instance ti3 : TI Tryz.prog 3 false 1 8 := ⟨by kernel_rfl⟩
instance tu3 : TU Tryz.prog 3 .i64 := ⟨by kernel_rfl⟩
instance tz3 : TZ Tryz.prog 3 [.int .i64 0] := ⟨by kernel_rfl⟩
instance ti4 : TI Tryz.prog 4 false 1 1 := ⟨by kernel_rfl⟩
instance tb4 : TB Tryz.prog 4 := ⟨by kernel_rfl⟩
instance ti5 : TI Tryz.prog 5 false 1 1 := ⟨by kernel_rfl⟩
instance tu5 : TU Tryz.prog 5 .u8 := ⟨by kernel_rfl⟩
instance tz5 : TZ Tryz.prog 5 [.int .u8 0] := ⟨by kernel_rfl⟩
instance ti9 : TI Tryz.prog 9 false 1 16 := ⟨by kernel_rfl⟩
instance tss9 : TS Tryz.prog 9 := ⟨by kernel_rfl⟩
instance tz9 : TZ Tryz.prog 9 [.string ⟨#[]⟩] := ⟨by kernel_rfl⟩
instance ti22 : TI Tryz.prog 22 false 1 24 := ⟨by kernel_rfl⟩
instance te22 : TE Tryz.prog 22 146 := ⟨by kernel_rfl⟩
instance ti24 : TI Tryz.prog 24 true 1 24 := ⟨by kernel_rfl⟩
instance tf24_0 : TF Tryz.prog 24 0 0 := ⟨by kernel_rfl⟩
instance ti26 : TI Tryz.prog 26 false 1 24 := ⟨by kernel_rfl⟩
instance te26 : TE Tryz.prog 26 128 := ⟨by kernel_rfl⟩
instance ti28 : TI Tryz.prog 28 true 1 24 := ⟨by kernel_rfl⟩
instance tf28_0 : TF Tryz.prog 28 0 0 := ⟨by kernel_rfl⟩
instance tz28 : TZ Tryz.prog 28 [.slice none 0 0] := ⟨by kernel_rfl⟩
instance te34 : TE Tryz.prog 34 79 := ⟨by kernel_rfl⟩
instance ti36 : TI Tryz.prog 36 true 2 16 := ⟨by kernel_rfl⟩
instance tf36_0 : TF Tryz.prog 36 0 0 := ⟨by kernel_rfl⟩
instance tf36_1 : TF Tryz.prog 36 1 1 := ⟨by kernel_rfl⟩
instance ti37 : TI Tryz.prog 37 false 1 24 := ⟨by kernel_rfl⟩
instance te37 : TE Tryz.prog 37 3 := ⟨by kernel_rfl⟩
instance ti38 : TI Tryz.prog 38 false 1 24 := ⟨by kernel_rfl⟩
instance te38 : TE Tryz.prog 38 40 := ⟨by kernel_rfl⟩
instance ti40 : TI Tryz.prog 40 true 5 72 := ⟨by kernel_rfl⟩
instance tf40_0 : TF Tryz.prog 40 0 0 := ⟨by kernel_rfl⟩
instance tf40_1 : TF Tryz.prog 40 1 1 := ⟨by kernel_rfl⟩
instance tf40_2 : TF Tryz.prog 40 2 3 := ⟨by kernel_rfl⟩
instance tf40_3 : TF Tryz.prog 40 3 4 := ⟨by kernel_rfl⟩
instance ti43 : TI Tryz.prog 43 false 1 24 := ⟨by kernel_rfl⟩
instance te43 : TE Tryz.prog 43 50 := ⟨by kernel_rfl⟩
instance te46 : TE Tryz.prog 46 102 := ⟨by kernel_rfl⟩
instance ti48 : TI Tryz.prog 48 true 2 16 := ⟨by kernel_rfl⟩
instance tf48_0 : TF Tryz.prog 48 0 0 := ⟨by kernel_rfl⟩
instance tf48_1 : TF Tryz.prog 48 1 1 := ⟨by kernel_rfl⟩
instance tz48 : TZ Tryz.prog 48 [.int .i64 0, .int .i64 0] := ⟨by kernel_rfl⟩
instance ti50 : TI Tryz.prog 50 true 5 72 := ⟨by kernel_rfl⟩
instance tf50_0 : TF Tryz.prog 50 0 0 := ⟨by kernel_rfl⟩
instance tf50_1 : TF Tryz.prog 50 1 1 := ⟨by kernel_rfl⟩
instance tf50_2 : TF Tryz.prog 50 2 3 := ⟨by kernel_rfl⟩
instance tf50_3 : TF Tryz.prog 50 3 4 := ⟨by kernel_rfl⟩
instance tz50 : TZ Tryz.prog 50 [.int .i64 0, .int .i64 0, .int .i64 0, .slice none 0 0, .slice none 0 0] := ⟨by kernel_rfl⟩
instance ti67 : TI Tryz.prog 67 false 1 24 := ⟨by kernel_rfl⟩
instance te67 : TE Tryz.prog 67 9 := ⟨by kernel_rfl⟩
instance ti68 : TI Tryz.prog 68 false 1 24 := ⟨by kernel_rfl⟩
instance te68 : TE Tryz.prog 68 216 := ⟨by kernel_rfl⟩
instance ti69 : TI Tryz.prog 69 false 1 24 := ⟨by kernel_rfl⟩
instance te69 : TE Tryz.prog 69 219 := ⟨by kernel_rfl⟩
instance ti70 : TI Tryz.prog 70 false 1 24 := ⟨by kernel_rfl⟩
instance te70 : TE Tryz.prog 70 72 := ⟨by kernel_rfl⟩
instance ti72 : TI Tryz.prog 72 true 3 48 := ⟨by kernel_rfl⟩
instance tf72_0 : TF Tryz.prog 72 0 0 := ⟨by kernel_rfl⟩
instance tf72_1 : TF Tryz.prog 72 1 1 := ⟨by kernel_rfl⟩
instance tf72_2 : TF Tryz.prog 72 2 2 := ⟨by kernel_rfl⟩
instance ti73 : TI Tryz.prog 73 false 1 24 := ⟨by kernel_rfl⟩
instance te73 : TE Tryz.prog 73 274 := ⟨by kernel_rfl⟩
instance ti74 : TI Tryz.prog 74 false 1 24 := ⟨by kernel_rfl⟩
instance te74 : TE Tryz.prog 74 77 := ⟨by kernel_rfl⟩
instance ti75 : TI Tryz.prog 75 false 1 24 := ⟨by kernel_rfl⟩
instance te75 : TE Tryz.prog 75 277 := ⟨by kernel_rfl⟩
instance ti77 : TI Tryz.prog 77 true 11 192 := ⟨by kernel_rfl⟩
instance tf77_0 : TF Tryz.prog 77 0 0 := ⟨by kernel_rfl⟩
instance tf77_1 : TF Tryz.prog 77 1 1 := ⟨by kernel_rfl⟩
instance tf77_2 : TF Tryz.prog 77 2 2 := ⟨by kernel_rfl⟩
instance tf77_3 : TF Tryz.prog 77 3 3 := ⟨by kernel_rfl⟩
instance tf77_4 : TF Tryz.prog 77 4 4 := ⟨by kernel_rfl⟩
instance tf77_5 : TF Tryz.prog 77 5 7 := ⟨by kernel_rfl⟩
instance tf77_6 : TF Tryz.prog 77 6 8 := ⟨by kernel_rfl⟩
instance tf77_7 : TF Tryz.prog 77 7 9 := ⟨by kernel_rfl⟩
instance tf77_8 : TF Tryz.prog 77 8 10 := ⟨by kernel_rfl⟩
instance ti79 : TI Tryz.prog 79 true 21 344 := ⟨by kernel_rfl⟩
instance tf79_0 : TF Tryz.prog 79 0 0 := ⟨by kernel_rfl⟩
instance tf79_1 : TF Tryz.prog 79 1 1 := ⟨by kernel_rfl⟩
instance tf79_2 : TF Tryz.prog 79 2 2 := ⟨by kernel_rfl⟩
instance tf79_3 : TF Tryz.prog 79 3 3 := ⟨by kernel_rfl⟩
instance tf79_4 : TF Tryz.prog 79 4 4 := ⟨by kernel_rfl⟩
instance tf79_5 : TF Tryz.prog 79 5 5 := ⟨by kernel_rfl⟩
instance tf79_6 : TF Tryz.prog 79 6 6 := ⟨by kernel_rfl⟩
instance tf79_7 : TF Tryz.prog 79 7 7 := ⟨by kernel_rfl⟩
instance tf79_8 : TF Tryz.prog 79 8 10 := ⟨by kernel_rfl⟩
instance ti82 : TI Tryz.prog 82 false 1 24 := ⟨by kernel_rfl⟩
instance te82 : TE Tryz.prog 82 84 := ⟨by kernel_rfl⟩
instance ti84 : TI Tryz.prog 84 true 3 48 := ⟨by kernel_rfl⟩
instance tf84_0 : TF Tryz.prog 84 0 0 := ⟨by kernel_rfl⟩
instance tf84_1 : TF Tryz.prog 84 1 1 := ⟨by kernel_rfl⟩
instance tf84_2 : TF Tryz.prog 84 2 2 := ⟨by kernel_rfl⟩
instance tz84 : TZ Tryz.prog 84 [.int .i64 0, .string ⟨#[]⟩, .slice none 0 0] := ⟨by kernel_rfl⟩
instance ti85 : TI Tryz.prog 85 false 1 24 := ⟨by kernel_rfl⟩
instance te85 : TE Tryz.prog 85 180 := ⟨by kernel_rfl⟩
instance ti86 : TI Tryz.prog 86 false 1 24 := ⟨by kernel_rfl⟩
instance te86 : TE Tryz.prog 86 160 := ⟨by kernel_rfl⟩
instance ti88 : TI Tryz.prog 88 true 12 192 := ⟨by kernel_rfl⟩
instance tf88_0 : TF Tryz.prog 88 0 0 := ⟨by kernel_rfl⟩
instance tf88_1 : TF Tryz.prog 88 1 1 := ⟨by kernel_rfl⟩
instance tf88_2 : TF Tryz.prog 88 2 2 := ⟨by kernel_rfl⟩
instance tf88_3 : TF Tryz.prog 88 3 5 := ⟨by kernel_rfl⟩
instance tf88_4 : TF Tryz.prog 88 4 6 := ⟨by kernel_rfl⟩
instance tf88_5 : TF Tryz.prog 88 5 7 := ⟨by kernel_rfl⟩
instance tf88_6 : TF Tryz.prog 88 6 8 := ⟨by kernel_rfl⟩
instance tf88_7 : TF Tryz.prog 88 7 11 := ⟨by kernel_rfl⟩
instance tbd88 : TBd Tryz.prog 88 := ⟨by kernel_rfl⟩
instance tz88 : TZ Tryz.prog 88 [.string ⟨#[]⟩, .slice none 0 0, .int .i64 0, .string ⟨#[]⟩, .slice none 0 0, .slice none 0 0, .bool false, .bool false, .int .i64 0, .string ⟨#[]⟩, .slice none 0 0, .slice none 0 0] := ⟨by kernel_rfl⟩
instance ti95 : TI Tryz.prog 95 false 1 24 := ⟨by kernel_rfl⟩
instance te95 : TE Tryz.prog 95 182 := ⟨by kernel_rfl⟩
instance ti96 : TI Tryz.prog 96 false 1 24 := ⟨by kernel_rfl⟩
instance te96 : TE Tryz.prog 96 185 := ⟨by kernel_rfl⟩
instance ti97 : TI Tryz.prog 97 false 1 24 := ⟨by kernel_rfl⟩
instance te97 : TE Tryz.prog 97 100 := ⟨by kernel_rfl⟩
instance ti98 : TI Tryz.prog 98 false 1 24 := ⟨by kernel_rfl⟩
instance te98 : TE Tryz.prog 98 187 := ⟨by kernel_rfl⟩
instance ti100 : TI Tryz.prog 100 true 11 192 := ⟨by kernel_rfl⟩
instance tf100_0 : TF Tryz.prog 100 0 0 := ⟨by kernel_rfl⟩
instance tf100_1 : TF Tryz.prog 100 1 1 := ⟨by kernel_rfl⟩
instance tf100_2 : TF Tryz.prog 100 2 2 := ⟨by kernel_rfl⟩
instance tf100_3 : TF Tryz.prog 100 3 3 := ⟨by kernel_rfl⟩
instance tf100_4 : TF Tryz.prog 100 4 4 := ⟨by kernel_rfl⟩
instance tf100_5 : TF Tryz.prog 100 5 7 := ⟨by kernel_rfl⟩
instance tf100_6 : TF Tryz.prog 100 6 8 := ⟨by kernel_rfl⟩
instance tf100_7 : TF Tryz.prog 100 7 9 := ⟨by kernel_rfl⟩
instance tf100_8 : TF Tryz.prog 100 8 10 := ⟨by kernel_rfl⟩
instance tz100 : TZ Tryz.prog 100 [.int .i64 0, .string ⟨#[]⟩, .string ⟨#[]⟩, .int .i64 0, .int .i64 0, .string ⟨#[]⟩, .slice none 0 0, .slice none 0 0, .slice none 0 0, .slice none 0 0, .slice none 0 0] := ⟨by kernel_rfl⟩
instance ti102 : TI Tryz.prog 102 true 21 344 := ⟨by kernel_rfl⟩
instance tf102_0 : TF Tryz.prog 102 0 0 := ⟨by kernel_rfl⟩
instance tf102_1 : TF Tryz.prog 102 1 1 := ⟨by kernel_rfl⟩
instance tf102_2 : TF Tryz.prog 102 2 2 := ⟨by kernel_rfl⟩
instance tf102_3 : TF Tryz.prog 102 3 3 := ⟨by kernel_rfl⟩
instance tf102_4 : TF Tryz.prog 102 4 4 := ⟨by kernel_rfl⟩
instance tf102_5 : TF Tryz.prog 102 5 5 := ⟨by kernel_rfl⟩
instance tf102_6 : TF Tryz.prog 102 6 6 := ⟨by kernel_rfl⟩
instance tf102_7 : TF Tryz.prog 102 7 7 := ⟨by kernel_rfl⟩
instance tf102_8 : TF Tryz.prog 102 8 10 := ⟨by kernel_rfl⟩
instance tz102 : TZ Tryz.prog 102 [.int .i64 0, .int .i64 0, .int .i64 0, .int .i64 0, .slice none 0 0, .slice none 0 0, .slice none 0 0, .int .i64 0, .string ⟨#[]⟩, .slice none 0 0, .int .i64 0, .string ⟨#[]⟩, .string ⟨#[]⟩, .int .i64 0, .int .i64 0, .string ⟨#[]⟩, .slice none 0 0, .slice none 0 0, .slice none 0 0, .slice none 0 0, .slice none 0 0] := ⟨by kernel_rfl⟩
instance ti110 : TI Tryz.prog 110 false 1 24 := ⟨by kernel_rfl⟩
instance te110 : TE Tryz.prog 110 120 := ⟨by kernel_rfl⟩
instance ti112 : TI Tryz.prog 112 true 5 72 := ⟨by kernel_rfl⟩
instance tf112_0 : TF Tryz.prog 112 0 0 := ⟨by kernel_rfl⟩
instance tf112_1 : TF Tryz.prog 112 1 1 := ⟨by kernel_rfl⟩
instance tf112_2 : TF Tryz.prog 112 2 2 := ⟨by kernel_rfl⟩
instance tf112_3 : TF Tryz.prog 112 3 3 := ⟨by kernel_rfl⟩
instance tf112_4 : TF Tryz.prog 112 4 4 := ⟨by kernel_rfl⟩
instance tbd112 : TBd Tryz.prog 112 := ⟨by kernel_rfl⟩
instance tz112 : TZ Tryz.prog 112 [.string ⟨#[]⟩, .slice none 0 0, .bool false, .bool false, .slice none 0 0] := ⟨by kernel_rfl⟩
instance ti115 : TI Tryz.prog 115 false 1 24 := ⟨by kernel_rfl⟩
instance te115 : TE Tryz.prog 115 118 := ⟨by kernel_rfl⟩
instance ti116 : TI Tryz.prog 116 false 1 24 := ⟨by kernel_rfl⟩
instance te116 : TE Tryz.prog 116 271 := ⟨by kernel_rfl⟩
instance ti118 : TI Tryz.prog 118 true 9 144 := ⟨by kernel_rfl⟩
instance tf118_0 : TF Tryz.prog 118 0 0 := ⟨by kernel_rfl⟩
instance tf118_1 : TF Tryz.prog 118 1 1 := ⟨by kernel_rfl⟩
instance tf118_2 : TF Tryz.prog 118 2 2 := ⟨by kernel_rfl⟩
instance tf118_3 : TF Tryz.prog 118 3 3 := ⟨by kernel_rfl⟩
instance tf118_4 : TF Tryz.prog 118 4 4 := ⟨by kernel_rfl⟩
instance tf118_5 : TF Tryz.prog 118 5 7 := ⟨by kernel_rfl⟩
instance tf118_6 : TF Tryz.prog 118 6 8 := ⟨by kernel_rfl⟩
instance tz118 : TZ Tryz.prog 118 [.int .i64 0, .string ⟨#[]⟩, .string ⟨#[]⟩, .int .i64 0, .int .i64 0, .string ⟨#[]⟩, .slice none 0 0, .slice none 0 0, .slice none 0 0] := ⟨by kernel_rfl⟩
instance ti120 : TI Tryz.prog 120 true 16 264 := ⟨by kernel_rfl⟩
instance tf120_0 : TF Tryz.prog 120 0 0 := ⟨by kernel_rfl⟩
instance tf120_1 : TF Tryz.prog 120 1 1 := ⟨by kernel_rfl⟩
instance tf120_2 : TF Tryz.prog 120 2 2 := ⟨by kernel_rfl⟩
instance tf120_3 : TF Tryz.prog 120 3 5 := ⟨by kernel_rfl⟩
instance tf120_4 : TF Tryz.prog 120 4 6 := ⟨by kernel_rfl⟩
instance tf120_5 : TF Tryz.prog 120 5 7 := ⟨by kernel_rfl⟩
instance tbd120 : TBd Tryz.prog 120 := ⟨by kernel_rfl⟩
instance tz120 : TZ Tryz.prog 120 [.string ⟨#[]⟩, .slice none 0 0, .int .i64 0, .string ⟨#[]⟩, .slice none 0 0, .bool false, .slice none 0 0, .int .i64 0, .string ⟨#[]⟩, .string ⟨#[]⟩, .int .i64 0, .int .i64 0, .string ⟨#[]⟩, .slice none 0 0, .slice none 0 0, .slice none 0 0] := ⟨by kernel_rfl⟩
instance ti123 : TI Tryz.prog 123 false 1 24 := ⟨by kernel_rfl⟩
instance te123 : TE Tryz.prog 123 112 := ⟨by kernel_rfl⟩
instance ti124 : TI Tryz.prog 124 false 1 24 := ⟨by kernel_rfl⟩
instance te124 : TE Tryz.prog 124 195 := ⟨by kernel_rfl⟩
instance ti125 : TI Tryz.prog 125 false 1 24 := ⟨by kernel_rfl⟩
instance te125 : TE Tryz.prog 125 88 := ⟨by kernel_rfl⟩
instance ti126 : TI Tryz.prog 126 false 1 24 := ⟨by kernel_rfl⟩
instance te126 : TE Tryz.prog 126 199 := ⟨by kernel_rfl⟩
instance ti128 : TI Tryz.prog 128 true 6 136 := ⟨by kernel_rfl⟩
instance tf128_0 : TF Tryz.prog 128 0 0 := ⟨by kernel_rfl⟩
instance tf128_1 : TF Tryz.prog 128 1 1 := ⟨by kernel_rfl⟩
instance tf128_2 : TF Tryz.prog 128 2 2 := ⟨by kernel_rfl⟩
instance tf128_3 : TF Tryz.prog 128 3 3 := ⟨by kernel_rfl⟩
instance tf128_4 : TF Tryz.prog 128 4 4 := ⟨by kernel_rfl⟩
instance tf128_5 : TF Tryz.prog 128 5 5 := ⟨by kernel_rfl⟩
instance tz128 : TZ Tryz.prog 128 [.string ⟨#[]⟩, .slice none 0 0, .slice none 0 0, .slice none 0 0, .slice none 0 0, .slice none 0 0] := ⟨by kernel_rfl⟩
instance ti141 : TI Tryz.prog 141 false 1 24 := ⟨by kernel_rfl⟩
instance te141 : TE Tryz.prog 141 239 := ⟨by kernel_rfl⟩
instance ti142 : TI Tryz.prog 142 false 1 24 := ⟨by kernel_rfl⟩
instance te142 : TE Tryz.prog 142 243 := ⟨by kernel_rfl⟩
instance ti143 : TI Tryz.prog 143 false 1 24 := ⟨by kernel_rfl⟩
instance te143 : TE Tryz.prog 143 247 := ⟨by kernel_rfl⟩
instance ti144 : TI Tryz.prog 144 false 1 24 := ⟨by kernel_rfl⟩
instance te144 : TE Tryz.prog 144 254 := ⟨by kernel_rfl⟩
instance ti146 : TI Tryz.prog 146 true 6 136 := ⟨by kernel_rfl⟩
instance tf146_0 : TF Tryz.prog 146 0 0 := ⟨by kernel_rfl⟩
instance tf146_1 : TF Tryz.prog 146 1 1 := ⟨by kernel_rfl⟩
instance tf146_2 : TF Tryz.prog 146 2 2 := ⟨by kernel_rfl⟩
instance tf146_3 : TF Tryz.prog 146 3 3 := ⟨by kernel_rfl⟩
instance tf146_4 : TF Tryz.prog 146 4 4 := ⟨by kernel_rfl⟩
instance tf146_5 : TF Tryz.prog 146 5 5 := ⟨by kernel_rfl⟩
instance ti160 : TI Tryz.prog 160 true 11 184 := ⟨by kernel_rfl⟩
instance tf160_0 : TF Tryz.prog 160 0 0 := ⟨by kernel_rfl⟩
instance tf160_1 : TF Tryz.prog 160 1 1 := ⟨by kernel_rfl⟩
instance tf160_2 : TF Tryz.prog 160 2 2 := ⟨by kernel_rfl⟩
instance tz160 : TZ Tryz.prog 160 [.string ⟨#[]⟩, .slice none 0 0, .int .i64 0, .string ⟨#[]⟩, .string ⟨#[]⟩, .int .i64 0, .int .i64 0, .string ⟨#[]⟩, .slice none 0 0, .slice none 0 0, .slice none 0 0] := ⟨by kernel_rfl⟩
instance ti180 : TI Tryz.prog 180 true 4 64 := ⟨by kernel_rfl⟩
instance tf180_0 : TF Tryz.prog 180 0 0 := ⟨by kernel_rfl⟩
instance tf180_1 : TF Tryz.prog 180 1 1 := ⟨by kernel_rfl⟩
instance tz180 : TZ Tryz.prog 180 [.string ⟨#[]⟩, .int .i64 0, .string ⟨#[]⟩, .slice none 0 0] := ⟨by kernel_rfl⟩
instance ti182 : TI Tryz.prog 182 true 4 64 := ⟨by kernel_rfl⟩
instance tf182_0 : TF Tryz.prog 182 0 0 := ⟨by kernel_rfl⟩
instance tf182_1 : TF Tryz.prog 182 1 1 := ⟨by kernel_rfl⟩
instance tz182 : TZ Tryz.prog 182 [.string ⟨#[]⟩, .int .i64 0, .string ⟨#[]⟩, .slice none 0 0] := ⟨by kernel_rfl⟩
instance te183 : TE Tryz.prog 183 5 := ⟨by kernel_rfl⟩
instance ti185 : TI Tryz.prog 185 true 5 56 := ⟨by kernel_rfl⟩
instance tf185_0 : TF Tryz.prog 185 0 0 := ⟨by kernel_rfl⟩
instance tf185_1 : TF Tryz.prog 185 1 1 := ⟨by kernel_rfl⟩
instance tf185_2 : TF Tryz.prog 185 2 2 := ⟨by kernel_rfl⟩
instance tf185_3 : TF Tryz.prog 185 3 4 := ⟨by kernel_rfl⟩
instance tz185 : TZ Tryz.prog 185 [.int .i64 0, .int .i64 0, .int .i64 0, .int .i64 0, .slice none 0 0] := ⟨by kernel_rfl⟩
instance ti187 : TI Tryz.prog 187 true 13 232 := ⟨by kernel_rfl⟩
instance tf187_0 : TF Tryz.prog 187 0 0 := ⟨by kernel_rfl⟩
instance tf187_1 : TF Tryz.prog 187 1 1 := ⟨by kernel_rfl⟩
instance tf187_2 : TF Tryz.prog 187 2 2 := ⟨by kernel_rfl⟩
instance tz187 : TZ Tryz.prog 187 [.string ⟨#[]⟩, .slice none 0 0, .int .i64 0, .string ⟨#[]⟩, .string ⟨#[]⟩, .int .i64 0, .int .i64 0, .string ⟨#[]⟩, .slice none 0 0, .slice none 0 0, .slice none 0 0, .slice none 0 0, .slice none 0 0] := ⟨by kernel_rfl⟩
instance ti193 : TI Tryz.prog 193 false 1 24 := ⟨by kernel_rfl⟩
instance te193 : TE Tryz.prog 193 257 := ⟨by kernel_rfl⟩
instance ti195 : TI Tryz.prog 195 true 3 64 := ⟨by kernel_rfl⟩
instance tf195_0 : TF Tryz.prog 195 0 0 := ⟨by kernel_rfl⟩
instance tf195_1 : TF Tryz.prog 195 1 1 := ⟨by kernel_rfl⟩
instance tf195_2 : TF Tryz.prog 195 2 2 := ⟨by kernel_rfl⟩
instance tz195 : TZ Tryz.prog 195 [.string ⟨#[]⟩, .slice none 0 0, .slice none 0 0] := ⟨by kernel_rfl⟩
instance ti199 : TI Tryz.prog 199 true 16 280 := ⟨by kernel_rfl⟩
instance tf199_0 : TF Tryz.prog 199 0 0 := ⟨by kernel_rfl⟩
instance tf199_1 : TF Tryz.prog 199 1 1 := ⟨by kernel_rfl⟩
instance tf199_2 : TF Tryz.prog 199 2 2 := ⟨by kernel_rfl⟩
instance tf199_3 : TF Tryz.prog 199 3 3 := ⟨by kernel_rfl⟩
instance tf199_4 : TF Tryz.prog 199 4 4 := ⟨by kernel_rfl⟩
instance tf199_5 : TF Tryz.prog 199 5 7 := ⟨by kernel_rfl⟩
instance tz199 : TZ Tryz.prog 199 [.string ⟨#[]⟩, .slice none 0 0, .slice none 0 0, .slice none 0 0, .int .i64 0, .string ⟨#[]⟩, .slice none 0 0, .int .i64 0, .string ⟨#[]⟩, .string ⟨#[]⟩, .int .i64 0, .int .i64 0, .string ⟨#[]⟩, .slice none 0 0, .slice none 0 0, .slice none 0 0] := ⟨by kernel_rfl⟩
instance ti216 : TI Tryz.prog 216 true 4 64 := ⟨by kernel_rfl⟩
instance tf216_0 : TF Tryz.prog 216 0 0 := ⟨by kernel_rfl⟩
instance tf216_1 : TF Tryz.prog 216 1 1 := ⟨by kernel_rfl⟩
instance ti219 : TI Tryz.prog 219 true 4 64 := ⟨by kernel_rfl⟩
instance tf219_0 : TF Tryz.prog 219 0 0 := ⟨by kernel_rfl⟩
instance tf219_1 : TF Tryz.prog 219 1 1 := ⟨by kernel_rfl⟩
instance ti237 : TI Tryz.prog 237 false 1 24 := ⟨by kernel_rfl⟩
instance te237 : TE Tryz.prog 237 297 := ⟨by kernel_rfl⟩
instance ti239 : TI Tryz.prog 239 true 5 72 := ⟨by kernel_rfl⟩
instance tf239_0 : TF Tryz.prog 239 0 0 := ⟨by kernel_rfl⟩
instance tf239_1 : TF Tryz.prog 239 1 1 := ⟨by kernel_rfl⟩
instance tf239_2 : TF Tryz.prog 239 2 2 := ⟨by kernel_rfl⟩
instance tf239_3 : TF Tryz.prog 239 3 3 := ⟨by kernel_rfl⟩
instance tf239_4 : TF Tryz.prog 239 4 4 := ⟨by kernel_rfl⟩
instance ti241 : TI Tryz.prog 241 false 1 24 := ⟨by kernel_rfl⟩
instance te241 : TE Tryz.prog 241 300 := ⟨by kernel_rfl⟩
instance ti243 : TI Tryz.prog 243 true 3 64 := ⟨by kernel_rfl⟩
instance tf243_0 : TF Tryz.prog 243 0 0 := ⟨by kernel_rfl⟩
instance tf243_1 : TF Tryz.prog 243 1 1 := ⟨by kernel_rfl⟩
instance tf243_2 : TF Tryz.prog 243 2 2 := ⟨by kernel_rfl⟩
instance ti245 : TI Tryz.prog 245 false 1 24 := ⟨by kernel_rfl⟩
instance te245 : TE Tryz.prog 245 303 := ⟨by kernel_rfl⟩
instance ti247 : TI Tryz.prog 247 true 12 192 := ⟨by kernel_rfl⟩
instance tf247_0 : TF Tryz.prog 247 0 0 := ⟨by kernel_rfl⟩
instance tf247_1 : TF Tryz.prog 247 1 1 := ⟨by kernel_rfl⟩
instance tf247_2 : TF Tryz.prog 247 2 2 := ⟨by kernel_rfl⟩
instance tf247_3 : TF Tryz.prog 247 3 5 := ⟨by kernel_rfl⟩
instance tf247_4 : TF Tryz.prog 247 4 6 := ⟨by kernel_rfl⟩
instance tf247_5 : TF Tryz.prog 247 5 7 := ⟨by kernel_rfl⟩
instance tf247_6 : TF Tryz.prog 247 6 8 := ⟨by kernel_rfl⟩
instance tf247_7 : TF Tryz.prog 247 7 11 := ⟨by kernel_rfl⟩
instance ti249 : TI Tryz.prog 249 false 1 24 := ⟨by kernel_rfl⟩
instance te249 : TE Tryz.prog 249 252 := ⟨by kernel_rfl⟩
instance ti250 : TI Tryz.prog 250 false 1 24 := ⟨by kernel_rfl⟩
instance te250 : TE Tryz.prog 250 318 := ⟨by kernel_rfl⟩
instance ti252 : TI Tryz.prog 252 true 9 144 := ⟨by kernel_rfl⟩
instance tf252_0 : TF Tryz.prog 252 0 0 := ⟨by kernel_rfl⟩
instance tf252_1 : TF Tryz.prog 252 1 1 := ⟨by kernel_rfl⟩
instance tf252_2 : TF Tryz.prog 252 2 2 := ⟨by kernel_rfl⟩
instance tf252_3 : TF Tryz.prog 252 3 3 := ⟨by kernel_rfl⟩
instance tf252_4 : TF Tryz.prog 252 4 4 := ⟨by kernel_rfl⟩
instance tf252_5 : TF Tryz.prog 252 5 7 := ⟨by kernel_rfl⟩
instance tf252_6 : TF Tryz.prog 252 6 8 := ⟨by kernel_rfl⟩
instance ti254 : TI Tryz.prog 254 true 16 280 := ⟨by kernel_rfl⟩
instance tf254_0 : TF Tryz.prog 254 0 0 := ⟨by kernel_rfl⟩
instance tf254_1 : TF Tryz.prog 254 1 1 := ⟨by kernel_rfl⟩
instance tf254_2 : TF Tryz.prog 254 2 2 := ⟨by kernel_rfl⟩
instance tf254_3 : TF Tryz.prog 254 3 3 := ⟨by kernel_rfl⟩
instance tf254_4 : TF Tryz.prog 254 4 4 := ⟨by kernel_rfl⟩
instance tf254_5 : TF Tryz.prog 254 5 7 := ⟨by kernel_rfl⟩
instance ti257 : TI Tryz.prog 257 true 2 40 := ⟨by kernel_rfl⟩
instance tf257_0 : TF Tryz.prog 257 0 0 := ⟨by kernel_rfl⟩
instance tf257_1 : TF Tryz.prog 257 1 1 := ⟨by kernel_rfl⟩
instance tz257 : TZ Tryz.prog 257 [.string ⟨#[]⟩, .slice none 0 0] := ⟨by kernel_rfl⟩
instance ti271 : TI Tryz.prog 271 true 11 184 := ⟨by kernel_rfl⟩
instance tf271_0 : TF Tryz.prog 271 0 0 := ⟨by kernel_rfl⟩
instance tf271_1 : TF Tryz.prog 271 1 1 := ⟨by kernel_rfl⟩
instance tf271_2 : TF Tryz.prog 271 2 2 := ⟨by kernel_rfl⟩
instance tz271 : TZ Tryz.prog 271 [.string ⟨#[]⟩, .slice none 0 0, .int .i64 0, .string ⟨#[]⟩, .string ⟨#[]⟩, .int .i64 0, .int .i64 0, .string ⟨#[]⟩, .slice none 0 0, .slice none 0 0, .slice none 0 0] := ⟨by kernel_rfl⟩
instance ti274 : TI Tryz.prog 274 true 5 56 := ⟨by kernel_rfl⟩
instance tf274_0 : TF Tryz.prog 274 0 0 := ⟨by kernel_rfl⟩
instance tf274_1 : TF Tryz.prog 274 1 1 := ⟨by kernel_rfl⟩
instance tf274_2 : TF Tryz.prog 274 2 2 := ⟨by kernel_rfl⟩
instance tf274_3 : TF Tryz.prog 274 3 4 := ⟨by kernel_rfl⟩
instance ti277 : TI Tryz.prog 277 true 13 232 := ⟨by kernel_rfl⟩
instance tf277_0 : TF Tryz.prog 277 0 0 := ⟨by kernel_rfl⟩
instance tf277_1 : TF Tryz.prog 277 1 1 := ⟨by kernel_rfl⟩
instance tf277_2 : TF Tryz.prog 277 2 2 := ⟨by kernel_rfl⟩
instance ti297 : TI Tryz.prog 297 true 16 264 := ⟨by kernel_rfl⟩
instance tf297_0 : TF Tryz.prog 297 0 0 := ⟨by kernel_rfl⟩
instance tf297_1 : TF Tryz.prog 297 1 1 := ⟨by kernel_rfl⟩
instance tf297_2 : TF Tryz.prog 297 2 2 := ⟨by kernel_rfl⟩
instance tf297_3 : TF Tryz.prog 297 3 5 := ⟨by kernel_rfl⟩
instance tf297_4 : TF Tryz.prog 297 4 6 := ⟨by kernel_rfl⟩
instance tf297_5 : TF Tryz.prog 297 5 7 := ⟨by kernel_rfl⟩
instance ti300 : TI Tryz.prog 300 true 2 40 := ⟨by kernel_rfl⟩
instance tf300_0 : TF Tryz.prog 300 0 0 := ⟨by kernel_rfl⟩
instance tf300_1 : TF Tryz.prog 300 1 1 := ⟨by kernel_rfl⟩
instance ti303 : TI Tryz.prog 303 true 11 184 := ⟨by kernel_rfl⟩
instance tf303_0 : TF Tryz.prog 303 0 0 := ⟨by kernel_rfl⟩
instance tf303_1 : TF Tryz.prog 303 1 1 := ⟨by kernel_rfl⟩
instance tf303_2 : TF Tryz.prog 303 2 2 := ⟨by kernel_rfl⟩
instance ti318 : TI Tryz.prog 318 true 11 184 := ⟨by kernel_rfl⟩
instance tf318_0 : TF Tryz.prog 318 0 0 := ⟨by kernel_rfl⟩
instance tf318_1 : TF Tryz.prog 318 1 1 := ⟨by kernel_rfl⟩
instance tf318_2 : TF Tryz.prog 318 2 2 := ⟨by kernel_rfl⟩
def tmS : TypeId → Option Sh
  | 3 => some (.int)
  | 4 => some (.bool)
  | 9 => some (.str)
  | 22 => some (.sl (.st 14))
  | 24 => some (.st 15)
  | 26 => some (.sl (.st 14))
  | 28 => some (.st 15)
  | 34 => some (.sl (.st 25))
  | 36 => some (.st 16)
  | 37 => some (.sl (.int))
  | 38 => some (.sl (.st 26))
  | 40 => some (.st 26)
  | 43 => some (.sl (.st 26))
  | 46 => some (.sl (.st 25))
  | 48 => some (.st 16)
  | 50 => some (.st 26)
  | 67 => some (.sl (.str))
  | 68 => some (.sl (.st 9))
  | 69 => some (.sl (.st 12))
  | 70 => some (.sl (.st 1))
  | 72 => some (.st 1)
  | 73 => some (.sl (.st 18))
  | 74 => some (.sl (.st 21))
  | 75 => some (.sl (.st 20))
  | 77 => some (.st 21)
  | 79 => some (.st 25)
  | 82 => some (.sl (.st 1))
  | 84 => some (.st 1)
  | 85 => some (.sl (.st 9))
  | 86 => some (.sl (.st 10))
  | 88 => some (.st 11)
  | 95 => some (.sl (.st 12))
  | 96 => some (.sl (.st 18))
  | 97 => some (.sl (.st 21))
  | 98 => some (.sl (.st 20))
  | 100 => some (.st 21)
  | 102 => some (.st 25)
  | 110 => some (.sl (.st 5))
  | 112 => some (.st 6)
  | 115 => some (.sl (.st 4))
  | 116 => some (.sl (.st 3))
  | 118 => some (.st 4)
  | 120 => some (.st 5)
  | 123 => some (.sl (.st 6))
  | 124 => some (.sl (.st 8))
  | 125 => some (.sl (.st 11))
  | 126 => some (.sl (.st 13))
  | 128 => some (.st 14)
  | 141 => some (.sl (.st 6))
  | 142 => some (.sl (.st 8))
  | 143 => some (.sl (.st 11))
  | 144 => some (.sl (.st 13))
  | 146 => some (.st 14)
  | 160 => some (.st 10)
  | 180 => some (.st 9)
  | 182 => some (.st 12)
  | 185 => some (.st 18)
  | 187 => some (.st 20)
  | 193 => some (.sl (.st 7))
  | 195 => some (.st 8)
  | 199 => some (.st 13)
  | 216 => some (.st 9)
  | 219 => some (.st 12)
  | 237 => some (.sl (.st 5))
  | 239 => some (.st 6)
  | 241 => some (.sl (.st 7))
  | 243 => some (.st 8)
  | 245 => some (.sl (.st 10))
  | 247 => some (.st 11)
  | 249 => some (.sl (.st 4))
  | 250 => some (.sl (.st 3))
  | 252 => some (.st 4)
  | 254 => some (.st 13)
  | 257 => some (.st 7)
  | 271 => some (.st 3)
  | 274 => some (.st 18)
  | 277 => some (.st 20)
  | 297 => some (.st 5)
  | 300 => some (.st 7)
  | 303 => some (.st 10)
  | 318 => some (.st 3)
  | _ => none
theorem tmk3 : tmOk Tryz.prog tmS 3 (.int) := Tryz.underlying3
theorem tmk4 : tmOk Tryz.prog tmS 4 (.bool) := Tryz.underlying4
theorem tmk9 : tmOk Tryz.prog tmS 9 (.str) := Tryz.underlying9
theorem tmk22 : tmOk Tryz.prog tmS 22 (.sl (.st 14)) := ⟨146, Tryz.underlying22, rfl, by kernel_rfl, by decide, by decide +kernel⟩
theorem tmk24 : tmOk Tryz.prog tmS 24 (.st 15) := ⟨_, Tryz.underlying24, by kernel_rfl, And.intro rfl (And.intro rfl (And.intro (by kernel_rfl) (trivial)))⟩
theorem tmk26 : tmOk Tryz.prog tmS 26 (.sl (.st 14)) := ⟨128, Tryz.underlying26, rfl, by kernel_rfl, by decide, by decide +kernel⟩
theorem tmk28 : tmOk Tryz.prog tmS 28 (.st 15) := ⟨_, Tryz.underlying28, by kernel_rfl, And.intro rfl (And.intro rfl (And.intro (by kernel_rfl) (trivial)))⟩
theorem tmk34 : tmOk Tryz.prog tmS 34 (.sl (.st 25)) := ⟨79, Tryz.underlying34, rfl, by kernel_rfl, by decide, by decide +kernel⟩
theorem tmk36 : tmOk Tryz.prog tmS 36 (.st 16) := ⟨_, Tryz.underlying36, by kernel_rfl, And.intro rfl (And.intro rfl (And.intro (by kernel_rfl) (And.intro rfl (And.intro rfl (And.intro (by kernel_rfl) (trivial))))))⟩
theorem tmk37 : tmOk Tryz.prog tmS 37 (.sl (.int)) := ⟨3, Tryz.underlying37, rfl, by kernel_rfl, by decide, by decide +kernel⟩
theorem tmk38 : tmOk Tryz.prog tmS 38 (.sl (.st 26)) := ⟨40, Tryz.underlying38, rfl, by kernel_rfl, by decide, by decide +kernel⟩
theorem tmk40 : tmOk Tryz.prog tmS 40 (.st 26) := ⟨_, Tryz.underlying40, by kernel_rfl, And.intro rfl (And.intro rfl (And.intro (by kernel_rfl) (And.intro rfl (And.intro rfl (And.intro (by kernel_rfl) (And.intro rfl (And.intro rfl (And.intro (by kernel_rfl) (And.intro rfl (And.intro rfl (And.intro (by kernel_rfl) (trivial))))))))))))⟩
theorem tmk43 : tmOk Tryz.prog tmS 43 (.sl (.st 26)) := ⟨50, Tryz.underlying43, rfl, by kernel_rfl, by decide, by decide +kernel⟩
theorem tmk46 : tmOk Tryz.prog tmS 46 (.sl (.st 25)) := ⟨102, Tryz.underlying46, rfl, by kernel_rfl, by decide, by decide +kernel⟩
theorem tmk48 : tmOk Tryz.prog tmS 48 (.st 16) := ⟨_, Tryz.underlying48, by kernel_rfl, And.intro rfl (And.intro rfl (And.intro (by kernel_rfl) (And.intro rfl (And.intro rfl (And.intro (by kernel_rfl) (trivial))))))⟩
theorem tmk50 : tmOk Tryz.prog tmS 50 (.st 26) := ⟨_, Tryz.underlying50, by kernel_rfl, And.intro rfl (And.intro rfl (And.intro (by kernel_rfl) (And.intro rfl (And.intro rfl (And.intro (by kernel_rfl) (And.intro rfl (And.intro rfl (And.intro (by kernel_rfl) (And.intro rfl (And.intro rfl (And.intro (by kernel_rfl) (trivial))))))))))))⟩
theorem tmk67 : tmOk Tryz.prog tmS 67 (.sl (.str)) := ⟨9, Tryz.underlying67, rfl, by kernel_rfl, by decide, by decide +kernel⟩
theorem tmk68 : tmOk Tryz.prog tmS 68 (.sl (.st 9)) := ⟨216, Tryz.underlying68, rfl, by kernel_rfl, by decide, by decide +kernel⟩
theorem tmk69 : tmOk Tryz.prog tmS 69 (.sl (.st 12)) := ⟨219, Tryz.underlying69, rfl, by kernel_rfl, by decide, by decide +kernel⟩
theorem tmk70 : tmOk Tryz.prog tmS 70 (.sl (.st 1)) := ⟨72, Tryz.underlying70, rfl, by kernel_rfl, by decide, by decide +kernel⟩
theorem tmk72 : tmOk Tryz.prog tmS 72 (.st 1) := ⟨_, Tryz.underlying72, by kernel_rfl, And.intro rfl (And.intro rfl (And.intro (by kernel_rfl) (And.intro rfl (And.intro rfl (And.intro (by kernel_rfl) (And.intro rfl (And.intro rfl (And.intro (by kernel_rfl) (trivial)))))))))⟩
theorem tmk73 : tmOk Tryz.prog tmS 73 (.sl (.st 18)) := ⟨274, Tryz.underlying73, rfl, by kernel_rfl, by decide, by decide +kernel⟩
theorem tmk74 : tmOk Tryz.prog tmS 74 (.sl (.st 21)) := ⟨77, Tryz.underlying74, rfl, by kernel_rfl, by decide, by decide +kernel⟩
theorem tmk75 : tmOk Tryz.prog tmS 75 (.sl (.st 20)) := ⟨277, Tryz.underlying75, rfl, by kernel_rfl, by decide, by decide +kernel⟩
theorem tmk77 : tmOk Tryz.prog tmS 77 (.st 21) := ⟨_, Tryz.underlying77, by kernel_rfl, And.intro rfl (And.intro rfl (And.intro (by kernel_rfl) (And.intro rfl (And.intro rfl (And.intro (by kernel_rfl) (And.intro rfl (And.intro rfl (And.intro (by kernel_rfl) (And.intro rfl (And.intro rfl (And.intro (by kernel_rfl) (And.intro rfl (And.intro rfl (And.intro (by kernel_rfl) (And.intro rfl (And.intro rfl (And.intro (by kernel_rfl) (And.intro rfl (And.intro rfl (And.intro (by kernel_rfl) (And.intro rfl (And.intro rfl (And.intro (by kernel_rfl) (And.intro rfl (And.intro rfl (And.intro (by kernel_rfl) (trivial)))))))))))))))))))))))))))⟩
theorem tmk79 : tmOk Tryz.prog tmS 79 (.st 25) := ⟨_, Tryz.underlying79, by kernel_rfl, And.intro rfl (And.intro rfl (And.intro (by kernel_rfl) (And.intro rfl (And.intro rfl (And.intro (by kernel_rfl) (And.intro rfl (And.intro rfl (And.intro (by kernel_rfl) (And.intro rfl (And.intro rfl (And.intro (by kernel_rfl) (And.intro rfl (And.intro rfl (And.intro (by kernel_rfl) (And.intro rfl (And.intro rfl (And.intro (by kernel_rfl) (And.intro rfl (And.intro rfl (And.intro (by kernel_rfl) (And.intro rfl (And.intro rfl (And.intro (by kernel_rfl) (And.intro rfl (And.intro rfl (And.intro (by kernel_rfl) (trivial)))))))))))))))))))))))))))⟩
theorem tmk82 : tmOk Tryz.prog tmS 82 (.sl (.st 1)) := ⟨84, Tryz.underlying82, rfl, by kernel_rfl, by decide, by decide +kernel⟩
theorem tmk84 : tmOk Tryz.prog tmS 84 (.st 1) := ⟨_, Tryz.underlying84, by kernel_rfl, And.intro rfl (And.intro rfl (And.intro (by kernel_rfl) (And.intro rfl (And.intro rfl (And.intro (by kernel_rfl) (And.intro rfl (And.intro rfl (And.intro (by kernel_rfl) (trivial)))))))))⟩
theorem tmk85 : tmOk Tryz.prog tmS 85 (.sl (.st 9)) := ⟨180, Tryz.underlying85, rfl, by kernel_rfl, by decide, by decide +kernel⟩
theorem tmk86 : tmOk Tryz.prog tmS 86 (.sl (.st 10)) := ⟨160, Tryz.underlying86, rfl, by kernel_rfl, by decide, by decide +kernel⟩
theorem tmk88 : tmOk Tryz.prog tmS 88 (.st 11) := ⟨_, Tryz.underlying88, by kernel_rfl, And.intro rfl (And.intro rfl (And.intro (by kernel_rfl) (And.intro rfl (And.intro rfl (And.intro (by kernel_rfl) (And.intro rfl (And.intro rfl (And.intro (by kernel_rfl) (And.intro rfl (And.intro rfl (And.intro (by kernel_rfl) (And.intro rfl (And.intro rfl (And.intro (by kernel_rfl) (And.intro rfl (And.intro rfl (And.intro (by kernel_rfl) (And.intro rfl (And.intro rfl (And.intro (by kernel_rfl) (And.intro rfl (And.intro rfl (And.intro (by kernel_rfl) (trivial))))))))))))))))))))))))⟩
theorem tmk95 : tmOk Tryz.prog tmS 95 (.sl (.st 12)) := ⟨182, Tryz.underlying95, rfl, by kernel_rfl, by decide, by decide +kernel⟩
theorem tmk96 : tmOk Tryz.prog tmS 96 (.sl (.st 18)) := ⟨185, Tryz.underlying96, rfl, by kernel_rfl, by decide, by decide +kernel⟩
theorem tmk97 : tmOk Tryz.prog tmS 97 (.sl (.st 21)) := ⟨100, Tryz.underlying97, rfl, by kernel_rfl, by decide, by decide +kernel⟩
theorem tmk98 : tmOk Tryz.prog tmS 98 (.sl (.st 20)) := ⟨187, Tryz.underlying98, rfl, by kernel_rfl, by decide, by decide +kernel⟩
theorem tmk100 : tmOk Tryz.prog tmS 100 (.st 21) := ⟨_, Tryz.underlying100, by kernel_rfl, And.intro rfl (And.intro rfl (And.intro (by kernel_rfl) (And.intro rfl (And.intro rfl (And.intro (by kernel_rfl) (And.intro rfl (And.intro rfl (And.intro (by kernel_rfl) (And.intro rfl (And.intro rfl (And.intro (by kernel_rfl) (And.intro rfl (And.intro rfl (And.intro (by kernel_rfl) (And.intro rfl (And.intro rfl (And.intro (by kernel_rfl) (And.intro rfl (And.intro rfl (And.intro (by kernel_rfl) (And.intro rfl (And.intro rfl (And.intro (by kernel_rfl) (And.intro rfl (And.intro rfl (And.intro (by kernel_rfl) (trivial)))))))))))))))))))))))))))⟩
theorem tmk102 : tmOk Tryz.prog tmS 102 (.st 25) := ⟨_, Tryz.underlying102, by kernel_rfl, And.intro rfl (And.intro rfl (And.intro (by kernel_rfl) (And.intro rfl (And.intro rfl (And.intro (by kernel_rfl) (And.intro rfl (And.intro rfl (And.intro (by kernel_rfl) (And.intro rfl (And.intro rfl (And.intro (by kernel_rfl) (And.intro rfl (And.intro rfl (And.intro (by kernel_rfl) (And.intro rfl (And.intro rfl (And.intro (by kernel_rfl) (And.intro rfl (And.intro rfl (And.intro (by kernel_rfl) (And.intro rfl (And.intro rfl (And.intro (by kernel_rfl) (And.intro rfl (And.intro rfl (And.intro (by kernel_rfl) (trivial)))))))))))))))))))))))))))⟩
theorem tmk110 : tmOk Tryz.prog tmS 110 (.sl (.st 5)) := ⟨120, Tryz.underlying110, rfl, by kernel_rfl, by decide, by decide +kernel⟩
theorem tmk112 : tmOk Tryz.prog tmS 112 (.st 6) := ⟨_, Tryz.underlying112, by kernel_rfl, And.intro rfl (And.intro rfl (And.intro (by kernel_rfl) (And.intro rfl (And.intro rfl (And.intro (by kernel_rfl) (And.intro rfl (And.intro rfl (And.intro (by kernel_rfl) (And.intro rfl (And.intro rfl (And.intro (by kernel_rfl) (And.intro rfl (And.intro rfl (And.intro (by kernel_rfl) (trivial)))))))))))))))⟩
theorem tmk115 : tmOk Tryz.prog tmS 115 (.sl (.st 4)) := ⟨118, Tryz.underlying115, rfl, by kernel_rfl, by decide, by decide +kernel⟩
theorem tmk116 : tmOk Tryz.prog tmS 116 (.sl (.st 3)) := ⟨271, Tryz.underlying116, rfl, by kernel_rfl, by decide, by decide +kernel⟩
theorem tmk118 : tmOk Tryz.prog tmS 118 (.st 4) := ⟨_, Tryz.underlying118, by kernel_rfl, And.intro rfl (And.intro rfl (And.intro (by kernel_rfl) (And.intro rfl (And.intro rfl (And.intro (by kernel_rfl) (And.intro rfl (And.intro rfl (And.intro (by kernel_rfl) (And.intro rfl (And.intro rfl (And.intro (by kernel_rfl) (And.intro rfl (And.intro rfl (And.intro (by kernel_rfl) (And.intro rfl (And.intro rfl (And.intro (by kernel_rfl) (And.intro rfl (And.intro rfl (And.intro (by kernel_rfl) (trivial)))))))))))))))))))))⟩
theorem tmk120 : tmOk Tryz.prog tmS 120 (.st 5) := ⟨_, Tryz.underlying120, by kernel_rfl, And.intro rfl (And.intro rfl (And.intro (by kernel_rfl) (And.intro rfl (And.intro rfl (And.intro (by kernel_rfl) (And.intro rfl (And.intro rfl (And.intro (by kernel_rfl) (And.intro rfl (And.intro rfl (And.intro (by kernel_rfl) (And.intro rfl (And.intro rfl (And.intro (by kernel_rfl) (And.intro rfl (And.intro rfl (And.intro (by kernel_rfl) (trivial))))))))))))))))))⟩
theorem tmk123 : tmOk Tryz.prog tmS 123 (.sl (.st 6)) := ⟨112, Tryz.underlying123, rfl, by kernel_rfl, by decide, by decide +kernel⟩
theorem tmk124 : tmOk Tryz.prog tmS 124 (.sl (.st 8)) := ⟨195, Tryz.underlying124, rfl, by kernel_rfl, by decide, by decide +kernel⟩
theorem tmk125 : tmOk Tryz.prog tmS 125 (.sl (.st 11)) := ⟨88, Tryz.underlying125, rfl, by kernel_rfl, by decide, by decide +kernel⟩
theorem tmk126 : tmOk Tryz.prog tmS 126 (.sl (.st 13)) := ⟨199, Tryz.underlying126, rfl, by kernel_rfl, by decide, by decide +kernel⟩
theorem tmk128 : tmOk Tryz.prog tmS 128 (.st 14) := ⟨_, Tryz.underlying128, by kernel_rfl, And.intro rfl (And.intro rfl (And.intro (by kernel_rfl) (And.intro rfl (And.intro rfl (And.intro (by kernel_rfl) (And.intro rfl (And.intro rfl (And.intro (by kernel_rfl) (And.intro rfl (And.intro rfl (And.intro (by kernel_rfl) (And.intro rfl (And.intro rfl (And.intro (by kernel_rfl) (And.intro rfl (And.intro rfl (And.intro (by kernel_rfl) (trivial))))))))))))))))))⟩
theorem tmk141 : tmOk Tryz.prog tmS 141 (.sl (.st 6)) := ⟨239, Tryz.underlying141, rfl, by kernel_rfl, by decide, by decide +kernel⟩
theorem tmk142 : tmOk Tryz.prog tmS 142 (.sl (.st 8)) := ⟨243, Tryz.underlying142, rfl, by kernel_rfl, by decide, by decide +kernel⟩
theorem tmk143 : tmOk Tryz.prog tmS 143 (.sl (.st 11)) := ⟨247, Tryz.underlying143, rfl, by kernel_rfl, by decide, by decide +kernel⟩
theorem tmk144 : tmOk Tryz.prog tmS 144 (.sl (.st 13)) := ⟨254, Tryz.underlying144, rfl, by kernel_rfl, by decide, by decide +kernel⟩
theorem tmk146 : tmOk Tryz.prog tmS 146 (.st 14) := ⟨_, Tryz.underlying146, by kernel_rfl, And.intro rfl (And.intro rfl (And.intro (by kernel_rfl) (And.intro rfl (And.intro rfl (And.intro (by kernel_rfl) (And.intro rfl (And.intro rfl (And.intro (by kernel_rfl) (And.intro rfl (And.intro rfl (And.intro (by kernel_rfl) (And.intro rfl (And.intro rfl (And.intro (by kernel_rfl) (And.intro rfl (And.intro rfl (And.intro (by kernel_rfl) (trivial))))))))))))))))))⟩
theorem tmk160 : tmOk Tryz.prog tmS 160 (.st 10) := ⟨_, Tryz.underlying160, by kernel_rfl, And.intro rfl (And.intro rfl (And.intro (by kernel_rfl) (And.intro rfl (And.intro rfl (And.intro (by kernel_rfl) (And.intro rfl (And.intro rfl (And.intro (by kernel_rfl) (trivial)))))))))⟩
theorem tmk180 : tmOk Tryz.prog tmS 180 (.st 9) := ⟨_, Tryz.underlying180, by kernel_rfl, And.intro rfl (And.intro rfl (And.intro (by kernel_rfl) (And.intro rfl (And.intro rfl (And.intro (by kernel_rfl) (trivial))))))⟩
theorem tmk182 : tmOk Tryz.prog tmS 182 (.st 12) := ⟨_, Tryz.underlying182, by kernel_rfl, And.intro rfl (And.intro rfl (And.intro (by kernel_rfl) (And.intro rfl (And.intro rfl (And.intro (by kernel_rfl) (trivial))))))⟩
theorem tmk185 : tmOk Tryz.prog tmS 185 (.st 18) := ⟨_, Tryz.underlying185, by kernel_rfl, And.intro rfl (And.intro rfl (And.intro (by kernel_rfl) (And.intro rfl (And.intro rfl (And.intro (by kernel_rfl) (And.intro rfl (And.intro rfl (And.intro (by kernel_rfl) (And.intro rfl (And.intro rfl (And.intro (by kernel_rfl) (trivial))))))))))))⟩
theorem tmk187 : tmOk Tryz.prog tmS 187 (.st 20) := ⟨_, Tryz.underlying187, by kernel_rfl, And.intro rfl (And.intro rfl (And.intro (by kernel_rfl) (And.intro rfl (And.intro rfl (And.intro (by kernel_rfl) (And.intro rfl (And.intro rfl (And.intro (by kernel_rfl) (trivial)))))))))⟩
theorem tmk193 : tmOk Tryz.prog tmS 193 (.sl (.st 7)) := ⟨257, Tryz.underlying193, rfl, by kernel_rfl, by decide, by decide +kernel⟩
theorem tmk195 : tmOk Tryz.prog tmS 195 (.st 8) := ⟨_, Tryz.underlying195, by kernel_rfl, And.intro rfl (And.intro rfl (And.intro (by kernel_rfl) (And.intro rfl (And.intro rfl (And.intro (by kernel_rfl) (And.intro rfl (And.intro rfl (And.intro (by kernel_rfl) (trivial)))))))))⟩
theorem tmk199 : tmOk Tryz.prog tmS 199 (.st 13) := ⟨_, Tryz.underlying199, by kernel_rfl, And.intro rfl (And.intro rfl (And.intro (by kernel_rfl) (And.intro rfl (And.intro rfl (And.intro (by kernel_rfl) (And.intro rfl (And.intro rfl (And.intro (by kernel_rfl) (And.intro rfl (And.intro rfl (And.intro (by kernel_rfl) (And.intro rfl (And.intro rfl (And.intro (by kernel_rfl) (And.intro rfl (And.intro rfl (And.intro (by kernel_rfl) (trivial))))))))))))))))))⟩
theorem tmk216 : tmOk Tryz.prog tmS 216 (.st 9) := ⟨_, Tryz.underlying216, by kernel_rfl, And.intro rfl (And.intro rfl (And.intro (by kernel_rfl) (And.intro rfl (And.intro rfl (And.intro (by kernel_rfl) (trivial))))))⟩
theorem tmk219 : tmOk Tryz.prog tmS 219 (.st 12) := ⟨_, Tryz.underlying219, by kernel_rfl, And.intro rfl (And.intro rfl (And.intro (by kernel_rfl) (And.intro rfl (And.intro rfl (And.intro (by kernel_rfl) (trivial))))))⟩
theorem tmk237 : tmOk Tryz.prog tmS 237 (.sl (.st 5)) := ⟨297, Tryz.underlying237, rfl, by kernel_rfl, by decide, by decide +kernel⟩
theorem tmk239 : tmOk Tryz.prog tmS 239 (.st 6) := ⟨_, Tryz.underlying239, by kernel_rfl, And.intro rfl (And.intro rfl (And.intro (by kernel_rfl) (And.intro rfl (And.intro rfl (And.intro (by kernel_rfl) (And.intro rfl (And.intro rfl (And.intro (by kernel_rfl) (And.intro rfl (And.intro rfl (And.intro (by kernel_rfl) (And.intro rfl (And.intro rfl (And.intro (by kernel_rfl) (trivial)))))))))))))))⟩
theorem tmk241 : tmOk Tryz.prog tmS 241 (.sl (.st 7)) := ⟨300, Tryz.underlying241, rfl, by kernel_rfl, by decide, by decide +kernel⟩
theorem tmk243 : tmOk Tryz.prog tmS 243 (.st 8) := ⟨_, Tryz.underlying243, by kernel_rfl, And.intro rfl (And.intro rfl (And.intro (by kernel_rfl) (And.intro rfl (And.intro rfl (And.intro (by kernel_rfl) (And.intro rfl (And.intro rfl (And.intro (by kernel_rfl) (trivial)))))))))⟩
theorem tmk245 : tmOk Tryz.prog tmS 245 (.sl (.st 10)) := ⟨303, Tryz.underlying245, rfl, by kernel_rfl, by decide, by decide +kernel⟩
theorem tmk247 : tmOk Tryz.prog tmS 247 (.st 11) := ⟨_, Tryz.underlying247, by kernel_rfl, And.intro rfl (And.intro rfl (And.intro (by kernel_rfl) (And.intro rfl (And.intro rfl (And.intro (by kernel_rfl) (And.intro rfl (And.intro rfl (And.intro (by kernel_rfl) (And.intro rfl (And.intro rfl (And.intro (by kernel_rfl) (And.intro rfl (And.intro rfl (And.intro (by kernel_rfl) (And.intro rfl (And.intro rfl (And.intro (by kernel_rfl) (And.intro rfl (And.intro rfl (And.intro (by kernel_rfl) (And.intro rfl (And.intro rfl (And.intro (by kernel_rfl) (trivial))))))))))))))))))))))))⟩
theorem tmk249 : tmOk Tryz.prog tmS 249 (.sl (.st 4)) := ⟨252, Tryz.underlying249, rfl, by kernel_rfl, by decide, by decide +kernel⟩
theorem tmk250 : tmOk Tryz.prog tmS 250 (.sl (.st 3)) := ⟨318, Tryz.underlying250, rfl, by kernel_rfl, by decide, by decide +kernel⟩
theorem tmk252 : tmOk Tryz.prog tmS 252 (.st 4) := ⟨_, Tryz.underlying252, by kernel_rfl, And.intro rfl (And.intro rfl (And.intro (by kernel_rfl) (And.intro rfl (And.intro rfl (And.intro (by kernel_rfl) (And.intro rfl (And.intro rfl (And.intro (by kernel_rfl) (And.intro rfl (And.intro rfl (And.intro (by kernel_rfl) (And.intro rfl (And.intro rfl (And.intro (by kernel_rfl) (And.intro rfl (And.intro rfl (And.intro (by kernel_rfl) (And.intro rfl (And.intro rfl (And.intro (by kernel_rfl) (trivial)))))))))))))))))))))⟩
theorem tmk254 : tmOk Tryz.prog tmS 254 (.st 13) := ⟨_, Tryz.underlying254, by kernel_rfl, And.intro rfl (And.intro rfl (And.intro (by kernel_rfl) (And.intro rfl (And.intro rfl (And.intro (by kernel_rfl) (And.intro rfl (And.intro rfl (And.intro (by kernel_rfl) (And.intro rfl (And.intro rfl (And.intro (by kernel_rfl) (And.intro rfl (And.intro rfl (And.intro (by kernel_rfl) (And.intro rfl (And.intro rfl (And.intro (by kernel_rfl) (trivial))))))))))))))))))⟩
theorem tmk257 : tmOk Tryz.prog tmS 257 (.st 7) := ⟨_, Tryz.underlying257, by kernel_rfl, And.intro rfl (And.intro rfl (And.intro (by kernel_rfl) (And.intro rfl (And.intro rfl (And.intro (by kernel_rfl) (trivial))))))⟩
theorem tmk271 : tmOk Tryz.prog tmS 271 (.st 3) := ⟨_, Tryz.underlying271, by kernel_rfl, And.intro rfl (And.intro rfl (And.intro (by kernel_rfl) (And.intro rfl (And.intro rfl (And.intro (by kernel_rfl) (And.intro rfl (And.intro rfl (And.intro (by kernel_rfl) (trivial)))))))))⟩
theorem tmk274 : tmOk Tryz.prog tmS 274 (.st 18) := ⟨_, Tryz.underlying274, by kernel_rfl, And.intro rfl (And.intro rfl (And.intro (by kernel_rfl) (And.intro rfl (And.intro rfl (And.intro (by kernel_rfl) (And.intro rfl (And.intro rfl (And.intro (by kernel_rfl) (And.intro rfl (And.intro rfl (And.intro (by kernel_rfl) (trivial))))))))))))⟩
theorem tmk277 : tmOk Tryz.prog tmS 277 (.st 20) := ⟨_, Tryz.underlying277, by kernel_rfl, And.intro rfl (And.intro rfl (And.intro (by kernel_rfl) (And.intro rfl (And.intro rfl (And.intro (by kernel_rfl) (And.intro rfl (And.intro rfl (And.intro (by kernel_rfl) (trivial)))))))))⟩
theorem tmk297 : tmOk Tryz.prog tmS 297 (.st 5) := ⟨_, Tryz.underlying297, by kernel_rfl, And.intro rfl (And.intro rfl (And.intro (by kernel_rfl) (And.intro rfl (And.intro rfl (And.intro (by kernel_rfl) (And.intro rfl (And.intro rfl (And.intro (by kernel_rfl) (And.intro rfl (And.intro rfl (And.intro (by kernel_rfl) (And.intro rfl (And.intro rfl (And.intro (by kernel_rfl) (And.intro rfl (And.intro rfl (And.intro (by kernel_rfl) (trivial))))))))))))))))))⟩
theorem tmk300 : tmOk Tryz.prog tmS 300 (.st 7) := ⟨_, Tryz.underlying300, by kernel_rfl, And.intro rfl (And.intro rfl (And.intro (by kernel_rfl) (And.intro rfl (And.intro rfl (And.intro (by kernel_rfl) (trivial))))))⟩
theorem tmk303 : tmOk Tryz.prog tmS 303 (.st 10) := ⟨_, Tryz.underlying303, by kernel_rfl, And.intro rfl (And.intro rfl (And.intro (by kernel_rfl) (And.intro rfl (And.intro rfl (And.intro (by kernel_rfl) (And.intro rfl (And.intro rfl (And.intro (by kernel_rfl) (trivial)))))))))⟩
theorem tmk318 : tmOk Tryz.prog tmS 318 (.st 3) := ⟨_, Tryz.underlying318, by kernel_rfl, And.intro rfl (And.intro rfl (And.intro (by kernel_rfl) (And.intro rfl (And.intro rfl (And.intro (by kernel_rfl) (And.intro rfl (And.intro rfl (And.intro (by kernel_rfl) (trivial)))))))))⟩
theorem tm_ok : ∀ (T : TypeId) (s : Sh), tmS T = some s → tmOk Tryz.prog tmS T s := by
  intro T s h
  unfold tmS at h
  split at h
  · cases h; exact tmk3
  · cases h; exact tmk4
  · cases h; exact tmk9
  · cases h; exact tmk22
  · cases h; exact tmk24
  · cases h; exact tmk26
  · cases h; exact tmk28
  · cases h; exact tmk34
  · cases h; exact tmk36
  · cases h; exact tmk37
  · cases h; exact tmk38
  · cases h; exact tmk40
  · cases h; exact tmk43
  · cases h; exact tmk46
  · cases h; exact tmk48
  · cases h; exact tmk50
  · cases h; exact tmk67
  · cases h; exact tmk68
  · cases h; exact tmk69
  · cases h; exact tmk70
  · cases h; exact tmk72
  · cases h; exact tmk73
  · cases h; exact tmk74
  · cases h; exact tmk75
  · cases h; exact tmk77
  · cases h; exact tmk79
  · cases h; exact tmk82
  · cases h; exact tmk84
  · cases h; exact tmk85
  · cases h; exact tmk86
  · cases h; exact tmk88
  · cases h; exact tmk95
  · cases h; exact tmk96
  · cases h; exact tmk97
  · cases h; exact tmk98
  · cases h; exact tmk100
  · cases h; exact tmk102
  · cases h; exact tmk110
  · cases h; exact tmk112
  · cases h; exact tmk115
  · cases h; exact tmk116
  · cases h; exact tmk118
  · cases h; exact tmk120
  · cases h; exact tmk123
  · cases h; exact tmk124
  · cases h; exact tmk125
  · cases h; exact tmk126
  · cases h; exact tmk128
  · cases h; exact tmk141
  · cases h; exact tmk142
  · cases h; exact tmk143
  · cases h; exact tmk144
  · cases h; exact tmk146
  · cases h; exact tmk160
  · cases h; exact tmk180
  · cases h; exact tmk182
  · cases h; exact tmk185
  · cases h; exact tmk187
  · cases h; exact tmk193
  · cases h; exact tmk195
  · cases h; exact tmk199
  · cases h; exact tmk216
  · cases h; exact tmk219
  · cases h; exact tmk237
  · cases h; exact tmk239
  · cases h; exact tmk241
  · cases h; exact tmk243
  · cases h; exact tmk245
  · cases h; exact tmk247
  · cases h; exact tmk249
  · cases h; exact tmk250
  · cases h; exact tmk252
  · cases h; exact tmk254
  · cases h; exact tmk257
  · cases h; exact tmk271
  · cases h; exact tmk274
  · cases h; exact tmk277
  · cases h; exact tmk297
  · cases h; exact tmk300
  · cases h; exact tmk303
  · cases h; exact tmk318
  · cases h
theorem tmix : Tryz.prog.follows .mixedOrders = true := by kernel_rfl
instance : Mix Tryz.prog := ⟨tmix⟩
end Go.Proofs.YthojhakapbfbiaaGreat
