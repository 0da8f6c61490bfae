/- What the program says of its types. Written by a program of mine. -/
import Derived.Test.YtbhigchfphnkhaaProg
import Derived.Test.YtbhigchfphnkhaaEng15
namespace Go.Proofs.Ytbhigchfphnkhaa
open Go Go.Eng
instance ti3 : TI Try.prog 3 false 1 8 := ⟨by kernel_rfl⟩
instance tz3 : TZ Try.prog 3 [.int .i64 0] := ⟨by kernel_rfl⟩
instance ti4 : TI Try.prog 4 false 1 1 := ⟨by kernel_rfl⟩
instance tb4 : TB Try.prog 4 := ⟨by kernel_rfl⟩
instance tz4 : TZ Try.prog 4 [.bool false] := ⟨by kernel_rfl⟩
instance ti5 : TI Try.prog 5 false 1 1 := ⟨by kernel_rfl⟩
instance tz5 : TZ Try.prog 5 [.int .u8 0] := ⟨by kernel_rfl⟩
instance ti9 : TI Try.prog 9 false 1 16 := ⟨by kernel_rfl⟩
instance tss9 : TS Try.prog 9 := ⟨by kernel_rfl⟩
instance tz9 : TZ Try.prog 9 [.string ⟨#[]⟩] := ⟨by kernel_rfl⟩
instance ti21 : TI Try.prog 21 false 1 4 := ⟨by kernel_rfl⟩
instance tz21 : TZ Try.prog 21 [.int .i32 0] := ⟨by kernel_rfl⟩
instance ti22 : TI Try.prog 22 false 1 24 := ⟨by kernel_rfl⟩
instance te22 : TE Try.prog 22 105 := ⟨by kernel_rfl⟩
instance tz22 : TZ Try.prog 22 [.slice none 0 0] := ⟨by kernel_rfl⟩
instance ti23 : TI Try.prog 23 false 1 24 := ⟨by kernel_rfl⟩
instance te23 : TE Try.prog 23 109 := ⟨by kernel_rfl⟩
instance tz23 : TZ Try.prog 23 [.slice none 0 0] := ⟨by kernel_rfl⟩
instance ti25 : TI Try.prog 25 true 2 48 := ⟨by kernel_rfl⟩
instance tf25_0 : TF Try.prog 25 0 0 := ⟨by kernel_rfl⟩
instance tf25_1 : TF Try.prog 25 1 1 := ⟨by kernel_rfl⟩
instance tz25 : TZ Try.prog 25 [.slice none 0 0, .slice none 0 0] := ⟨by kernel_rfl⟩
instance ti26 : TI Try.prog 26 false 1 24 := ⟨by kernel_rfl⟩
instance te26 : TE Try.prog 26 28 := ⟨by kernel_rfl⟩
instance tz26 : TZ Try.prog 26 [.slice none 0 0] := ⟨by kernel_rfl⟩
instance ti28 : TI Try.prog 28 true 3 48 := ⟨by kernel_rfl⟩
instance tf28_0 : TF Try.prog 28 0 0 := ⟨by kernel_rfl⟩
instance tf28_1 : TF Try.prog 28 1 1 := ⟨by kernel_rfl⟩
instance tf28_2 : TF Try.prog 28 2 2 := ⟨by kernel_rfl⟩
instance tz28 : TZ Try.prog 28 [.int .i64 0, .string ⟨#[]⟩, .slice none 0 0] := ⟨by kernel_rfl⟩
instance ti32 : TI Try.prog 32 false 1 24 := ⟨by kernel_rfl⟩
instance te32 : TE Try.prog 32 74 := ⟨by kernel_rfl⟩
instance tz32 : TZ Try.prog 32 [.slice none 0 0] := ⟨by kernel_rfl⟩
instance ti33 : TI Try.prog 33 false 1 24 := ⟨by kernel_rfl⟩
instance te33 : TE Try.prog 33 60 := ⟨by kernel_rfl⟩
instance tz33 : TZ Try.prog 33 [.slice none 0 0] := ⟨by kernel_rfl⟩
instance ti35 : TI Try.prog 35 true 2 48 := ⟨by kernel_rfl⟩
instance tf35_0 : TF Try.prog 35 0 0 := ⟨by kernel_rfl⟩
instance tf35_1 : TF Try.prog 35 1 1 := ⟨by kernel_rfl⟩
instance tz35 : TZ Try.prog 35 [.slice none 0 0, .slice none 0 0] := ⟨by kernel_rfl⟩
instance ti37 : TI Try.prog 37 false 1 24 := ⟨by kernel_rfl⟩
instance te37 : TE Try.prog 37 39 := ⟨by kernel_rfl⟩
instance tz37 : TZ Try.prog 37 [.slice none 0 0] := ⟨by kernel_rfl⟩
instance ti39 : TI Try.prog 39 true 3 48 := ⟨by kernel_rfl⟩
instance tf39_0 : TF Try.prog 39 0 0 := ⟨by kernel_rfl⟩
instance tf39_1 : TF Try.prog 39 1 1 := ⟨by kernel_rfl⟩
instance tf39_2 : TF Try.prog 39 2 2 := ⟨by kernel_rfl⟩
instance tz39 : TZ Try.prog 39 [.int .i64 0, .string ⟨#[]⟩, .slice none 0 0] := ⟨by kernel_rfl⟩
instance ti49 : TI Try.prog 49 false 1 24 := ⟨by kernel_rfl⟩
instance te49 : TE Try.prog 49 86 := ⟨by kernel_rfl⟩
instance tz49 : TZ Try.prog 49 [.slice none 0 0] := ⟨by kernel_rfl⟩
instance ti52 : TI Try.prog 52 false 1 24 := ⟨by kernel_rfl⟩
instance te52 : TE Try.prog 52 90 := ⟨by kernel_rfl⟩
instance tz52 : TZ Try.prog 52 [.slice none 0 0] := ⟨by kernel_rfl⟩
instance ti58 : TI Try.prog 58 false 1 24 := ⟨by kernel_rfl⟩
instance te58 : TE Try.prog 58 133 := ⟨by kernel_rfl⟩
instance tz58 : TZ Try.prog 58 [.slice none 0 0] := ⟨by kernel_rfl⟩
instance ti60 : TI Try.prog 60 true 5 88 := ⟨by kernel_rfl⟩
instance tf60_0 : TF Try.prog 60 0 0 := ⟨by kernel_rfl⟩
instance tf60_1 : TF Try.prog 60 1 1 := ⟨by kernel_rfl⟩
instance tf60_2 : TF Try.prog 60 2 4 := ⟨by kernel_rfl⟩
instance tz60 : TZ Try.prog 60 [.string ⟨#[]⟩, .int .i64 0, .string ⟨#[]⟩, .slice none 0 0, .slice none 0 0] := ⟨by kernel_rfl⟩
instance ti67 : TI Try.prog 67 false 1 24 := ⟨by kernel_rfl⟩
instance te67 : TE Try.prog 67 9 := ⟨by kernel_rfl⟩
instance tz67 : TZ Try.prog 67 [.slice none 0 0] := ⟨by kernel_rfl⟩
instance ti68 : TI Try.prog 68 false 1 24 := ⟨by kernel_rfl⟩
instance te68 : TE Try.prog 68 138 := ⟨by kernel_rfl⟩
instance tz68 : TZ Try.prog 68 [.slice none 0 0] := ⟨by kernel_rfl⟩
instance ti69 : TI Try.prog 69 false 1 24 := ⟨by kernel_rfl⟩
instance te69 : TE Try.prog 69 72 := ⟨by kernel_rfl⟩
instance tz69 : TZ Try.prog 69 [.slice none 0 0] := ⟨by kernel_rfl⟩
instance ti70 : TI Try.prog 70 false 1 24 := ⟨by kernel_rfl⟩
instance te70 : TE Try.prog 70 123 := ⟨by kernel_rfl⟩
instance tz70 : TZ Try.prog 70 [.slice none 0 0] := ⟨by kernel_rfl⟩
instance ti72 : TI Try.prog 72 true 11 192 := ⟨by kernel_rfl⟩
instance tf72_0 : TF Try.prog 72 0 0 := ⟨by kernel_rfl⟩
instance tf72_1 : TF Try.prog 72 1 1 := ⟨by kernel_rfl⟩
instance tf72_2 : TF Try.prog 72 2 2 := ⟨by kernel_rfl⟩
instance tf72_3 : TF Try.prog 72 3 3 := ⟨by kernel_rfl⟩
instance tf72_4 : TF Try.prog 72 4 4 := ⟨by kernel_rfl⟩
instance tf72_5 : TF Try.prog 72 5 7 := ⟨by kernel_rfl⟩
instance tf72_6 : TF Try.prog 72 6 8 := ⟨by kernel_rfl⟩
instance tf72_7 : TF Try.prog 72 7 9 := ⟨by kernel_rfl⟩
instance tf72_8 : TF Try.prog 72 8 10 := ⟨by kernel_rfl⟩
instance tz72 : TZ Try.prog 72 [.int .i64 0, .string ⟨#[]⟩, .string ⟨#[]⟩, .int .i64 0, .int .i64 0, .string ⟨#[]⟩, .slice none 0 0, .slice none 0 0, .slice none 0 0, .slice none 0 0, .slice none 0 0] := ⟨by kernel_rfl⟩
instance ti74 : TI Try.prog 74 true 14 248 := ⟨by kernel_rfl⟩
instance tf74_0 : TF Try.prog 74 0 0 := ⟨by kernel_rfl⟩
instance tf74_1 : TF Try.prog 74 1 1 := ⟨by kernel_rfl⟩
instance tf74_2 : TF Try.prog 74 2 2 := ⟨by kernel_rfl⟩
instance tf74_3 : TF Try.prog 74 3 3 := ⟨by kernel_rfl⟩
instance tz74 : TZ Try.prog 74 [.int .i64 0, .slice none 0 0, .slice none 0 0, .int .i64 0, .string ⟨#[]⟩, .string ⟨#[]⟩, .int .i64 0, .int .i64 0, .string ⟨#[]⟩, .slice none 0 0, .slice none 0 0, .slice none 0 0, .slice none 0 0, .slice none 0 0] := ⟨by kernel_rfl⟩
instance ti78 : TI Try.prog 78 false 1 24 := ⟨by kernel_rfl⟩
instance te78 : TE Try.prog 78 147 := ⟨by kernel_rfl⟩
instance tz78 : TZ Try.prog 78 [.slice none 0 0] := ⟨by kernel_rfl⟩
instance ti79 : TI Try.prog 79 false 1 24 := ⟨by kernel_rfl⟩
instance te79 : TE Try.prog 79 150 := ⟨by kernel_rfl⟩
instance tz79 : TZ Try.prog 79 [.slice none 0 0] := ⟨by kernel_rfl⟩
instance ti80 : TI Try.prog 80 false 1 24 := ⟨by kernel_rfl⟩
instance te80 : TE Try.prog 80 168 := ⟨by kernel_rfl⟩
instance tz80 : TZ Try.prog 80 [.slice none 0 0] := ⟨by kernel_rfl⟩
instance ti81 : TI Try.prog 81 false 1 24 := ⟨by kernel_rfl⟩
instance te81 : TE Try.prog 81 84 := ⟨by kernel_rfl⟩
instance tz81 : TZ Try.prog 81 [.slice none 0 0] := ⟨by kernel_rfl⟩
instance ti82 : TI Try.prog 82 false 1 24 := ⟨by kernel_rfl⟩
instance te82 : TE Try.prog 82 171 := ⟨by kernel_rfl⟩
instance tz82 : TZ Try.prog 82 [.slice none 0 0] := ⟨by kernel_rfl⟩
instance ti84 : TI Try.prog 84 true 11 192 := ⟨by kernel_rfl⟩
instance tf84_0 : TF Try.prog 84 0 0 := ⟨by kernel_rfl⟩
instance tf84_1 : TF Try.prog 84 1 1 := ⟨by kernel_rfl⟩
instance tf84_2 : TF Try.prog 84 2 2 := ⟨by kernel_rfl⟩
instance tf84_3 : TF Try.prog 84 3 3 := ⟨by kernel_rfl⟩
instance tf84_4 : TF Try.prog 84 4 4 := ⟨by kernel_rfl⟩
instance tf84_5 : TF Try.prog 84 5 7 := ⟨by kernel_rfl⟩
instance tf84_6 : TF Try.prog 84 6 8 := ⟨by kernel_rfl⟩
instance tf84_7 : TF Try.prog 84 7 9 := ⟨by kernel_rfl⟩
instance tf84_8 : TF Try.prog 84 8 10 := ⟨by kernel_rfl⟩
instance tz84 : TZ Try.prog 84 [.int .i64 0, .string ⟨#[]⟩, .string ⟨#[]⟩, .int .i64 0, .int .i64 0, .string ⟨#[]⟩, .slice none 0 0, .slice none 0 0, .slice none 0 0, .slice none 0 0, .slice none 0 0] := ⟨by kernel_rfl⟩
instance ti86 : TI Try.prog 86 true 21 344 := ⟨by kernel_rfl⟩
instance tf86_0 : TF Try.prog 86 0 0 := ⟨by kernel_rfl⟩
instance tf86_1 : TF Try.prog 86 1 1 := ⟨by kernel_rfl⟩
instance tf86_2 : TF Try.prog 86 2 2 := ⟨by kernel_rfl⟩
instance tf86_3 : TF Try.prog 86 3 3 := ⟨by kernel_rfl⟩
instance tf86_4 : TF Try.prog 86 4 4 := ⟨by kernel_rfl⟩
instance tf86_5 : TF Try.prog 86 5 5 := ⟨by kernel_rfl⟩
instance tf86_6 : TF Try.prog 86 6 6 := ⟨by kernel_rfl⟩
instance tf86_7 : TF Try.prog 86 7 7 := ⟨by kernel_rfl⟩
instance tf86_8 : TF Try.prog 86 8 10 := ⟨by kernel_rfl⟩
instance tz86 : TZ Try.prog 86 [.int .i64 0, .int .i64 0, .int .i64 0, .int .i64 0, .slice none 0 0, .slice none 0 0, .slice none 0 0, .int .i64 0, .string ⟨#[]⟩, .slice none 0 0, .int .i64 0, .string ⟨#[]⟩, .string ⟨#[]⟩, .int .i64 0, .int .i64 0, .string ⟨#[]⟩, .slice none 0 0, .slice none 0 0, .slice none 0 0, .slice none 0 0, .slice none 0 0] := ⟨by kernel_rfl⟩
instance ti87 : TI Try.prog 87 false 1 24 := ⟨by kernel_rfl⟩
instance te87 : TE Try.prog 87 118 := ⟨by kernel_rfl⟩
instance tz87 : TZ Try.prog 87 [.slice none 0 0] := ⟨by kernel_rfl⟩
instance ti88 : TI Try.prog 88 false 1 24 := ⟨by kernel_rfl⟩
instance te88 : TE Try.prog 88 120 := ⟨by kernel_rfl⟩
instance tz88 : TZ Try.prog 88 [.slice none 0 0] := ⟨by kernel_rfl⟩
instance ti90 : TI Try.prog 90 true 21 344 := ⟨by kernel_rfl⟩
instance tf90_0 : TF Try.prog 90 0 0 := ⟨by kernel_rfl⟩
instance tf90_1 : TF Try.prog 90 1 1 := ⟨by kernel_rfl⟩
instance tf90_2 : TF Try.prog 90 2 2 := ⟨by kernel_rfl⟩
instance tf90_3 : TF Try.prog 90 3 3 := ⟨by kernel_rfl⟩
instance tf90_4 : TF Try.prog 90 4 4 := ⟨by kernel_rfl⟩
instance tf90_5 : TF Try.prog 90 5 5 := ⟨by kernel_rfl⟩
instance tf90_6 : TF Try.prog 90 6 6 := ⟨by kernel_rfl⟩
instance tf90_7 : TF Try.prog 90 7 7 := ⟨by kernel_rfl⟩
instance tf90_8 : TF Try.prog 90 8 10 := ⟨by kernel_rfl⟩
instance tz90 : TZ Try.prog 90 [.int .i64 0, .int .i64 0, .int .i64 0, .int .i64 0, .slice none 0 0, .slice none 0 0, .slice none 0 0, .int .i64 0, .string ⟨#[]⟩, .slice none 0 0, .int .i64 0, .string ⟨#[]⟩, .string ⟨#[]⟩, .int .i64 0, .int .i64 0, .string ⟨#[]⟩, .slice none 0 0, .slice none 0 0, .slice none 0 0, .slice none 0 0, .slice none 0 0] := ⟨by kernel_rfl⟩
instance ti105 : TI Try.prog 105 true 14 248 := ⟨by kernel_rfl⟩
instance tf105_0 : TF Try.prog 105 0 0 := ⟨by kernel_rfl⟩
instance tf105_1 : TF Try.prog 105 1 1 := ⟨by kernel_rfl⟩
instance tf105_2 : TF Try.prog 105 2 2 := ⟨by kernel_rfl⟩
instance tf105_3 : TF Try.prog 105 3 3 := ⟨by kernel_rfl⟩
instance tz105 : TZ Try.prog 105 [.int .i64 0, .slice none 0 0, .slice none 0 0, .int .i64 0, .string ⟨#[]⟩, .string ⟨#[]⟩, .int .i64 0, .int .i64 0, .string ⟨#[]⟩, .slice none 0 0, .slice none 0 0, .slice none 0 0, .slice none 0 0, .slice none 0 0] := ⟨by kernel_rfl⟩
instance ti107 : TI Try.prog 107 false 1 24 := ⟨by kernel_rfl⟩
instance te107 : TE Try.prog 107 162 := ⟨by kernel_rfl⟩
instance tz107 : TZ Try.prog 107 [.slice none 0 0] := ⟨by kernel_rfl⟩
instance ti109 : TI Try.prog 109 true 5 88 := ⟨by kernel_rfl⟩
instance tf109_0 : TF Try.prog 109 0 0 := ⟨by kernel_rfl⟩
instance tf109_1 : TF Try.prog 109 1 1 := ⟨by kernel_rfl⟩
instance tf109_2 : TF Try.prog 109 2 4 := ⟨by kernel_rfl⟩
instance tz109 : TZ Try.prog 109 [.string ⟨#[]⟩, .int .i64 0, .string ⟨#[]⟩, .slice none 0 0, .slice none 0 0] := ⟨by kernel_rfl⟩
instance ti118 : TI Try.prog 118 true 4 64 := ⟨by kernel_rfl⟩
instance tf118_0 : TF Try.prog 118 0 0 := ⟨by kernel_rfl⟩
instance tf118_1 : TF Try.prog 118 1 1 := ⟨by kernel_rfl⟩
instance tz118 : TZ Try.prog 118 [.string ⟨#[]⟩, .int .i64 0, .string ⟨#[]⟩, .slice none 0 0] := ⟨by kernel_rfl⟩
instance ti120 : TI Try.prog 120 true 4 64 := ⟨by kernel_rfl⟩
instance tf120_0 : TF Try.prog 120 0 0 := ⟨by kernel_rfl⟩
instance tf120_1 : TF Try.prog 120 1 1 := ⟨by kernel_rfl⟩
instance tz120 : TZ Try.prog 120 [.string ⟨#[]⟩, .int .i64 0, .string ⟨#[]⟩, .slice none 0 0] := ⟨by kernel_rfl⟩
instance ti123 : TI Try.prog 123 true 13 232 := ⟨by kernel_rfl⟩
instance tf123_0 : TF Try.prog 123 0 0 := ⟨by kernel_rfl⟩
instance tf123_1 : TF Try.prog 123 1 1 := ⟨by kernel_rfl⟩
instance tf123_2 : TF Try.prog 123 2 2 := ⟨by kernel_rfl⟩
instance tz123 : TZ Try.prog 123 [.string ⟨#[]⟩, .slice none 0 0, .int .i64 0, .string ⟨#[]⟩, .string ⟨#[]⟩, .int .i64 0, .int .i64 0, .string ⟨#[]⟩, .slice none 0 0, .slice none 0 0, .slice none 0 0, .slice none 0 0, .slice none 0 0] := ⟨by kernel_rfl⟩
instance ti133 : TI Try.prog 133 true 3 40 := ⟨by kernel_rfl⟩
instance tf133_0 : TF Try.prog 133 0 0 := ⟨by kernel_rfl⟩
instance tf133_1 : TF Try.prog 133 1 1 := ⟨by kernel_rfl⟩
instance tf133_2 : TF Try.prog 133 2 2 := ⟨by kernel_rfl⟩
instance tz133 : TZ Try.prog 133 [.string ⟨#[]⟩, .string ⟨#[]⟩, .int .i64 0] := ⟨by kernel_rfl⟩
instance ti136 : TI Try.prog 136 true 2 16 := ⟨by kernel_rfl⟩
instance tf136_0 : TF Try.prog 136 0 0 := ⟨by kernel_rfl⟩
instance tf136_1 : TF Try.prog 136 1 1 := ⟨by kernel_rfl⟩
instance tz136 : TZ Try.prog 136 [.int .i64 0, .int .i64 0] := ⟨by kernel_rfl⟩
instance ti138 : TI Try.prog 138 true 5 56 := ⟨by kernel_rfl⟩
instance tf138_0 : TF Try.prog 138 0 0 := ⟨by kernel_rfl⟩
instance tf138_1 : TF Try.prog 138 1 1 := ⟨by kernel_rfl⟩
instance tf138_2 : TF Try.prog 138 2 2 := ⟨by kernel_rfl⟩
instance tf138_3 : TF Try.prog 138 3 4 := ⟨by kernel_rfl⟩
instance tz138 : TZ Try.prog 138 [.int .i64 0, .int .i64 0, .int .i64 0, .int .i64 0, .slice none 0 0] := ⟨by kernel_rfl⟩
instance ti147 : TI Try.prog 147 true 4 64 := ⟨by kernel_rfl⟩
instance tf147_0 : TF Try.prog 147 0 0 := ⟨by kernel_rfl⟩
instance tf147_1 : TF Try.prog 147 1 1 := ⟨by kernel_rfl⟩
instance tz147 : TZ Try.prog 147 [.string ⟨#[]⟩, .int .i64 0, .string ⟨#[]⟩, .slice none 0 0] := ⟨by kernel_rfl⟩
instance ti150 : TI Try.prog 150 true 4 64 := ⟨by kernel_rfl⟩
instance tf150_0 : TF Try.prog 150 0 0 := ⟨by kernel_rfl⟩
instance tf150_1 : TF Try.prog 150 1 1 := ⟨by kernel_rfl⟩
instance tz150 : TZ Try.prog 150 [.string ⟨#[]⟩, .int .i64 0, .string ⟨#[]⟩, .slice none 0 0] := ⟨by kernel_rfl⟩
instance ti162 : TI Try.prog 162 true 3 40 := ⟨by kernel_rfl⟩
instance tf162_0 : TF Try.prog 162 0 0 := ⟨by kernel_rfl⟩
instance tf162_1 : TF Try.prog 162 1 1 := ⟨by kernel_rfl⟩
instance tf162_2 : TF Try.prog 162 2 2 := ⟨by kernel_rfl⟩
instance tz162 : TZ Try.prog 162 [.string ⟨#[]⟩, .string ⟨#[]⟩, .int .i64 0] := ⟨by kernel_rfl⟩
instance ti166 : TI Try.prog 166 true 2 16 := ⟨by kernel_rfl⟩
instance tf166_0 : TF Try.prog 166 0 0 := ⟨by kernel_rfl⟩
instance tf166_1 : TF Try.prog 166 1 1 := ⟨by kernel_rfl⟩
instance tz166 : TZ Try.prog 166 [.int .i64 0, .int .i64 0] := ⟨by kernel_rfl⟩
instance ti168 : TI Try.prog 168 true 5 56 := ⟨by kernel_rfl⟩
instance tf168_0 : TF Try.prog 168 0 0 := ⟨by kernel_rfl⟩
instance tf168_1 : TF Try.prog 168 1 1 := ⟨by kernel_rfl⟩
instance tf168_2 : TF Try.prog 168 2 2 := ⟨by kernel_rfl⟩
instance tf168_3 : TF Try.prog 168 3 4 := ⟨by kernel_rfl⟩
instance tz168 : TZ Try.prog 168 [.int .i64 0, .int .i64 0, .int .i64 0, .int .i64 0, .slice none 0 0] := ⟨by kernel_rfl⟩
instance ti171 : TI Try.prog 171 true 13 232 := ⟨by kernel_rfl⟩
instance tf171_0 : TF Try.prog 171 0 0 := ⟨by kernel_rfl⟩
instance tf171_1 : TF Try.prog 171 1 1 := ⟨by kernel_rfl⟩
instance tf171_2 : TF Try.prog 171 2 2 := ⟨by kernel_rfl⟩
instance tz171 : TZ Try.prog 171 [.string ⟨#[]⟩, .slice none 0 0, .int .i64 0, .string ⟨#[]⟩, .string ⟨#[]⟩, .int .i64 0, .int .i64 0, .string ⟨#[]⟩, .slice none 0 0, .slice none 0 0, .slice none 0 0, .slice none 0 0, .slice none 0 0] := ⟨by kernel_rfl⟩
instance ti183 : TI Try.prog 183 false 1 4 := ⟨by kernel_rfl⟩
instance tz183 : TZ Try.prog 183 [.int .u32 0] := ⟨by kernel_rfl⟩
instance ti194 : TI Try.prog 194 false 1 24 := ⟨by kernel_rfl⟩
instance te194 : TE Try.prog 194 202 := ⟨by kernel_rfl⟩
instance tz194 : TZ Try.prog 194 [.slice none 0 0] := ⟨by kernel_rfl⟩
instance ti195 : TI Try.prog 195 false 1 24 := ⟨by kernel_rfl⟩
instance te195 : TE Try.prog 195 200 := ⟨by kernel_rfl⟩
instance tz195 : TZ Try.prog 195 [.slice none 0 0] := ⟨by kernel_rfl⟩
instance ti197 : TI Try.prog 197 true 14 264 := ⟨by kernel_rfl⟩
instance tf197_0 : TF Try.prog 197 0 0 := ⟨by kernel_rfl⟩
instance tf197_1 : TF Try.prog 197 1 1 := ⟨by kernel_rfl⟩
instance tf197_2 : TF Try.prog 197 2 12 := ⟨by kernel_rfl⟩
instance tf197_3 : TF Try.prog 197 3 13 := ⟨by kernel_rfl⟩
instance tz197 : TZ Try.prog 197 [.slice none 0 0, .int .i64 0, .string ⟨#[]⟩, .string ⟨#[]⟩, .int .i64 0, .int .i64 0, .string ⟨#[]⟩, .slice none 0 0, .slice none 0 0, .slice none 0 0, .slice none 0 0, .slice none 0 0, .slice none 0 0, .slice none 0 0] := ⟨by kernel_rfl⟩
instance ti198 : TI Try.prog 198 false 1 24 := ⟨by kernel_rfl⟩
instance te198 : TE Try.prog 198 3 := ⟨by kernel_rfl⟩
instance tz198 : TZ Try.prog 198 [.slice none 0 0] := ⟨by kernel_rfl⟩
instance ti200 : TI Try.prog 200 true 5 72 := ⟨by kernel_rfl⟩
instance tf200_0 : TF Try.prog 200 0 0 := ⟨by kernel_rfl⟩
instance tf200_1 : TF Try.prog 200 1 1 := ⟨by kernel_rfl⟩
instance tf200_2 : TF Try.prog 200 2 3 := ⟨by kernel_rfl⟩
instance tf200_3 : TF Try.prog 200 3 4 := ⟨by kernel_rfl⟩
instance tz200 : TZ Try.prog 200 [.int .i64 0, .int .i64 0, .int .i64 0, .slice none 0 0, .slice none 0 0] := ⟨by kernel_rfl⟩
instance ti202 : TI Try.prog 202 true 9 128 := ⟨by kernel_rfl⟩
instance tf202_0 : TF Try.prog 202 0 0 := ⟨by kernel_rfl⟩
instance tf202_1 : TF Try.prog 202 1 1 := ⟨by kernel_rfl⟩
instance tf202_2 : TF Try.prog 202 2 2 := ⟨by kernel_rfl⟩
instance tf202_3 : TF Try.prog 202 3 3 := ⟨by kernel_rfl⟩
instance tf202_4 : TF Try.prog 202 4 8 := ⟨by kernel_rfl⟩
instance tz202 : TZ Try.prog 202 [.int .i64 0, .int .i64 0, .string ⟨#[]⟩, .int .i64 0, .int .i64 0, .int .i64 0, .slice none 0 0, .slice none 0 0, .slice none 0 0] := ⟨by kernel_rfl⟩
instance tr133 : TR Try.prog 133 := by
  refine ⟨?_⟩
  intro w a b c d n m
  refine ⟨by kernel_rfl, ?_⟩
  have hund : Try.prog.underlying 133 = some (.struct (Try.prog.fieldsOf 133)) := by kernel_rfl
  have hh : Try.prog.stoodInHeld 133 = false := by kernel_rfl
  have hf : (Try.prog.fieldsOf 133).toList = [{ name := "Trait", type := 9, offset := 0, embedded := false, tag := "", pkgPath := "", byteOffset := 0 }, { name := "Name", type := 9, offset := 1, embedded := false, tag := "", pkgPath := "", byteOffset := 16 }, { name := "Specialization", type := 3, offset := 2, embedded := false, tag := "", pkgPath := "", byteOffset := 32 }] := by kernel_rfl
  have hi : Try.prog.underlying 3 = some (.int .i64) := by kernel_rfl
  have hs : Try.prog.underlying 9 = some .string := by kernel_rfl
  have hgi : tyI Try.prog 3 = some (false, 1, 8) := by kernel_rfl
  have hgs : tyI Try.prog 9 = some (false, 1, 16) := by kernel_rfl
  have hint : ∀ (d : Nat) (w : World) (a c : Int), (Op.equalIn (d + 1) 3 (.int .i64 a) (.int .i64 c)).run Try.prog w = .ok (a == c) w := by
    intro d w a c
    simp [Op.equalIn, run_underlying hi]
  have hstr : ∀ (d : Nat) (w : World) (a c : List UInt8), (Op.equalIn (d + 1) 9 (.string ⟨a.toArray⟩) (.string ⟨c.toArray⟩)).run Try.prog w = .ok (a == c) w := by
    intro d w a c
    simp [Op.equalIn, run_underlying hs, bytes_beq]
  unfold Op.equal Op.maxDepth
  rw [run_equalIn_struct w 9999 133 _ _ hund hh, hf]
  have h9 := hint 9998
  have h8 := hstr 9998
  rw [show 9998 + 1 = 9999 from rfl] at h9 h8
  by_cases h1 : a = c <;> by_cases h2 : b = d <;> by_cases h3 : n = m <;> simp [Op.eqFields, part, run_isAgg hgi, run_isAgg hgs, h9, h8, h1, h2, h3]
instance tp136 : TP Try.prog 136 := by
  refine ⟨?_⟩
  intro w a b c d
  refine ⟨by kernel_rfl, ?_⟩
  have hund : Try.prog.underlying 136 = some (.struct (Try.prog.fieldsOf 136)) := by kernel_rfl
  have hh : Try.prog.stoodInHeld 136 = false := by kernel_rfl
  have hf : (Try.prog.fieldsOf 136).toList = [{ name := "Package", type := 3, offset := 0, embedded := false, tag := "", pkgPath := "", byteOffset := 0 }, { name := "At", type := 3, offset := 1, embedded := false, tag := "", pkgPath := "", byteOffset := 8 }] := by kernel_rfl
  have hi : Try.prog.underlying 3 = some (.int .i64) := by kernel_rfl
  have hg : tyI Try.prog 3 = some (false, 1, 8) := by kernel_rfl
  have hint : ∀ (d : Nat) (w : World) (a c : Int), (Op.equalIn (d + 1) 3 (.int .i64 a) (.int .i64 c)).run Try.prog w = .ok (a == c) w := by
    intro d w a c
    simp [Op.equalIn, run_underlying hi]
  unfold Op.equal Op.maxDepth
  rw [run_equalIn_struct w 9999 136 _ _ hund hh, hf]
  have h9 := hint 9998
  rw [show 9998 + 1 = 9999 from rfl] at h9
  by_cases h1 : a = c <;> by_cases h2 : b = d <;> simp [Op.eqFields, part, run_isAgg hg, h9, h1, h2]
def tmS : TypeId → Option Sh
  | 3 => some (.int)
  | 4 => some (.bool)
  | 9 => some (.str)
  | 22 => some (.sl (.st 28))
  | 23 => some (.sl (.st 30))
  | 25 => some (.st 31)
  | 26 => some (.sl (.st 1))
  | 28 => some (.st 1)
  | 32 => some (.sl (.st 28))
  | 33 => some (.sl (.st 30))
  | 35 => some (.st 31)
  | 37 => some (.sl (.st 1))
  | 39 => some (.st 1)
  | 49 => some (.sl (.st 25))
  | 52 => some (.sl (.st 25))
  | 58 => some (.sl (.st 29))
  | 60 => some (.st 30)
  | 67 => some (.sl (.str))
  | 68 => some (.sl (.st 18))
  | 69 => some (.sl (.st 21))
  | 70 => some (.sl (.st 20))
  | 72 => some (.st 21)
  | 74 => some (.st 28)
  | 78 => some (.sl (.st 9))
  | 79 => some (.sl (.st 12))
  | 80 => some (.sl (.st 18))
  | 81 => some (.sl (.st 21))
  | 82 => some (.sl (.st 20))
  | 84 => some (.st 21)
  | 86 => some (.st 25)
  | 87 => some (.sl (.st 9))
  | 88 => some (.sl (.st 12))
  | 90 => some (.st 25)
  | 105 => some (.st 28)
  | 107 => some (.sl (.st 29))
  | 109 => some (.st 30)
  | 118 => some (.st 9)
  | 120 => some (.st 12)
  | 123 => some (.st 20)
  | 133 => some (.st 29)
  | 136 => some (.st 16)
  | 138 => some (.st 18)
  | 147 => some (.st 9)
  | 150 => some (.st 12)
  | 162 => some (.st 29)
  | 166 => some (.st 16)
  | 168 => some (.st 18)
  | 171 => some (.st 20)
  | 194 => some (.sl (.st 27))
  | 195 => some (.sl (.st 26))
  | 198 => some (.sl (.int))
  | 200 => some (.st 26)
  | 202 => some (.st 27)
  | _ => none
theorem tmk3 : tmOk Try.prog tmS 3 (.int) := Try.underlying3
theorem tmk4 : tmOk Try.prog tmS 4 (.bool) := Try.underlying4
theorem tmk9 : tmOk Try.prog tmS 9 (.str) := Try.underlying9
theorem tmk22 : tmOk Try.prog tmS 22 (.sl (.st 28)) := ⟨105, Try.underlying22, rfl, by kernel_rfl, by decide, by decide +kernel⟩
theorem tmk23 : tmOk Try.prog tmS 23 (.sl (.st 30)) := ⟨109, Try.underlying23, rfl, by kernel_rfl, by decide, by decide +kernel⟩
theorem tmk25 : tmOk Try.prog tmS 25 (.st 31) := ⟨_, Try.underlying25, by kernel_rfl, And.intro rfl (And.intro rfl (And.intro (by kernel_rfl) (And.intro rfl (And.intro rfl (And.intro (by kernel_rfl) (trivial))))))⟩
theorem tmk26 : tmOk Try.prog tmS 26 (.sl (.st 1)) := ⟨28, Try.underlying26, rfl, by kernel_rfl, by decide, by decide +kernel⟩
theorem tmk28 : tmOk Try.prog tmS 28 (.st 1) := ⟨_, Try.underlying28, by kernel_rfl, And.intro rfl (And.intro rfl (And.intro (by kernel_rfl) (And.intro rfl (And.intro rfl (And.intro (by kernel_rfl) (And.intro rfl (And.intro rfl (And.intro (by kernel_rfl) (trivial)))))))))⟩
theorem tmk32 : tmOk Try.prog tmS 32 (.sl (.st 28)) := ⟨74, Try.underlying32, rfl, by kernel_rfl, by decide, by decide +kernel⟩
theorem tmk33 : tmOk Try.prog tmS 33 (.sl (.st 30)) := ⟨60, Try.underlying33, rfl, by kernel_rfl, by decide, by decide +kernel⟩
theorem tmk35 : tmOk Try.prog tmS 35 (.st 31) := ⟨_, Try.underlying35, by kernel_rfl, And.intro rfl (And.intro rfl (And.intro (by kernel_rfl) (And.intro rfl (And.intro rfl (And.intro (by kernel_rfl) (trivial))))))⟩
theorem tmk37 : tmOk Try.prog tmS 37 (.sl (.st 1)) := ⟨39, Try.underlying37, rfl, by kernel_rfl, by decide, by decide +kernel⟩
theorem tmk39 : tmOk Try.prog tmS 39 (.st 1) := ⟨_, Try.underlying39, by kernel_rfl, And.intro rfl (And.intro rfl (And.intro (by kernel_rfl) (And.intro rfl (And.intro rfl (And.intro (by kernel_rfl) (And.intro rfl (And.intro rfl (And.intro (by kernel_rfl) (trivial)))))))))⟩
theorem tmk49 : tmOk Try.prog tmS 49 (.sl (.st 25)) := ⟨86, Try.underlying49, rfl, by kernel_rfl, by decide, by decide +kernel⟩
theorem tmk52 : tmOk Try.prog tmS 52 (.sl (.st 25)) := ⟨90, Try.underlying52, rfl, by kernel_rfl, by decide, by decide +kernel⟩
theorem tmk58 : tmOk Try.prog tmS 58 (.sl (.st 29)) := ⟨133, Try.underlying58, rfl, by kernel_rfl, by decide, by decide +kernel⟩
theorem tmk60 : tmOk Try.prog tmS 60 (.st 30) := ⟨_, Try.underlying60, by kernel_rfl, And.intro rfl (And.intro rfl (And.intro (by kernel_rfl) (And.intro rfl (And.intro rfl (And.intro (by kernel_rfl) (And.intro rfl (And.intro rfl (And.intro (by kernel_rfl) (trivial)))))))))⟩
theorem tmk67 : tmOk Try.prog tmS 67 (.sl (.str)) := ⟨9, Try.underlying67, rfl, by kernel_rfl, by decide, by decide +kernel⟩
theorem tmk68 : tmOk Try.prog tmS 68 (.sl (.st 18)) := ⟨138, Try.underlying68, rfl, by kernel_rfl, by decide, by decide +kernel⟩
theorem tmk69 : tmOk Try.prog tmS 69 (.sl (.st 21)) := ⟨72, Try.underlying69, rfl, by kernel_rfl, by decide, by decide +kernel⟩
theorem tmk70 : tmOk Try.prog tmS 70 (.sl (.st 20)) := ⟨123, Try.underlying70, rfl, by kernel_rfl, by decide, by decide +kernel⟩
theorem tmk72 : tmOk Try.prog tmS 72 (.st 21) := ⟨_, Try.underlying72, by kernel_rfl, And.intro rfl (And.intro rfl (And.intro (by kernel_rfl) (And.intro rfl (And.intro rfl (And.intro (by kernel_rfl) (And.intro rfl (And.intro rfl (And.intro (by kernel_rfl) (And.intro rfl (And.intro rfl (And.intro (by kernel_rfl) (And.intro rfl (And.intro rfl (And.intro (by kernel_rfl) (And.intro rfl (And.intro rfl (And.intro (by kernel_rfl) (And.intro rfl (And.intro rfl (And.intro (by kernel_rfl) (And.intro rfl (And.intro rfl (And.intro (by kernel_rfl) (And.intro rfl (And.intro rfl (And.intro (by kernel_rfl) (trivial)))))))))))))))))))))))))))⟩
theorem tmk74 : tmOk Try.prog tmS 74 (.st 28) := ⟨_, Try.underlying74, by kernel_rfl, And.intro rfl (And.intro rfl (And.intro (by kernel_rfl) (And.intro rfl (And.intro rfl (And.intro (by kernel_rfl) (And.intro rfl (And.intro rfl (And.intro (by kernel_rfl) (And.intro rfl (And.intro rfl (And.intro (by kernel_rfl) (trivial))))))))))))⟩
theorem tmk78 : tmOk Try.prog tmS 78 (.sl (.st 9)) := ⟨147, Try.underlying78, rfl, by kernel_rfl, by decide, by decide +kernel⟩
theorem tmk79 : tmOk Try.prog tmS 79 (.sl (.st 12)) := ⟨150, Try.underlying79, rfl, by kernel_rfl, by decide, by decide +kernel⟩
theorem tmk80 : tmOk Try.prog tmS 80 (.sl (.st 18)) := ⟨168, Try.underlying80, rfl, by kernel_rfl, by decide, by decide +kernel⟩
theorem tmk81 : tmOk Try.prog tmS 81 (.sl (.st 21)) := ⟨84, Try.underlying81, rfl, by kernel_rfl, by decide, by decide +kernel⟩
theorem tmk82 : tmOk Try.prog tmS 82 (.sl (.st 20)) := ⟨171, Try.underlying82, rfl, by kernel_rfl, by decide, by decide +kernel⟩
theorem tmk84 : tmOk Try.prog tmS 84 (.st 21) := ⟨_, Try.underlying84, by kernel_rfl, And.intro rfl (And.intro rfl (And.intro (by kernel_rfl) (And.intro rfl (And.intro rfl (And.intro (by kernel_rfl) (And.intro rfl (And.intro rfl (And.intro (by kernel_rfl) (And.intro rfl (And.intro rfl (And.intro (by kernel_rfl) (And.intro rfl (And.intro rfl (And.intro (by kernel_rfl) (And.intro rfl (And.intro rfl (And.intro (by kernel_rfl) (And.intro rfl (And.intro rfl (And.intro (by kernel_rfl) (And.intro rfl (And.intro rfl (And.intro (by kernel_rfl) (And.intro rfl (And.intro rfl (And.intro (by kernel_rfl) (trivial)))))))))))))))))))))))))))⟩
theorem tmk86 : tmOk Try.prog tmS 86 (.st 25) := ⟨_, Try.underlying86, by kernel_rfl, And.intro rfl (And.intro rfl (And.intro (by kernel_rfl) (And.intro rfl (And.intro rfl (And.intro (by kernel_rfl) (And.intro rfl (And.intro rfl (And.intro (by kernel_rfl) (And.intro rfl (And.intro rfl (And.intro (by kernel_rfl) (And.intro rfl (And.intro rfl (And.intro (by kernel_rfl) (And.intro rfl (And.intro rfl (And.intro (by kernel_rfl) (And.intro rfl (And.intro rfl (And.intro (by kernel_rfl) (And.intro rfl (And.intro rfl (And.intro (by kernel_rfl) (And.intro rfl (And.intro rfl (And.intro (by kernel_rfl) (trivial)))))))))))))))))))))))))))⟩
theorem tmk87 : tmOk Try.prog tmS 87 (.sl (.st 9)) := ⟨118, Try.underlying87, rfl, by kernel_rfl, by decide, by decide +kernel⟩
theorem tmk88 : tmOk Try.prog tmS 88 (.sl (.st 12)) := ⟨120, Try.underlying88, rfl, by kernel_rfl, by decide, by decide +kernel⟩
theorem tmk90 : tmOk Try.prog tmS 90 (.st 25) := ⟨_, Try.underlying90, by kernel_rfl, And.intro rfl (And.intro rfl (And.intro (by kernel_rfl) (And.intro rfl (And.intro rfl (And.intro (by kernel_rfl) (And.intro rfl (And.intro rfl (And.intro (by kernel_rfl) (And.intro rfl (And.intro rfl (And.intro (by kernel_rfl) (And.intro rfl (And.intro rfl (And.intro (by kernel_rfl) (And.intro rfl (And.intro rfl (And.intro (by kernel_rfl) (And.intro rfl (And.intro rfl (And.intro (by kernel_rfl) (And.intro rfl (And.intro rfl (And.intro (by kernel_rfl) (And.intro rfl (And.intro rfl (And.intro (by kernel_rfl) (trivial)))))))))))))))))))))))))))⟩
theorem tmk105 : tmOk Try.prog tmS 105 (.st 28) := ⟨_, Try.underlying105, by kernel_rfl, And.intro rfl (And.intro rfl (And.intro (by kernel_rfl) (And.intro rfl (And.intro rfl (And.intro (by kernel_rfl) (And.intro rfl (And.intro rfl (And.intro (by kernel_rfl) (And.intro rfl (And.intro rfl (And.intro (by kernel_rfl) (trivial))))))))))))⟩
theorem tmk107 : tmOk Try.prog tmS 107 (.sl (.st 29)) := ⟨162, Try.underlying107, rfl, by kernel_rfl, by decide, by decide +kernel⟩
theorem tmk109 : tmOk Try.prog tmS 109 (.st 30) := ⟨_, Try.underlying109, by kernel_rfl, And.intro rfl (And.intro rfl (And.intro (by kernel_rfl) (And.intro rfl (And.intro rfl (And.intro (by kernel_rfl) (And.intro rfl (And.intro rfl (And.intro (by kernel_rfl) (trivial)))))))))⟩
theorem tmk118 : tmOk Try.prog tmS 118 (.st 9) := ⟨_, Try.underlying118, by kernel_rfl, And.intro rfl (And.intro rfl (And.intro (by kernel_rfl) (And.intro rfl (And.intro rfl (And.intro (by kernel_rfl) (trivial))))))⟩
theorem tmk120 : tmOk Try.prog tmS 120 (.st 12) := ⟨_, Try.underlying120, by kernel_rfl, And.intro rfl (And.intro rfl (And.intro (by kernel_rfl) (And.intro rfl (And.intro rfl (And.intro (by kernel_rfl) (trivial))))))⟩
theorem tmk123 : tmOk Try.prog tmS 123 (.st 20) := ⟨_, Try.underlying123, by kernel_rfl, And.intro rfl (And.intro rfl (And.intro (by kernel_rfl) (And.intro rfl (And.intro rfl (And.intro (by kernel_rfl) (And.intro rfl (And.intro rfl (And.intro (by kernel_rfl) (trivial)))))))))⟩
theorem tmk133 : tmOk Try.prog tmS 133 (.st 29) := ⟨_, Try.underlying133, by kernel_rfl, And.intro rfl (And.intro rfl (And.intro (by kernel_rfl) (And.intro rfl (And.intro rfl (And.intro (by kernel_rfl) (And.intro rfl (And.intro rfl (And.intro (by kernel_rfl) (trivial)))))))))⟩
theorem tmk136 : tmOk Try.prog tmS 136 (.st 16) := ⟨_, Try.underlying136, by kernel_rfl, And.intro rfl (And.intro rfl (And.intro (by kernel_rfl) (And.intro rfl (And.intro rfl (And.intro (by kernel_rfl) (trivial))))))⟩
theorem tmk138 : tmOk Try.prog tmS 138 (.st 18) := ⟨_, Try.underlying138, by kernel_rfl, And.intro rfl (And.intro rfl (And.intro (by kernel_rfl) (And.intro rfl (And.intro rfl (And.intro (by kernel_rfl) (And.intro rfl (And.intro rfl (And.intro (by kernel_rfl) (And.intro rfl (And.intro rfl (And.intro (by kernel_rfl) (trivial))))))))))))⟩
theorem tmk147 : tmOk Try.prog tmS 147 (.st 9) := ⟨_, Try.underlying147, by kernel_rfl, And.intro rfl (And.intro rfl (And.intro (by kernel_rfl) (And.intro rfl (And.intro rfl (And.intro (by kernel_rfl) (trivial))))))⟩
theorem tmk150 : tmOk Try.prog tmS 150 (.st 12) := ⟨_, Try.underlying150, by kernel_rfl, And.intro rfl (And.intro rfl (And.intro (by kernel_rfl) (And.intro rfl (And.intro rfl (And.intro (by kernel_rfl) (trivial))))))⟩
theorem tmk162 : tmOk Try.prog tmS 162 (.st 29) := ⟨_, Try.underlying162, by kernel_rfl, And.intro rfl (And.intro rfl (And.intro (by kernel_rfl) (And.intro rfl (And.intro rfl (And.intro (by kernel_rfl) (And.intro rfl (And.intro rfl (And.intro (by kernel_rfl) (trivial)))))))))⟩
theorem tmk166 : tmOk Try.prog tmS 166 (.st 16) := ⟨_, Try.underlying166, by kernel_rfl, And.intro rfl (And.intro rfl (And.intro (by kernel_rfl) (And.intro rfl (And.intro rfl (And.intro (by kernel_rfl) (trivial))))))⟩
theorem tmk168 : tmOk Try.prog tmS 168 (.st 18) := ⟨_, Try.underlying168, by kernel_rfl, And.intro rfl (And.intro rfl (And.intro (by kernel_rfl) (And.intro rfl (And.intro rfl (And.intro (by kernel_rfl) (And.intro rfl (And.intro rfl (And.intro (by kernel_rfl) (And.intro rfl (And.intro rfl (And.intro (by kernel_rfl) (trivial))))))))))))⟩
theorem tmk171 : tmOk Try.prog tmS 171 (.st 20) := ⟨_, Try.underlying171, by kernel_rfl, And.intro rfl (And.intro rfl (And.intro (by kernel_rfl) (And.intro rfl (And.intro rfl (And.intro (by kernel_rfl) (And.intro rfl (And.intro rfl (And.intro (by kernel_rfl) (trivial)))))))))⟩
theorem tmk194 : tmOk Try.prog tmS 194 (.sl (.st 27)) := ⟨202, Try.underlying194, rfl, by kernel_rfl, by decide, by decide +kernel⟩
theorem tmk195 : tmOk Try.prog tmS 195 (.sl (.st 26)) := ⟨200, Try.underlying195, rfl, by kernel_rfl, by decide, by decide +kernel⟩
theorem tmk198 : tmOk Try.prog tmS 198 (.sl (.int)) := ⟨3, Try.underlying198, rfl, by kernel_rfl, by decide, by decide +kernel⟩
theorem tmk200 : tmOk Try.prog tmS 200 (.st 26) := ⟨_, Try.underlying200, by kernel_rfl, And.intro rfl (And.intro rfl (And.intro (by kernel_rfl) (And.intro rfl (And.intro rfl (And.intro (by kernel_rfl) (And.intro rfl (And.intro rfl (And.intro (by kernel_rfl) (And.intro rfl (And.intro rfl (And.intro (by kernel_rfl) (trivial))))))))))))⟩
theorem tmk202 : tmOk Try.prog tmS 202 (.st 27) := ⟨_, Try.underlying202, by kernel_rfl, And.intro rfl (And.intro rfl (And.intro (by kernel_rfl) (And.intro rfl (And.intro rfl (And.intro (by kernel_rfl) (And.intro rfl (And.intro rfl (And.intro (by kernel_rfl) (And.intro rfl (And.intro rfl (And.intro (by kernel_rfl) (And.intro rfl (And.intro rfl (And.intro (by kernel_rfl) (trivial)))))))))))))))⟩
theorem tm_ok : ∀ (T : TypeId) (s : Sh), tmS T = some s → tmOk Try.prog tmS T s := by
  intro T s h
  unfold tmS at h
  split at h
  · cases h; exact tmk3
  · cases h; exact tmk4
  · cases h; exact tmk9
  · cases h; exact tmk22
  · cases h; exact tmk23
  · cases h; exact tmk25
  · cases h; exact tmk26
  · cases h; exact tmk28
  · cases h; exact tmk32
  · cases h; exact tmk33
  · cases h; exact tmk35
  · cases h; exact tmk37
  · cases h; exact tmk39
  · cases h; exact tmk49
  · cases h; exact tmk52
  · cases h; exact tmk58
  · cases h; exact tmk60
  · cases h; exact tmk67
  · cases h; exact tmk68
  · cases h; exact tmk69
  · cases h; exact tmk70
  · cases h; exact tmk72
  · cases h; exact tmk74
  · cases h; exact tmk78
  · cases h; exact tmk79
  · cases h; exact tmk80
  · cases h; exact tmk81
  · cases h; exact tmk82
  · cases h; exact tmk84
  · cases h; exact tmk86
  · cases h; exact tmk87
  · cases h; exact tmk88
  · cases h; exact tmk90
  · cases h; exact tmk105
  · cases h; exact tmk107
  · cases h; exact tmk109
  · cases h; exact tmk118
  · cases h; exact tmk120
  · cases h; exact tmk123
  · cases h; exact tmk133
  · cases h; exact tmk136
  · cases h; exact tmk138
  · cases h; exact tmk147
  · cases h; exact tmk150
  · cases h; exact tmk162
  · cases h; exact tmk166
  · cases h; exact tmk168
  · cases h; exact tmk171
  · cases h; exact tmk194
  · cases h; exact tmk195
  · cases h; exact tmk198
  · cases h; exact tmk200
  · cases h; exact tmk202
  · cases h
theorem tmix : Try.prog.follows .mixedOrders = true := by kernel_rfl
end Go.Proofs.Ytbhigchfphnkhaa
