/- What the program says of its types. Written by a program of mine. -/
import Derived.Test.YthojhakapbfbiaaProg
import Derived.Test.YthojhakapbfbiaaEng37
namespace Go.Proofs.Ythojhakapbfbiaa
open Go Go.Eng
instance ti3 : TI Try.prog 3 false 1 8 := ⟨by kernel_rfl⟩
instance tu3 : TU Try.prog 3 .i64 := ⟨by kernel_rfl⟩
instance tz3 : TZ Try.prog 3 [.int .i64 0] := ⟨by kernel_rfl⟩
instance ti4 : TI Try.prog 4 false 1 1 := ⟨by kernel_rfl⟩
instance tb4 : TB Try.prog 4 := ⟨by kernel_rfl⟩
instance tz4 : TZ Try.prog 4 [.bool false] := ⟨by kernel_rfl⟩
instance ti5 : TI Try.prog 5 false 1 1 := ⟨by kernel_rfl⟩
instance tu5 : TU Try.prog 5 .u8 := ⟨by kernel_rfl⟩
instance tz5 : TZ Try.prog 5 [.int .u8 0] := ⟨by kernel_rfl⟩
instance ti9 : TI Try.prog 9 false 1 16 := ⟨by kernel_rfl⟩
instance tss9 : TS Try.prog 9 := ⟨by kernel_rfl⟩
instance tz9 : TZ Try.prog 9 [.string ⟨#[]⟩] := ⟨by kernel_rfl⟩
instance ti21 : TI Try.prog 21 false 1 4 := ⟨by kernel_rfl⟩
instance tu21 : TU Try.prog 21 .i32 := ⟨by kernel_rfl⟩
instance tz21 : TZ Try.prog 21 [.int .i32 0] := ⟨by kernel_rfl⟩
instance ti22 : TI Try.prog 22 false 1 24 := ⟨by kernel_rfl⟩
instance te22 : TE Try.prog 22 86 := ⟨by kernel_rfl⟩
instance tz22 : TZ Try.prog 22 [.slice none 0 0] := ⟨by kernel_rfl⟩
instance ti23 : TI Try.prog 23 false 1 24 := ⟨by kernel_rfl⟩
instance te23 : TE Try.prog 23 113 := ⟨by kernel_rfl⟩
instance tz23 : TZ Try.prog 23 [.slice none 0 0] := ⟨by kernel_rfl⟩
instance ti24 : TI Try.prog 24 false 1 24 := ⟨by kernel_rfl⟩
instance te24 : TE Try.prog 24 118 := ⟨by kernel_rfl⟩
instance tz24 : TZ Try.prog 24 [.slice none 0 0] := ⟨by kernel_rfl⟩
instance ti26 : TI Try.prog 26 true 8 112 := ⟨by kernel_rfl⟩
instance tf26_0 : TF Try.prog 26 0 0 := ⟨by kernel_rfl⟩
instance tf26_1 : TF Try.prog 26 1 1 := ⟨by kernel_rfl⟩
instance tf26_2 : TF Try.prog 26 2 2 := ⟨by kernel_rfl⟩
instance tf26_3 : TF Try.prog 26 3 3 := ⟨by kernel_rfl⟩
instance tf26_4 : TF Try.prog 26 4 4 := ⟨by kernel_rfl⟩
instance tf26_5 : TF Try.prog 26 5 5 := ⟨by kernel_rfl⟩
instance tf26_6 : TF Try.prog 26 6 6 := ⟨by kernel_rfl⟩
instance tf26_7 : TF Try.prog 26 7 7 := ⟨by kernel_rfl⟩
instance tbd26 : TBd Try.prog 26 := ⟨by kernel_rfl⟩
instance tfs26_0 : TFS Try.prog 26 0 0 1 := ⟨by kernel_rfl⟩
instance tfs26_1 : TFS Try.prog 26 1 1 1 := ⟨by kernel_rfl⟩
instance tfs26_2 : TFS Try.prog 26 2 2 1 := ⟨by kernel_rfl⟩
instance tfs26_3 : TFS Try.prog 26 3 3 1 := ⟨by kernel_rfl⟩
instance tfs26_4 : TFS Try.prog 26 4 4 1 := ⟨by kernel_rfl⟩
instance tfs26_5 : TFS Try.prog 26 5 5 1 := ⟨by kernel_rfl⟩
instance tfs26_6 : TFS Try.prog 26 6 6 1 := ⟨by kernel_rfl⟩
instance tfs26_7 : TFS Try.prog 26 7 7 1 := ⟨by kernel_rfl⟩
instance tz26 : TZ Try.prog 26 [.int .i64 0, .int .i64 0, .int .i64 0, .slice none 0 0, .slice none 0 0, .slice none 0 0, .int .i64 0, .int .i64 0] := ⟨by kernel_rfl⟩
instance ti27 : TI Try.prog 27 false 1 24 := ⟨by kernel_rfl⟩
instance te27 : TE Try.prog 27 29 := ⟨by kernel_rfl⟩
instance tz27 : TZ Try.prog 27 [.slice none 0 0] := ⟨by kernel_rfl⟩
instance ti29 : TI Try.prog 29 true 3 48 := ⟨by kernel_rfl⟩
instance tf29_0 : TF Try.prog 29 0 0 := ⟨by kernel_rfl⟩
instance tf29_1 : TF Try.prog 29 1 1 := ⟨by kernel_rfl⟩
instance tf29_2 : TF Try.prog 29 2 2 := ⟨by kernel_rfl⟩
instance tbd29 : TBd Try.prog 29 := ⟨by kernel_rfl⟩
instance tfs29_0 : TFS Try.prog 29 0 0 1 := ⟨by kernel_rfl⟩
instance tfs29_1 : TFS Try.prog 29 1 1 1 := ⟨by kernel_rfl⟩
instance tfs29_2 : TFS Try.prog 29 2 2 1 := ⟨by kernel_rfl⟩
instance tz29 : TZ Try.prog 29 [.int .i64 0, .string ⟨#[]⟩, .slice none 0 0] := ⟨by kernel_rfl⟩
instance ti32 : TI Try.prog 32 false 1 24 := ⟨by kernel_rfl⟩
instance te32 : TE Try.prog 32 34 := ⟨by kernel_rfl⟩
instance tz32 : TZ Try.prog 32 [.slice none 0 0] := ⟨by kernel_rfl⟩
instance ti34 : TI Try.prog 34 true 3 48 := ⟨by kernel_rfl⟩
instance tf34_0 : TF Try.prog 34 0 0 := ⟨by kernel_rfl⟩
instance tf34_1 : TF Try.prog 34 1 1 := ⟨by kernel_rfl⟩
instance tf34_2 : TF Try.prog 34 2 2 := ⟨by kernel_rfl⟩
instance tbd34 : TBd Try.prog 34 := ⟨by kernel_rfl⟩
instance tfs34_0 : TFS Try.prog 34 0 0 1 := ⟨by kernel_rfl⟩
instance tfs34_1 : TFS Try.prog 34 1 1 1 := ⟨by kernel_rfl⟩
instance tfs34_2 : TFS Try.prog 34 2 2 1 := ⟨by kernel_rfl⟩
instance tz34 : TZ Try.prog 34 [.int .i64 0, .string ⟨#[]⟩, .slice none 0 0] := ⟨by kernel_rfl⟩
instance ti36 : TI Try.prog 36 false 1 24 := ⟨by kernel_rfl⟩
instance te36 : TE Try.prog 36 96 := ⟨by kernel_rfl⟩
instance tz36 : TZ Try.prog 36 [.slice none 0 0] := ⟨by kernel_rfl⟩
instance ti37 : TI Try.prog 37 false 1 24 := ⟨by kernel_rfl⟩
instance te37 : TE Try.prog 37 124 := ⟨by kernel_rfl⟩
instance tz37 : TZ Try.prog 37 [.slice none 0 0] := ⟨by kernel_rfl⟩
instance ti38 : TI Try.prog 38 false 1 24 := ⟨by kernel_rfl⟩
instance te38 : TE Try.prog 38 129 := ⟨by kernel_rfl⟩
instance tz38 : TZ Try.prog 38 [.slice none 0 0] := ⟨by kernel_rfl⟩
instance ti40 : TI Try.prog 40 true 8 112 := ⟨by kernel_rfl⟩
instance tf40_0 : TF Try.prog 40 0 0 := ⟨by kernel_rfl⟩
instance tf40_1 : TF Try.prog 40 1 1 := ⟨by kernel_rfl⟩
instance tf40_2 : TF Try.prog 40 2 2 := ⟨by kernel_rfl⟩
instance tf40_3 : TF Try.prog 40 3 3 := ⟨by kernel_rfl⟩
instance tf40_4 : TF Try.prog 40 4 4 := ⟨by kernel_rfl⟩
instance tf40_5 : TF Try.prog 40 5 5 := ⟨by kernel_rfl⟩
instance tf40_6 : TF Try.prog 40 6 6 := ⟨by kernel_rfl⟩
instance tf40_7 : TF Try.prog 40 7 7 := ⟨by kernel_rfl⟩
instance tbd40 : TBd Try.prog 40 := ⟨by kernel_rfl⟩
instance tfs40_0 : TFS Try.prog 40 0 0 1 := ⟨by kernel_rfl⟩
instance tfs40_1 : TFS Try.prog 40 1 1 1 := ⟨by kernel_rfl⟩
instance tfs40_2 : TFS Try.prog 40 2 2 1 := ⟨by kernel_rfl⟩
instance tfs40_3 : TFS Try.prog 40 3 3 1 := ⟨by kernel_rfl⟩
instance tfs40_4 : TFS Try.prog 40 4 4 1 := ⟨by kernel_rfl⟩
instance tfs40_5 : TFS Try.prog 40 5 5 1 := ⟨by kernel_rfl⟩
instance tfs40_6 : TFS Try.prog 40 6 6 1 := ⟨by kernel_rfl⟩
instance tfs40_7 : TFS Try.prog 40 7 7 1 := ⟨by kernel_rfl⟩
instance tz40 : TZ Try.prog 40 [.int .i64 0, .int .i64 0, .int .i64 0, .slice none 0 0, .slice none 0 0, .slice none 0 0, .int .i64 0, .int .i64 0] := ⟨by kernel_rfl⟩
instance ti48 : TI Try.prog 48 false 1 24 := ⟨by kernel_rfl⟩
instance te48 : TE Try.prog 48 143 := ⟨by kernel_rfl⟩
instance tz48 : TZ Try.prog 48 [.slice none 0 0] := ⟨by kernel_rfl⟩
instance ti49 : TI Try.prog 49 false 1 24 := ⟨by kernel_rfl⟩
instance te49 : TE Try.prog 49 52 := ⟨by kernel_rfl⟩
instance tz49 : TZ Try.prog 49 [.slice none 0 0] := ⟨by kernel_rfl⟩
instance ti50 : TI Try.prog 50 false 1 24 := ⟨by kernel_rfl⟩
instance te50 : TE Try.prog 50 146 := ⟨by kernel_rfl⟩
instance tz50 : TZ Try.prog 50 [.slice none 0 0] := ⟨by kernel_rfl⟩
instance ti52 : TI Try.prog 52 true 11 192 := ⟨by kernel_rfl⟩
instance tf52_0 : TF Try.prog 52 0 0 := ⟨by kernel_rfl⟩
instance tf52_1 : TF Try.prog 52 1 1 := ⟨by kernel_rfl⟩
instance tf52_2 : TF Try.prog 52 2 2 := ⟨by kernel_rfl⟩
instance tf52_3 : TF Try.prog 52 3 3 := ⟨by kernel_rfl⟩
instance tf52_4 : TF Try.prog 52 4 4 := ⟨by kernel_rfl⟩
instance tf52_5 : TF Try.prog 52 5 7 := ⟨by kernel_rfl⟩
instance tf52_6 : TF Try.prog 52 6 8 := ⟨by kernel_rfl⟩
instance tf52_7 : TF Try.prog 52 7 9 := ⟨by kernel_rfl⟩
instance tf52_8 : TF Try.prog 52 8 10 := ⟨by kernel_rfl⟩
instance tbd52 : TBd Try.prog 52 := ⟨by kernel_rfl⟩
instance tfs52_0 : TFS Try.prog 52 0 0 1 := ⟨by kernel_rfl⟩
instance tfs52_1 : TFS Try.prog 52 1 1 1 := ⟨by kernel_rfl⟩
instance tfs52_2 : TFS Try.prog 52 2 2 1 := ⟨by kernel_rfl⟩
instance tfs52_3 : TFS Try.prog 52 3 3 1 := ⟨by kernel_rfl⟩
instance tfs52_4 : TFS Try.prog 52 4 4 3 := ⟨by kernel_rfl⟩
instance tfs52_5 : TFS Try.prog 52 5 7 1 := ⟨by kernel_rfl⟩
instance tfs52_6 : TFS Try.prog 52 6 8 1 := ⟨by kernel_rfl⟩
instance tfs52_7 : TFS Try.prog 52 7 9 1 := ⟨by kernel_rfl⟩
instance tfs52_8 : TFS Try.prog 52 8 10 1 := ⟨by kernel_rfl⟩
instance tz52 : TZ Try.prog 52 [.int .i64 0, .string ⟨#[]⟩, .string ⟨#[]⟩, .int .i64 0, .int .i64 0, .string ⟨#[]⟩, .slice none 0 0, .slice none 0 0, .slice none 0 0, .slice none 0 0, .slice none 0 0] := ⟨by kernel_rfl⟩
instance ti55 : TI Try.prog 55 false 1 24 := ⟨by kernel_rfl⟩
instance te55 : TE Try.prog 55 149 := ⟨by kernel_rfl⟩
instance tz55 : TZ Try.prog 55 [.slice none 0 0] := ⟨by kernel_rfl⟩
instance ti56 : TI Try.prog 56 false 1 24 := ⟨by kernel_rfl⟩
instance te56 : TE Try.prog 56 59 := ⟨by kernel_rfl⟩
instance tz56 : TZ Try.prog 56 [.slice none 0 0] := ⟨by kernel_rfl⟩
instance ti57 : TI Try.prog 57 false 1 24 := ⟨by kernel_rfl⟩
instance te57 : TE Try.prog 57 94 := ⟨by kernel_rfl⟩
instance tz57 : TZ Try.prog 57 [.slice none 0 0] := ⟨by kernel_rfl⟩
instance ti59 : TI Try.prog 59 true 11 192 := ⟨by kernel_rfl⟩
instance tf59_0 : TF Try.prog 59 0 0 := ⟨by kernel_rfl⟩
instance tf59_1 : TF Try.prog 59 1 1 := ⟨by kernel_rfl⟩
instance tf59_2 : TF Try.prog 59 2 2 := ⟨by kernel_rfl⟩
instance tf59_3 : TF Try.prog 59 3 3 := ⟨by kernel_rfl⟩
instance tf59_4 : TF Try.prog 59 4 4 := ⟨by kernel_rfl⟩
instance tf59_5 : TF Try.prog 59 5 7 := ⟨by kernel_rfl⟩
instance tf59_6 : TF Try.prog 59 6 8 := ⟨by kernel_rfl⟩
instance tf59_7 : TF Try.prog 59 7 9 := ⟨by kernel_rfl⟩
instance tf59_8 : TF Try.prog 59 8 10 := ⟨by kernel_rfl⟩
instance tbd59 : TBd Try.prog 59 := ⟨by kernel_rfl⟩
instance tfs59_0 : TFS Try.prog 59 0 0 1 := ⟨by kernel_rfl⟩
instance tfs59_1 : TFS Try.prog 59 1 1 1 := ⟨by kernel_rfl⟩
instance tfs59_2 : TFS Try.prog 59 2 2 1 := ⟨by kernel_rfl⟩
instance tfs59_3 : TFS Try.prog 59 3 3 1 := ⟨by kernel_rfl⟩
instance tfs59_4 : TFS Try.prog 59 4 4 3 := ⟨by kernel_rfl⟩
instance tfs59_5 : TFS Try.prog 59 5 7 1 := ⟨by kernel_rfl⟩
instance tfs59_6 : TFS Try.prog 59 6 8 1 := ⟨by kernel_rfl⟩
instance tfs59_7 : TFS Try.prog 59 7 9 1 := ⟨by kernel_rfl⟩
instance tfs59_8 : TFS Try.prog 59 8 10 1 := ⟨by kernel_rfl⟩
instance tz59 : TZ Try.prog 59 [.int .i64 0, .string ⟨#[]⟩, .string ⟨#[]⟩, .int .i64 0, .int .i64 0, .string ⟨#[]⟩, .slice none 0 0, .slice none 0 0, .slice none 0 0, .slice none 0 0, .slice none 0 0] := ⟨by kernel_rfl⟩
instance ti86 : TI Try.prog 86 true 4 64 := ⟨by kernel_rfl⟩
instance tf86_0 : TF Try.prog 86 0 0 := ⟨by kernel_rfl⟩
instance tf86_1 : TF Try.prog 86 1 1 := ⟨by kernel_rfl⟩
instance tbd86 : TBd Try.prog 86 := ⟨by kernel_rfl⟩
instance tfs86_0 : TFS Try.prog 86 0 0 1 := ⟨by kernel_rfl⟩
instance tfs86_1 : TFS Try.prog 86 1 1 3 := ⟨by kernel_rfl⟩
instance tz86 : TZ Try.prog 86 [.string ⟨#[]⟩, .int .i64 0, .string ⟨#[]⟩, .slice none 0 0] := ⟨by kernel_rfl⟩
instance ti92 : TI Try.prog 92 false 1 24 := ⟨by kernel_rfl⟩
instance te92 : TE Try.prog 92 9 := ⟨by kernel_rfl⟩
instance tz92 : TZ Try.prog 92 [.slice none 0 0] := ⟨by kernel_rfl⟩
instance ti94 : TI Try.prog 94 true 13 232 := ⟨by kernel_rfl⟩
instance tf94_0 : TF Try.prog 94 0 0 := ⟨by kernel_rfl⟩
instance tf94_1 : TF Try.prog 94 1 1 := ⟨by kernel_rfl⟩
instance tf94_2 : TF Try.prog 94 2 2 := ⟨by kernel_rfl⟩
instance tbd94 : TBd Try.prog 94 := ⟨by kernel_rfl⟩
instance tfs94_0 : TFS Try.prog 94 0 0 1 := ⟨by kernel_rfl⟩
instance tfs94_1 : TFS Try.prog 94 1 1 1 := ⟨by kernel_rfl⟩
instance tfs94_2 : TFS Try.prog 94 2 2 11 := ⟨by kernel_rfl⟩
instance tz94 : TZ Try.prog 94 [.string ⟨#[]⟩, .slice none 0 0, .int .i64 0, .string ⟨#[]⟩, .string ⟨#[]⟩, .int .i64 0, .int .i64 0, .string ⟨#[]⟩, .slice none 0 0, .slice none 0 0, .slice none 0 0, .slice none 0 0, .slice none 0 0] := ⟨by kernel_rfl⟩
instance ti96 : TI Try.prog 96 true 4 64 := ⟨by kernel_rfl⟩
instance tf96_0 : TF Try.prog 96 0 0 := ⟨by kernel_rfl⟩
instance tf96_1 : TF Try.prog 96 1 1 := ⟨by kernel_rfl⟩
instance tbd96 : TBd Try.prog 96 := ⟨by kernel_rfl⟩
instance tfs96_0 : TFS Try.prog 96 0 0 1 := ⟨by kernel_rfl⟩
instance tfs96_1 : TFS Try.prog 96 1 1 3 := ⟨by kernel_rfl⟩
instance tz96 : TZ Try.prog 96 [.string ⟨#[]⟩, .int .i64 0, .string ⟨#[]⟩, .slice none 0 0] := ⟨by kernel_rfl⟩
instance ti113 : TI Try.prog 113 true 7 104 := ⟨by kernel_rfl⟩
instance tf113_0 : TF Try.prog 113 0 0 := ⟨by kernel_rfl⟩
instance tf113_1 : TF Try.prog 113 1 3 := ⟨by kernel_rfl⟩
instance tf113_2 : TF Try.prog 113 2 6 := ⟨by kernel_rfl⟩
instance tbd113 : TBd Try.prog 113 := ⟨by kernel_rfl⟩
instance tfs113_0 : TFS Try.prog 113 0 0 3 := ⟨by kernel_rfl⟩
instance tfs113_1 : TFS Try.prog 113 1 3 3 := ⟨by kernel_rfl⟩
instance tfs113_2 : TFS Try.prog 113 2 6 1 := ⟨by kernel_rfl⟩
instance tz113 : TZ Try.prog 113 [.int .i64 0, .string ⟨#[]⟩, .slice none 0 0, .int .i64 0, .string ⟨#[]⟩, .slice none 0 0, .int .i64 0] := ⟨by kernel_rfl⟩
instance ti116 : TI Try.prog 116 true 4 64 := ⟨by kernel_rfl⟩
instance tf116_0 : TF Try.prog 116 0 0 := ⟨by kernel_rfl⟩
instance tf116_1 : TF Try.prog 116 1 1 := ⟨by kernel_rfl⟩
instance tbd116 : TBd Try.prog 116 := ⟨by kernel_rfl⟩
instance tfs116_0 : TFS Try.prog 116 0 0 1 := ⟨by kernel_rfl⟩
instance tfs116_1 : TFS Try.prog 116 1 1 3 := ⟨by kernel_rfl⟩
instance tz116 : TZ Try.prog 116 [.string ⟨#[]⟩, .int .i64 0, .string ⟨#[]⟩, .slice none 0 0] := ⟨by kernel_rfl⟩
instance ti118 : TI Try.prog 118 true 5 72 := ⟨by kernel_rfl⟩
instance tf118_0 : TF Try.prog 118 0 0 := ⟨by kernel_rfl⟩
instance tf118_1 : TF Try.prog 118 1 4 := ⟨by kernel_rfl⟩
instance tbd118 : TBd Try.prog 118 := ⟨by kernel_rfl⟩
instance tfs118_0 : TFS Try.prog 118 0 0 4 := ⟨by kernel_rfl⟩
instance tfs118_1 : TFS Try.prog 118 1 4 1 := ⟨by kernel_rfl⟩
instance tz118 : TZ Try.prog 118 [.string ⟨#[]⟩, .int .i64 0, .string ⟨#[]⟩, .slice none 0 0, .int .i64 0] := ⟨by kernel_rfl⟩
instance ti124 : TI Try.prog 124 true 7 104 := ⟨by kernel_rfl⟩
instance tf124_0 : TF Try.prog 124 0 0 := ⟨by kernel_rfl⟩
instance tf124_1 : TF Try.prog 124 1 3 := ⟨by kernel_rfl⟩
instance tf124_2 : TF Try.prog 124 2 6 := ⟨by kernel_rfl⟩
instance tbd124 : TBd Try.prog 124 := ⟨by kernel_rfl⟩
instance tfs124_0 : TFS Try.prog 124 0 0 3 := ⟨by kernel_rfl⟩
instance tfs124_1 : TFS Try.prog 124 1 3 3 := ⟨by kernel_rfl⟩
instance tfs124_2 : TFS Try.prog 124 2 6 1 := ⟨by kernel_rfl⟩
instance tz124 : TZ Try.prog 124 [.int .i64 0, .string ⟨#[]⟩, .slice none 0 0, .int .i64 0, .string ⟨#[]⟩, .slice none 0 0, .int .i64 0] := ⟨by kernel_rfl⟩
instance ti127 : TI Try.prog 127 true 4 64 := ⟨by kernel_rfl⟩
instance tf127_0 : TF Try.prog 127 0 0 := ⟨by kernel_rfl⟩
instance tf127_1 : TF Try.prog 127 1 1 := ⟨by kernel_rfl⟩
instance tbd127 : TBd Try.prog 127 := ⟨by kernel_rfl⟩
instance tfs127_0 : TFS Try.prog 127 0 0 1 := ⟨by kernel_rfl⟩
instance tfs127_1 : TFS Try.prog 127 1 1 3 := ⟨by kernel_rfl⟩
instance tz127 : TZ Try.prog 127 [.string ⟨#[]⟩, .int .i64 0, .string ⟨#[]⟩, .slice none 0 0] := ⟨by kernel_rfl⟩
instance ti129 : TI Try.prog 129 true 5 72 := ⟨by kernel_rfl⟩
instance tf129_0 : TF Try.prog 129 0 0 := ⟨by kernel_rfl⟩
instance tf129_1 : TF Try.prog 129 1 4 := ⟨by kernel_rfl⟩
instance tbd129 : TBd Try.prog 129 := ⟨by kernel_rfl⟩
instance tfs129_0 : TFS Try.prog 129 0 0 4 := ⟨by kernel_rfl⟩
instance tfs129_1 : TFS Try.prog 129 1 4 1 := ⟨by kernel_rfl⟩
instance tz129 : TZ Try.prog 129 [.string ⟨#[]⟩, .int .i64 0, .string ⟨#[]⟩, .slice none 0 0, .int .i64 0] := ⟨by kernel_rfl⟩
instance ti131 : TI Try.prog 131 false 1 8 := ⟨by kernel_rfl⟩
instance tz131 : TZ Try.prog 131 [.pointer none] := ⟨by kernel_rfl⟩
instance ti141 : TI Try.prog 141 true 2 16 := ⟨by kernel_rfl⟩
instance tf141_0 : TF Try.prog 141 0 0 := ⟨by kernel_rfl⟩
instance tf141_1 : TF Try.prog 141 1 1 := ⟨by kernel_rfl⟩
instance tbd141 : TBd Try.prog 141 := ⟨by kernel_rfl⟩
instance tfs141_0 : TFS Try.prog 141 0 0 1 := ⟨by kernel_rfl⟩
instance tfs141_1 : TFS Try.prog 141 1 1 1 := ⟨by kernel_rfl⟩
instance tz141 : TZ Try.prog 141 [.int .i64 0, .int .i64 0] := ⟨by kernel_rfl⟩
instance ti143 : TI Try.prog 143 true 5 56 := ⟨by kernel_rfl⟩
instance tf143_0 : TF Try.prog 143 0 0 := ⟨by kernel_rfl⟩
instance tf143_1 : TF Try.prog 143 1 1 := ⟨by kernel_rfl⟩
instance tf143_2 : TF Try.prog 143 2 2 := ⟨by kernel_rfl⟩
instance tf143_3 : TF Try.prog 143 3 4 := ⟨by kernel_rfl⟩
instance tbd143 : TBd Try.prog 143 := ⟨by kernel_rfl⟩
instance tfs143_0 : TFS Try.prog 143 0 0 1 := ⟨by kernel_rfl⟩
instance tfs143_1 : TFS Try.prog 143 1 1 1 := ⟨by kernel_rfl⟩
instance tfs143_2 : TFS Try.prog 143 2 2 2 := ⟨by kernel_rfl⟩
instance tfs143_3 : TFS Try.prog 143 3 4 1 := ⟨by kernel_rfl⟩
instance tz143 : TZ Try.prog 143 [.int .i64 0, .int .i64 0, .int .i64 0, .int .i64 0, .slice none 0 0] := ⟨by kernel_rfl⟩
instance ti146 : TI Try.prog 146 true 13 232 := ⟨by kernel_rfl⟩
instance tf146_0 : TF Try.prog 146 0 0 := ⟨by kernel_rfl⟩
instance tf146_1 : TF Try.prog 146 1 1 := ⟨by kernel_rfl⟩
instance tf146_2 : TF Try.prog 146 2 2 := ⟨by kernel_rfl⟩
instance tbd146 : TBd Try.prog 146 := ⟨by kernel_rfl⟩
instance tfs146_0 : TFS Try.prog 146 0 0 1 := ⟨by kernel_rfl⟩
instance tfs146_1 : TFS Try.prog 146 1 1 1 := ⟨by kernel_rfl⟩
instance tfs146_2 : TFS Try.prog 146 2 2 11 := ⟨by kernel_rfl⟩
instance tz146 : TZ Try.prog 146 [.string ⟨#[]⟩, .slice none 0 0, .int .i64 0, .string ⟨#[]⟩, .string ⟨#[]⟩, .int .i64 0, .int .i64 0, .string ⟨#[]⟩, .slice none 0 0, .slice none 0 0, .slice none 0 0, .slice none 0 0, .slice none 0 0] := ⟨by kernel_rfl⟩
instance ti147 : TI Try.prog 147 true 2 16 := ⟨by kernel_rfl⟩
instance tf147_0 : TF Try.prog 147 0 0 := ⟨by kernel_rfl⟩
instance tf147_1 : TF Try.prog 147 1 1 := ⟨by kernel_rfl⟩
instance tbd147 : TBd Try.prog 147 := ⟨by kernel_rfl⟩
instance tfs147_0 : TFS Try.prog 147 0 0 1 := ⟨by kernel_rfl⟩
instance tfs147_1 : TFS Try.prog 147 1 1 1 := ⟨by kernel_rfl⟩
instance tz147 : TZ Try.prog 147 [.int .i64 0, .int .i64 0] := ⟨by kernel_rfl⟩
instance ti149 : TI Try.prog 149 true 5 56 := ⟨by kernel_rfl⟩
instance tf149_0 : TF Try.prog 149 0 0 := ⟨by kernel_rfl⟩
instance tf149_1 : TF Try.prog 149 1 1 := ⟨by kernel_rfl⟩
instance tf149_2 : TF Try.prog 149 2 2 := ⟨by kernel_rfl⟩
instance tf149_3 : TF Try.prog 149 3 4 := ⟨by kernel_rfl⟩
instance tbd149 : TBd Try.prog 149 := ⟨by kernel_rfl⟩
instance tfs149_0 : TFS Try.prog 149 0 0 1 := ⟨by kernel_rfl⟩
instance tfs149_1 : TFS Try.prog 149 1 1 1 := ⟨by kernel_rfl⟩
instance tfs149_2 : TFS Try.prog 149 2 2 2 := ⟨by kernel_rfl⟩
instance tfs149_3 : TFS Try.prog 149 3 4 1 := ⟨by kernel_rfl⟩
instance tz149 : TZ Try.prog 149 [.int .i64 0, .int .i64 0, .int .i64 0, .int .i64 0, .slice none 0 0] := ⟨by kernel_rfl⟩
instance ti155 : TI Try.prog 155 false 1 24 := ⟨by kernel_rfl⟩
instance te155 : TE Try.prog 155 5 := ⟨by kernel_rfl⟩
instance tz155 : TZ Try.prog 155 [.slice none 0 0] := ⟨by kernel_rfl⟩
instance ti178 : TI Try.prog 178 false 1 4 := ⟨by kernel_rfl⟩
instance tu178 : TU Try.prog 178 .u32 := ⟨by kernel_rfl⟩
instance tz178 : TZ Try.prog 178 [.int .u32 0] := ⟨by kernel_rfl⟩
instance tp147 : TP Try.prog 147 := by
  refine ⟨?_⟩
  intro w a b c d
  refine ⟨by kernel_rfl, ?_⟩
  have hund : Try.prog.underlying 147 = some (.struct (Try.prog.fieldsOf 147)) := by kernel_rfl
  have hh : Try.prog.stoodInHeld 147 = false := by kernel_rfl
  have hf : (Try.prog.fieldsOf 147).toList = [{ name := "Package", type := 3, offset := 0, embedded := false, tag := "", pkgPath := "", byteOffset := 0 }, { name := "At", type := 3, offset := 1, embedded := false, tag := "", pkgPath := "", byteOffset := 8 }] := by kernel_rfl
  have hi : Try.prog.underlying 3 = some (.int .i64) := by kernel_rfl
  have hg : tyI Try.prog 3 = some (false, 1, 8) := by kernel_rfl
  have hint : ∀ (d : Nat) (w : World) (a c : Int), (Op.equalIn (d + 1) 3 (.int .i64 a) (.int .i64 c)).run Try.prog w = .ok (a == c) w := by
    intro d w a c
    simp [Op.equalIn, run_underlying hi]
  unfold Op.equal Op.maxDepth
  rw [run_equalIn_struct w 9999 147 _ _ hund hh, hf]
  have h9 := hint 9998
  rw [show 9998 + 1 = 9999 from rfl] at h9
  by_cases h1 : a = c <;> by_cases h2 : b = d <;> simp [Op.eqFields, part, run_isAgg hg, h9, h1, h2]
def tmS : TypeId → Option Sh
  | 3 => some (.int)
  | 4 => some (.bool)
  | 9 => some (.str)
  | 22 => some (.sl (.st 2))
  | 23 => some (.sl (.st 22))
  | 24 => some (.sl (.st 23))
  | 26 => some (.st 24)
  | 27 => some (.sl (.st 1))
  | 29 => some (.st 1)
  | 32 => some (.sl (.st 1))
  | 34 => some (.st 1)
  | 36 => some (.sl (.st 2))
  | 37 => some (.sl (.st 22))
  | 38 => some (.sl (.st 23))
  | 40 => some (.st 24)
  | 48 => some (.sl (.st 18))
  | 49 => some (.sl (.st 21))
  | 50 => some (.sl (.st 20))
  | 52 => some (.st 21)
  | 55 => some (.sl (.st 18))
  | 56 => some (.sl (.st 21))
  | 57 => some (.sl (.st 20))
  | 59 => some (.st 21)
  | 86 => some (.st 2)
  | 92 => some (.sl (.str))
  | 94 => some (.st 20)
  | 96 => some (.st 2)
  | 113 => some (.st 22)
  | 116 => some (.st 9)
  | 118 => some (.st 23)
  | 124 => some (.st 22)
  | 127 => some (.st 9)
  | 129 => some (.st 23)
  | 141 => some (.st 16)
  | 143 => some (.st 18)
  | 146 => some (.st 20)
  | 147 => some (.st 16)
  | 149 => some (.st 18)
  | _ => none
theorem tmk3 : tmOk Try.prog tmS 3 (.int) := Try.underlying3
theorem tmk4 : tmOk Try.prog tmS 4 (.bool) := Try.underlying4
theorem tmk9 : tmOk Try.prog tmS 9 (.str) := Try.underlying9
theorem tmk22 : tmOk Try.prog tmS 22 (.sl (.st 2)) := ⟨86, Try.underlying22, rfl, by kernel_rfl, by decide, by decide +kernel⟩
theorem tmk23 : tmOk Try.prog tmS 23 (.sl (.st 22)) := ⟨113, Try.underlying23, rfl, by kernel_rfl, by decide, by decide +kernel⟩
theorem tmk24 : tmOk Try.prog tmS 24 (.sl (.st 23)) := ⟨118, Try.underlying24, rfl, by kernel_rfl, by decide, by decide +kernel⟩
theorem tmk26 : tmOk Try.prog tmS 26 (.st 24) := ⟨_, Try.underlying26, by kernel_rfl, And.intro rfl (And.intro rfl (And.intro (by kernel_rfl) (And.intro rfl (And.intro rfl (And.intro (by kernel_rfl) (And.intro rfl (And.intro rfl (And.intro (by kernel_rfl) (And.intro rfl (And.intro rfl (And.intro (by kernel_rfl) (And.intro rfl (And.intro rfl (And.intro (by kernel_rfl) (And.intro rfl (And.intro rfl (And.intro (by kernel_rfl) (And.intro rfl (And.intro rfl (And.intro (by kernel_rfl) (And.intro rfl (And.intro rfl (And.intro (by kernel_rfl) (trivial))))))))))))))))))))))))⟩
theorem tmk27 : tmOk Try.prog tmS 27 (.sl (.st 1)) := ⟨29, Try.underlying27, rfl, by kernel_rfl, by decide, by decide +kernel⟩
theorem tmk29 : tmOk Try.prog tmS 29 (.st 1) := ⟨_, Try.underlying29, by kernel_rfl, And.intro rfl (And.intro rfl (And.intro (by kernel_rfl) (And.intro rfl (And.intro rfl (And.intro (by kernel_rfl) (And.intro rfl (And.intro rfl (And.intro (by kernel_rfl) (trivial)))))))))⟩
theorem tmk32 : tmOk Try.prog tmS 32 (.sl (.st 1)) := ⟨34, Try.underlying32, rfl, by kernel_rfl, by decide, by decide +kernel⟩
theorem tmk34 : tmOk Try.prog tmS 34 (.st 1) := ⟨_, Try.underlying34, by kernel_rfl, And.intro rfl (And.intro rfl (And.intro (by kernel_rfl) (And.intro rfl (And.intro rfl (And.intro (by kernel_rfl) (And.intro rfl (And.intro rfl (And.intro (by kernel_rfl) (trivial)))))))))⟩
theorem tmk36 : tmOk Try.prog tmS 36 (.sl (.st 2)) := ⟨96, Try.underlying36, rfl, by kernel_rfl, by decide, by decide +kernel⟩
theorem tmk37 : tmOk Try.prog tmS 37 (.sl (.st 22)) := ⟨124, Try.underlying37, rfl, by kernel_rfl, by decide, by decide +kernel⟩
theorem tmk38 : tmOk Try.prog tmS 38 (.sl (.st 23)) := ⟨129, Try.underlying38, rfl, by kernel_rfl, by decide, by decide +kernel⟩
theorem tmk40 : tmOk Try.prog tmS 40 (.st 24) := ⟨_, Try.underlying40, by kernel_rfl, And.intro rfl (And.intro rfl (And.intro (by kernel_rfl) (And.intro rfl (And.intro rfl (And.intro (by kernel_rfl) (And.intro rfl (And.intro rfl (And.intro (by kernel_rfl) (And.intro rfl (And.intro rfl (And.intro (by kernel_rfl) (And.intro rfl (And.intro rfl (And.intro (by kernel_rfl) (And.intro rfl (And.intro rfl (And.intro (by kernel_rfl) (And.intro rfl (And.intro rfl (And.intro (by kernel_rfl) (And.intro rfl (And.intro rfl (And.intro (by kernel_rfl) (trivial))))))))))))))))))))))))⟩
theorem tmk48 : tmOk Try.prog tmS 48 (.sl (.st 18)) := ⟨143, Try.underlying48, rfl, by kernel_rfl, by decide, by decide +kernel⟩
theorem tmk49 : tmOk Try.prog tmS 49 (.sl (.st 21)) := ⟨52, Try.underlying49, rfl, by kernel_rfl, by decide, by decide +kernel⟩
theorem tmk50 : tmOk Try.prog tmS 50 (.sl (.st 20)) := ⟨146, Try.underlying50, rfl, by kernel_rfl, by decide, by decide +kernel⟩
theorem tmk52 : tmOk Try.prog tmS 52 (.st 21) := ⟨_, Try.underlying52, by kernel_rfl, And.intro rfl (And.intro rfl (And.intro (by kernel_rfl) (And.intro rfl (And.intro rfl (And.intro (by kernel_rfl) (And.intro rfl (And.intro rfl (And.intro (by kernel_rfl) (And.intro rfl (And.intro rfl (And.intro (by kernel_rfl) (And.intro rfl (And.intro rfl (And.intro (by kernel_rfl) (And.intro rfl (And.intro rfl (And.intro (by kernel_rfl) (And.intro rfl (And.intro rfl (And.intro (by kernel_rfl) (And.intro rfl (And.intro rfl (And.intro (by kernel_rfl) (And.intro rfl (And.intro rfl (And.intro (by kernel_rfl) (trivial)))))))))))))))))))))))))))⟩
theorem tmk55 : tmOk Try.prog tmS 55 (.sl (.st 18)) := ⟨149, Try.underlying55, rfl, by kernel_rfl, by decide, by decide +kernel⟩
theorem tmk56 : tmOk Try.prog tmS 56 (.sl (.st 21)) := ⟨59, Try.underlying56, rfl, by kernel_rfl, by decide, by decide +kernel⟩
theorem tmk57 : tmOk Try.prog tmS 57 (.sl (.st 20)) := ⟨94, Try.underlying57, rfl, by kernel_rfl, by decide, by decide +kernel⟩
theorem tmk59 : tmOk Try.prog tmS 59 (.st 21) := ⟨_, Try.underlying59, by kernel_rfl, And.intro rfl (And.intro rfl (And.intro (by kernel_rfl) (And.intro rfl (And.intro rfl (And.intro (by kernel_rfl) (And.intro rfl (And.intro rfl (And.intro (by kernel_rfl) (And.intro rfl (And.intro rfl (And.intro (by kernel_rfl) (And.intro rfl (And.intro rfl (And.intro (by kernel_rfl) (And.intro rfl (And.intro rfl (And.intro (by kernel_rfl) (And.intro rfl (And.intro rfl (And.intro (by kernel_rfl) (And.intro rfl (And.intro rfl (And.intro (by kernel_rfl) (And.intro rfl (And.intro rfl (And.intro (by kernel_rfl) (trivial)))))))))))))))))))))))))))⟩
theorem tmk86 : tmOk Try.prog tmS 86 (.st 2) := ⟨_, Try.underlying86, by kernel_rfl, And.intro rfl (And.intro rfl (And.intro (by kernel_rfl) (And.intro rfl (And.intro rfl (And.intro (by kernel_rfl) (trivial))))))⟩
theorem tmk92 : tmOk Try.prog tmS 92 (.sl (.str)) := ⟨9, Try.underlying92, rfl, by kernel_rfl, by decide, by decide +kernel⟩
theorem tmk94 : tmOk Try.prog tmS 94 (.st 20) := ⟨_, Try.underlying94, by kernel_rfl, And.intro rfl (And.intro rfl (And.intro (by kernel_rfl) (And.intro rfl (And.intro rfl (And.intro (by kernel_rfl) (And.intro rfl (And.intro rfl (And.intro (by kernel_rfl) (trivial)))))))))⟩
theorem tmk96 : tmOk Try.prog tmS 96 (.st 2) := ⟨_, Try.underlying96, by kernel_rfl, And.intro rfl (And.intro rfl (And.intro (by kernel_rfl) (And.intro rfl (And.intro rfl (And.intro (by kernel_rfl) (trivial))))))⟩
theorem tmk113 : tmOk Try.prog tmS 113 (.st 22) := ⟨_, Try.underlying113, by kernel_rfl, And.intro rfl (And.intro rfl (And.intro (by kernel_rfl) (And.intro rfl (And.intro rfl (And.intro (by kernel_rfl) (And.intro rfl (And.intro rfl (And.intro (by kernel_rfl) (trivial)))))))))⟩
theorem tmk116 : tmOk Try.prog tmS 116 (.st 9) := ⟨_, Try.underlying116, by kernel_rfl, And.intro rfl (And.intro rfl (And.intro (by kernel_rfl) (And.intro rfl (And.intro rfl (And.intro (by kernel_rfl) (trivial))))))⟩
theorem tmk118 : tmOk Try.prog tmS 118 (.st 23) := ⟨_, Try.underlying118, by kernel_rfl, And.intro rfl (And.intro rfl (And.intro (by kernel_rfl) (And.intro rfl (And.intro rfl (And.intro (by kernel_rfl) (trivial))))))⟩
theorem tmk124 : tmOk Try.prog tmS 124 (.st 22) := ⟨_, Try.underlying124, by kernel_rfl, And.intro rfl (And.intro rfl (And.intro (by kernel_rfl) (And.intro rfl (And.intro rfl (And.intro (by kernel_rfl) (And.intro rfl (And.intro rfl (And.intro (by kernel_rfl) (trivial)))))))))⟩
theorem tmk127 : tmOk Try.prog tmS 127 (.st 9) := ⟨_, Try.underlying127, by kernel_rfl, And.intro rfl (And.intro rfl (And.intro (by kernel_rfl) (And.intro rfl (And.intro rfl (And.intro (by kernel_rfl) (trivial))))))⟩
theorem tmk129 : tmOk Try.prog tmS 129 (.st 23) := ⟨_, Try.underlying129, by kernel_rfl, And.intro rfl (And.intro rfl (And.intro (by kernel_rfl) (And.intro rfl (And.intro rfl (And.intro (by kernel_rfl) (trivial))))))⟩
theorem tmk141 : tmOk Try.prog tmS 141 (.st 16) := ⟨_, Try.underlying141, by kernel_rfl, And.intro rfl (And.intro rfl (And.intro (by kernel_rfl) (And.intro rfl (And.intro rfl (And.intro (by kernel_rfl) (trivial))))))⟩
theorem tmk143 : tmOk Try.prog tmS 143 (.st 18) := ⟨_, Try.underlying143, by kernel_rfl, And.intro rfl (And.intro rfl (And.intro (by kernel_rfl) (And.intro rfl (And.intro rfl (And.intro (by kernel_rfl) (And.intro rfl (And.intro rfl (And.intro (by kernel_rfl) (And.intro rfl (And.intro rfl (And.intro (by kernel_rfl) (trivial))))))))))))⟩
theorem tmk146 : tmOk Try.prog tmS 146 (.st 20) := ⟨_, Try.underlying146, by kernel_rfl, And.intro rfl (And.intro rfl (And.intro (by kernel_rfl) (And.intro rfl (And.intro rfl (And.intro (by kernel_rfl) (And.intro rfl (And.intro rfl (And.intro (by kernel_rfl) (trivial)))))))))⟩
theorem tmk147 : tmOk Try.prog tmS 147 (.st 16) := ⟨_, Try.underlying147, by kernel_rfl, And.intro rfl (And.intro rfl (And.intro (by kernel_rfl) (And.intro rfl (And.intro rfl (And.intro (by kernel_rfl) (trivial))))))⟩
theorem tmk149 : tmOk Try.prog tmS 149 (.st 18) := ⟨_, Try.underlying149, by kernel_rfl, And.intro rfl (And.intro rfl (And.intro (by kernel_rfl) (And.intro rfl (And.intro rfl (And.intro (by kernel_rfl) (And.intro rfl (And.intro rfl (And.intro (by kernel_rfl) (And.intro rfl (And.intro rfl (And.intro (by kernel_rfl) (trivial))))))))))))⟩
theorem tm_ok : ∀ (T : TypeId) (s : Sh), tmS T = some s → tmOk Try.prog tmS T s := by
  intro T s h
  unfold tmS at h
  split at h
  · cases h; exact tmk3
  · cases h; exact tmk4
  · cases h; exact tmk9
  · cases h; exact tmk22
  · cases h; exact tmk23
  · cases h; exact tmk24
  · cases h; exact tmk26
  · cases h; exact tmk27
  · cases h; exact tmk29
  · cases h; exact tmk32
  · cases h; exact tmk34
  · cases h; exact tmk36
  · cases h; exact tmk37
  · cases h; exact tmk38
  · cases h; exact tmk40
  · cases h; exact tmk48
  · cases h; exact tmk49
  · cases h; exact tmk50
  · cases h; exact tmk52
  · cases h; exact tmk55
  · cases h; exact tmk56
  · cases h; exact tmk57
  · cases h; exact tmk59
  · cases h; exact tmk86
  · cases h; exact tmk92
  · cases h; exact tmk94
  · cases h; exact tmk96
  · cases h; exact tmk113
  · cases h; exact tmk116
  · cases h; exact tmk118
  · cases h; exact tmk124
  · cases h; exact tmk127
  · cases h; exact tmk129
  · cases h; exact tmk141
  · cases h; exact tmk143
  · cases h; exact tmk146
  · cases h; exact tmk147
  · cases h; exact tmk149
  · cases h
theorem tmix : Try.prog.follows .mixedOrders = true := by kernel_rfl
instance : Mix Try.prog := ⟨tmix⟩
end Go.Proofs.Ythojhakapbfbiaa
