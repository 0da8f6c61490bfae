/- What the program says of its types. Written by a program of mine. -/
import Derived.Test.YtbloknibekeedaaProg
import Derived.Test.YtbloknibekeedaaEng37
namespace Go.Proofs.Ytbloknibekeedaa
open Go Go.Eng
instance ti3 : TI Try.prog 3 false 1 8 := ⟨by kernel_rfl⟩
instance tu3 : TU Try.prog 3 .i64 := ⟨by kernel_rfl⟩
instance tz3 : TZ Try.prog 3 [.int .i64 0] := ⟨by kernel_rfl⟩
instance ti4 : TI Try.prog 4 false 1 1 := ⟨by kernel_rfl⟩
instance tb4 : TB Try.prog 4 := ⟨by kernel_rfl⟩
instance tz4 : TZ Try.prog 4 [.bool false] := ⟨by kernel_rfl⟩
instance ti5 : TI Try.prog 5 false 1 1 := ⟨by kernel_rfl⟩
instance tu5 : TU Try.prog 5 .u8 := ⟨by kernel_rfl⟩
instance tz5 : TZ Try.prog 5 [.int .u8 0] := ⟨by kernel_rfl⟩
instance ti9 : TI Try.prog 9 false 1 16 := ⟨by kernel_rfl⟩
instance tss9 : TS Try.prog 9 := ⟨by kernel_rfl⟩
instance tz9 : TZ Try.prog 9 [.string ⟨#[]⟩] := ⟨by kernel_rfl⟩
instance ti21 : TI Try.prog 21 false 1 4 := ⟨by kernel_rfl⟩
instance tu21 : TU Try.prog 21 .i32 := ⟨by kernel_rfl⟩
instance tz21 : TZ Try.prog 21 [.int .i32 0] := ⟨by kernel_rfl⟩
instance ti22 : TI Try.prog 22 false 1 24 := ⟨by kernel_rfl⟩
instance te22 : TE Try.prog 22 24 := ⟨by kernel_rfl⟩
instance tz22 : TZ Try.prog 22 [.slice none 0 0] := ⟨by kernel_rfl⟩
instance ti24 : TI Try.prog 24 true 3 48 := ⟨by kernel_rfl⟩
instance tf24_0 : TF Try.prog 24 0 0 := ⟨by kernel_rfl⟩
instance tf24_1 : TF Try.prog 24 1 1 := ⟨by kernel_rfl⟩
instance tf24_2 : TF Try.prog 24 2 2 := ⟨by kernel_rfl⟩
instance tbd24 : TBd Try.prog 24 := ⟨by kernel_rfl⟩
instance tfs24_0 : TFS Try.prog 24 0 0 1 := ⟨by kernel_rfl⟩
instance tfs24_1 : TFS Try.prog 24 1 1 1 := ⟨by kernel_rfl⟩
instance tfs24_2 : TFS Try.prog 24 2 2 1 := ⟨by kernel_rfl⟩
instance tz24 : TZ Try.prog 24 [.int .i64 0, .string ⟨#[]⟩, .slice none 0 0] := ⟨by kernel_rfl⟩
instance ti27 : TI Try.prog 27 false 1 24 := ⟨by kernel_rfl⟩
instance te27 : TE Try.prog 27 29 := ⟨by kernel_rfl⟩
instance tz27 : TZ Try.prog 27 [.slice none 0 0] := ⟨by kernel_rfl⟩
instance ti29 : TI Try.prog 29 true 3 48 := ⟨by kernel_rfl⟩
instance tf29_0 : TF Try.prog 29 0 0 := ⟨by kernel_rfl⟩
instance tf29_1 : TF Try.prog 29 1 1 := ⟨by kernel_rfl⟩
instance tf29_2 : TF Try.prog 29 2 2 := ⟨by kernel_rfl⟩
instance tbd29 : TBd Try.prog 29 := ⟨by kernel_rfl⟩
instance tfs29_0 : TFS Try.prog 29 0 0 1 := ⟨by kernel_rfl⟩
instance tfs29_1 : TFS Try.prog 29 1 1 1 := ⟨by kernel_rfl⟩
instance tfs29_2 : TFS Try.prog 29 2 2 1 := ⟨by kernel_rfl⟩
instance tz29 : TZ Try.prog 29 [.int .i64 0, .string ⟨#[]⟩, .slice none 0 0] := ⟨by kernel_rfl⟩
instance ti34 : TI Try.prog 34 false 1 24 := ⟨by kernel_rfl⟩
instance te34 : TE Try.prog 34 109 := ⟨by kernel_rfl⟩
instance tz34 : TZ Try.prog 34 [.slice none 0 0] := ⟨by kernel_rfl⟩
instance ti35 : TI Try.prog 35 false 1 24 := ⟨by kernel_rfl⟩
instance te35 : TE Try.prog 35 154 := ⟨by kernel_rfl⟩
instance tz35 : TZ Try.prog 35 [.slice none 0 0] := ⟨by kernel_rfl⟩
instance ti36 : TI Try.prog 36 false 1 24 := ⟨by kernel_rfl⟩
instance te36 : TE Try.prog 36 159 := ⟨by kernel_rfl⟩
instance tz36 : TZ Try.prog 36 [.slice none 0 0] := ⟨by kernel_rfl⟩
instance ti38 : TI Try.prog 38 true 8 112 := ⟨by kernel_rfl⟩
instance tf38_0 : TF Try.prog 38 0 0 := ⟨by kernel_rfl⟩
instance tf38_1 : TF Try.prog 38 1 1 := ⟨by kernel_rfl⟩
instance tf38_2 : TF Try.prog 38 2 2 := ⟨by kernel_rfl⟩
instance tf38_3 : TF Try.prog 38 3 3 := ⟨by kernel_rfl⟩
instance tf38_4 : TF Try.prog 38 4 4 := ⟨by kernel_rfl⟩
instance tf38_5 : TF Try.prog 38 5 5 := ⟨by kernel_rfl⟩
instance tf38_6 : TF Try.prog 38 6 6 := ⟨by kernel_rfl⟩
instance tf38_7 : TF Try.prog 38 7 7 := ⟨by kernel_rfl⟩
instance tbd38 : TBd Try.prog 38 := ⟨by kernel_rfl⟩
instance tfs38_0 : TFS Try.prog 38 0 0 1 := ⟨by kernel_rfl⟩
instance tfs38_1 : TFS Try.prog 38 1 1 1 := ⟨by kernel_rfl⟩
instance tfs38_2 : TFS Try.prog 38 2 2 1 := ⟨by kernel_rfl⟩
instance tfs38_3 : TFS Try.prog 38 3 3 1 := ⟨by kernel_rfl⟩
instance tfs38_4 : TFS Try.prog 38 4 4 1 := ⟨by kernel_rfl⟩
instance tfs38_5 : TFS Try.prog 38 5 5 1 := ⟨by kernel_rfl⟩
instance tfs38_6 : TFS Try.prog 38 6 6 1 := ⟨by kernel_rfl⟩
instance tfs38_7 : TFS Try.prog 38 7 7 1 := ⟨by kernel_rfl⟩
instance tz38 : TZ Try.prog 38 [.int .i64 0, .int .i64 0, .int .i64 0, .slice none 0 0, .slice none 0 0, .slice none 0 0, .int .i64 0, .int .i64 0] := ⟨by kernel_rfl⟩
instance ti41 : TI Try.prog 41 false 1 24 := ⟨by kernel_rfl⟩
instance te41 : TE Try.prog 41 118 := ⟨by kernel_rfl⟩
instance tz41 : TZ Try.prog 41 [.slice none 0 0] := ⟨by kernel_rfl⟩
instance ti42 : TI Try.prog 42 false 1 24 := ⟨by kernel_rfl⟩
instance te42 : TE Try.prog 42 162 := ⟨by kernel_rfl⟩
instance tz42 : TZ Try.prog 42 [.slice none 0 0] := ⟨by kernel_rfl⟩
instance ti43 : TI Try.prog 43 false 1 24 := ⟨by kernel_rfl⟩
instance te43 : TE Try.prog 43 167 := ⟨by kernel_rfl⟩
instance tz43 : TZ Try.prog 43 [.slice none 0 0] := ⟨by kernel_rfl⟩
instance ti45 : TI Try.prog 45 true 8 112 := ⟨by kernel_rfl⟩
instance tf45_0 : TF Try.prog 45 0 0 := ⟨by kernel_rfl⟩
instance tf45_1 : TF Try.prog 45 1 1 := ⟨by kernel_rfl⟩
instance tf45_2 : TF Try.prog 45 2 2 := ⟨by kernel_rfl⟩
instance tf45_3 : TF Try.prog 45 3 3 := ⟨by kernel_rfl⟩
instance tf45_4 : TF Try.prog 45 4 4 := ⟨by kernel_rfl⟩
instance tf45_5 : TF Try.prog 45 5 5 := ⟨by kernel_rfl⟩
instance tf45_6 : TF Try.prog 45 6 6 := ⟨by kernel_rfl⟩
instance tf45_7 : TF Try.prog 45 7 7 := ⟨by kernel_rfl⟩
instance tbd45 : TBd Try.prog 45 := ⟨by kernel_rfl⟩
instance tfs45_0 : TFS Try.prog 45 0 0 1 := ⟨by kernel_rfl⟩
instance tfs45_1 : TFS Try.prog 45 1 1 1 := ⟨by kernel_rfl⟩
instance tfs45_2 : TFS Try.prog 45 2 2 1 := ⟨by kernel_rfl⟩
instance tfs45_3 : TFS Try.prog 45 3 3 1 := ⟨by kernel_rfl⟩
instance tfs45_4 : TFS Try.prog 45 4 4 1 := ⟨by kernel_rfl⟩
instance tfs45_5 : TFS Try.prog 45 5 5 1 := ⟨by kernel_rfl⟩
instance tfs45_6 : TFS Try.prog 45 6 6 1 := ⟨by kernel_rfl⟩
instance tfs45_7 : TFS Try.prog 45 7 7 1 := ⟨by kernel_rfl⟩
instance tz45 : TZ Try.prog 45 [.int .i64 0, .int .i64 0, .int .i64 0, .slice none 0 0, .slice none 0 0, .slice none 0 0, .int .i64 0, .int .i64 0] := ⟨by kernel_rfl⟩
instance ti51 : TI Try.prog 51 false 1 24 := ⟨by kernel_rfl⟩
instance te51 : TE Try.prog 51 178 := ⟨by kernel_rfl⟩
instance tz51 : TZ Try.prog 51 [.slice none 0 0] := ⟨by kernel_rfl⟩
instance ti52 : TI Try.prog 52 false 1 24 := ⟨by kernel_rfl⟩
instance te52 : TE Try.prog 52 55 := ⟨by kernel_rfl⟩
instance tz52 : TZ Try.prog 52 [.slice none 0 0] := ⟨by kernel_rfl⟩
instance ti53 : TI Try.prog 53 false 1 24 := ⟨by kernel_rfl⟩
instance te53 : TE Try.prog 53 181 := ⟨by kernel_rfl⟩
instance tz53 : TZ Try.prog 53 [.slice none 0 0] := ⟨by kernel_rfl⟩
instance ti55 : TI Try.prog 55 true 11 192 := ⟨by kernel_rfl⟩
instance tf55_0 : TF Try.prog 55 0 0 := ⟨by kernel_rfl⟩
instance tf55_1 : TF Try.prog 55 1 1 := ⟨by kernel_rfl⟩
instance tf55_2 : TF Try.prog 55 2 2 := ⟨by kernel_rfl⟩
instance tf55_3 : TF Try.prog 55 3 3 := ⟨by kernel_rfl⟩
instance tf55_4 : TF Try.prog 55 4 4 := ⟨by kernel_rfl⟩
instance tf55_5 : TF Try.prog 55 5 7 := ⟨by kernel_rfl⟩
instance tf55_6 : TF Try.prog 55 6 8 := ⟨by kernel_rfl⟩
instance tf55_7 : TF Try.prog 55 7 9 := ⟨by kernel_rfl⟩
instance tf55_8 : TF Try.prog 55 8 10 := ⟨by kernel_rfl⟩
instance tbd55 : TBd Try.prog 55 := ⟨by kernel_rfl⟩
instance tfs55_0 : TFS Try.prog 55 0 0 1 := ⟨by kernel_rfl⟩
instance tfs55_1 : TFS Try.prog 55 1 1 1 := ⟨by kernel_rfl⟩
instance tfs55_2 : TFS Try.prog 55 2 2 1 := ⟨by kernel_rfl⟩
instance tfs55_3 : TFS Try.prog 55 3 3 1 := ⟨by kernel_rfl⟩
instance tfs55_4 : TFS Try.prog 55 4 4 3 := ⟨by kernel_rfl⟩
instance tfs55_5 : TFS Try.prog 55 5 7 1 := ⟨by kernel_rfl⟩
instance tfs55_6 : TFS Try.prog 55 6 8 1 := ⟨by kernel_rfl⟩
instance tfs55_7 : TFS Try.prog 55 7 9 1 := ⟨by kernel_rfl⟩
instance tfs55_8 : TFS Try.prog 55 8 10 1 := ⟨by kernel_rfl⟩
instance tz55 : TZ Try.prog 55 [.int .i64 0, .string ⟨#[]⟩, .string ⟨#[]⟩, .int .i64 0, .int .i64 0, .string ⟨#[]⟩, .slice none 0 0, .slice none 0 0, .slice none 0 0, .slice none 0 0, .slice none 0 0] := ⟨by kernel_rfl⟩
instance ti58 : TI Try.prog 58 false 1 24 := ⟨by kernel_rfl⟩
instance te58 : TE Try.prog 58 184 := ⟨by kernel_rfl⟩
instance tz58 : TZ Try.prog 58 [.slice none 0 0] := ⟨by kernel_rfl⟩
instance ti59 : TI Try.prog 59 false 1 24 := ⟨by kernel_rfl⟩
instance te59 : TE Try.prog 59 62 := ⟨by kernel_rfl⟩
instance tz59 : TZ Try.prog 59 [.slice none 0 0] := ⟨by kernel_rfl⟩
instance ti60 : TI Try.prog 60 false 1 24 := ⟨by kernel_rfl⟩
instance te60 : TE Try.prog 60 116 := ⟨by kernel_rfl⟩
instance tz60 : TZ Try.prog 60 [.slice none 0 0] := ⟨by kernel_rfl⟩
instance ti62 : TI Try.prog 62 true 11 192 := ⟨by kernel_rfl⟩
instance tf62_0 : TF Try.prog 62 0 0 := ⟨by kernel_rfl⟩
instance tf62_1 : TF Try.prog 62 1 1 := ⟨by kernel_rfl⟩
instance tf62_2 : TF Try.prog 62 2 2 := ⟨by kernel_rfl⟩
instance tf62_3 : TF Try.prog 62 3 3 := ⟨by kernel_rfl⟩
instance tf62_4 : TF Try.prog 62 4 4 := ⟨by kernel_rfl⟩
instance tf62_5 : TF Try.prog 62 5 7 := ⟨by kernel_rfl⟩
instance tf62_6 : TF Try.prog 62 6 8 := ⟨by kernel_rfl⟩
instance tf62_7 : TF Try.prog 62 7 9 := ⟨by kernel_rfl⟩
instance tf62_8 : TF Try.prog 62 8 10 := ⟨by kernel_rfl⟩
instance tbd62 : TBd Try.prog 62 := ⟨by kernel_rfl⟩
instance tfs62_0 : TFS Try.prog 62 0 0 1 := ⟨by kernel_rfl⟩
instance tfs62_1 : TFS Try.prog 62 1 1 1 := ⟨by kernel_rfl⟩
instance tfs62_2 : TFS Try.prog 62 2 2 1 := ⟨by kernel_rfl⟩
instance tfs62_3 : TFS Try.prog 62 3 3 1 := ⟨by kernel_rfl⟩
instance tfs62_4 : TFS Try.prog 62 4 4 3 := ⟨by kernel_rfl⟩
instance tfs62_5 : TFS Try.prog 62 5 7 1 := ⟨by kernel_rfl⟩
instance tfs62_6 : TFS Try.prog 62 6 8 1 := ⟨by kernel_rfl⟩
instance tfs62_7 : TFS Try.prog 62 7 9 1 := ⟨by kernel_rfl⟩
instance tfs62_8 : TFS Try.prog 62 8 10 1 := ⟨by kernel_rfl⟩
instance tz62 : TZ Try.prog 62 [.int .i64 0, .string ⟨#[]⟩, .string ⟨#[]⟩, .int .i64 0, .int .i64 0, .string ⟨#[]⟩, .slice none 0 0, .slice none 0 0, .slice none 0 0, .slice none 0 0, .slice none 0 0] := ⟨by kernel_rfl⟩
instance ti71 : TI Try.prog 71 false 1 24 := ⟨by kernel_rfl⟩
instance te71 : TE Try.prog 71 9 := ⟨by kernel_rfl⟩
instance tz71 : TZ Try.prog 71 [.slice none 0 0] := ⟨by kernel_rfl⟩
instance ti72 : TI Try.prog 72 false 1 24 := ⟨by kernel_rfl⟩
instance te72 : TE Try.prog 72 157 := ⟨by kernel_rfl⟩
instance tz72 : TZ Try.prog 72 [.slice none 0 0] := ⟨by kernel_rfl⟩
instance ti73 : TI Try.prog 73 false 1 24 := ⟨by kernel_rfl⟩
instance te73 : TE Try.prog 73 197 := ⟨by kernel_rfl⟩
instance tz73 : TZ Try.prog 73 [.slice none 0 0] := ⟨by kernel_rfl⟩
instance ti75 : TI Try.prog 75 true 12 192 := ⟨by kernel_rfl⟩
instance tf75_0 : TF Try.prog 75 0 0 := ⟨by kernel_rfl⟩
instance tf75_1 : TF Try.prog 75 1 1 := ⟨by kernel_rfl⟩
instance tf75_2 : TF Try.prog 75 2 2 := ⟨by kernel_rfl⟩
instance tf75_3 : TF Try.prog 75 3 5 := ⟨by kernel_rfl⟩
instance tf75_4 : TF Try.prog 75 4 6 := ⟨by kernel_rfl⟩
instance tf75_5 : TF Try.prog 75 5 7 := ⟨by kernel_rfl⟩
instance tf75_6 : TF Try.prog 75 6 8 := ⟨by kernel_rfl⟩
instance tf75_7 : TF Try.prog 75 7 11 := ⟨by kernel_rfl⟩
instance tbd75 : TBd Try.prog 75 := ⟨by kernel_rfl⟩
instance tfs75_0 : TFS Try.prog 75 0 0 1 := ⟨by kernel_rfl⟩
instance tfs75_1 : TFS Try.prog 75 1 1 1 := ⟨by kernel_rfl⟩
instance tfs75_2 : TFS Try.prog 75 2 2 3 := ⟨by kernel_rfl⟩
instance tfs75_3 : TFS Try.prog 75 3 5 1 := ⟨by kernel_rfl⟩
instance tfs75_4 : TFS Try.prog 75 4 6 1 := ⟨by kernel_rfl⟩
instance tfs75_5 : TFS Try.prog 75 5 7 1 := ⟨by kernel_rfl⟩
instance tfs75_6 : TFS Try.prog 75 6 8 3 := ⟨by kernel_rfl⟩
instance tfs75_7 : TFS Try.prog 75 7 11 1 := ⟨by kernel_rfl⟩
instance tz75 : TZ Try.prog 75 [.string ⟨#[]⟩, .slice none 0 0, .int .i64 0, .string ⟨#[]⟩, .slice none 0 0, .slice none 0 0, .bool false, .bool false, .int .i64 0, .string ⟨#[]⟩, .slice none 0 0, .slice none 0 0] := ⟨by kernel_rfl⟩
instance ti78 : TI Try.prog 78 false 1 24 := ⟨by kernel_rfl⟩
instance te78 : TE Try.prog 78 165 := ⟨by kernel_rfl⟩
instance tz78 : TZ Try.prog 78 [.slice none 0 0] := ⟨by kernel_rfl⟩
instance ti79 : TI Try.prog 79 false 1 24 := ⟨by kernel_rfl⟩
instance te79 : TE Try.prog 79 204 := ⟨by kernel_rfl⟩
instance tz79 : TZ Try.prog 79 [.slice none 0 0] := ⟨by kernel_rfl⟩
instance ti81 : TI Try.prog 81 true 12 192 := ⟨by kernel_rfl⟩
instance tf81_0 : TF Try.prog 81 0 0 := ⟨by kernel_rfl⟩
instance tf81_1 : TF Try.prog 81 1 1 := ⟨by kernel_rfl⟩
instance tf81_2 : TF Try.prog 81 2 2 := ⟨by kernel_rfl⟩
instance tf81_3 : TF Try.prog 81 3 5 := ⟨by kernel_rfl⟩
instance tf81_4 : TF Try.prog 81 4 6 := ⟨by kernel_rfl⟩
instance tf81_5 : TF Try.prog 81 5 7 := ⟨by kernel_rfl⟩
instance tf81_6 : TF Try.prog 81 6 8 := ⟨by kernel_rfl⟩
instance tf81_7 : TF Try.prog 81 7 11 := ⟨by kernel_rfl⟩
instance tbd81 : TBd Try.prog 81 := ⟨by kernel_rfl⟩
instance tfs81_0 : TFS Try.prog 81 0 0 1 := ⟨by kernel_rfl⟩
instance tfs81_1 : TFS Try.prog 81 1 1 1 := ⟨by kernel_rfl⟩
instance tfs81_2 : TFS Try.prog 81 2 2 3 := ⟨by kernel_rfl⟩
instance tfs81_3 : TFS Try.prog 81 3 5 1 := ⟨by kernel_rfl⟩
instance tfs81_4 : TFS Try.prog 81 4 6 1 := ⟨by kernel_rfl⟩
instance tfs81_5 : TFS Try.prog 81 5 7 1 := ⟨by kernel_rfl⟩
instance tfs81_6 : TFS Try.prog 81 6 8 3 := ⟨by kernel_rfl⟩
instance tfs81_7 : TFS Try.prog 81 7 11 1 := ⟨by kernel_rfl⟩
instance tz81 : TZ Try.prog 81 [.string ⟨#[]⟩, .slice none 0 0, .int .i64 0, .string ⟨#[]⟩, .slice none 0 0, .slice none 0 0, .bool false, .bool false, .int .i64 0, .string ⟨#[]⟩, .slice none 0 0, .slice none 0 0] := ⟨by kernel_rfl⟩
instance ti109 : TI Try.prog 109 true 4 64 := ⟨by kernel_rfl⟩
instance tf109_0 : TF Try.prog 109 0 0 := ⟨by kernel_rfl⟩
instance tf109_1 : TF Try.prog 109 1 1 := ⟨by kernel_rfl⟩
instance tbd109 : TBd Try.prog 109 := ⟨by kernel_rfl⟩
instance tfs109_0 : TFS Try.prog 109 0 0 1 := ⟨by kernel_rfl⟩
instance tfs109_1 : TFS Try.prog 109 1 1 3 := ⟨by kernel_rfl⟩
instance tz109 : TZ Try.prog 109 [.string ⟨#[]⟩, .int .i64 0, .string ⟨#[]⟩, .slice none 0 0] := ⟨by kernel_rfl⟩
instance ti116 : TI Try.prog 116 true 13 232 := ⟨by kernel_rfl⟩
instance tf116_0 : TF Try.prog 116 0 0 := ⟨by kernel_rfl⟩
instance tf116_1 : TF Try.prog 116 1 1 := ⟨by kernel_rfl⟩
instance tf116_2 : TF Try.prog 116 2 2 := ⟨by kernel_rfl⟩
instance tbd116 : TBd Try.prog 116 := ⟨by kernel_rfl⟩
instance tfs116_0 : TFS Try.prog 116 0 0 1 := ⟨by kernel_rfl⟩
instance tfs116_1 : TFS Try.prog 116 1 1 1 := ⟨by kernel_rfl⟩
instance tfs116_2 : TFS Try.prog 116 2 2 11 := ⟨by kernel_rfl⟩
instance tz116 : TZ Try.prog 116 [.string ⟨#[]⟩, .slice none 0 0, .int .i64 0, .string ⟨#[]⟩, .string ⟨#[]⟩, .int .i64 0, .int .i64 0, .string ⟨#[]⟩, .slice none 0 0, .slice none 0 0, .slice none 0 0, .slice none 0 0, .slice none 0 0] := ⟨by kernel_rfl⟩
instance ti118 : TI Try.prog 118 true 4 64 := ⟨by kernel_rfl⟩
instance tf118_0 : TF Try.prog 118 0 0 := ⟨by kernel_rfl⟩
instance tf118_1 : TF Try.prog 118 1 1 := ⟨by kernel_rfl⟩
instance tbd118 : TBd Try.prog 118 := ⟨by kernel_rfl⟩
instance tfs118_0 : TFS Try.prog 118 0 0 1 := ⟨by kernel_rfl⟩
instance tfs118_1 : TFS Try.prog 118 1 1 3 := ⟨by kernel_rfl⟩
instance tz118 : TZ Try.prog 118 [.string ⟨#[]⟩, .int .i64 0, .string ⟨#[]⟩, .slice none 0 0] := ⟨by kernel_rfl⟩
instance ti154 : TI Try.prog 154 true 7 104 := ⟨by kernel_rfl⟩
instance tf154_0 : TF Try.prog 154 0 0 := ⟨by kernel_rfl⟩
instance tf154_1 : TF Try.prog 154 1 3 := ⟨by kernel_rfl⟩
instance tf154_2 : TF Try.prog 154 2 6 := ⟨by kernel_rfl⟩
instance tbd154 : TBd Try.prog 154 := ⟨by kernel_rfl⟩
instance tfs154_0 : TFS Try.prog 154 0 0 3 := ⟨by kernel_rfl⟩
instance tfs154_1 : TFS Try.prog 154 1 3 3 := ⟨by kernel_rfl⟩
instance tfs154_2 : TFS Try.prog 154 2 6 1 := ⟨by kernel_rfl⟩
instance tz154 : TZ Try.prog 154 [.int .i64 0, .string ⟨#[]⟩, .slice none 0 0, .int .i64 0, .string ⟨#[]⟩, .slice none 0 0, .int .i64 0] := ⟨by kernel_rfl⟩
instance ti157 : TI Try.prog 157 true 4 64 := ⟨by kernel_rfl⟩
instance tf157_0 : TF Try.prog 157 0 0 := ⟨by kernel_rfl⟩
instance tf157_1 : TF Try.prog 157 1 1 := ⟨by kernel_rfl⟩
instance tbd157 : TBd Try.prog 157 := ⟨by kernel_rfl⟩
instance tfs157_0 : TFS Try.prog 157 0 0 1 := ⟨by kernel_rfl⟩
instance tfs157_1 : TFS Try.prog 157 1 1 3 := ⟨by kernel_rfl⟩
instance tz157 : TZ Try.prog 157 [.string ⟨#[]⟩, .int .i64 0, .string ⟨#[]⟩, .slice none 0 0] := ⟨by kernel_rfl⟩
instance ti159 : TI Try.prog 159 true 5 72 := ⟨by kernel_rfl⟩
instance tf159_0 : TF Try.prog 159 0 0 := ⟨by kernel_rfl⟩
instance tf159_1 : TF Try.prog 159 1 4 := ⟨by kernel_rfl⟩
instance tbd159 : TBd Try.prog 159 := ⟨by kernel_rfl⟩
instance tfs159_0 : TFS Try.prog 159 0 0 4 := ⟨by kernel_rfl⟩
instance tfs159_1 : TFS Try.prog 159 1 4 1 := ⟨by kernel_rfl⟩
instance tz159 : TZ Try.prog 159 [.string ⟨#[]⟩, .int .i64 0, .string ⟨#[]⟩, .slice none 0 0, .int .i64 0] := ⟨by kernel_rfl⟩
instance ti162 : TI Try.prog 162 true 7 104 := ⟨by kernel_rfl⟩
instance tf162_0 : TF Try.prog 162 0 0 := ⟨by kernel_rfl⟩
instance tf162_1 : TF Try.prog 162 1 3 := ⟨by kernel_rfl⟩
instance tf162_2 : TF Try.prog 162 2 6 := ⟨by kernel_rfl⟩
instance tbd162 : TBd Try.prog 162 := ⟨by kernel_rfl⟩
instance tfs162_0 : TFS Try.prog 162 0 0 3 := ⟨by kernel_rfl⟩
instance tfs162_1 : TFS Try.prog 162 1 3 3 := ⟨by kernel_rfl⟩
instance tfs162_2 : TFS Try.prog 162 2 6 1 := ⟨by kernel_rfl⟩
instance tz162 : TZ Try.prog 162 [.int .i64 0, .string ⟨#[]⟩, .slice none 0 0, .int .i64 0, .string ⟨#[]⟩, .slice none 0 0, .int .i64 0] := ⟨by kernel_rfl⟩
instance ti165 : TI Try.prog 165 true 4 64 := ⟨by kernel_rfl⟩
instance tf165_0 : TF Try.prog 165 0 0 := ⟨by kernel_rfl⟩
instance tf165_1 : TF Try.prog 165 1 1 := ⟨by kernel_rfl⟩
instance tbd165 : TBd Try.prog 165 := ⟨by kernel_rfl⟩
instance tfs165_0 : TFS Try.prog 165 0 0 1 := ⟨by kernel_rfl⟩
instance tfs165_1 : TFS Try.prog 165 1 1 3 := ⟨by kernel_rfl⟩
instance tz165 : TZ Try.prog 165 [.string ⟨#[]⟩, .int .i64 0, .string ⟨#[]⟩, .slice none 0 0] := ⟨by kernel_rfl⟩
instance ti167 : TI Try.prog 167 true 5 72 := ⟨by kernel_rfl⟩
instance tf167_0 : TF Try.prog 167 0 0 := ⟨by kernel_rfl⟩
instance tf167_1 : TF Try.prog 167 1 4 := ⟨by kernel_rfl⟩
instance tbd167 : TBd Try.prog 167 := ⟨by kernel_rfl⟩
instance tfs167_0 : TFS Try.prog 167 0 0 4 := ⟨by kernel_rfl⟩
instance tfs167_1 : TFS Try.prog 167 1 4 1 := ⟨by kernel_rfl⟩
instance tz167 : TZ Try.prog 167 [.string ⟨#[]⟩, .int .i64 0, .string ⟨#[]⟩, .slice none 0 0, .int .i64 0] := ⟨by kernel_rfl⟩
instance ti169 : TI Try.prog 169 false 1 8 := ⟨by kernel_rfl⟩
instance tz169 : TZ Try.prog 169 [.pointer none] := ⟨by kernel_rfl⟩
instance ti176 : TI Try.prog 176 true 2 16 := ⟨by kernel_rfl⟩
instance tf176_0 : TF Try.prog 176 0 0 := ⟨by kernel_rfl⟩
instance tf176_1 : TF Try.prog 176 1 1 := ⟨by kernel_rfl⟩
instance tbd176 : TBd Try.prog 176 := ⟨by kernel_rfl⟩
instance tfs176_0 : TFS Try.prog 176 0 0 1 := ⟨by kernel_rfl⟩
instance tfs176_1 : TFS Try.prog 176 1 1 1 := ⟨by kernel_rfl⟩
instance tz176 : TZ Try.prog 176 [.int .i64 0, .int .i64 0] := ⟨by kernel_rfl⟩
instance ti178 : TI Try.prog 178 true 5 56 := ⟨by kernel_rfl⟩
instance tf178_0 : TF Try.prog 178 0 0 := ⟨by kernel_rfl⟩
instance tf178_1 : TF Try.prog 178 1 1 := ⟨by kernel_rfl⟩
instance tf178_2 : TF Try.prog 178 2 2 := ⟨by kernel_rfl⟩
instance tf178_3 : TF Try.prog 178 3 4 := ⟨by kernel_rfl⟩
instance tbd178 : TBd Try.prog 178 := ⟨by kernel_rfl⟩
instance tfs178_0 : TFS Try.prog 178 0 0 1 := ⟨by kernel_rfl⟩
instance tfs178_1 : TFS Try.prog 178 1 1 1 := ⟨by kernel_rfl⟩
instance tfs178_2 : TFS Try.prog 178 2 2 2 := ⟨by kernel_rfl⟩
instance tfs178_3 : TFS Try.prog 178 3 4 1 := ⟨by kernel_rfl⟩
instance tz178 : TZ Try.prog 178 [.int .i64 0, .int .i64 0, .int .i64 0, .int .i64 0, .slice none 0 0] := ⟨by kernel_rfl⟩
instance ti181 : TI Try.prog 181 true 13 232 := ⟨by kernel_rfl⟩
instance tf181_0 : TF Try.prog 181 0 0 := ⟨by kernel_rfl⟩
instance tf181_1 : TF Try.prog 181 1 1 := ⟨by kernel_rfl⟩
instance tf181_2 : TF Try.prog 181 2 2 := ⟨by kernel_rfl⟩
instance tbd181 : TBd Try.prog 181 := ⟨by kernel_rfl⟩
instance tfs181_0 : TFS Try.prog 181 0 0 1 := ⟨by kernel_rfl⟩
instance tfs181_1 : TFS Try.prog 181 1 1 1 := ⟨by kernel_rfl⟩
instance tfs181_2 : TFS Try.prog 181 2 2 11 := ⟨by kernel_rfl⟩
instance tz181 : TZ Try.prog 181 [.string ⟨#[]⟩, .slice none 0 0, .int .i64 0, .string ⟨#[]⟩, .string ⟨#[]⟩, .int .i64 0, .int .i64 0, .string ⟨#[]⟩, .slice none 0 0, .slice none 0 0, .slice none 0 0, .slice none 0 0, .slice none 0 0] := ⟨by kernel_rfl⟩
instance ti182 : TI Try.prog 182 true 2 16 := ⟨by kernel_rfl⟩
instance tf182_0 : TF Try.prog 182 0 0 := ⟨by kernel_rfl⟩
instance tf182_1 : TF Try.prog 182 1 1 := ⟨by kernel_rfl⟩
instance tbd182 : TBd Try.prog 182 := ⟨by kernel_rfl⟩
instance tfs182_0 : TFS Try.prog 182 0 0 1 := ⟨by kernel_rfl⟩
instance tfs182_1 : TFS Try.prog 182 1 1 1 := ⟨by kernel_rfl⟩
instance tz182 : TZ Try.prog 182 [.int .i64 0, .int .i64 0] := ⟨by kernel_rfl⟩
instance ti184 : TI Try.prog 184 true 5 56 := ⟨by kernel_rfl⟩
instance tf184_0 : TF Try.prog 184 0 0 := ⟨by kernel_rfl⟩
instance tf184_1 : TF Try.prog 184 1 1 := ⟨by kernel_rfl⟩
instance tf184_2 : TF Try.prog 184 2 2 := ⟨by kernel_rfl⟩
instance tf184_3 : TF Try.prog 184 3 4 := ⟨by kernel_rfl⟩
instance tbd184 : TBd Try.prog 184 := ⟨by kernel_rfl⟩
instance tfs184_0 : TFS Try.prog 184 0 0 1 := ⟨by kernel_rfl⟩
instance tfs184_1 : TFS Try.prog 184 1 1 1 := ⟨by kernel_rfl⟩
instance tfs184_2 : TFS Try.prog 184 2 2 2 := ⟨by kernel_rfl⟩
instance tfs184_3 : TFS Try.prog 184 3 4 1 := ⟨by kernel_rfl⟩
instance tz184 : TZ Try.prog 184 [.int .i64 0, .int .i64 0, .int .i64 0, .int .i64 0, .slice none 0 0] := ⟨by kernel_rfl⟩
instance ti189 : TI Try.prog 189 false 1 24 := ⟨by kernel_rfl⟩
instance te189 : TE Try.prog 189 5 := ⟨by kernel_rfl⟩
instance tz189 : TZ Try.prog 189 [.slice none 0 0] := ⟨by kernel_rfl⟩
instance ti192 : TI Try.prog 192 false 1 24 := ⟨by kernel_rfl⟩
instance te192 : TE Try.prog 192 195 := ⟨by kernel_rfl⟩
instance tz192 : TZ Try.prog 192 [.slice none 0 0] := ⟨by kernel_rfl⟩
instance ti193 : TI Try.prog 193 false 1 24 := ⟨by kernel_rfl⟩
instance te193 : TE Try.prog 193 237 := ⟨by kernel_rfl⟩
instance tz193 : TZ Try.prog 193 [.slice none 0 0] := ⟨by kernel_rfl⟩
instance ti195 : TI Try.prog 195 true 9 144 := ⟨by kernel_rfl⟩
instance tf195_0 : TF Try.prog 195 0 0 := ⟨by kernel_rfl⟩
instance tf195_1 : TF Try.prog 195 1 1 := ⟨by kernel_rfl⟩
instance tf195_2 : TF Try.prog 195 2 2 := ⟨by kernel_rfl⟩
instance tf195_3 : TF Try.prog 195 3 3 := ⟨by kernel_rfl⟩
instance tf195_4 : TF Try.prog 195 4 4 := ⟨by kernel_rfl⟩
instance tf195_5 : TF Try.prog 195 5 7 := ⟨by kernel_rfl⟩
instance tf195_6 : TF Try.prog 195 6 8 := ⟨by kernel_rfl⟩
instance tbd195 : TBd Try.prog 195 := ⟨by kernel_rfl⟩
instance tfs195_0 : TFS Try.prog 195 0 0 1 := ⟨by kernel_rfl⟩
instance tfs195_1 : TFS Try.prog 195 1 1 1 := ⟨by kernel_rfl⟩
instance tfs195_2 : TFS Try.prog 195 2 2 1 := ⟨by kernel_rfl⟩
instance tfs195_3 : TFS Try.prog 195 3 3 1 := ⟨by kernel_rfl⟩
instance tfs195_4 : TFS Try.prog 195 4 4 3 := ⟨by kernel_rfl⟩
instance tfs195_5 : TFS Try.prog 195 5 7 1 := ⟨by kernel_rfl⟩
instance tfs195_6 : TFS Try.prog 195 6 8 1 := ⟨by kernel_rfl⟩
instance tz195 : TZ Try.prog 195 [.int .i64 0, .string ⟨#[]⟩, .string ⟨#[]⟩, .int .i64 0, .int .i64 0, .string ⟨#[]⟩, .slice none 0 0, .slice none 0 0, .slice none 0 0] := ⟨by kernel_rfl⟩
instance ti197 : TI Try.prog 197 true 11 184 := ⟨by kernel_rfl⟩
instance tf197_0 : TF Try.prog 197 0 0 := ⟨by kernel_rfl⟩
instance tf197_1 : TF Try.prog 197 1 1 := ⟨by kernel_rfl⟩
instance tf197_2 : TF Try.prog 197 2 2 := ⟨by kernel_rfl⟩
instance tbd197 : TBd Try.prog 197 := ⟨by kernel_rfl⟩
instance tfs197_0 : TFS Try.prog 197 0 0 1 := ⟨by kernel_rfl⟩
instance tfs197_1 : TFS Try.prog 197 1 1 1 := ⟨by kernel_rfl⟩
instance tfs197_2 : TFS Try.prog 197 2 2 9 := ⟨by kernel_rfl⟩
instance tz197 : TZ Try.prog 197 [.string ⟨#[]⟩, .slice none 0 0, .int .i64 0, .string ⟨#[]⟩, .string ⟨#[]⟩, .int .i64 0, .int .i64 0, .string ⟨#[]⟩, .slice none 0 0, .slice none 0 0, .slice none 0 0] := ⟨by kernel_rfl⟩
instance ti199 : TI Try.prog 199 false 1 24 := ⟨by kernel_rfl⟩
instance te199 : TE Try.prog 199 202 := ⟨by kernel_rfl⟩
instance tz199 : TZ Try.prog 199 [.slice none 0 0] := ⟨by kernel_rfl⟩
instance ti200 : TI Try.prog 200 false 1 24 := ⟨by kernel_rfl⟩
instance te200 : TE Try.prog 200 239 := ⟨by kernel_rfl⟩
instance tz200 : TZ Try.prog 200 [.slice none 0 0] := ⟨by kernel_rfl⟩
instance ti202 : TI Try.prog 202 true 9 144 := ⟨by kernel_rfl⟩
instance tf202_0 : TF Try.prog 202 0 0 := ⟨by kernel_rfl⟩
instance tf202_1 : TF Try.prog 202 1 1 := ⟨by kernel_rfl⟩
instance tf202_2 : TF Try.prog 202 2 2 := ⟨by kernel_rfl⟩
instance tf202_3 : TF Try.prog 202 3 3 := ⟨by kernel_rfl⟩
instance tf202_4 : TF Try.prog 202 4 4 := ⟨by kernel_rfl⟩
instance tf202_5 : TF Try.prog 202 5 7 := ⟨by kernel_rfl⟩
instance tf202_6 : TF Try.prog 202 6 8 := ⟨by kernel_rfl⟩
instance tbd202 : TBd Try.prog 202 := ⟨by kernel_rfl⟩
instance tfs202_0 : TFS Try.prog 202 0 0 1 := ⟨by kernel_rfl⟩
instance tfs202_1 : TFS Try.prog 202 1 1 1 := ⟨by kernel_rfl⟩
instance tfs202_2 : TFS Try.prog 202 2 2 1 := ⟨by kernel_rfl⟩
instance tfs202_3 : TFS Try.prog 202 3 3 1 := ⟨by kernel_rfl⟩
instance tfs202_4 : TFS Try.prog 202 4 4 3 := ⟨by kernel_rfl⟩
instance tfs202_5 : TFS Try.prog 202 5 7 1 := ⟨by kernel_rfl⟩
instance tfs202_6 : TFS Try.prog 202 6 8 1 := ⟨by kernel_rfl⟩
instance tz202 : TZ Try.prog 202 [.int .i64 0, .string ⟨#[]⟩, .string ⟨#[]⟩, .int .i64 0, .int .i64 0, .string ⟨#[]⟩, .slice none 0 0, .slice none 0 0, .slice none 0 0] := ⟨by kernel_rfl⟩
instance ti204 : TI Try.prog 204 true 11 184 := ⟨by kernel_rfl⟩
instance tf204_0 : TF Try.prog 204 0 0 := ⟨by kernel_rfl⟩
instance tf204_1 : TF Try.prog 204 1 1 := ⟨by kernel_rfl⟩
instance tf204_2 : TF Try.prog 204 2 2 := ⟨by kernel_rfl⟩
instance tbd204 : TBd Try.prog 204 := ⟨by kernel_rfl⟩
instance tfs204_0 : TFS Try.prog 204 0 0 1 := ⟨by kernel_rfl⟩
instance tfs204_1 : TFS Try.prog 204 1 1 1 := ⟨by kernel_rfl⟩
instance tfs204_2 : TFS Try.prog 204 2 2 9 := ⟨by kernel_rfl⟩
instance tz204 : TZ Try.prog 204 [.string ⟨#[]⟩, .slice none 0 0, .int .i64 0, .string ⟨#[]⟩, .string ⟨#[]⟩, .int .i64 0, .int .i64 0, .string ⟨#[]⟩, .slice none 0 0, .slice none 0 0, .slice none 0 0] := ⟨by kernel_rfl⟩
instance ti224 : TI Try.prog 224 false 1 24 := ⟨by kernel_rfl⟩
instance te224 : TE Try.prog 224 71 := ⟨by kernel_rfl⟩
instance tz224 : TZ Try.prog 224 [.slice none 0 0] := ⟨by kernel_rfl⟩
instance ti237 : TI Try.prog 237 true 11 184 := ⟨by kernel_rfl⟩
instance tf237_0 : TF Try.prog 237 0 0 := ⟨by kernel_rfl⟩
instance tf237_1 : TF Try.prog 237 1 1 := ⟨by kernel_rfl⟩
instance tf237_2 : TF Try.prog 237 2 2 := ⟨by kernel_rfl⟩
instance tbd237 : TBd Try.prog 237 := ⟨by kernel_rfl⟩
instance tfs237_0 : TFS Try.prog 237 0 0 1 := ⟨by kernel_rfl⟩
instance tfs237_1 : TFS Try.prog 237 1 1 1 := ⟨by kernel_rfl⟩
instance tfs237_2 : TFS Try.prog 237 2 2 9 := ⟨by kernel_rfl⟩
instance tz237 : TZ Try.prog 237 [.string ⟨#[]⟩, .slice none 0 0, .int .i64 0, .string ⟨#[]⟩, .string ⟨#[]⟩, .int .i64 0, .int .i64 0, .string ⟨#[]⟩, .slice none 0 0, .slice none 0 0, .slice none 0 0] := ⟨by kernel_rfl⟩
instance ti239 : TI Try.prog 239 true 11 184 := ⟨by kernel_rfl⟩
instance tf239_0 : TF Try.prog 239 0 0 := ⟨by kernel_rfl⟩
instance tf239_1 : TF Try.prog 239 1 1 := ⟨by kernel_rfl⟩
instance tf239_2 : TF Try.prog 239 2 2 := ⟨by kernel_rfl⟩
instance tbd239 : TBd Try.prog 239 := ⟨by kernel_rfl⟩
instance tfs239_0 : TFS Try.prog 239 0 0 1 := ⟨by kernel_rfl⟩
instance tfs239_1 : TFS Try.prog 239 1 1 1 := ⟨by kernel_rfl⟩
instance tfs239_2 : TFS Try.prog 239 2 2 9 := ⟨by kernel_rfl⟩
instance tz239 : TZ Try.prog 239 [.string ⟨#[]⟩, .slice none 0 0, .int .i64 0, .string ⟨#[]⟩, .string ⟨#[]⟩, .int .i64 0, .int .i64 0, .string ⟨#[]⟩, .slice none 0 0, .slice none 0 0, .slice none 0 0] := ⟨by kernel_rfl⟩
instance ti250 : TI Try.prog 250 false 1 4 := ⟨by kernel_rfl⟩
instance tu250 : TU Try.prog 250 .u32 := ⟨by kernel_rfl⟩
instance tz250 : TZ Try.prog 250 [.int .u32 0] := ⟨by kernel_rfl⟩
instance tp182 : TP Try.prog 182 := by
  refine ⟨?_⟩
  intro w a b c d
  refine ⟨by kernel_rfl, ?_⟩
  have hund : Try.prog.underlying 182 = some (.struct (Try.prog.fieldsOf 182)) := by kernel_rfl
  have hh : Try.prog.stoodInHeld 182 = false := by kernel_rfl
  have hf : (Try.prog.fieldsOf 182).toList = [{ name := "Package", type := 3, offset := 0, embedded := false, tag := "", pkgPath := "", byteOffset := 0 }, { name := "At", type := 3, offset := 1, embedded := false, tag := "", pkgPath := "", byteOffset := 8 }] := by kernel_rfl
  have hi : Try.prog.underlying 3 = some (.int .i64) := by kernel_rfl
  have hg : tyI Try.prog 3 = some (false, 1, 8) := by kernel_rfl
  have hint : ∀ (d : Nat) (w : World) (a c : Int), (Op.equalIn (d + 1) 3 (.int .i64 a) (.int .i64 c)).run Try.prog w = .ok (a == c) w := by
    intro d w a c
    simp [Op.equalIn, run_underlying hi]
  unfold Op.equal Op.maxDepth
  rw [run_equalIn_struct w 9999 182 _ _ hund hh, hf]
  have h9 := hint 9998
  rw [show 9998 + 1 = 9999 from rfl] at h9
  by_cases h1 : a = c <;> by_cases h2 : b = d <;> simp [Op.eqFields, part, run_isAgg hg, h9, h1, h2]
def tmS : TypeId → Option Sh
  | 3 => some (.int)
  | 4 => some (.bool)
  | 9 => some (.str)
  | 22 => some (.sl (.st 1))
  | 24 => some (.st 1)
  | 27 => some (.sl (.st 1))
  | 29 => some (.st 1)
  | 34 => some (.sl (.st 2))
  | 35 => some (.sl (.st 22))
  | 36 => some (.sl (.st 23))
  | 38 => some (.st 24)
  | 41 => some (.sl (.st 2))
  | 42 => some (.sl (.st 22))
  | 43 => some (.sl (.st 23))
  | 45 => some (.st 24)
  | 51 => some (.sl (.st 18))
  | 52 => some (.sl (.st 21))
  | 53 => some (.sl (.st 20))
  | 55 => some (.st 21)
  | 58 => some (.sl (.st 18))
  | 59 => some (.sl (.st 21))
  | 60 => some (.sl (.st 20))
  | 62 => some (.st 21)
  | 71 => some (.sl (.str))
  | 72 => some (.sl (.st 9))
  | 73 => some (.sl (.st 10))
  | 75 => some (.st 11)
  | 78 => some (.sl (.st 9))
  | 79 => some (.sl (.st 10))
  | 81 => some (.st 11)
  | 109 => some (.st 2)
  | 116 => some (.st 20)
  | 118 => some (.st 2)
  | 154 => some (.st 22)
  | 157 => some (.st 9)
  | 159 => some (.st 23)
  | 162 => some (.st 22)
  | 165 => some (.st 9)
  | 167 => some (.st 23)
  | 176 => some (.st 16)
  | 178 => some (.st 18)
  | 181 => some (.st 20)
  | 182 => some (.st 16)
  | 184 => some (.st 18)
  | 192 => some (.sl (.st 4))
  | 193 => some (.sl (.st 3))
  | 195 => some (.st 4)
  | 197 => some (.st 10)
  | 199 => some (.sl (.st 4))
  | 200 => some (.sl (.st 3))
  | 202 => some (.st 4)
  | 204 => some (.st 10)
  | 224 => some (.sl (.sl (.str)))
  | 237 => some (.st 3)
  | 239 => some (.st 3)
  | _ => none
theorem tmk3 : tmOk Try.prog tmS 3 (.int) := Try.underlying3
theorem tmk4 : tmOk Try.prog tmS 4 (.bool) := Try.underlying4
theorem tmk9 : tmOk Try.prog tmS 9 (.str) := Try.underlying9
theorem tmk22 : tmOk Try.prog tmS 22 (.sl (.st 1)) := ⟨24, Try.underlying22, rfl, by kernel_rfl, by decide, by decide +kernel⟩
theorem tmk24 : tmOk Try.prog tmS 24 (.st 1) := ⟨_, Try.underlying24, by kernel_rfl, And.intro rfl (And.intro rfl (And.intro (by kernel_rfl) (And.intro rfl (And.intro rfl (And.intro (by kernel_rfl) (And.intro rfl (And.intro rfl (And.intro (by kernel_rfl) (trivial)))))))))⟩
theorem tmk27 : tmOk Try.prog tmS 27 (.sl (.st 1)) := ⟨29, Try.underlying27, rfl, by kernel_rfl, by decide, by decide +kernel⟩
theorem tmk29 : tmOk Try.prog tmS 29 (.st 1) := ⟨_, Try.underlying29, by kernel_rfl, And.intro rfl (And.intro rfl (And.intro (by kernel_rfl) (And.intro rfl (And.intro rfl (And.intro (by kernel_rfl) (And.intro rfl (And.intro rfl (And.intro (by kernel_rfl) (trivial)))))))))⟩
theorem tmk34 : tmOk Try.prog tmS 34 (.sl (.st 2)) := ⟨109, Try.underlying34, rfl, by kernel_rfl, by decide, by decide +kernel⟩
theorem tmk35 : tmOk Try.prog tmS 35 (.sl (.st 22)) := ⟨154, Try.underlying35, rfl, by kernel_rfl, by decide, by decide +kernel⟩
theorem tmk36 : tmOk Try.prog tmS 36 (.sl (.st 23)) := ⟨159, Try.underlying36, rfl, by kernel_rfl, by decide, by decide +kernel⟩
theorem tmk38 : tmOk Try.prog tmS 38 (.st 24) := ⟨_, Try.underlying38, by kernel_rfl, And.intro rfl (And.intro rfl (And.intro (by kernel_rfl) (And.intro rfl (And.intro rfl (And.intro (by kernel_rfl) (And.intro rfl (And.intro rfl (And.intro (by kernel_rfl) (And.intro rfl (And.intro rfl (And.intro (by kernel_rfl) (And.intro rfl (And.intro rfl (And.intro (by kernel_rfl) (And.intro rfl (And.intro rfl (And.intro (by kernel_rfl) (And.intro rfl (And.intro rfl (And.intro (by kernel_rfl) (And.intro rfl (And.intro rfl (And.intro (by kernel_rfl) (trivial))))))))))))))))))))))))⟩
theorem tmk41 : tmOk Try.prog tmS 41 (.sl (.st 2)) := ⟨118, Try.underlying41, rfl, by kernel_rfl, by decide, by decide +kernel⟩
theorem tmk42 : tmOk Try.prog tmS 42 (.sl (.st 22)) := ⟨162, Try.underlying42, rfl, by kernel_rfl, by decide, by decide +kernel⟩
theorem tmk43 : tmOk Try.prog tmS 43 (.sl (.st 23)) := ⟨167, Try.underlying43, rfl, by kernel_rfl, by decide, by decide +kernel⟩
theorem tmk45 : tmOk Try.prog tmS 45 (.st 24) := ⟨_, Try.underlying45, by kernel_rfl, And.intro rfl (And.intro rfl (And.intro (by kernel_rfl) (And.intro rfl (And.intro rfl (And.intro (by kernel_rfl) (And.intro rfl (And.intro rfl (And.intro (by kernel_rfl) (And.intro rfl (And.intro rfl (And.intro (by kernel_rfl) (And.intro rfl (And.intro rfl (And.intro (by kernel_rfl) (And.intro rfl (And.intro rfl (And.intro (by kernel_rfl) (And.intro rfl (And.intro rfl (And.intro (by kernel_rfl) (And.intro rfl (And.intro rfl (And.intro (by kernel_rfl) (trivial))))))))))))))))))))))))⟩
theorem tmk51 : tmOk Try.prog tmS 51 (.sl (.st 18)) := ⟨178, Try.underlying51, rfl, by kernel_rfl, by decide, by decide +kernel⟩
theorem tmk52 : tmOk Try.prog tmS 52 (.sl (.st 21)) := ⟨55, Try.underlying52, rfl, by kernel_rfl, by decide, by decide +kernel⟩
theorem tmk53 : tmOk Try.prog tmS 53 (.sl (.st 20)) := ⟨181, Try.underlying53, rfl, by kernel_rfl, by decide, by decide +kernel⟩
theorem tmk55 : tmOk Try.prog tmS 55 (.st 21) := ⟨_, Try.underlying55, by kernel_rfl, And.intro rfl (And.intro rfl (And.intro (by kernel_rfl) (And.intro rfl (And.intro rfl (And.intro (by kernel_rfl) (And.intro rfl (And.intro rfl (And.intro (by kernel_rfl) (And.intro rfl (And.intro rfl (And.intro (by kernel_rfl) (And.intro rfl (And.intro rfl (And.intro (by kernel_rfl) (And.intro rfl (And.intro rfl (And.intro (by kernel_rfl) (And.intro rfl (And.intro rfl (And.intro (by kernel_rfl) (And.intro rfl (And.intro rfl (And.intro (by kernel_rfl) (And.intro rfl (And.intro rfl (And.intro (by kernel_rfl) (trivial)))))))))))))))))))))))))))⟩
theorem tmk58 : tmOk Try.prog tmS 58 (.sl (.st 18)) := ⟨184, Try.underlying58, rfl, by kernel_rfl, by decide, by decide +kernel⟩
theorem tmk59 : tmOk Try.prog tmS 59 (.sl (.st 21)) := ⟨62, Try.underlying59, rfl, by kernel_rfl, by decide, by decide +kernel⟩
theorem tmk60 : tmOk Try.prog tmS 60 (.sl (.st 20)) := ⟨116, Try.underlying60, rfl, by kernel_rfl, by decide, by decide +kernel⟩
theorem tmk62 : tmOk Try.prog tmS 62 (.st 21) := ⟨_, Try.underlying62, by kernel_rfl, And.intro rfl (And.intro rfl (And.intro (by kernel_rfl) (And.intro rfl (And.intro rfl (And.intro (by kernel_rfl) (And.intro rfl (And.intro rfl (And.intro (by kernel_rfl) (And.intro rfl (And.intro rfl (And.intro (by kernel_rfl) (And.intro rfl (And.intro rfl (And.intro (by kernel_rfl) (And.intro rfl (And.intro rfl (And.intro (by kernel_rfl) (And.intro rfl (And.intro rfl (And.intro (by kernel_rfl) (And.intro rfl (And.intro rfl (And.intro (by kernel_rfl) (And.intro rfl (And.intro rfl (And.intro (by kernel_rfl) (trivial)))))))))))))))))))))))))))⟩
theorem tmk71 : tmOk Try.prog tmS 71 (.sl (.str)) := ⟨9, Try.underlying71, rfl, by kernel_rfl, by decide, by decide +kernel⟩
theorem tmk72 : tmOk Try.prog tmS 72 (.sl (.st 9)) := ⟨157, Try.underlying72, rfl, by kernel_rfl, by decide, by decide +kernel⟩
theorem tmk73 : tmOk Try.prog tmS 73 (.sl (.st 10)) := ⟨197, Try.underlying73, rfl, by kernel_rfl, by decide, by decide +kernel⟩
theorem tmk75 : tmOk Try.prog tmS 75 (.st 11) := ⟨_, Try.underlying75, by kernel_rfl, And.intro rfl (And.intro rfl (And.intro (by kernel_rfl) (And.intro rfl (And.intro rfl (And.intro (by kernel_rfl) (And.intro rfl (And.intro rfl (And.intro (by kernel_rfl) (And.intro rfl (And.intro rfl (And.intro (by kernel_rfl) (And.intro rfl (And.intro rfl (And.intro (by kernel_rfl) (And.intro rfl (And.intro rfl (And.intro (by kernel_rfl) (And.intro rfl (And.intro rfl (And.intro (by kernel_rfl) (And.intro rfl (And.intro rfl (And.intro (by kernel_rfl) (trivial))))))))))))))))))))))))⟩
theorem tmk78 : tmOk Try.prog tmS 78 (.sl (.st 9)) := ⟨165, Try.underlying78, rfl, by kernel_rfl, by decide, by decide +kernel⟩
theorem tmk79 : tmOk Try.prog tmS 79 (.sl (.st 10)) := ⟨204, Try.underlying79, rfl, by kernel_rfl, by decide, by decide +kernel⟩
theorem tmk81 : tmOk Try.prog tmS 81 (.st 11) := ⟨_, Try.underlying81, by kernel_rfl, And.intro rfl (And.intro rfl (And.intro (by kernel_rfl) (And.intro rfl (And.intro rfl (And.intro (by kernel_rfl) (And.intro rfl (And.intro rfl (And.intro (by kernel_rfl) (And.intro rfl (And.intro rfl (And.intro (by kernel_rfl) (And.intro rfl (And.intro rfl (And.intro (by kernel_rfl) (And.intro rfl (And.intro rfl (And.intro (by kernel_rfl) (And.intro rfl (And.intro rfl (And.intro (by kernel_rfl) (And.intro rfl (And.intro rfl (And.intro (by kernel_rfl) (trivial))))))))))))))))))))))))⟩
theorem tmk109 : tmOk Try.prog tmS 109 (.st 2) := ⟨_, Try.underlying109, by kernel_rfl, And.intro rfl (And.intro rfl (And.intro (by kernel_rfl) (And.intro rfl (And.intro rfl (And.intro (by kernel_rfl) (trivial))))))⟩
theorem tmk116 : tmOk Try.prog tmS 116 (.st 20) := ⟨_, Try.underlying116, by kernel_rfl, And.intro rfl (And.intro rfl (And.intro (by kernel_rfl) (And.intro rfl (And.intro rfl (And.intro (by kernel_rfl) (And.intro rfl (And.intro rfl (And.intro (by kernel_rfl) (trivial)))))))))⟩
theorem tmk118 : tmOk Try.prog tmS 118 (.st 2) := ⟨_, Try.underlying118, by kernel_rfl, And.intro rfl (And.intro rfl (And.intro (by kernel_rfl) (And.intro rfl (And.intro rfl (And.intro (by kernel_rfl) (trivial))))))⟩
theorem tmk154 : tmOk Try.prog tmS 154 (.st 22) := ⟨_, Try.underlying154, by kernel_rfl, And.intro rfl (And.intro rfl (And.intro (by kernel_rfl) (And.intro rfl (And.intro rfl (And.intro (by kernel_rfl) (And.intro rfl (And.intro rfl (And.intro (by kernel_rfl) (trivial)))))))))⟩
theorem tmk157 : tmOk Try.prog tmS 157 (.st 9) := ⟨_, Try.underlying157, by kernel_rfl, And.intro rfl (And.intro rfl (And.intro (by kernel_rfl) (And.intro rfl (And.intro rfl (And.intro (by kernel_rfl) (trivial))))))⟩
theorem tmk159 : tmOk Try.prog tmS 159 (.st 23) := ⟨_, Try.underlying159, by kernel_rfl, And.intro rfl (And.intro rfl (And.intro (by kernel_rfl) (And.intro rfl (And.intro rfl (And.intro (by kernel_rfl) (trivial))))))⟩
theorem tmk162 : tmOk Try.prog tmS 162 (.st 22) := ⟨_, Try.underlying162, by kernel_rfl, And.intro rfl (And.intro rfl (And.intro (by kernel_rfl) (And.intro rfl (And.intro rfl (And.intro (by kernel_rfl) (And.intro rfl (And.intro rfl (And.intro (by kernel_rfl) (trivial)))))))))⟩
theorem tmk165 : tmOk Try.prog tmS 165 (.st 9) := ⟨_, Try.underlying165, by kernel_rfl, And.intro rfl (And.intro rfl (And.intro (by kernel_rfl) (And.intro rfl (And.intro rfl (And.intro (by kernel_rfl) (trivial))))))⟩
theorem tmk167 : tmOk Try.prog tmS 167 (.st 23) := ⟨_, Try.underlying167, by kernel_rfl, And.intro rfl (And.intro rfl (And.intro (by kernel_rfl) (And.intro rfl (And.intro rfl (And.intro (by kernel_rfl) (trivial))))))⟩
theorem tmk176 : tmOk Try.prog tmS 176 (.st 16) := ⟨_, Try.underlying176, by kernel_rfl, And.intro rfl (And.intro rfl (And.intro (by kernel_rfl) (And.intro rfl (And.intro rfl (And.intro (by kernel_rfl) (trivial))))))⟩
theorem tmk178 : tmOk Try.prog tmS 178 (.st 18) := ⟨_, Try.underlying178, by kernel_rfl, And.intro rfl (And.intro rfl (And.intro (by kernel_rfl) (And.intro rfl (And.intro rfl (And.intro (by kernel_rfl) (And.intro rfl (And.intro rfl (And.intro (by kernel_rfl) (And.intro rfl (And.intro rfl (And.intro (by kernel_rfl) (trivial))))))))))))⟩
theorem tmk181 : tmOk Try.prog tmS 181 (.st 20) := ⟨_, Try.underlying181, by kernel_rfl, And.intro rfl (And.intro rfl (And.intro (by kernel_rfl) (And.intro rfl (And.intro rfl (And.intro (by kernel_rfl) (And.intro rfl (And.intro rfl (And.intro (by kernel_rfl) (trivial)))))))))⟩
theorem tmk182 : tmOk Try.prog tmS 182 (.st 16) := ⟨_, Try.underlying182, by kernel_rfl, And.intro rfl (And.intro rfl (And.intro (by kernel_rfl) (And.intro rfl (And.intro rfl (And.intro (by kernel_rfl) (trivial))))))⟩
theorem tmk184 : tmOk Try.prog tmS 184 (.st 18) := ⟨_, Try.underlying184, by kernel_rfl, And.intro rfl (And.intro rfl (And.intro (by kernel_rfl) (And.intro rfl (And.intro rfl (And.intro (by kernel_rfl) (And.intro rfl (And.intro rfl (And.intro (by kernel_rfl) (And.intro rfl (And.intro rfl (And.intro (by kernel_rfl) (trivial))))))))))))⟩
theorem tmk192 : tmOk Try.prog tmS 192 (.sl (.st 4)) := ⟨195, Try.underlying192, rfl, by kernel_rfl, by decide, by decide +kernel⟩
theorem tmk193 : tmOk Try.prog tmS 193 (.sl (.st 3)) := ⟨237, Try.underlying193, rfl, by kernel_rfl, by decide, by decide +kernel⟩
theorem tmk195 : tmOk Try.prog tmS 195 (.st 4) := ⟨_, Try.underlying195, by kernel_rfl, And.intro rfl (And.intro rfl (And.intro (by kernel_rfl) (And.intro rfl (And.intro rfl (And.intro (by kernel_rfl) (And.intro rfl (And.intro rfl (And.intro (by kernel_rfl) (And.intro rfl (And.intro rfl (And.intro (by kernel_rfl) (And.intro rfl (And.intro rfl (And.intro (by kernel_rfl) (And.intro rfl (And.intro rfl (And.intro (by kernel_rfl) (And.intro rfl (And.intro rfl (And.intro (by kernel_rfl) (trivial)))))))))))))))))))))⟩
theorem tmk197 : tmOk Try.prog tmS 197 (.st 10) := ⟨_, Try.underlying197, by kernel_rfl, And.intro rfl (And.intro rfl (And.intro (by kernel_rfl) (And.intro rfl (And.intro rfl (And.intro (by kernel_rfl) (And.intro rfl (And.intro rfl (And.intro (by kernel_rfl) (trivial)))))))))⟩
theorem tmk199 : tmOk Try.prog tmS 199 (.sl (.st 4)) := ⟨202, Try.underlying199, rfl, by kernel_rfl, by decide, by decide +kernel⟩
theorem tmk200 : tmOk Try.prog tmS 200 (.sl (.st 3)) := ⟨239, Try.underlying200, rfl, by kernel_rfl, by decide, by decide +kernel⟩
theorem tmk202 : tmOk Try.prog tmS 202 (.st 4) := ⟨_, Try.underlying202, by kernel_rfl, And.intro rfl (And.intro rfl (And.intro (by kernel_rfl) (And.intro rfl (And.intro rfl (And.intro (by kernel_rfl) (And.intro rfl (And.intro rfl (And.intro (by kernel_rfl) (And.intro rfl (And.intro rfl (And.intro (by kernel_rfl) (And.intro rfl (And.intro rfl (And.intro (by kernel_rfl) (And.intro rfl (And.intro rfl (And.intro (by kernel_rfl) (And.intro rfl (And.intro rfl (And.intro (by kernel_rfl) (trivial)))))))))))))))))))))⟩
theorem tmk204 : tmOk Try.prog tmS 204 (.st 10) := ⟨_, Try.underlying204, by kernel_rfl, And.intro rfl (And.intro rfl (And.intro (by kernel_rfl) (And.intro rfl (And.intro rfl (And.intro (by kernel_rfl) (And.intro rfl (And.intro rfl (And.intro (by kernel_rfl) (trivial)))))))))⟩
theorem tmk224 : tmOk Try.prog tmS 224 (.sl (.sl (.str))) := ⟨71, Try.underlying224, rfl, by kernel_rfl, by decide, by decide +kernel⟩
theorem tmk237 : tmOk Try.prog tmS 237 (.st 3) := ⟨_, Try.underlying237, by kernel_rfl, And.intro rfl (And.intro rfl (And.intro (by kernel_rfl) (And.intro rfl (And.intro rfl (And.intro (by kernel_rfl) (And.intro rfl (And.intro rfl (And.intro (by kernel_rfl) (trivial)))))))))⟩
theorem tmk239 : tmOk Try.prog tmS 239 (.st 3) := ⟨_, Try.underlying239, by kernel_rfl, And.intro rfl (And.intro rfl (And.intro (by kernel_rfl) (And.intro rfl (And.intro rfl (And.intro (by kernel_rfl) (And.intro rfl (And.intro rfl (And.intro (by kernel_rfl) (trivial)))))))))⟩
theorem tm_ok : ∀ (T : TypeId) (s : Sh), tmS T = some s → tmOk Try.prog tmS T s := by
  intro T s h
  unfold tmS at h
  split at h
  · cases h; exact tmk3
  · cases h; exact tmk4
  · cases h; exact tmk9
  · cases h; exact tmk22
  · cases h; exact tmk24
  · cases h; exact tmk27
  · cases h; exact tmk29
  · cases h; exact tmk34
  · cases h; exact tmk35
  · cases h; exact tmk36
  · cases h; exact tmk38
  · cases h; exact tmk41
  · cases h; exact tmk42
  · cases h; exact tmk43
  · cases h; exact tmk45
  · cases h; exact tmk51
  · cases h; exact tmk52
  · cases h; exact tmk53
  · cases h; exact tmk55
  · cases h; exact tmk58
  · cases h; exact tmk59
  · cases h; exact tmk60
  · cases h; exact tmk62
  · cases h; exact tmk71
  · cases h; exact tmk72
  · cases h; exact tmk73
  · cases h; exact tmk75
  · cases h; exact tmk78
  · cases h; exact tmk79
  · cases h; exact tmk81
  · cases h; exact tmk109
  · cases h; exact tmk116
  · cases h; exact tmk118
  · cases h; exact tmk154
  · cases h; exact tmk157
  · cases h; exact tmk159
  · cases h; exact tmk162
  · cases h; exact tmk165
  · cases h; exact tmk167
  · cases h; exact tmk176
  · cases h; exact tmk178
  · cases h; exact tmk181
  · cases h; exact tmk182
  · cases h; exact tmk184
  · cases h; exact tmk192
  · cases h; exact tmk193
  · cases h; exact tmk195
  · cases h; exact tmk197
  · cases h; exact tmk199
  · cases h; exact tmk200
  · cases h; exact tmk202
  · cases h; exact tmk204
  · cases h; exact tmk224
  · cases h; exact tmk237
  · cases h; exact tmk239
  · cases h
theorem tmix : Try.prog.follows .mixedOrders = true := by kernel_rfl
instance : Mix Try.prog := ⟨tmix⟩
end Go.Proofs.Ytbloknibekeedaa
