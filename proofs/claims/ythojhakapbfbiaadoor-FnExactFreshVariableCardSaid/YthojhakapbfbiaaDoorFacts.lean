/- What the program says of its types. Written by a program of mine. -/
import Derived.Test.YthojhakapbfbiaaDoorProg
import Derived.Test.YthojhakapbfbiaaDoorEng37
namespace Go.Proofs.YthojhakapbfbiaaDoor
open Go Go.Eng
instance ti3 : TI Tryd.prog 3 false 1 8 := ⟨by kernel_rfl⟩
instance tu3 : TU Tryd.prog 3 .i64 := ⟨by kernel_rfl⟩
instance tz3 : TZ Tryd.prog 3 [.int .i64 0] := ⟨by kernel_rfl⟩
instance ti4 : TI Tryd.prog 4 false 1 1 := ⟨by kernel_rfl⟩
instance tb4 : TB Tryd.prog 4 := ⟨by kernel_rfl⟩
instance tz4 : TZ Tryd.prog 4 [.bool false] := ⟨by kernel_rfl⟩
instance ti5 : TI Tryd.prog 5 false 1 1 := ⟨by kernel_rfl⟩
instance tu5 : TU Tryd.prog 5 .u8 := ⟨by kernel_rfl⟩
instance tz5 : TZ Tryd.prog 5 [.int .u8 0] := ⟨by kernel_rfl⟩
instance ti9 : TI Tryd.prog 9 false 1 16 := ⟨by kernel_rfl⟩
instance tss9 : TS Tryd.prog 9 := ⟨by kernel_rfl⟩
instance tz9 : TZ Tryd.prog 9 [.string ⟨#[]⟩] := ⟨by kernel_rfl⟩
instance ti21 : TI Tryd.prog 21 false 1 4 := ⟨by kernel_rfl⟩
instance tu21 : TU Tryd.prog 21 .i32 := ⟨by kernel_rfl⟩
instance tz21 : TZ Tryd.prog 21 [.int .i32 0] := ⟨by kernel_rfl⟩
instance ti22 : TI Tryd.prog 22 false 1 24 := ⟨by kernel_rfl⟩
instance te22 : TE Tryd.prog 22 108 := ⟨by kernel_rfl⟩
instance tz22 : TZ Tryd.prog 22 [.slice none 0 0] := ⟨by kernel_rfl⟩
instance ti23 : TI Tryd.prog 23 false 1 24 := ⟨by kernel_rfl⟩
instance te23 : TE Tryd.prog 23 111 := ⟨by kernel_rfl⟩
instance tz23 : TZ Tryd.prog 23 [.slice none 0 0] := ⟨by kernel_rfl⟩
instance ti24 : TI Tryd.prog 24 false 1 24 := ⟨by kernel_rfl⟩
instance te24 : TE Tryd.prog 24 116 := ⟨by kernel_rfl⟩
instance tz24 : TZ Tryd.prog 24 [.slice none 0 0] := ⟨by kernel_rfl⟩
instance ti26 : TI Tryd.prog 26 true 8 112 := ⟨by kernel_rfl⟩
instance tf26_0 : TF Tryd.prog 26 0 0 := ⟨by kernel_rfl⟩
instance tf26_1 : TF Tryd.prog 26 1 1 := ⟨by kernel_rfl⟩
instance tf26_2 : TF Tryd.prog 26 2 2 := ⟨by kernel_rfl⟩
instance tf26_3 : TF Tryd.prog 26 3 3 := ⟨by kernel_rfl⟩
instance tf26_4 : TF Tryd.prog 26 4 4 := ⟨by kernel_rfl⟩
instance tf26_5 : TF Tryd.prog 26 5 5 := ⟨by kernel_rfl⟩
instance tf26_6 : TF Tryd.prog 26 6 6 := ⟨by kernel_rfl⟩
instance tf26_7 : TF Tryd.prog 26 7 7 := ⟨by kernel_rfl⟩
instance tbd26 : TBd Tryd.prog 26 := ⟨by kernel_rfl⟩
instance tfs26_0 : TFS Tryd.prog 26 0 0 1 := ⟨by kernel_rfl⟩
instance tfs26_1 : TFS Tryd.prog 26 1 1 1 := ⟨by kernel_rfl⟩
instance tfs26_2 : TFS Tryd.prog 26 2 2 1 := ⟨by kernel_rfl⟩
instance tfs26_3 : TFS Tryd.prog 26 3 3 1 := ⟨by kernel_rfl⟩
instance tfs26_4 : TFS Tryd.prog 26 4 4 1 := ⟨by kernel_rfl⟩
instance tfs26_5 : TFS Tryd.prog 26 5 5 1 := ⟨by kernel_rfl⟩
instance tfs26_6 : TFS Tryd.prog 26 6 6 1 := ⟨by kernel_rfl⟩
instance tfs26_7 : TFS Tryd.prog 26 7 7 1 := ⟨by kernel_rfl⟩
instance tz26 : TZ Tryd.prog 26 [.int .i64 0, .int .i64 0, .int .i64 0, .slice none 0 0, .slice none 0 0, .slice none 0 0, .int .i64 0, .int .i64 0] := ⟨by kernel_rfl⟩
instance ti28 : TI Tryd.prog 28 false 1 24 := ⟨by kernel_rfl⟩
instance te28 : TE Tryd.prog 28 118 := ⟨by kernel_rfl⟩
instance tz28 : TZ Tryd.prog 28 [.slice none 0 0] := ⟨by kernel_rfl⟩
instance ti29 : TI Tryd.prog 29 false 1 24 := ⟨by kernel_rfl⟩
instance te29 : TE Tryd.prog 29 121 := ⟨by kernel_rfl⟩
instance tz29 : TZ Tryd.prog 29 [.slice none 0 0] := ⟨by kernel_rfl⟩
instance ti30 : TI Tryd.prog 30 false 1 24 := ⟨by kernel_rfl⟩
instance te30 : TE Tryd.prog 30 125 := ⟨by kernel_rfl⟩
instance tz30 : TZ Tryd.prog 30 [.slice none 0 0] := ⟨by kernel_rfl⟩
instance ti32 : TI Tryd.prog 32 true 8 112 := ⟨by kernel_rfl⟩
instance tf32_0 : TF Tryd.prog 32 0 0 := ⟨by kernel_rfl⟩
instance tf32_1 : TF Tryd.prog 32 1 1 := ⟨by kernel_rfl⟩
instance tf32_2 : TF Tryd.prog 32 2 2 := ⟨by kernel_rfl⟩
instance tf32_3 : TF Tryd.prog 32 3 3 := ⟨by kernel_rfl⟩
instance tf32_4 : TF Tryd.prog 32 4 4 := ⟨by kernel_rfl⟩
instance tf32_5 : TF Tryd.prog 32 5 5 := ⟨by kernel_rfl⟩
instance tf32_6 : TF Tryd.prog 32 6 6 := ⟨by kernel_rfl⟩
instance tf32_7 : TF Tryd.prog 32 7 7 := ⟨by kernel_rfl⟩
instance tbd32 : TBd Tryd.prog 32 := ⟨by kernel_rfl⟩
instance tfs32_0 : TFS Tryd.prog 32 0 0 1 := ⟨by kernel_rfl⟩
instance tfs32_1 : TFS Tryd.prog 32 1 1 1 := ⟨by kernel_rfl⟩
instance tfs32_2 : TFS Tryd.prog 32 2 2 1 := ⟨by kernel_rfl⟩
instance tfs32_3 : TFS Tryd.prog 32 3 3 1 := ⟨by kernel_rfl⟩
instance tfs32_4 : TFS Tryd.prog 32 4 4 1 := ⟨by kernel_rfl⟩
instance tfs32_5 : TFS Tryd.prog 32 5 5 1 := ⟨by kernel_rfl⟩
instance tfs32_6 : TFS Tryd.prog 32 6 6 1 := ⟨by kernel_rfl⟩
instance tfs32_7 : TFS Tryd.prog 32 7 7 1 := ⟨by kernel_rfl⟩
instance tz32 : TZ Tryd.prog 32 [.int .i64 0, .int .i64 0, .int .i64 0, .slice none 0 0, .slice none 0 0, .slice none 0 0, .int .i64 0, .int .i64 0] := ⟨by kernel_rfl⟩
instance ti33 : TI Tryd.prog 33 false 1 24 := ⟨by kernel_rfl⟩
instance te33 : TE Tryd.prog 33 35 := ⟨by kernel_rfl⟩
instance tz33 : TZ Tryd.prog 33 [.slice none 0 0] := ⟨by kernel_rfl⟩
instance ti35 : TI Tryd.prog 35 true 3 48 := ⟨by kernel_rfl⟩
instance tf35_0 : TF Tryd.prog 35 0 0 := ⟨by kernel_rfl⟩
instance tf35_1 : TF Tryd.prog 35 1 1 := ⟨by kernel_rfl⟩
instance tf35_2 : TF Tryd.prog 35 2 2 := ⟨by kernel_rfl⟩
instance tbd35 : TBd Tryd.prog 35 := ⟨by kernel_rfl⟩
instance tfs35_0 : TFS Tryd.prog 35 0 0 1 := ⟨by kernel_rfl⟩
instance tfs35_1 : TFS Tryd.prog 35 1 1 1 := ⟨by kernel_rfl⟩
instance tfs35_2 : TFS Tryd.prog 35 2 2 1 := ⟨by kernel_rfl⟩
instance tz35 : TZ Tryd.prog 35 [.int .i64 0, .string ⟨#[]⟩, .slice none 0 0] := ⟨by kernel_rfl⟩
instance ti45 : TI Tryd.prog 45 true 2 16 := ⟨by kernel_rfl⟩
instance tf45_0 : TF Tryd.prog 45 0 0 := ⟨by kernel_rfl⟩
instance tf45_1 : TF Tryd.prog 45 1 1 := ⟨by kernel_rfl⟩
instance tbd45 : TBd Tryd.prog 45 := ⟨by kernel_rfl⟩
instance tfs45_0 : TFS Tryd.prog 45 0 0 1 := ⟨by kernel_rfl⟩
instance tfs45_1 : TFS Tryd.prog 45 1 1 1 := ⟨by kernel_rfl⟩
instance tz45 : TZ Tryd.prog 45 [.int .i64 0, .int .i64 0] := ⟨by kernel_rfl⟩
instance ti46 : TI Tryd.prog 46 false 1 24 := ⟨by kernel_rfl⟩
instance te46 : TE Tryd.prog 46 3 := ⟨by kernel_rfl⟩
instance tz46 : TZ Tryd.prog 46 [.slice none 0 0] := ⟨by kernel_rfl⟩
instance ti47 : TI Tryd.prog 47 false 1 24 := ⟨by kernel_rfl⟩
instance te47 : TE Tryd.prog 47 49 := ⟨by kernel_rfl⟩
instance tz47 : TZ Tryd.prog 47 [.slice none 0 0] := ⟨by kernel_rfl⟩
instance ti49 : TI Tryd.prog 49 true 5 72 := ⟨by kernel_rfl⟩
instance tf49_0 : TF Tryd.prog 49 0 0 := ⟨by kernel_rfl⟩
instance tf49_1 : TF Tryd.prog 49 1 1 := ⟨by kernel_rfl⟩
instance tf49_2 : TF Tryd.prog 49 2 3 := ⟨by kernel_rfl⟩
instance tf49_3 : TF Tryd.prog 49 3 4 := ⟨by kernel_rfl⟩
instance tbd49 : TBd Tryd.prog 49 := ⟨by kernel_rfl⟩
instance tfs49_0 : TFS Tryd.prog 49 0 0 1 := ⟨by kernel_rfl⟩
instance tfs49_1 : TFS Tryd.prog 49 1 1 2 := ⟨by kernel_rfl⟩
instance tfs49_2 : TFS Tryd.prog 49 2 3 1 := ⟨by kernel_rfl⟩
instance tfs49_3 : TFS Tryd.prog 49 3 4 1 := ⟨by kernel_rfl⟩
instance tz49 : TZ Tryd.prog 49 [.int .i64 0, .int .i64 0, .int .i64 0, .slice none 0 0, .slice none 0 0] := ⟨by kernel_rfl⟩
instance ti50 : TI Tryd.prog 50 false 1 24 := ⟨by kernel_rfl⟩
instance te50 : TE Tryd.prog 50 52 := ⟨by kernel_rfl⟩
instance tz50 : TZ Tryd.prog 50 [.slice none 0 0] := ⟨by kernel_rfl⟩
instance ti52 : TI Tryd.prog 52 true 9 128 := ⟨by kernel_rfl⟩
instance tf52_0 : TF Tryd.prog 52 0 0 := ⟨by kernel_rfl⟩
instance tf52_1 : TF Tryd.prog 52 1 1 := ⟨by kernel_rfl⟩
instance tf52_2 : TF Tryd.prog 52 2 2 := ⟨by kernel_rfl⟩
instance tf52_3 : TF Tryd.prog 52 3 3 := ⟨by kernel_rfl⟩
instance tf52_4 : TF Tryd.prog 52 4 8 := ⟨by kernel_rfl⟩
instance tbd52 : TBd Tryd.prog 52 := ⟨by kernel_rfl⟩
instance tfs52_0 : TFS Tryd.prog 52 0 0 1 := ⟨by kernel_rfl⟩
instance tfs52_1 : TFS Tryd.prog 52 1 1 1 := ⟨by kernel_rfl⟩
instance tfs52_2 : TFS Tryd.prog 52 2 2 1 := ⟨by kernel_rfl⟩
instance tfs52_3 : TFS Tryd.prog 52 3 3 5 := ⟨by kernel_rfl⟩
instance tfs52_4 : TFS Tryd.prog 52 4 8 1 := ⟨by kernel_rfl⟩
instance tz52 : TZ Tryd.prog 52 [.int .i64 0, .int .i64 0, .string ⟨#[]⟩, .int .i64 0, .int .i64 0, .int .i64 0, .slice none 0 0, .slice none 0 0, .slice none 0 0] := ⟨by kernel_rfl⟩
instance ti55 : TI Tryd.prog 55 true 2 16 := ⟨by kernel_rfl⟩
instance tf55_0 : TF Tryd.prog 55 0 0 := ⟨by kernel_rfl⟩
instance tf55_1 : TF Tryd.prog 55 1 1 := ⟨by kernel_rfl⟩
instance tbd55 : TBd Tryd.prog 55 := ⟨by kernel_rfl⟩
instance tfs55_0 : TFS Tryd.prog 55 0 0 1 := ⟨by kernel_rfl⟩
instance tfs55_1 : TFS Tryd.prog 55 1 1 1 := ⟨by kernel_rfl⟩
instance tz55 : TZ Tryd.prog 55 [.int .i64 0, .int .i64 0] := ⟨by kernel_rfl⟩
instance ti56 : TI Tryd.prog 56 false 1 24 := ⟨by kernel_rfl⟩
instance te56 : TE Tryd.prog 56 58 := ⟨by kernel_rfl⟩
instance tz56 : TZ Tryd.prog 56 [.slice none 0 0] := ⟨by kernel_rfl⟩
instance ti58 : TI Tryd.prog 58 true 5 72 := ⟨by kernel_rfl⟩
instance tf58_0 : TF Tryd.prog 58 0 0 := ⟨by kernel_rfl⟩
instance tf58_1 : TF Tryd.prog 58 1 1 := ⟨by kernel_rfl⟩
instance tf58_2 : TF Tryd.prog 58 2 3 := ⟨by kernel_rfl⟩
instance tf58_3 : TF Tryd.prog 58 3 4 := ⟨by kernel_rfl⟩
instance tbd58 : TBd Tryd.prog 58 := ⟨by kernel_rfl⟩
instance tfs58_0 : TFS Tryd.prog 58 0 0 1 := ⟨by kernel_rfl⟩
instance tfs58_1 : TFS Tryd.prog 58 1 1 2 := ⟨by kernel_rfl⟩
instance tfs58_2 : TFS Tryd.prog 58 2 3 1 := ⟨by kernel_rfl⟩
instance tfs58_3 : TFS Tryd.prog 58 3 4 1 := ⟨by kernel_rfl⟩
instance tz58 : TZ Tryd.prog 58 [.int .i64 0, .int .i64 0, .int .i64 0, .slice none 0 0, .slice none 0 0] := ⟨by kernel_rfl⟩
instance ti59 : TI Tryd.prog 59 false 1 24 := ⟨by kernel_rfl⟩
instance te59 : TE Tryd.prog 59 61 := ⟨by kernel_rfl⟩
instance tz59 : TZ Tryd.prog 59 [.slice none 0 0] := ⟨by kernel_rfl⟩
instance ti61 : TI Tryd.prog 61 true 9 128 := ⟨by kernel_rfl⟩
instance tf61_0 : TF Tryd.prog 61 0 0 := ⟨by kernel_rfl⟩
instance tf61_1 : TF Tryd.prog 61 1 1 := ⟨by kernel_rfl⟩
instance tf61_2 : TF Tryd.prog 61 2 2 := ⟨by kernel_rfl⟩
instance tf61_3 : TF Tryd.prog 61 3 3 := ⟨by kernel_rfl⟩
instance tf61_4 : TF Tryd.prog 61 4 8 := ⟨by kernel_rfl⟩
instance tbd61 : TBd Tryd.prog 61 := ⟨by kernel_rfl⟩
instance tfs61_0 : TFS Tryd.prog 61 0 0 1 := ⟨by kernel_rfl⟩
instance tfs61_1 : TFS Tryd.prog 61 1 1 1 := ⟨by kernel_rfl⟩
instance tfs61_2 : TFS Tryd.prog 61 2 2 1 := ⟨by kernel_rfl⟩
instance tfs61_3 : TFS Tryd.prog 61 3 3 5 := ⟨by kernel_rfl⟩
instance tfs61_4 : TFS Tryd.prog 61 4 8 1 := ⟨by kernel_rfl⟩
instance tz61 : TZ Tryd.prog 61 [.int .i64 0, .int .i64 0, .string ⟨#[]⟩, .int .i64 0, .int .i64 0, .int .i64 0, .slice none 0 0, .slice none 0 0, .slice none 0 0] := ⟨by kernel_rfl⟩
instance ti65 : TI Tryd.prog 65 false 1 24 := ⟨by kernel_rfl⟩
instance te65 : TE Tryd.prog 65 5 := ⟨by kernel_rfl⟩
instance tz65 : TZ Tryd.prog 65 [.slice none 0 0] := ⟨by kernel_rfl⟩
instance ti93 : TI Tryd.prog 93 false 1 24 := ⟨by kernel_rfl⟩
instance te93 : TE Tryd.prog 93 9 := ⟨by kernel_rfl⟩
instance tz93 : TZ Tryd.prog 93 [.slice none 0 0] := ⟨by kernel_rfl⟩
instance ti97 : TI Tryd.prog 97 false 1 8 := ⟨by kernel_rfl⟩
instance tz97 : TZ Tryd.prog 97 [.pointer none] := ⟨by kernel_rfl⟩
instance ti104 : TI Tryd.prog 104 false 1 24 := ⟨by kernel_rfl⟩
instance te104 : TE Tryd.prog 104 106 := ⟨by kernel_rfl⟩
instance tz104 : TZ Tryd.prog 104 [.slice none 0 0] := ⟨by kernel_rfl⟩
instance ti106 : TI Tryd.prog 106 true 3 48 := ⟨by kernel_rfl⟩
instance tf106_0 : TF Tryd.prog 106 0 0 := ⟨by kernel_rfl⟩
instance tf106_1 : TF Tryd.prog 106 1 1 := ⟨by kernel_rfl⟩
instance tf106_2 : TF Tryd.prog 106 2 2 := ⟨by kernel_rfl⟩
instance tbd106 : TBd Tryd.prog 106 := ⟨by kernel_rfl⟩
instance tfs106_0 : TFS Tryd.prog 106 0 0 1 := ⟨by kernel_rfl⟩
instance tfs106_1 : TFS Tryd.prog 106 1 1 1 := ⟨by kernel_rfl⟩
instance tfs106_2 : TFS Tryd.prog 106 2 2 1 := ⟨by kernel_rfl⟩
instance tz106 : TZ Tryd.prog 106 [.int .i64 0, .string ⟨#[]⟩, .slice none 0 0] := ⟨by kernel_rfl⟩
instance ti108 : TI Tryd.prog 108 true 4 64 := ⟨by kernel_rfl⟩
instance tf108_0 : TF Tryd.prog 108 0 0 := ⟨by kernel_rfl⟩
instance tf108_1 : TF Tryd.prog 108 1 1 := ⟨by kernel_rfl⟩
instance tbd108 : TBd Tryd.prog 108 := ⟨by kernel_rfl⟩
instance tfs108_0 : TFS Tryd.prog 108 0 0 1 := ⟨by kernel_rfl⟩
instance tfs108_1 : TFS Tryd.prog 108 1 1 3 := ⟨by kernel_rfl⟩
instance tz108 : TZ Tryd.prog 108 [.string ⟨#[]⟩, .int .i64 0, .string ⟨#[]⟩, .slice none 0 0] := ⟨by kernel_rfl⟩
instance ti111 : TI Tryd.prog 111 true 7 104 := ⟨by kernel_rfl⟩
instance tf111_0 : TF Tryd.prog 111 0 0 := ⟨by kernel_rfl⟩
instance tf111_1 : TF Tryd.prog 111 1 3 := ⟨by kernel_rfl⟩
instance tf111_2 : TF Tryd.prog 111 2 6 := ⟨by kernel_rfl⟩
instance tbd111 : TBd Tryd.prog 111 := ⟨by kernel_rfl⟩
instance tfs111_0 : TFS Tryd.prog 111 0 0 3 := ⟨by kernel_rfl⟩
instance tfs111_1 : TFS Tryd.prog 111 1 3 3 := ⟨by kernel_rfl⟩
instance tfs111_2 : TFS Tryd.prog 111 2 6 1 := ⟨by kernel_rfl⟩
instance tz111 : TZ Tryd.prog 111 [.int .i64 0, .string ⟨#[]⟩, .slice none 0 0, .int .i64 0, .string ⟨#[]⟩, .slice none 0 0, .int .i64 0] := ⟨by kernel_rfl⟩
instance ti114 : TI Tryd.prog 114 true 4 64 := ⟨by kernel_rfl⟩
instance tf114_0 : TF Tryd.prog 114 0 0 := ⟨by kernel_rfl⟩
instance tf114_1 : TF Tryd.prog 114 1 1 := ⟨by kernel_rfl⟩
instance tbd114 : TBd Tryd.prog 114 := ⟨by kernel_rfl⟩
instance tfs114_0 : TFS Tryd.prog 114 0 0 1 := ⟨by kernel_rfl⟩
instance tfs114_1 : TFS Tryd.prog 114 1 1 3 := ⟨by kernel_rfl⟩
instance tz114 : TZ Tryd.prog 114 [.string ⟨#[]⟩, .int .i64 0, .string ⟨#[]⟩, .slice none 0 0] := ⟨by kernel_rfl⟩
instance ti116 : TI Tryd.prog 116 true 5 72 := ⟨by kernel_rfl⟩
instance tf116_0 : TF Tryd.prog 116 0 0 := ⟨by kernel_rfl⟩
instance tf116_1 : TF Tryd.prog 116 1 4 := ⟨by kernel_rfl⟩
instance tbd116 : TBd Tryd.prog 116 := ⟨by kernel_rfl⟩
instance tfs116_0 : TFS Tryd.prog 116 0 0 4 := ⟨by kernel_rfl⟩
instance tfs116_1 : TFS Tryd.prog 116 1 4 1 := ⟨by kernel_rfl⟩
instance tz116 : TZ Tryd.prog 116 [.string ⟨#[]⟩, .int .i64 0, .string ⟨#[]⟩, .slice none 0 0, .int .i64 0] := ⟨by kernel_rfl⟩
instance ti118 : TI Tryd.prog 118 true 4 64 := ⟨by kernel_rfl⟩
instance tf118_0 : TF Tryd.prog 118 0 0 := ⟨by kernel_rfl⟩
instance tf118_1 : TF Tryd.prog 118 1 1 := ⟨by kernel_rfl⟩
instance tbd118 : TBd Tryd.prog 118 := ⟨by kernel_rfl⟩
instance tfs118_0 : TFS Tryd.prog 118 0 0 1 := ⟨by kernel_rfl⟩
instance tfs118_1 : TFS Tryd.prog 118 1 1 3 := ⟨by kernel_rfl⟩
instance tz118 : TZ Tryd.prog 118 [.string ⟨#[]⟩, .int .i64 0, .string ⟨#[]⟩, .slice none 0 0] := ⟨by kernel_rfl⟩
instance ti121 : TI Tryd.prog 121 true 7 104 := ⟨by kernel_rfl⟩
instance tf121_0 : TF Tryd.prog 121 0 0 := ⟨by kernel_rfl⟩
instance tf121_1 : TF Tryd.prog 121 1 3 := ⟨by kernel_rfl⟩
instance tf121_2 : TF Tryd.prog 121 2 6 := ⟨by kernel_rfl⟩
instance tbd121 : TBd Tryd.prog 121 := ⟨by kernel_rfl⟩
instance tfs121_0 : TFS Tryd.prog 121 0 0 3 := ⟨by kernel_rfl⟩
instance tfs121_1 : TFS Tryd.prog 121 1 3 3 := ⟨by kernel_rfl⟩
instance tfs121_2 : TFS Tryd.prog 121 2 6 1 := ⟨by kernel_rfl⟩
instance tz121 : TZ Tryd.prog 121 [.int .i64 0, .string ⟨#[]⟩, .slice none 0 0, .int .i64 0, .string ⟨#[]⟩, .slice none 0 0, .int .i64 0] := ⟨by kernel_rfl⟩
instance ti123 : TI Tryd.prog 123 true 4 64 := ⟨by kernel_rfl⟩
instance tf123_0 : TF Tryd.prog 123 0 0 := ⟨by kernel_rfl⟩
instance tf123_1 : TF Tryd.prog 123 1 1 := ⟨by kernel_rfl⟩
instance tbd123 : TBd Tryd.prog 123 := ⟨by kernel_rfl⟩
instance tfs123_0 : TFS Tryd.prog 123 0 0 1 := ⟨by kernel_rfl⟩
instance tfs123_1 : TFS Tryd.prog 123 1 1 3 := ⟨by kernel_rfl⟩
instance tz123 : TZ Tryd.prog 123 [.string ⟨#[]⟩, .int .i64 0, .string ⟨#[]⟩, .slice none 0 0] := ⟨by kernel_rfl⟩
instance ti125 : TI Tryd.prog 125 true 5 72 := ⟨by kernel_rfl⟩
instance tf125_0 : TF Tryd.prog 125 0 0 := ⟨by kernel_rfl⟩
instance tf125_1 : TF Tryd.prog 125 1 4 := ⟨by kernel_rfl⟩
instance tbd125 : TBd Tryd.prog 125 := ⟨by kernel_rfl⟩
instance tfs125_0 : TFS Tryd.prog 125 0 0 4 := ⟨by kernel_rfl⟩
instance tfs125_1 : TFS Tryd.prog 125 1 4 1 := ⟨by kernel_rfl⟩
instance tz125 : TZ Tryd.prog 125 [.string ⟨#[]⟩, .int .i64 0, .string ⟨#[]⟩, .slice none 0 0, .int .i64 0] := ⟨by kernel_rfl⟩
instance ti130 : TI Tryd.prog 130 false 1 8 := ⟨by kernel_rfl⟩
instance tz130 : TZ Tryd.prog 130 [.pointer none] := ⟨by kernel_rfl⟩
instance ti143 : TI Tryd.prog 143 true 3 40 := ⟨by kernel_rfl⟩
instance tf143_0 : TF Tryd.prog 143 0 0 := ⟨by kernel_rfl⟩
instance tf143_1 : TF Tryd.prog 143 1 1 := ⟨by kernel_rfl⟩
instance tf143_2 : TF Tryd.prog 143 2 2 := ⟨by kernel_rfl⟩
instance tbd143 : TBd Tryd.prog 143 := ⟨by kernel_rfl⟩
instance tfs143_0 : TFS Tryd.prog 143 0 0 1 := ⟨by kernel_rfl⟩
instance tfs143_1 : TFS Tryd.prog 143 1 1 1 := ⟨by kernel_rfl⟩
instance tfs143_2 : TFS Tryd.prog 143 2 2 1 := ⟨by kernel_rfl⟩
instance tz143 : TZ Tryd.prog 143 [.slice none 0 0, .int .i64 0, .int .i64 0] := ⟨by kernel_rfl⟩
instance ti180 : TI Tryd.prog 180 false 1 4 := ⟨by kernel_rfl⟩
instance tu180 : TU Tryd.prog 180 .u32 := ⟨by kernel_rfl⟩
instance tz180 : TZ Tryd.prog 180 [.int .u32 0] := ⟨by kernel_rfl⟩
instance tp55 : TP Tryd.prog 55 := by
  refine ⟨?_⟩
  intro w a b c d
  refine ⟨by kernel_rfl, ?_⟩
  have hund : Tryd.prog.underlying 55 = some (.struct (Tryd.prog.fieldsOf 55)) := by kernel_rfl
  have hh : Tryd.prog.stoodInHeld 55 = false := by kernel_rfl
  have hf : (Tryd.prog.fieldsOf 55).toList = [{ name := "Package", type := 3, offset := 0, embedded := false, tag := "", pkgPath := "", byteOffset := 0 }, { name := "At", type := 3, offset := 1, embedded := false, tag := "", pkgPath := "", byteOffset := 8 }] := by kernel_rfl
  have hi : Tryd.prog.underlying 3 = some (.int .i64) := by kernel_rfl
  have hg : tyI Tryd.prog 3 = some (false, 1, 8) := by kernel_rfl
  have hint : ∀ (d : Nat) (w : World) (a c : Int), (Op.equalIn (d + 1) 3 (.int .i64 a) (.int .i64 c)).run Tryd.prog w = .ok (a == c) w := by
    intro d w a c
    simp [Op.equalIn, run_underlying hi]
  unfold Op.equal Op.maxDepth
  rw [run_equalIn_struct w 9999 55 _ _ hund hh, hf]
  have h9 := hint 9998
  rw [show 9998 + 1 = 9999 from rfl] at h9
  by_cases h1 : a = c <;> by_cases h2 : b = d <;> simp [Op.eqFields, part, run_isAgg hg, h9, h1, h2]
def tmS : TypeId → Option Sh
  | 3 => some (.int)
  | 4 => some (.bool)
  | 9 => some (.str)
  | 22 => some (.sl (.st 2))
  | 23 => some (.sl (.st 22))
  | 24 => some (.sl (.st 23))
  | 26 => some (.st 24)
  | 28 => some (.sl (.st 2))
  | 29 => some (.sl (.st 22))
  | 30 => some (.sl (.st 23))
  | 32 => some (.st 24)
  | 33 => some (.sl (.st 1))
  | 35 => some (.st 1)
  | 45 => some (.st 16)
  | 46 => some (.sl (.int))
  | 47 => some (.sl (.st 26))
  | 49 => some (.st 26)
  | 50 => some (.sl (.st 27))
  | 52 => some (.st 27)
  | 55 => some (.st 16)
  | 56 => some (.sl (.st 26))
  | 58 => some (.st 26)
  | 59 => some (.sl (.st 27))
  | 61 => some (.st 27)
  | 93 => some (.sl (.str))
  | 104 => some (.sl (.st 1))
  | 106 => some (.st 1)
  | 108 => some (.st 2)
  | 111 => some (.st 22)
  | 114 => some (.st 9)
  | 116 => some (.st 23)
  | 118 => some (.st 2)
  | 121 => some (.st 22)
  | 123 => some (.st 9)
  | 125 => some (.st 23)
  | _ => none
theorem tmk3 : tmOk Tryd.prog tmS 3 (.int) := Tryd.underlying3
theorem tmk4 : tmOk Tryd.prog tmS 4 (.bool) := Tryd.underlying4
theorem tmk9 : tmOk Tryd.prog tmS 9 (.str) := Tryd.underlying9
theorem tmk22 : tmOk Tryd.prog tmS 22 (.sl (.st 2)) := ⟨108, Tryd.underlying22, rfl, by kernel_rfl, by decide, by decide +kernel⟩
theorem tmk23 : tmOk Tryd.prog tmS 23 (.sl (.st 22)) := ⟨111, Tryd.underlying23, rfl, by kernel_rfl, by decide, by decide +kernel⟩
theorem tmk24 : tmOk Tryd.prog tmS 24 (.sl (.st 23)) := ⟨116, Tryd.underlying24, rfl, by kernel_rfl, by decide, by decide +kernel⟩
theorem tmk26 : tmOk Tryd.prog tmS 26 (.st 24) := ⟨_, Tryd.underlying26, by kernel_rfl, And.intro rfl (And.intro rfl (And.intro (by kernel_rfl) (And.intro rfl (And.intro rfl (And.intro (by kernel_rfl) (And.intro rfl (And.intro rfl (And.intro (by kernel_rfl) (And.intro rfl (And.intro rfl (And.intro (by kernel_rfl) (And.intro rfl (And.intro rfl (And.intro (by kernel_rfl) (And.intro rfl (And.intro rfl (And.intro (by kernel_rfl) (And.intro rfl (And.intro rfl (And.intro (by kernel_rfl) (And.intro rfl (And.intro rfl (And.intro (by kernel_rfl) (trivial))))))))))))))))))))))))⟩
theorem tmk28 : tmOk Tryd.prog tmS 28 (.sl (.st 2)) := ⟨118, Tryd.underlying28, rfl, by kernel_rfl, by decide, by decide +kernel⟩
theorem tmk29 : tmOk Tryd.prog tmS 29 (.sl (.st 22)) := ⟨121, Tryd.underlying29, rfl, by kernel_rfl, by decide, by decide +kernel⟩
theorem tmk30 : tmOk Tryd.prog tmS 30 (.sl (.st 23)) := ⟨125, Tryd.underlying30, rfl, by kernel_rfl, by decide, by decide +kernel⟩
theorem tmk32 : tmOk Tryd.prog tmS 32 (.st 24) := ⟨_, Tryd.underlying32, by kernel_rfl, And.intro rfl (And.intro rfl (And.intro (by kernel_rfl) (And.intro rfl (And.intro rfl (And.intro (by kernel_rfl) (And.intro rfl (And.intro rfl (And.intro (by kernel_rfl) (And.intro rfl (And.intro rfl (And.intro (by kernel_rfl) (And.intro rfl (And.intro rfl (And.intro (by kernel_rfl) (And.intro rfl (And.intro rfl (And.intro (by kernel_rfl) (And.intro rfl (And.intro rfl (And.intro (by kernel_rfl) (And.intro rfl (And.intro rfl (And.intro (by kernel_rfl) (trivial))))))))))))))))))))))))⟩
theorem tmk33 : tmOk Tryd.prog tmS 33 (.sl (.st 1)) := ⟨35, Tryd.underlying33, rfl, by kernel_rfl, by decide, by decide +kernel⟩
theorem tmk35 : tmOk Tryd.prog tmS 35 (.st 1) := ⟨_, Tryd.underlying35, by kernel_rfl, And.intro rfl (And.intro rfl (And.intro (by kernel_rfl) (And.intro rfl (And.intro rfl (And.intro (by kernel_rfl) (And.intro rfl (And.intro rfl (And.intro (by kernel_rfl) (trivial)))))))))⟩
theorem tmk45 : tmOk Tryd.prog tmS 45 (.st 16) := ⟨_, Tryd.underlying45, by kernel_rfl, And.intro rfl (And.intro rfl (And.intro (by kernel_rfl) (And.intro rfl (And.intro rfl (And.intro (by kernel_rfl) (trivial))))))⟩
theorem tmk46 : tmOk Tryd.prog tmS 46 (.sl (.int)) := ⟨3, Tryd.underlying46, rfl, by kernel_rfl, by decide, by decide +kernel⟩
theorem tmk47 : tmOk Tryd.prog tmS 47 (.sl (.st 26)) := ⟨49, Tryd.underlying47, rfl, by kernel_rfl, by decide, by decide +kernel⟩
theorem tmk49 : tmOk Tryd.prog tmS 49 (.st 26) := ⟨_, Tryd.underlying49, by kernel_rfl, And.intro rfl (And.intro rfl (And.intro (by kernel_rfl) (And.intro rfl (And.intro rfl (And.intro (by kernel_rfl) (And.intro rfl (And.intro rfl (And.intro (by kernel_rfl) (And.intro rfl (And.intro rfl (And.intro (by kernel_rfl) (trivial))))))))))))⟩
theorem tmk50 : tmOk Tryd.prog tmS 50 (.sl (.st 27)) := ⟨52, Tryd.underlying50, rfl, by kernel_rfl, by decide, by decide +kernel⟩
theorem tmk52 : tmOk Tryd.prog tmS 52 (.st 27) := ⟨_, Tryd.underlying52, by kernel_rfl, And.intro rfl (And.intro rfl (And.intro (by kernel_rfl) (And.intro rfl (And.intro rfl (And.intro (by kernel_rfl) (And.intro rfl (And.intro rfl (And.intro (by kernel_rfl) (And.intro rfl (And.intro rfl (And.intro (by kernel_rfl) (And.intro rfl (And.intro rfl (And.intro (by kernel_rfl) (trivial)))))))))))))))⟩
theorem tmk55 : tmOk Tryd.prog tmS 55 (.st 16) := ⟨_, Tryd.underlying55, by kernel_rfl, And.intro rfl (And.intro rfl (And.intro (by kernel_rfl) (And.intro rfl (And.intro rfl (And.intro (by kernel_rfl) (trivial))))))⟩
theorem tmk56 : tmOk Tryd.prog tmS 56 (.sl (.st 26)) := ⟨58, Tryd.underlying56, rfl, by kernel_rfl, by decide, by decide +kernel⟩
theorem tmk58 : tmOk Tryd.prog tmS 58 (.st 26) := ⟨_, Tryd.underlying58, by kernel_rfl, And.intro rfl (And.intro rfl (And.intro (by kernel_rfl) (And.intro rfl (And.intro rfl (And.intro (by kernel_rfl) (And.intro rfl (And.intro rfl (And.intro (by kernel_rfl) (And.intro rfl (And.intro rfl (And.intro (by kernel_rfl) (trivial))))))))))))⟩
theorem tmk59 : tmOk Tryd.prog tmS 59 (.sl (.st 27)) := ⟨61, Tryd.underlying59, rfl, by kernel_rfl, by decide, by decide +kernel⟩
theorem tmk61 : tmOk Tryd.prog tmS 61 (.st 27) := ⟨_, Tryd.underlying61, by kernel_rfl, And.intro rfl (And.intro rfl (And.intro (by kernel_rfl) (And.intro rfl (And.intro rfl (And.intro (by kernel_rfl) (And.intro rfl (And.intro rfl (And.intro (by kernel_rfl) (And.intro rfl (And.intro rfl (And.intro (by kernel_rfl) (And.intro rfl (And.intro rfl (And.intro (by kernel_rfl) (trivial)))))))))))))))⟩
theorem tmk93 : tmOk Tryd.prog tmS 93 (.sl (.str)) := ⟨9, Tryd.underlying93, rfl, by kernel_rfl, by decide, by decide +kernel⟩
theorem tmk104 : tmOk Tryd.prog tmS 104 (.sl (.st 1)) := ⟨106, Tryd.underlying104, rfl, by kernel_rfl, by decide, by decide +kernel⟩
theorem tmk106 : tmOk Tryd.prog tmS 106 (.st 1) := ⟨_, Tryd.underlying106, by kernel_rfl, And.intro rfl (And.intro rfl (And.intro (by kernel_rfl) (And.intro rfl (And.intro rfl (And.intro (by kernel_rfl) (And.intro rfl (And.intro rfl (And.intro (by kernel_rfl) (trivial)))))))))⟩
theorem tmk108 : tmOk Tryd.prog tmS 108 (.st 2) := ⟨_, Tryd.underlying108, by kernel_rfl, And.intro rfl (And.intro rfl (And.intro (by kernel_rfl) (And.intro rfl (And.intro rfl (And.intro (by kernel_rfl) (trivial))))))⟩
theorem tmk111 : tmOk Tryd.prog tmS 111 (.st 22) := ⟨_, Tryd.underlying111, by kernel_rfl, And.intro rfl (And.intro rfl (And.intro (by kernel_rfl) (And.intro rfl (And.intro rfl (And.intro (by kernel_rfl) (And.intro rfl (And.intro rfl (And.intro (by kernel_rfl) (trivial)))))))))⟩
theorem tmk114 : tmOk Tryd.prog tmS 114 (.st 9) := ⟨_, Tryd.underlying114, by kernel_rfl, And.intro rfl (And.intro rfl (And.intro (by kernel_rfl) (And.intro rfl (And.intro rfl (And.intro (by kernel_rfl) (trivial))))))⟩
theorem tmk116 : tmOk Tryd.prog tmS 116 (.st 23) := ⟨_, Tryd.underlying116, by kernel_rfl, And.intro rfl (And.intro rfl (And.intro (by kernel_rfl) (And.intro rfl (And.intro rfl (And.intro (by kernel_rfl) (trivial))))))⟩
theorem tmk118 : tmOk Tryd.prog tmS 118 (.st 2) := ⟨_, Tryd.underlying118, by kernel_rfl, And.intro rfl (And.intro rfl (And.intro (by kernel_rfl) (And.intro rfl (And.intro rfl (And.intro (by kernel_rfl) (trivial))))))⟩
theorem tmk121 : tmOk Tryd.prog tmS 121 (.st 22) := ⟨_, Tryd.underlying121, by kernel_rfl, And.intro rfl (And.intro rfl (And.intro (by kernel_rfl) (And.intro rfl (And.intro rfl (And.intro (by kernel_rfl) (And.intro rfl (And.intro rfl (And.intro (by kernel_rfl) (trivial)))))))))⟩
theorem tmk123 : tmOk Tryd.prog tmS 123 (.st 9) := ⟨_, Tryd.underlying123, by kernel_rfl, And.intro rfl (And.intro rfl (And.intro (by kernel_rfl) (And.intro rfl (And.intro rfl (And.intro (by kernel_rfl) (trivial))))))⟩
theorem tmk125 : tmOk Tryd.prog tmS 125 (.st 23) := ⟨_, Tryd.underlying125, by kernel_rfl, And.intro rfl (And.intro rfl (And.intro (by kernel_rfl) (And.intro rfl (And.intro rfl (And.intro (by kernel_rfl) (trivial))))))⟩
theorem tm_ok : ∀ (T : TypeId) (s : Sh), tmS T = some s → tmOk Tryd.prog tmS T s := by
  intro T s h
  unfold tmS at h
  split at h
  · cases h; exact tmk3
  · cases h; exact tmk4
  · cases h; exact tmk9
  · cases h; exact tmk22
  · cases h; exact tmk23
  · cases h; exact tmk24
  · cases h; exact tmk26
  · cases h; exact tmk28
  · cases h; exact tmk29
  · cases h; exact tmk30
  · cases h; exact tmk32
  · cases h; exact tmk33
  · cases h; exact tmk35
  · cases h; exact tmk45
  · cases h; exact tmk46
  · cases h; exact tmk47
  · cases h; exact tmk49
  · cases h; exact tmk50
  · cases h; exact tmk52
  · cases h; exact tmk55
  · cases h; exact tmk56
  · cases h; exact tmk58
  · cases h; exact tmk59
  · cases h; exact tmk61
  · cases h; exact tmk93
  · cases h; exact tmk104
  · cases h; exact tmk106
  · cases h; exact tmk108
  · cases h; exact tmk111
  · cases h; exact tmk114
  · cases h; exact tmk116
  · cases h; exact tmk118
  · cases h; exact tmk121
  · cases h; exact tmk123
  · cases h; exact tmk125
  · cases h
theorem tmix : Tryd.prog.follows .mixedOrders = true := by kernel_rfl
instance : Mix Tryd.prog := ⟨tmix⟩
end Go.Proofs.YthojhakapbfbiaaDoor
