/- What the program says of its types. Written by a program of mine. -/
import Derived.Test.YtjckkahiapjkfaaProg
import Derived.Test.YtjckkahiapjkfaaEng27
namespace Go.Proofs.Ytjckkahiapjkfaa
open Go Go.Eng
instance ti3 : TI Try.prog 3 false 1 8 := ⟨by kernel_rfl⟩
instance tu3 : TU Try.prog 3 .i64 := ⟨by kernel_rfl⟩
instance tz3 : TZ Try.prog 3 [.int .i64 0] := ⟨by kernel_rfl⟩
instance ti4 : TI Try.prog 4 false 1 1 := ⟨by kernel_rfl⟩
instance tb4 : TB Try.prog 4 := ⟨by kernel_rfl⟩
instance tz4 : TZ Try.prog 4 [.bool false] := ⟨by kernel_rfl⟩
instance ti5 : TI Try.prog 5 false 1 1 := ⟨by kernel_rfl⟩
instance tu5 : TU Try.prog 5 .u8 := ⟨by kernel_rfl⟩
instance tz5 : TZ Try.prog 5 [.int .u8 0] := ⟨by kernel_rfl⟩
instance ti9 : TI Try.prog 9 false 1 16 := ⟨by kernel_rfl⟩
instance tss9 : TS Try.prog 9 := ⟨by kernel_rfl⟩
instance tz9 : TZ Try.prog 9 [.string ⟨#[]⟩] := ⟨by kernel_rfl⟩
instance ti21 : TI Try.prog 21 false 1 4 := ⟨by kernel_rfl⟩
instance tu21 : TU Try.prog 21 .i32 := ⟨by kernel_rfl⟩
instance tz21 : TZ Try.prog 21 [.int .i32 0] := ⟨by kernel_rfl⟩
instance ti22 : TI Try.prog 22 false 1 24 := ⟨by kernel_rfl⟩
instance te22 : TE Try.prog 22 86 := ⟨by kernel_rfl⟩
instance tz22 : TZ Try.prog 22 [.slice none 0 0] := ⟨by kernel_rfl⟩
instance ti24 : TI Try.prog 24 false 1 24 := ⟨by kernel_rfl⟩
instance te24 : TE Try.prog 24 26 := ⟨by kernel_rfl⟩
instance tz24 : TZ Try.prog 24 [.slice none 0 0] := ⟨by kernel_rfl⟩
instance ti26 : TI Try.prog 26 true 3 48 := ⟨by kernel_rfl⟩
instance tf26_0 : TF Try.prog 26 0 0 := ⟨by kernel_rfl⟩
instance tf26_1 : TF Try.prog 26 1 1 := ⟨by kernel_rfl⟩
instance tf26_2 : TF Try.prog 26 2 2 := ⟨by kernel_rfl⟩
instance tbd26 : TBd Try.prog 26 := ⟨by kernel_rfl⟩
instance tfs26_0 : TFS Try.prog 26 0 0 1 := ⟨by kernel_rfl⟩
instance tfs26_1 : TFS Try.prog 26 1 1 1 := ⟨by kernel_rfl⟩
instance tfs26_2 : TFS Try.prog 26 2 2 1 := ⟨by kernel_rfl⟩
instance tz26 : TZ Try.prog 26 [.int .i64 0, .string ⟨#[]⟩, .slice none 0 0] := ⟨by kernel_rfl⟩
instance ti29 : TI Try.prog 29 false 1 24 := ⟨by kernel_rfl⟩
instance te29 : TE Try.prog 29 88 := ⟨by kernel_rfl⟩
instance tz29 : TZ Try.prog 29 [.slice none 0 0] := ⟨by kernel_rfl⟩
instance ti37 : TI Try.prog 37 true 2 16 := ⟨by kernel_rfl⟩
instance tf37_0 : TF Try.prog 37 0 0 := ⟨by kernel_rfl⟩
instance tf37_1 : TF Try.prog 37 1 1 := ⟨by kernel_rfl⟩
instance tbd37 : TBd Try.prog 37 := ⟨by kernel_rfl⟩
instance tfs37_0 : TFS Try.prog 37 0 0 1 := ⟨by kernel_rfl⟩
instance tfs37_1 : TFS Try.prog 37 1 1 1 := ⟨by kernel_rfl⟩
instance tz37 : TZ Try.prog 37 [.int .i64 0, .int .i64 0] := ⟨by kernel_rfl⟩
instance ti38 : TI Try.prog 38 false 1 24 := ⟨by kernel_rfl⟩
instance te38 : TE Try.prog 38 3 := ⟨by kernel_rfl⟩
instance tz38 : TZ Try.prog 38 [.slice none 0 0] := ⟨by kernel_rfl⟩
instance ti39 : TI Try.prog 39 false 1 24 := ⟨by kernel_rfl⟩
instance te39 : TE Try.prog 39 41 := ⟨by kernel_rfl⟩
instance tz39 : TZ Try.prog 39 [.slice none 0 0] := ⟨by kernel_rfl⟩
instance ti41 : TI Try.prog 41 true 5 72 := ⟨by kernel_rfl⟩
instance tf41_0 : TF Try.prog 41 0 0 := ⟨by kernel_rfl⟩
instance tf41_1 : TF Try.prog 41 1 1 := ⟨by kernel_rfl⟩
instance tf41_2 : TF Try.prog 41 2 3 := ⟨by kernel_rfl⟩
instance tf41_3 : TF Try.prog 41 3 4 := ⟨by kernel_rfl⟩
instance tbd41 : TBd Try.prog 41 := ⟨by kernel_rfl⟩
instance tfs41_0 : TFS Try.prog 41 0 0 1 := ⟨by kernel_rfl⟩
instance tfs41_1 : TFS Try.prog 41 1 1 2 := ⟨by kernel_rfl⟩
instance tfs41_2 : TFS Try.prog 41 2 3 1 := ⟨by kernel_rfl⟩
instance tfs41_3 : TFS Try.prog 41 3 4 1 := ⟨by kernel_rfl⟩
instance tz41 : TZ Try.prog 41 [.int .i64 0, .int .i64 0, .int .i64 0, .slice none 0 0, .slice none 0 0] := ⟨by kernel_rfl⟩
instance ti42 : TI Try.prog 42 false 1 24 := ⟨by kernel_rfl⟩
instance te42 : TE Try.prog 42 44 := ⟨by kernel_rfl⟩
instance tz42 : TZ Try.prog 42 [.slice none 0 0] := ⟨by kernel_rfl⟩
instance ti44 : TI Try.prog 44 true 9 128 := ⟨by kernel_rfl⟩
instance tf44_0 : TF Try.prog 44 0 0 := ⟨by kernel_rfl⟩
instance tf44_1 : TF Try.prog 44 1 1 := ⟨by kernel_rfl⟩
instance tf44_2 : TF Try.prog 44 2 2 := ⟨by kernel_rfl⟩
instance tf44_3 : TF Try.prog 44 3 3 := ⟨by kernel_rfl⟩
instance tf44_4 : TF Try.prog 44 4 8 := ⟨by kernel_rfl⟩
instance tbd44 : TBd Try.prog 44 := ⟨by kernel_rfl⟩
instance tfs44_0 : TFS Try.prog 44 0 0 1 := ⟨by kernel_rfl⟩
instance tfs44_1 : TFS Try.prog 44 1 1 1 := ⟨by kernel_rfl⟩
instance tfs44_2 : TFS Try.prog 44 2 2 1 := ⟨by kernel_rfl⟩
instance tfs44_3 : TFS Try.prog 44 3 3 5 := ⟨by kernel_rfl⟩
instance tfs44_4 : TFS Try.prog 44 4 8 1 := ⟨by kernel_rfl⟩
instance tz44 : TZ Try.prog 44 [.int .i64 0, .int .i64 0, .string ⟨#[]⟩, .int .i64 0, .int .i64 0, .int .i64 0, .slice none 0 0, .slice none 0 0, .slice none 0 0] := ⟨by kernel_rfl⟩
instance ti46 : TI Try.prog 46 true 2 16 := ⟨by kernel_rfl⟩
instance tf46_0 : TF Try.prog 46 0 0 := ⟨by kernel_rfl⟩
instance tf46_1 : TF Try.prog 46 1 1 := ⟨by kernel_rfl⟩
instance tbd46 : TBd Try.prog 46 := ⟨by kernel_rfl⟩
instance tfs46_0 : TFS Try.prog 46 0 0 1 := ⟨by kernel_rfl⟩
instance tfs46_1 : TFS Try.prog 46 1 1 1 := ⟨by kernel_rfl⟩
instance tz46 : TZ Try.prog 46 [.int .i64 0, .int .i64 0] := ⟨by kernel_rfl⟩
instance ti47 : TI Try.prog 47 false 1 24 := ⟨by kernel_rfl⟩
instance te47 : TE Try.prog 47 49 := ⟨by kernel_rfl⟩
instance tz47 : TZ Try.prog 47 [.slice none 0 0] := ⟨by kernel_rfl⟩
instance ti49 : TI Try.prog 49 true 5 72 := ⟨by kernel_rfl⟩
instance tf49_0 : TF Try.prog 49 0 0 := ⟨by kernel_rfl⟩
instance tf49_1 : TF Try.prog 49 1 1 := ⟨by kernel_rfl⟩
instance tf49_2 : TF Try.prog 49 2 3 := ⟨by kernel_rfl⟩
instance tf49_3 : TF Try.prog 49 3 4 := ⟨by kernel_rfl⟩
instance tbd49 : TBd Try.prog 49 := ⟨by kernel_rfl⟩
instance tfs49_0 : TFS Try.prog 49 0 0 1 := ⟨by kernel_rfl⟩
instance tfs49_1 : TFS Try.prog 49 1 1 2 := ⟨by kernel_rfl⟩
instance tfs49_2 : TFS Try.prog 49 2 3 1 := ⟨by kernel_rfl⟩
instance tfs49_3 : TFS Try.prog 49 3 4 1 := ⟨by kernel_rfl⟩
instance tz49 : TZ Try.prog 49 [.int .i64 0, .int .i64 0, .int .i64 0, .slice none 0 0, .slice none 0 0] := ⟨by kernel_rfl⟩
instance ti50 : TI Try.prog 50 false 1 24 := ⟨by kernel_rfl⟩
instance te50 : TE Try.prog 50 52 := ⟨by kernel_rfl⟩
instance tz50 : TZ Try.prog 50 [.slice none 0 0] := ⟨by kernel_rfl⟩
instance ti52 : TI Try.prog 52 true 9 128 := ⟨by kernel_rfl⟩
instance tf52_0 : TF Try.prog 52 0 0 := ⟨by kernel_rfl⟩
instance tf52_1 : TF Try.prog 52 1 1 := ⟨by kernel_rfl⟩
instance tf52_2 : TF Try.prog 52 2 2 := ⟨by kernel_rfl⟩
instance tf52_3 : TF Try.prog 52 3 3 := ⟨by kernel_rfl⟩
instance tf52_4 : TF Try.prog 52 4 8 := ⟨by kernel_rfl⟩
instance tbd52 : TBd Try.prog 52 := ⟨by kernel_rfl⟩
instance tfs52_0 : TFS Try.prog 52 0 0 1 := ⟨by kernel_rfl⟩
instance tfs52_1 : TFS Try.prog 52 1 1 1 := ⟨by kernel_rfl⟩
instance tfs52_2 : TFS Try.prog 52 2 2 1 := ⟨by kernel_rfl⟩
instance tfs52_3 : TFS Try.prog 52 3 3 5 := ⟨by kernel_rfl⟩
instance tfs52_4 : TFS Try.prog 52 4 8 1 := ⟨by kernel_rfl⟩
instance tz52 : TZ Try.prog 52 [.int .i64 0, .int .i64 0, .string ⟨#[]⟩, .int .i64 0, .int .i64 0, .int .i64 0, .slice none 0 0, .slice none 0 0, .slice none 0 0] := ⟨by kernel_rfl⟩
instance ti59 : TI Try.prog 59 false 1 24 := ⟨by kernel_rfl⟩
instance te59 : TE Try.prog 59 61 := ⟨by kernel_rfl⟩
instance tz59 : TZ Try.prog 59 [.slice none 0 0] := ⟨by kernel_rfl⟩
instance ti61 : TI Try.prog 61 true 3 48 := ⟨by kernel_rfl⟩
instance tf61_0 : TF Try.prog 61 0 0 := ⟨by kernel_rfl⟩
instance tf61_1 : TF Try.prog 61 1 1 := ⟨by kernel_rfl⟩
instance tf61_2 : TF Try.prog 61 2 2 := ⟨by kernel_rfl⟩
instance tbd61 : TBd Try.prog 61 := ⟨by kernel_rfl⟩
instance tfs61_0 : TFS Try.prog 61 0 0 1 := ⟨by kernel_rfl⟩
instance tfs61_1 : TFS Try.prog 61 1 1 1 := ⟨by kernel_rfl⟩
instance tfs61_2 : TFS Try.prog 61 2 2 1 := ⟨by kernel_rfl⟩
instance tz61 : TZ Try.prog 61 [.int .i64 0, .string ⟨#[]⟩, .slice none 0 0] := ⟨by kernel_rfl⟩
instance ti62 : TI Try.prog 62 false 1 24 := ⟨by kernel_rfl⟩
instance te62 : TE Try.prog 62 143 := ⟨by kernel_rfl⟩
instance tz62 : TZ Try.prog 62 [.slice none 0 0] := ⟨by kernel_rfl⟩
instance ti63 : TI Try.prog 63 false 1 24 := ⟨by kernel_rfl⟩
instance te63 : TE Try.prog 63 66 := ⟨by kernel_rfl⟩
instance tz63 : TZ Try.prog 63 [.slice none 0 0] := ⟨by kernel_rfl⟩
instance ti64 : TI Try.prog 64 false 1 24 := ⟨by kernel_rfl⟩
instance te64 : TE Try.prog 64 146 := ⟨by kernel_rfl⟩
instance tz64 : TZ Try.prog 64 [.slice none 0 0] := ⟨by kernel_rfl⟩
instance ti66 : TI Try.prog 66 true 11 192 := ⟨by kernel_rfl⟩
instance tf66_0 : TF Try.prog 66 0 0 := ⟨by kernel_rfl⟩
instance tf66_1 : TF Try.prog 66 1 1 := ⟨by kernel_rfl⟩
instance tf66_2 : TF Try.prog 66 2 2 := ⟨by kernel_rfl⟩
instance tf66_3 : TF Try.prog 66 3 3 := ⟨by kernel_rfl⟩
instance tf66_4 : TF Try.prog 66 4 4 := ⟨by kernel_rfl⟩
instance tf66_5 : TF Try.prog 66 5 7 := ⟨by kernel_rfl⟩
instance tf66_6 : TF Try.prog 66 6 8 := ⟨by kernel_rfl⟩
instance tf66_7 : TF Try.prog 66 7 9 := ⟨by kernel_rfl⟩
instance tf66_8 : TF Try.prog 66 8 10 := ⟨by kernel_rfl⟩
instance tbd66 : TBd Try.prog 66 := ⟨by kernel_rfl⟩
instance tfs66_0 : TFS Try.prog 66 0 0 1 := ⟨by kernel_rfl⟩
instance tfs66_1 : TFS Try.prog 66 1 1 1 := ⟨by kernel_rfl⟩
instance tfs66_2 : TFS Try.prog 66 2 2 1 := ⟨by kernel_rfl⟩
instance tfs66_3 : TFS Try.prog 66 3 3 1 := ⟨by kernel_rfl⟩
instance tfs66_4 : TFS Try.prog 66 4 4 3 := ⟨by kernel_rfl⟩
instance tfs66_5 : TFS Try.prog 66 5 7 1 := ⟨by kernel_rfl⟩
instance tfs66_6 : TFS Try.prog 66 6 8 1 := ⟨by kernel_rfl⟩
instance tfs66_7 : TFS Try.prog 66 7 9 1 := ⟨by kernel_rfl⟩
instance tfs66_8 : TFS Try.prog 66 8 10 1 := ⟨by kernel_rfl⟩
instance tz66 : TZ Try.prog 66 [.int .i64 0, .string ⟨#[]⟩, .string ⟨#[]⟩, .int .i64 0, .int .i64 0, .string ⟨#[]⟩, .slice none 0 0, .slice none 0 0, .slice none 0 0, .slice none 0 0, .slice none 0 0] := ⟨by kernel_rfl⟩
instance ti68 : TI Try.prog 68 false 1 24 := ⟨by kernel_rfl⟩
instance te68 : TE Try.prog 68 71 := ⟨by kernel_rfl⟩
instance tz68 : TZ Try.prog 68 [.slice none 0 0] := ⟨by kernel_rfl⟩
instance ti69 : TI Try.prog 69 false 1 24 := ⟨by kernel_rfl⟩
instance te69 : TE Try.prog 69 113 := ⟨by kernel_rfl⟩
instance tz69 : TZ Try.prog 69 [.slice none 0 0] := ⟨by kernel_rfl⟩
instance ti71 : TI Try.prog 71 true 9 144 := ⟨by kernel_rfl⟩
instance tf71_0 : TF Try.prog 71 0 0 := ⟨by kernel_rfl⟩
instance tf71_1 : TF Try.prog 71 1 1 := ⟨by kernel_rfl⟩
instance tf71_2 : TF Try.prog 71 2 2 := ⟨by kernel_rfl⟩
instance tf71_3 : TF Try.prog 71 3 3 := ⟨by kernel_rfl⟩
instance tf71_4 : TF Try.prog 71 4 4 := ⟨by kernel_rfl⟩
instance tf71_5 : TF Try.prog 71 5 7 := ⟨by kernel_rfl⟩
instance tf71_6 : TF Try.prog 71 6 8 := ⟨by kernel_rfl⟩
instance tbd71 : TBd Try.prog 71 := ⟨by kernel_rfl⟩
instance tfs71_0 : TFS Try.prog 71 0 0 1 := ⟨by kernel_rfl⟩
instance tfs71_1 : TFS Try.prog 71 1 1 1 := ⟨by kernel_rfl⟩
instance tfs71_2 : TFS Try.prog 71 2 2 1 := ⟨by kernel_rfl⟩
instance tfs71_3 : TFS Try.prog 71 3 3 1 := ⟨by kernel_rfl⟩
instance tfs71_4 : TFS Try.prog 71 4 4 3 := ⟨by kernel_rfl⟩
instance tfs71_5 : TFS Try.prog 71 5 7 1 := ⟨by kernel_rfl⟩
instance tfs71_6 : TFS Try.prog 71 6 8 1 := ⟨by kernel_rfl⟩
instance tz71 : TZ Try.prog 71 [.int .i64 0, .string ⟨#[]⟩, .string ⟨#[]⟩, .int .i64 0, .int .i64 0, .string ⟨#[]⟩, .slice none 0 0, .slice none 0 0, .slice none 0 0] := ⟨by kernel_rfl⟩
instance ti73 : TI Try.prog 73 false 1 24 := ⟨by kernel_rfl⟩
instance te73 : TE Try.prog 73 148 := ⟨by kernel_rfl⟩
instance tz73 : TZ Try.prog 73 [.slice none 0 0] := ⟨by kernel_rfl⟩
instance ti74 : TI Try.prog 74 false 1 24 := ⟨by kernel_rfl⟩
instance te74 : TE Try.prog 74 77 := ⟨by kernel_rfl⟩
instance tz74 : TZ Try.prog 74 [.slice none 0 0] := ⟨by kernel_rfl⟩
instance ti75 : TI Try.prog 75 false 1 24 := ⟨by kernel_rfl⟩
instance te75 : TE Try.prog 75 111 := ⟨by kernel_rfl⟩
instance tz75 : TZ Try.prog 75 [.slice none 0 0] := ⟨by kernel_rfl⟩
instance ti77 : TI Try.prog 77 true 11 192 := ⟨by kernel_rfl⟩
instance tf77_0 : TF Try.prog 77 0 0 := ⟨by kernel_rfl⟩
instance tf77_1 : TF Try.prog 77 1 1 := ⟨by kernel_rfl⟩
instance tf77_2 : TF Try.prog 77 2 2 := ⟨by kernel_rfl⟩
instance tf77_3 : TF Try.prog 77 3 3 := ⟨by kernel_rfl⟩
instance tf77_4 : TF Try.prog 77 4 4 := ⟨by kernel_rfl⟩
instance tf77_5 : TF Try.prog 77 5 7 := ⟨by kernel_rfl⟩
instance tf77_6 : TF Try.prog 77 6 8 := ⟨by kernel_rfl⟩
instance tf77_7 : TF Try.prog 77 7 9 := ⟨by kernel_rfl⟩
instance tf77_8 : TF Try.prog 77 8 10 := ⟨by kernel_rfl⟩
instance tbd77 : TBd Try.prog 77 := ⟨by kernel_rfl⟩
instance tfs77_0 : TFS Try.prog 77 0 0 1 := ⟨by kernel_rfl⟩
instance tfs77_1 : TFS Try.prog 77 1 1 1 := ⟨by kernel_rfl⟩
instance tfs77_2 : TFS Try.prog 77 2 2 1 := ⟨by kernel_rfl⟩
instance tfs77_3 : TFS Try.prog 77 3 3 1 := ⟨by kernel_rfl⟩
instance tfs77_4 : TFS Try.prog 77 4 4 3 := ⟨by kernel_rfl⟩
instance tfs77_5 : TFS Try.prog 77 5 7 1 := ⟨by kernel_rfl⟩
instance tfs77_6 : TFS Try.prog 77 6 8 1 := ⟨by kernel_rfl⟩
instance tfs77_7 : TFS Try.prog 77 7 9 1 := ⟨by kernel_rfl⟩
instance tfs77_8 : TFS Try.prog 77 8 10 1 := ⟨by kernel_rfl⟩
instance tz77 : TZ Try.prog 77 [.int .i64 0, .string ⟨#[]⟩, .string ⟨#[]⟩, .int .i64 0, .int .i64 0, .string ⟨#[]⟩, .slice none 0 0, .slice none 0 0, .slice none 0 0, .slice none 0 0, .slice none 0 0] := ⟨by kernel_rfl⟩
instance ti86 : TI Try.prog 86 true 4 64 := ⟨by kernel_rfl⟩
instance tf86_0 : TF Try.prog 86 0 0 := ⟨by kernel_rfl⟩
instance tf86_1 : TF Try.prog 86 1 1 := ⟨by kernel_rfl⟩
instance tbd86 : TBd Try.prog 86 := ⟨by kernel_rfl⟩
instance tfs86_0 : TFS Try.prog 86 0 0 1 := ⟨by kernel_rfl⟩
instance tfs86_1 : TFS Try.prog 86 1 1 3 := ⟨by kernel_rfl⟩
instance tz86 : TZ Try.prog 86 [.string ⟨#[]⟩, .int .i64 0, .string ⟨#[]⟩, .slice none 0 0] := ⟨by kernel_rfl⟩
instance ti88 : TI Try.prog 88 true 4 64 := ⟨by kernel_rfl⟩
instance tf88_0 : TF Try.prog 88 0 0 := ⟨by kernel_rfl⟩
instance tf88_1 : TF Try.prog 88 1 1 := ⟨by kernel_rfl⟩
instance tbd88 : TBd Try.prog 88 := ⟨by kernel_rfl⟩
instance tfs88_0 : TFS Try.prog 88 0 0 1 := ⟨by kernel_rfl⟩
instance tfs88_1 : TFS Try.prog 88 1 1 3 := ⟨by kernel_rfl⟩
instance tz88 : TZ Try.prog 88 [.string ⟨#[]⟩, .int .i64 0, .string ⟨#[]⟩, .slice none 0 0] := ⟨by kernel_rfl⟩
instance ti109 : TI Try.prog 109 false 1 24 := ⟨by kernel_rfl⟩
instance te109 : TE Try.prog 109 9 := ⟨by kernel_rfl⟩
instance tz109 : TZ Try.prog 109 [.slice none 0 0] := ⟨by kernel_rfl⟩
instance ti111 : TI Try.prog 111 true 13 232 := ⟨by kernel_rfl⟩
instance tf111_0 : TF Try.prog 111 0 0 := ⟨by kernel_rfl⟩
instance tf111_1 : TF Try.prog 111 1 1 := ⟨by kernel_rfl⟩
instance tf111_2 : TF Try.prog 111 2 2 := ⟨by kernel_rfl⟩
instance tbd111 : TBd Try.prog 111 := ⟨by kernel_rfl⟩
instance tfs111_0 : TFS Try.prog 111 0 0 1 := ⟨by kernel_rfl⟩
instance tfs111_1 : TFS Try.prog 111 1 1 1 := ⟨by kernel_rfl⟩
instance tfs111_2 : TFS Try.prog 111 2 2 11 := ⟨by kernel_rfl⟩
instance tz111 : TZ Try.prog 111 [.string ⟨#[]⟩, .slice none 0 0, .int .i64 0, .string ⟨#[]⟩, .string ⟨#[]⟩, .int .i64 0, .int .i64 0, .string ⟨#[]⟩, .slice none 0 0, .slice none 0 0, .slice none 0 0, .slice none 0 0, .slice none 0 0] := ⟨by kernel_rfl⟩
instance ti113 : TI Try.prog 113 true 11 184 := ⟨by kernel_rfl⟩
instance tf113_0 : TF Try.prog 113 0 0 := ⟨by kernel_rfl⟩
instance tf113_1 : TF Try.prog 113 1 1 := ⟨by kernel_rfl⟩
instance tf113_2 : TF Try.prog 113 2 2 := ⟨by kernel_rfl⟩
instance tbd113 : TBd Try.prog 113 := ⟨by kernel_rfl⟩
instance tfs113_0 : TFS Try.prog 113 0 0 1 := ⟨by kernel_rfl⟩
instance tfs113_1 : TFS Try.prog 113 1 1 1 := ⟨by kernel_rfl⟩
instance tfs113_2 : TFS Try.prog 113 2 2 9 := ⟨by kernel_rfl⟩
instance tz113 : TZ Try.prog 113 [.string ⟨#[]⟩, .slice none 0 0, .int .i64 0, .string ⟨#[]⟩, .string ⟨#[]⟩, .int .i64 0, .int .i64 0, .string ⟨#[]⟩, .slice none 0 0, .slice none 0 0, .slice none 0 0] := ⟨by kernel_rfl⟩
instance ti131 : TI Try.prog 131 false 1 24 := ⟨by kernel_rfl⟩
instance te131 : TE Try.prog 131 5 := ⟨by kernel_rfl⟩
instance tz131 : TZ Try.prog 131 [.slice none 0 0] := ⟨by kernel_rfl⟩
instance ti143 : TI Try.prog 143 true 5 56 := ⟨by kernel_rfl⟩
instance tf143_0 : TF Try.prog 143 0 0 := ⟨by kernel_rfl⟩
instance tf143_1 : TF Try.prog 143 1 1 := ⟨by kernel_rfl⟩
instance tf143_2 : TF Try.prog 143 2 2 := ⟨by kernel_rfl⟩
instance tf143_3 : TF Try.prog 143 3 4 := ⟨by kernel_rfl⟩
instance tbd143 : TBd Try.prog 143 := ⟨by kernel_rfl⟩
instance tfs143_0 : TFS Try.prog 143 0 0 1 := ⟨by kernel_rfl⟩
instance tfs143_1 : TFS Try.prog 143 1 1 1 := ⟨by kernel_rfl⟩
instance tfs143_2 : TFS Try.prog 143 2 2 2 := ⟨by kernel_rfl⟩
instance tfs143_3 : TFS Try.prog 143 3 4 1 := ⟨by kernel_rfl⟩
instance tz143 : TZ Try.prog 143 [.int .i64 0, .int .i64 0, .int .i64 0, .int .i64 0, .slice none 0 0] := ⟨by kernel_rfl⟩
instance ti146 : TI Try.prog 146 true 13 232 := ⟨by kernel_rfl⟩
instance tf146_0 : TF Try.prog 146 0 0 := ⟨by kernel_rfl⟩
instance tf146_1 : TF Try.prog 146 1 1 := ⟨by kernel_rfl⟩
instance tf146_2 : TF Try.prog 146 2 2 := ⟨by kernel_rfl⟩
instance tbd146 : TBd Try.prog 146 := ⟨by kernel_rfl⟩
instance tfs146_0 : TFS Try.prog 146 0 0 1 := ⟨by kernel_rfl⟩
instance tfs146_1 : TFS Try.prog 146 1 1 1 := ⟨by kernel_rfl⟩
instance tfs146_2 : TFS Try.prog 146 2 2 11 := ⟨by kernel_rfl⟩
instance tz146 : TZ Try.prog 146 [.string ⟨#[]⟩, .slice none 0 0, .int .i64 0, .string ⟨#[]⟩, .string ⟨#[]⟩, .int .i64 0, .int .i64 0, .string ⟨#[]⟩, .slice none 0 0, .slice none 0 0, .slice none 0 0, .slice none 0 0, .slice none 0 0] := ⟨by kernel_rfl⟩
instance ti148 : TI Try.prog 148 true 5 56 := ⟨by kernel_rfl⟩
instance tf148_0 : TF Try.prog 148 0 0 := ⟨by kernel_rfl⟩
instance tf148_1 : TF Try.prog 148 1 1 := ⟨by kernel_rfl⟩
instance tf148_2 : TF Try.prog 148 2 2 := ⟨by kernel_rfl⟩
instance tf148_3 : TF Try.prog 148 3 4 := ⟨by kernel_rfl⟩
instance tbd148 : TBd Try.prog 148 := ⟨by kernel_rfl⟩
instance tfs148_0 : TFS Try.prog 148 0 0 1 := ⟨by kernel_rfl⟩
instance tfs148_1 : TFS Try.prog 148 1 1 1 := ⟨by kernel_rfl⟩
instance tfs148_2 : TFS Try.prog 148 2 2 2 := ⟨by kernel_rfl⟩
instance tfs148_3 : TFS Try.prog 148 3 4 1 := ⟨by kernel_rfl⟩
instance tz148 : TZ Try.prog 148 [.int .i64 0, .int .i64 0, .int .i64 0, .int .i64 0, .slice none 0 0] := ⟨by kernel_rfl⟩
instance ti163 : TI Try.prog 163 false 1 4 := ⟨by kernel_rfl⟩
instance tu163 : TU Try.prog 163 .u32 := ⟨by kernel_rfl⟩
instance tz163 : TZ Try.prog 163 [.int .u32 0] := ⟨by kernel_rfl⟩
instance tp46 : TP Try.prog 46 := by
  refine ⟨?_⟩
  intro w a b c d
  refine ⟨by kernel_rfl, ?_⟩
  have hund : Try.prog.underlying 46 = some (.struct (Try.prog.fieldsOf 46)) := by kernel_rfl
  have hh : Try.prog.stoodInHeld 46 = false := by kernel_rfl
  have hf : (Try.prog.fieldsOf 46).toList = [{ name := "Package", type := 3, offset := 0, embedded := false, tag := "", pkgPath := "", byteOffset := 0 }, { name := "At", type := 3, offset := 1, embedded := false, tag := "", pkgPath := "", byteOffset := 8 }] := by kernel_rfl
  have hi : Try.prog.underlying 3 = some (.int .i64) := by kernel_rfl
  have hg : tyI Try.prog 3 = some (false, 1, 8) := by kernel_rfl
  have hint : ∀ (d : Nat) (w : World) (a c : Int), (Op.equalIn (d + 1) 3 (.int .i64 a) (.int .i64 c)).run Try.prog w = .ok (a == c) w := by
    intro d w a c
    simp [Op.equalIn, run_underlying hi]
  unfold Op.equal Op.maxDepth
  rw [run_equalIn_struct w 9999 46 _ _ hund hh, hf]
  have h9 := hint 9998
  rw [show 9998 + 1 = 9999 from rfl] at h9
  by_cases h1 : a = c <;> by_cases h2 : b = d <;> simp [Op.eqFields, part, run_isAgg hg, h9, h1, h2]
def tmS : TypeId → Option Sh
  | 3 => some (.int)
  | 4 => some (.bool)
  | 9 => some (.str)
  | 22 => some (.sl (.st 12))
  | 24 => some (.sl (.st 1))
  | 26 => some (.st 1)
  | 29 => some (.sl (.st 12))
  | 37 => some (.st 16)
  | 38 => some (.sl (.int))
  | 39 => some (.sl (.st 26))
  | 41 => some (.st 26)
  | 42 => some (.sl (.st 27))
  | 44 => some (.st 27)
  | 46 => some (.st 16)
  | 47 => some (.sl (.st 26))
  | 49 => some (.st 26)
  | 50 => some (.sl (.st 27))
  | 52 => some (.st 27)
  | 59 => some (.sl (.st 1))
  | 61 => some (.st 1)
  | 62 => some (.sl (.st 18))
  | 63 => some (.sl (.st 21))
  | 64 => some (.sl (.st 20))
  | 66 => some (.st 21)
  | 68 => some (.sl (.st 4))
  | 69 => some (.sl (.st 3))
  | 71 => some (.st 4)
  | 73 => some (.sl (.st 18))
  | 74 => some (.sl (.st 21))
  | 75 => some (.sl (.st 20))
  | 77 => some (.st 21)
  | 86 => some (.st 12)
  | 88 => some (.st 12)
  | 109 => some (.sl (.str))
  | 111 => some (.st 20)
  | 113 => some (.st 3)
  | 143 => some (.st 18)
  | 146 => some (.st 20)
  | 148 => some (.st 18)
  | _ => none
theorem tmk3 : tmOk Try.prog tmS 3 (.int) := Try.underlying3
theorem tmk4 : tmOk Try.prog tmS 4 (.bool) := Try.underlying4
theorem tmk9 : tmOk Try.prog tmS 9 (.str) := Try.underlying9
theorem tmk22 : tmOk Try.prog tmS 22 (.sl (.st 12)) := ⟨86, Try.underlying22, rfl, by kernel_rfl, by decide, by decide +kernel⟩
theorem tmk24 : tmOk Try.prog tmS 24 (.sl (.st 1)) := ⟨26, Try.underlying24, rfl, by kernel_rfl, by decide, by decide +kernel⟩
theorem tmk26 : tmOk Try.prog tmS 26 (.st 1) := ⟨_, Try.underlying26, by kernel_rfl, And.intro rfl (And.intro rfl (And.intro (by kernel_rfl) (And.intro rfl (And.intro rfl (And.intro (by kernel_rfl) (And.intro rfl (And.intro rfl (And.intro (by kernel_rfl) (trivial)))))))))⟩
theorem tmk29 : tmOk Try.prog tmS 29 (.sl (.st 12)) := ⟨88, Try.underlying29, rfl, by kernel_rfl, by decide, by decide +kernel⟩
theorem tmk37 : tmOk Try.prog tmS 37 (.st 16) := ⟨_, Try.underlying37, by kernel_rfl, And.intro rfl (And.intro rfl (And.intro (by kernel_rfl) (And.intro rfl (And.intro rfl (And.intro (by kernel_rfl) (trivial))))))⟩
theorem tmk38 : tmOk Try.prog tmS 38 (.sl (.int)) := ⟨3, Try.underlying38, rfl, by kernel_rfl, by decide, by decide +kernel⟩
theorem tmk39 : tmOk Try.prog tmS 39 (.sl (.st 26)) := ⟨41, Try.underlying39, rfl, by kernel_rfl, by decide, by decide +kernel⟩
theorem tmk41 : tmOk Try.prog tmS 41 (.st 26) := ⟨_, Try.underlying41, by kernel_rfl, And.intro rfl (And.intro rfl (And.intro (by kernel_rfl) (And.intro rfl (And.intro rfl (And.intro (by kernel_rfl) (And.intro rfl (And.intro rfl (And.intro (by kernel_rfl) (And.intro rfl (And.intro rfl (And.intro (by kernel_rfl) (trivial))))))))))))⟩
theorem tmk42 : tmOk Try.prog tmS 42 (.sl (.st 27)) := ⟨44, Try.underlying42, rfl, by kernel_rfl, by decide, by decide +kernel⟩
theorem tmk44 : tmOk Try.prog tmS 44 (.st 27) := ⟨_, Try.underlying44, by kernel_rfl, And.intro rfl (And.intro rfl (And.intro (by kernel_rfl) (And.intro rfl (And.intro rfl (And.intro (by kernel_rfl) (And.intro rfl (And.intro rfl (And.intro (by kernel_rfl) (And.intro rfl (And.intro rfl (And.intro (by kernel_rfl) (And.intro rfl (And.intro rfl (And.intro (by kernel_rfl) (trivial)))))))))))))))⟩
theorem tmk46 : tmOk Try.prog tmS 46 (.st 16) := ⟨_, Try.underlying46, by kernel_rfl, And.intro rfl (And.intro rfl (And.intro (by kernel_rfl) (And.intro rfl (And.intro rfl (And.intro (by kernel_rfl) (trivial))))))⟩
theorem tmk47 : tmOk Try.prog tmS 47 (.sl (.st 26)) := ⟨49, Try.underlying47, rfl, by kernel_rfl, by decide, by decide +kernel⟩
theorem tmk49 : tmOk Try.prog tmS 49 (.st 26) := ⟨_, Try.underlying49, by kernel_rfl, And.intro rfl (And.intro rfl (And.intro (by kernel_rfl) (And.intro rfl (And.intro rfl (And.intro (by kernel_rfl) (And.intro rfl (And.intro rfl (And.intro (by kernel_rfl) (And.intro rfl (And.intro rfl (And.intro (by kernel_rfl) (trivial))))))))))))⟩
theorem tmk50 : tmOk Try.prog tmS 50 (.sl (.st 27)) := ⟨52, Try.underlying50, rfl, by kernel_rfl, by decide, by decide +kernel⟩
theorem tmk52 : tmOk Try.prog tmS 52 (.st 27) := ⟨_, Try.underlying52, by kernel_rfl, And.intro rfl (And.intro rfl (And.intro (by kernel_rfl) (And.intro rfl (And.intro rfl (And.intro (by kernel_rfl) (And.intro rfl (And.intro rfl (And.intro (by kernel_rfl) (And.intro rfl (And.intro rfl (And.intro (by kernel_rfl) (And.intro rfl (And.intro rfl (And.intro (by kernel_rfl) (trivial)))))))))))))))⟩
theorem tmk59 : tmOk Try.prog tmS 59 (.sl (.st 1)) := ⟨61, Try.underlying59, rfl, by kernel_rfl, by decide, by decide +kernel⟩
theorem tmk61 : tmOk Try.prog tmS 61 (.st 1) := ⟨_, Try.underlying61, by kernel_rfl, And.intro rfl (And.intro rfl (And.intro (by kernel_rfl) (And.intro rfl (And.intro rfl (And.intro (by kernel_rfl) (And.intro rfl (And.intro rfl (And.intro (by kernel_rfl) (trivial)))))))))⟩
theorem tmk62 : tmOk Try.prog tmS 62 (.sl (.st 18)) := ⟨143, Try.underlying62, rfl, by kernel_rfl, by decide, by decide +kernel⟩
theorem tmk63 : tmOk Try.prog tmS 63 (.sl (.st 21)) := ⟨66, Try.underlying63, rfl, by kernel_rfl, by decide, by decide +kernel⟩
theorem tmk64 : tmOk Try.prog tmS 64 (.sl (.st 20)) := ⟨146, Try.underlying64, rfl, by kernel_rfl, by decide, by decide +kernel⟩
theorem tmk66 : tmOk Try.prog tmS 66 (.st 21) := ⟨_, Try.underlying66, by kernel_rfl, And.intro rfl (And.intro rfl (And.intro (by kernel_rfl) (And.intro rfl (And.intro rfl (And.intro (by kernel_rfl) (And.intro rfl (And.intro rfl (And.intro (by kernel_rfl) (And.intro rfl (And.intro rfl (And.intro (by kernel_rfl) (And.intro rfl (And.intro rfl (And.intro (by kernel_rfl) (And.intro rfl (And.intro rfl (And.intro (by kernel_rfl) (And.intro rfl (And.intro rfl (And.intro (by kernel_rfl) (And.intro rfl (And.intro rfl (And.intro (by kernel_rfl) (And.intro rfl (And.intro rfl (And.intro (by kernel_rfl) (trivial)))))))))))))))))))))))))))⟩
theorem tmk68 : tmOk Try.prog tmS 68 (.sl (.st 4)) := ⟨71, Try.underlying68, rfl, by kernel_rfl, by decide, by decide +kernel⟩
theorem tmk69 : tmOk Try.prog tmS 69 (.sl (.st 3)) := ⟨113, Try.underlying69, rfl, by kernel_rfl, by decide, by decide +kernel⟩
theorem tmk71 : tmOk Try.prog tmS 71 (.st 4) := ⟨_, Try.underlying71, by kernel_rfl, And.intro rfl (And.intro rfl (And.intro (by kernel_rfl) (And.intro rfl (And.intro rfl (And.intro (by kernel_rfl) (And.intro rfl (And.intro rfl (And.intro (by kernel_rfl) (And.intro rfl (And.intro rfl (And.intro (by kernel_rfl) (And.intro rfl (And.intro rfl (And.intro (by kernel_rfl) (And.intro rfl (And.intro rfl (And.intro (by kernel_rfl) (And.intro rfl (And.intro rfl (And.intro (by kernel_rfl) (trivial)))))))))))))))))))))⟩
theorem tmk73 : tmOk Try.prog tmS 73 (.sl (.st 18)) := ⟨148, Try.underlying73, rfl, by kernel_rfl, by decide, by decide +kernel⟩
theorem tmk74 : tmOk Try.prog tmS 74 (.sl (.st 21)) := ⟨77, Try.underlying74, rfl, by kernel_rfl, by decide, by decide +kernel⟩
theorem tmk75 : tmOk Try.prog tmS 75 (.sl (.st 20)) := ⟨111, Try.underlying75, rfl, by kernel_rfl, by decide, by decide +kernel⟩
theorem tmk77 : tmOk Try.prog tmS 77 (.st 21) := ⟨_, Try.underlying77, by kernel_rfl, And.intro rfl (And.intro rfl (And.intro (by kernel_rfl) (And.intro rfl (And.intro rfl (And.intro (by kernel_rfl) (And.intro rfl (And.intro rfl (And.intro (by kernel_rfl) (And.intro rfl (And.intro rfl (And.intro (by kernel_rfl) (And.intro rfl (And.intro rfl (And.intro (by kernel_rfl) (And.intro rfl (And.intro rfl (And.intro (by kernel_rfl) (And.intro rfl (And.intro rfl (And.intro (by kernel_rfl) (And.intro rfl (And.intro rfl (And.intro (by kernel_rfl) (And.intro rfl (And.intro rfl (And.intro (by kernel_rfl) (trivial)))))))))))))))))))))))))))⟩
theorem tmk86 : tmOk Try.prog tmS 86 (.st 12) := ⟨_, Try.underlying86, by kernel_rfl, And.intro rfl (And.intro rfl (And.intro (by kernel_rfl) (And.intro rfl (And.intro rfl (And.intro (by kernel_rfl) (trivial))))))⟩
theorem tmk88 : tmOk Try.prog tmS 88 (.st 12) := ⟨_, Try.underlying88, by kernel_rfl, And.intro rfl (And.intro rfl (And.intro (by kernel_rfl) (And.intro rfl (And.intro rfl (And.intro (by kernel_rfl) (trivial))))))⟩
theorem tmk109 : tmOk Try.prog tmS 109 (.sl (.str)) := ⟨9, Try.underlying109, rfl, by kernel_rfl, by decide, by decide +kernel⟩
theorem tmk111 : tmOk Try.prog tmS 111 (.st 20) := ⟨_, Try.underlying111, by kernel_rfl, And.intro rfl (And.intro rfl (And.intro (by kernel_rfl) (And.intro rfl (And.intro rfl (And.intro (by kernel_rfl) (And.intro rfl (And.intro rfl (And.intro (by kernel_rfl) (trivial)))))))))⟩
theorem tmk113 : tmOk Try.prog tmS 113 (.st 3) := ⟨_, Try.underlying113, by kernel_rfl, And.intro rfl (And.intro rfl (And.intro (by kernel_rfl) (And.intro rfl (And.intro rfl (And.intro (by kernel_rfl) (And.intro rfl (And.intro rfl (And.intro (by kernel_rfl) (trivial)))))))))⟩
theorem tmk143 : tmOk Try.prog tmS 143 (.st 18) := ⟨_, Try.underlying143, by kernel_rfl, And.intro rfl (And.intro rfl (And.intro (by kernel_rfl) (And.intro rfl (And.intro rfl (And.intro (by kernel_rfl) (And.intro rfl (And.intro rfl (And.intro (by kernel_rfl) (And.intro rfl (And.intro rfl (And.intro (by kernel_rfl) (trivial))))))))))))⟩
theorem tmk146 : tmOk Try.prog tmS 146 (.st 20) := ⟨_, Try.underlying146, by kernel_rfl, And.intro rfl (And.intro rfl (And.intro (by kernel_rfl) (And.intro rfl (And.intro rfl (And.intro (by kernel_rfl) (And.intro rfl (And.intro rfl (And.intro (by kernel_rfl) (trivial)))))))))⟩
theorem tmk148 : tmOk Try.prog tmS 148 (.st 18) := ⟨_, Try.underlying148, by kernel_rfl, And.intro rfl (And.intro rfl (And.intro (by kernel_rfl) (And.intro rfl (And.intro rfl (And.intro (by kernel_rfl) (And.intro rfl (And.intro rfl (And.intro (by kernel_rfl) (And.intro rfl (And.intro rfl (And.intro (by kernel_rfl) (trivial))))))))))))⟩
theorem tm_ok : ∀ (T : TypeId) (s : Sh), tmS T = some s → tmOk Try.prog tmS T s := by
  intro T s h
  unfold tmS at h
  split at h
  · cases h; exact tmk3
  · cases h; exact tmk4
  · cases h; exact tmk9
  · cases h; exact tmk22
  · cases h; exact tmk24
  · cases h; exact tmk26
  · cases h; exact tmk29
  · cases h; exact tmk37
  · cases h; exact tmk38
  · cases h; exact tmk39
  · cases h; exact tmk41
  · cases h; exact tmk42
  · cases h; exact tmk44
  · cases h; exact tmk46
  · cases h; exact tmk47
  · cases h; exact tmk49
  · cases h; exact tmk50
  · cases h; exact tmk52
  · cases h; exact tmk59
  · cases h; exact tmk61
  · cases h; exact tmk62
  · cases h; exact tmk63
  · cases h; exact tmk64
  · cases h; exact tmk66
  · cases h; exact tmk68
  · cases h; exact tmk69
  · cases h; exact tmk71
  · cases h; exact tmk73
  · cases h; exact tmk74
  · cases h; exact tmk75
  · cases h; exact tmk77
  · cases h; exact tmk86
  · cases h; exact tmk88
  · cases h; exact tmk109
  · cases h; exact tmk111
  · cases h; exact tmk113
  · cases h; exact tmk143
  · cases h; exact tmk146
  · cases h; exact tmk148
  · cases h
theorem tmix : Try.prog.follows .mixedOrders = true := by kernel_rfl
end Go.Proofs.Ytjckkahiapjkfaa
