/- What the program says of its types. Written by a program of mine. -/
import Derived.Test.YtihihldpcgiibaaGreatProg
import Derived.Test.YtihihldpcgiibaaGreatEng37
namespace Go.Proofs.YtihihldpcgiibaaGreat
open Go Go.Eng
instance ti3 : TI Tryz.prog 3 false 1 8 := ⟨by kernel_rfl⟩
instance tu3 : TU Tryz.prog 3 .i64 := ⟨by kernel_rfl⟩
instance tz3 : TZ Tryz.prog 3 [.int .i64 0] := ⟨by kernel_rfl⟩
instance ti4 : TI Tryz.prog 4 false 1 1 := ⟨by kernel_rfl⟩
instance tb4 : TB Tryz.prog 4 := ⟨by kernel_rfl⟩
instance tz4 : TZ Tryz.prog 4 [.bool false] := ⟨by kernel_rfl⟩
instance ti5 : TI Tryz.prog 5 false 1 1 := ⟨by kernel_rfl⟩
instance tu5 : TU Tryz.prog 5 .u8 := ⟨by kernel_rfl⟩
instance tz5 : TZ Tryz.prog 5 [.int .u8 0] := ⟨by kernel_rfl⟩
instance ti9 : TI Tryz.prog 9 false 1 16 := ⟨by kernel_rfl⟩
instance tss9 : TS Tryz.prog 9 := ⟨by kernel_rfl⟩
instance tz9 : TZ Tryz.prog 9 [.string ⟨#[]⟩] := ⟨by kernel_rfl⟩
instance ti21 : TI Tryz.prog 21 false 1 4 := ⟨by kernel_rfl⟩
instance tu21 : TU Tryz.prog 21 .i32 := ⟨by kernel_rfl⟩
instance tz21 : TZ Tryz.prog 21 [.int .i32 0] := ⟨by kernel_rfl⟩
instance ti22 : TI Tryz.prog 22 false 1 24 := ⟨by kernel_rfl⟩
instance te22 : TE Tryz.prog 22 150 := ⟨by kernel_rfl⟩
instance tz22 : TZ Tryz.prog 22 [.slice none 0 0] := ⟨by kernel_rfl⟩
instance ti24 : TI Tryz.prog 24 true 1 24 := ⟨by kernel_rfl⟩
instance tf24_0 : TF Tryz.prog 24 0 0 := ⟨by kernel_rfl⟩
instance tbd24 : TBd Tryz.prog 24 := ⟨by kernel_rfl⟩
instance tfs24_0 : TFS Tryz.prog 24 0 0 1 := ⟨by kernel_rfl⟩
instance tz24 : TZ Tryz.prog 24 [.slice none 0 0] := ⟨by kernel_rfl⟩
instance ti25 : TI Tryz.prog 25 false 1 24 := ⟨by kernel_rfl⟩
instance te25 : TE Tryz.prog 25 27 := ⟨by kernel_rfl⟩
instance tz25 : TZ Tryz.prog 25 [.slice none 0 0] := ⟨by kernel_rfl⟩
instance ti27 : TI Tryz.prog 27 true 3 48 := ⟨by kernel_rfl⟩
instance tf27_0 : TF Tryz.prog 27 0 0 := ⟨by kernel_rfl⟩
instance tf27_1 : TF Tryz.prog 27 1 1 := ⟨by kernel_rfl⟩
instance tf27_2 : TF Tryz.prog 27 2 2 := ⟨by kernel_rfl⟩
instance tbd27 : TBd Tryz.prog 27 := ⟨by kernel_rfl⟩
instance tfs27_0 : TFS Tryz.prog 27 0 0 1 := ⟨by kernel_rfl⟩
instance tfs27_1 : TFS Tryz.prog 27 1 1 1 := ⟨by kernel_rfl⟩
instance tfs27_2 : TFS Tryz.prog 27 2 2 1 := ⟨by kernel_rfl⟩
instance tz27 : TZ Tryz.prog 27 [.int .i64 0, .string ⟨#[]⟩, .slice none 0 0] := ⟨by kernel_rfl⟩
instance ti29 : TI Tryz.prog 29 true 4 64 := ⟨by kernel_rfl⟩
instance tf29_0 : TF Tryz.prog 29 0 0 := ⟨by kernel_rfl⟩
instance tf29_1 : TF Tryz.prog 29 1 1 := ⟨by kernel_rfl⟩
instance tbd29 : TBd Tryz.prog 29 := ⟨by kernel_rfl⟩
instance tfs29_0 : TFS Tryz.prog 29 0 0 1 := ⟨by kernel_rfl⟩
instance tfs29_1 : TFS Tryz.prog 29 1 1 3 := ⟨by kernel_rfl⟩
instance tz29 : TZ Tryz.prog 29 [.string ⟨#[]⟩, .int .i64 0, .string ⟨#[]⟩, .slice none 0 0] := ⟨by kernel_rfl⟩
instance ti33 : TI Tryz.prog 33 false 1 24 := ⟨by kernel_rfl⟩
instance te33 : TE Tryz.prog 33 156 := ⟨by kernel_rfl⟩
instance tz33 : TZ Tryz.prog 33 [.slice none 0 0] := ⟨by kernel_rfl⟩
instance ti35 : TI Tryz.prog 35 true 1 24 := ⟨by kernel_rfl⟩
instance tf35_0 : TF Tryz.prog 35 0 0 := ⟨by kernel_rfl⟩
instance tbd35 : TBd Tryz.prog 35 := ⟨by kernel_rfl⟩
instance tfs35_0 : TFS Tryz.prog 35 0 0 1 := ⟨by kernel_rfl⟩
instance tz35 : TZ Tryz.prog 35 [.slice none 0 0] := ⟨by kernel_rfl⟩
instance ti37 : TI Tryz.prog 37 false 1 24 := ⟨by kernel_rfl⟩
instance te37 : TE Tryz.prog 37 39 := ⟨by kernel_rfl⟩
instance tz37 : TZ Tryz.prog 37 [.slice none 0 0] := ⟨by kernel_rfl⟩
instance ti39 : TI Tryz.prog 39 true 3 48 := ⟨by kernel_rfl⟩
instance tf39_0 : TF Tryz.prog 39 0 0 := ⟨by kernel_rfl⟩
instance tf39_1 : TF Tryz.prog 39 1 1 := ⟨by kernel_rfl⟩
instance tf39_2 : TF Tryz.prog 39 2 2 := ⟨by kernel_rfl⟩
instance tbd39 : TBd Tryz.prog 39 := ⟨by kernel_rfl⟩
instance tfs39_0 : TFS Tryz.prog 39 0 0 1 := ⟨by kernel_rfl⟩
instance tfs39_1 : TFS Tryz.prog 39 1 1 1 := ⟨by kernel_rfl⟩
instance tfs39_2 : TFS Tryz.prog 39 2 2 1 := ⟨by kernel_rfl⟩
instance tz39 : TZ Tryz.prog 39 [.int .i64 0, .string ⟨#[]⟩, .slice none 0 0] := ⟨by kernel_rfl⟩
instance ti41 : TI Tryz.prog 41 true 4 64 := ⟨by kernel_rfl⟩
instance tf41_0 : TF Tryz.prog 41 0 0 := ⟨by kernel_rfl⟩
instance tf41_1 : TF Tryz.prog 41 1 1 := ⟨by kernel_rfl⟩
instance tbd41 : TBd Tryz.prog 41 := ⟨by kernel_rfl⟩
instance tfs41_0 : TFS Tryz.prog 41 0 0 1 := ⟨by kernel_rfl⟩
instance tfs41_1 : TFS Tryz.prog 41 1 1 3 := ⟨by kernel_rfl⟩
instance tz41 : TZ Tryz.prog 41 [.string ⟨#[]⟩, .int .i64 0, .string ⟨#[]⟩, .slice none 0 0] := ⟨by kernel_rfl⟩
instance ti56 : TI Tryz.prog 56 false 1 24 := ⟨by kernel_rfl⟩
instance te56 : TE Tryz.prog 56 29 := ⟨by kernel_rfl⟩
instance tz56 : TZ Tryz.prog 56 [.slice none 0 0] := ⟨by kernel_rfl⟩
instance ti59 : TI Tryz.prog 59 false 1 24 := ⟨by kernel_rfl⟩
instance te59 : TE Tryz.prog 59 41 := ⟨by kernel_rfl⟩
instance tz59 : TZ Tryz.prog 59 [.slice none 0 0] := ⟨by kernel_rfl⟩
instance ti63 : TI Tryz.prog 63 false 1 24 := ⟨by kernel_rfl⟩
instance te63 : TE Tryz.prog 63 71 := ⟨by kernel_rfl⟩
instance tz63 : TZ Tryz.prog 63 [.slice none 0 0] := ⟨by kernel_rfl⟩
instance ti69 : TI Tryz.prog 69 true 2 16 := ⟨by kernel_rfl⟩
instance tf69_0 : TF Tryz.prog 69 0 0 := ⟨by kernel_rfl⟩
instance tf69_1 : TF Tryz.prog 69 1 1 := ⟨by kernel_rfl⟩
instance tbd69 : TBd Tryz.prog 69 := ⟨by kernel_rfl⟩
instance tfs69_0 : TFS Tryz.prog 69 0 0 1 := ⟨by kernel_rfl⟩
instance tfs69_1 : TFS Tryz.prog 69 1 1 1 := ⟨by kernel_rfl⟩
instance tz69 : TZ Tryz.prog 69 [.int .i64 0, .int .i64 0] := ⟨by kernel_rfl⟩
instance ti71 : TI Tryz.prog 71 true 2 16 := ⟨by kernel_rfl⟩
instance tf71_0 : TF Tryz.prog 71 0 0 := ⟨by kernel_rfl⟩
instance tf71_1 : TF Tryz.prog 71 1 1 := ⟨by kernel_rfl⟩
instance tbd71 : TBd Tryz.prog 71 := ⟨by kernel_rfl⟩
instance tfs71_0 : TFS Tryz.prog 71 0 0 1 := ⟨by kernel_rfl⟩
instance tfs71_1 : TFS Tryz.prog 71 1 1 1 := ⟨by kernel_rfl⟩
instance tz71 : TZ Tryz.prog 71 [.int .i64 0, .int .i64 0] := ⟨by kernel_rfl⟩
instance ti74 : TI Tryz.prog 74 false 1 24 := ⟨by kernel_rfl⟩
instance te74 : TE Tryz.prog 74 142 := ⟨by kernel_rfl⟩
instance tz74 : TZ Tryz.prog 74 [.slice none 0 0] := ⟨by kernel_rfl⟩
instance ti79 : TI Tryz.prog 79 false 1 24 := ⟨by kernel_rfl⟩
instance te79 : TE Tryz.prog 79 9 := ⟨by kernel_rfl⟩
instance tz79 : TZ Tryz.prog 79 [.slice none 0 0] := ⟨by kernel_rfl⟩
instance ti80 : TI Tryz.prog 80 false 1 24 := ⟨by kernel_rfl⟩
instance te80 : TE Tryz.prog 80 105 := ⟨by kernel_rfl⟩
instance tz80 : TZ Tryz.prog 80 [.slice none 0 0] := ⟨by kernel_rfl⟩
instance ti82 : TI Tryz.prog 82 true 5 72 := ⟨by kernel_rfl⟩
instance tf82_0 : TF Tryz.prog 82 0 0 := ⟨by kernel_rfl⟩
instance tf82_1 : TF Tryz.prog 82 1 1 := ⟨by kernel_rfl⟩
instance tf82_2 : TF Tryz.prog 82 2 2 := ⟨by kernel_rfl⟩
instance tf82_3 : TF Tryz.prog 82 3 3 := ⟨by kernel_rfl⟩
instance tf82_4 : TF Tryz.prog 82 4 4 := ⟨by kernel_rfl⟩
instance tbd82 : TBd Tryz.prog 82 := ⟨by kernel_rfl⟩
instance tfs82_0 : TFS Tryz.prog 82 0 0 1 := ⟨by kernel_rfl⟩
instance tfs82_1 : TFS Tryz.prog 82 1 1 1 := ⟨by kernel_rfl⟩
instance tfs82_2 : TFS Tryz.prog 82 2 2 1 := ⟨by kernel_rfl⟩
instance tfs82_3 : TFS Tryz.prog 82 3 3 1 := ⟨by kernel_rfl⟩
instance tfs82_4 : TFS Tryz.prog 82 4 4 1 := ⟨by kernel_rfl⟩
instance tz82 : TZ Tryz.prog 82 [.string ⟨#[]⟩, .slice none 0 0, .bool false, .bool false, .slice none 0 0] := ⟨by kernel_rfl⟩
instance ti86 : TI Tryz.prog 86 false 1 24 := ⟨by kernel_rfl⟩
instance te86 : TE Tryz.prog 86 267 := ⟨by kernel_rfl⟩
instance tz86 : TZ Tryz.prog 86 [.slice none 0 0] := ⟨by kernel_rfl⟩
instance ti88 : TI Tryz.prog 88 true 3 64 := ⟨by kernel_rfl⟩
instance tf88_0 : TF Tryz.prog 88 0 0 := ⟨by kernel_rfl⟩
instance tf88_1 : TF Tryz.prog 88 1 1 := ⟨by kernel_rfl⟩
instance tf88_2 : TF Tryz.prog 88 2 2 := ⟨by kernel_rfl⟩
instance tbd88 : TBd Tryz.prog 88 := ⟨by kernel_rfl⟩
instance tfs88_0 : TFS Tryz.prog 88 0 0 1 := ⟨by kernel_rfl⟩
instance tfs88_1 : TFS Tryz.prog 88 1 1 1 := ⟨by kernel_rfl⟩
instance tfs88_2 : TFS Tryz.prog 88 2 2 1 := ⟨by kernel_rfl⟩
instance tz88 : TZ Tryz.prog 88 [.string ⟨#[]⟩, .slice none 0 0, .slice none 0 0] := ⟨by kernel_rfl⟩
instance ti100 : TI Tryz.prog 100 false 1 24 := ⟨by kernel_rfl⟩
instance te100 : TE Tryz.prog 100 103 := ⟨by kernel_rfl⟩
instance tz100 : TZ Tryz.prog 100 [.slice none 0 0] := ⟨by kernel_rfl⟩
instance ti101 : TI Tryz.prog 101 false 1 24 := ⟨by kernel_rfl⟩
instance te101 : TE Tryz.prog 101 273 := ⟨by kernel_rfl⟩
instance tz101 : TZ Tryz.prog 101 [.slice none 0 0] := ⟨by kernel_rfl⟩
instance ti103 : TI Tryz.prog 103 true 9 144 := ⟨by kernel_rfl⟩
instance tf103_0 : TF Tryz.prog 103 0 0 := ⟨by kernel_rfl⟩
instance tf103_1 : TF Tryz.prog 103 1 1 := ⟨by kernel_rfl⟩
instance tf103_2 : TF Tryz.prog 103 2 2 := ⟨by kernel_rfl⟩
instance tf103_3 : TF Tryz.prog 103 3 3 := ⟨by kernel_rfl⟩
instance tf103_4 : TF Tryz.prog 103 4 4 := ⟨by kernel_rfl⟩
instance tf103_5 : TF Tryz.prog 103 5 7 := ⟨by kernel_rfl⟩
instance tf103_6 : TF Tryz.prog 103 6 8 := ⟨by kernel_rfl⟩
instance tbd103 : TBd Tryz.prog 103 := ⟨by kernel_rfl⟩
instance tfs103_0 : TFS Tryz.prog 103 0 0 1 := ⟨by kernel_rfl⟩
instance tfs103_1 : TFS Tryz.prog 103 1 1 1 := ⟨by kernel_rfl⟩
instance tfs103_2 : TFS Tryz.prog 103 2 2 1 := ⟨by kernel_rfl⟩
instance tfs103_3 : TFS Tryz.prog 103 3 3 1 := ⟨by kernel_rfl⟩
instance tfs103_4 : TFS Tryz.prog 103 4 4 3 := ⟨by kernel_rfl⟩
instance tfs103_5 : TFS Tryz.prog 103 5 7 1 := ⟨by kernel_rfl⟩
instance tfs103_6 : TFS Tryz.prog 103 6 8 1 := ⟨by kernel_rfl⟩
instance tz103 : TZ Tryz.prog 103 [.int .i64 0, .string ⟨#[]⟩, .string ⟨#[]⟩, .int .i64 0, .int .i64 0, .string ⟨#[]⟩, .slice none 0 0, .slice none 0 0, .slice none 0 0] := ⟨by kernel_rfl⟩
instance ti105 : TI Tryz.prog 105 true 16 264 := ⟨by kernel_rfl⟩
instance tf105_0 : TF Tryz.prog 105 0 0 := ⟨by kernel_rfl⟩
instance tf105_1 : TF Tryz.prog 105 1 1 := ⟨by kernel_rfl⟩
instance tf105_2 : TF Tryz.prog 105 2 2 := ⟨by kernel_rfl⟩
instance tf105_3 : TF Tryz.prog 105 3 5 := ⟨by kernel_rfl⟩
instance tf105_4 : TF Tryz.prog 105 4 6 := ⟨by kernel_rfl⟩
instance tf105_5 : TF Tryz.prog 105 5 7 := ⟨by kernel_rfl⟩
instance tbd105 : TBd Tryz.prog 105 := ⟨by kernel_rfl⟩
instance tfs105_0 : TFS Tryz.prog 105 0 0 1 := ⟨by kernel_rfl⟩
instance tfs105_1 : TFS Tryz.prog 105 1 1 1 := ⟨by kernel_rfl⟩
instance tfs105_2 : TFS Tryz.prog 105 2 2 3 := ⟨by kernel_rfl⟩
instance tfs105_3 : TFS Tryz.prog 105 3 5 1 := ⟨by kernel_rfl⟩
instance tfs105_4 : TFS Tryz.prog 105 4 6 1 := ⟨by kernel_rfl⟩
instance tfs105_5 : TFS Tryz.prog 105 5 7 9 := ⟨by kernel_rfl⟩
instance tz105 : TZ Tryz.prog 105 [.string ⟨#[]⟩, .slice none 0 0, .int .i64 0, .string ⟨#[]⟩, .slice none 0 0, .bool false, .slice none 0 0, .int .i64 0, .string ⟨#[]⟩, .string ⟨#[]⟩, .int .i64 0, .int .i64 0, .string ⟨#[]⟩, .slice none 0 0, .slice none 0 0, .slice none 0 0] := ⟨by kernel_rfl⟩
instance ti109 : TI Tryz.prog 109 true 4 64 := ⟨by kernel_rfl⟩
instance tf109_0 : TF Tryz.prog 109 0 0 := ⟨by kernel_rfl⟩
instance tf109_1 : TF Tryz.prog 109 1 1 := ⟨by kernel_rfl⟩
instance tbd109 : TBd Tryz.prog 109 := ⟨by kernel_rfl⟩
instance tfs109_0 : TFS Tryz.prog 109 0 0 1 := ⟨by kernel_rfl⟩
instance tfs109_1 : TFS Tryz.prog 109 1 1 3 := ⟨by kernel_rfl⟩
instance tz109 : TZ Tryz.prog 109 [.string ⟨#[]⟩, .int .i64 0, .string ⟨#[]⟩, .slice none 0 0] := ⟨by kernel_rfl⟩
instance ti110 : TI Tryz.prog 110 false 1 24 := ⟨by kernel_rfl⟩
instance te110 : TE Tryz.prog 110 109 := ⟨by kernel_rfl⟩
instance tz110 : TZ Tryz.prog 110 [.slice none 0 0] := ⟨by kernel_rfl⟩
instance ti120 : TI Tryz.prog 120 false 1 24 := ⟨by kernel_rfl⟩
instance te120 : TE Tryz.prog 120 122 := ⟨by kernel_rfl⟩
instance tz120 : TZ Tryz.prog 120 [.slice none 0 0] := ⟨by kernel_rfl⟩
instance ti122 : TI Tryz.prog 122 true 5 56 := ⟨by kernel_rfl⟩
instance tf122_0 : TF Tryz.prog 122 0 0 := ⟨by kernel_rfl⟩
instance tf122_1 : TF Tryz.prog 122 1 1 := ⟨by kernel_rfl⟩
instance tf122_2 : TF Tryz.prog 122 2 2 := ⟨by kernel_rfl⟩
instance tf122_3 : TF Tryz.prog 122 3 4 := ⟨by kernel_rfl⟩
instance tbd122 : TBd Tryz.prog 122 := ⟨by kernel_rfl⟩
instance tfs122_0 : TFS Tryz.prog 122 0 0 1 := ⟨by kernel_rfl⟩
instance tfs122_1 : TFS Tryz.prog 122 1 1 1 := ⟨by kernel_rfl⟩
instance tfs122_2 : TFS Tryz.prog 122 2 2 2 := ⟨by kernel_rfl⟩
instance tfs122_3 : TFS Tryz.prog 122 3 4 1 := ⟨by kernel_rfl⟩
instance tz122 : TZ Tryz.prog 122 [.int .i64 0, .int .i64 0, .int .i64 0, .int .i64 0, .slice none 0 0] := ⟨by kernel_rfl⟩
instance ti126 : TI Tryz.prog 126 false 1 24 := ⟨by kernel_rfl⟩
instance te126 : TE Tryz.prog 126 269 := ⟨by kernel_rfl⟩
instance tz126 : TZ Tryz.prog 126 [.slice none 0 0] := ⟨by kernel_rfl⟩
instance ti128 : TI Tryz.prog 128 true 12 192 := ⟨by kernel_rfl⟩
instance tf128_0 : TF Tryz.prog 128 0 0 := ⟨by kernel_rfl⟩
instance tf128_1 : TF Tryz.prog 128 1 1 := ⟨by kernel_rfl⟩
instance tf128_2 : TF Tryz.prog 128 2 2 := ⟨by kernel_rfl⟩
instance tf128_3 : TF Tryz.prog 128 3 5 := ⟨by kernel_rfl⟩
instance tf128_4 : TF Tryz.prog 128 4 6 := ⟨by kernel_rfl⟩
instance tf128_5 : TF Tryz.prog 128 5 7 := ⟨by kernel_rfl⟩
instance tf128_6 : TF Tryz.prog 128 6 8 := ⟨by kernel_rfl⟩
instance tf128_7 : TF Tryz.prog 128 7 11 := ⟨by kernel_rfl⟩
instance tbd128 : TBd Tryz.prog 128 := ⟨by kernel_rfl⟩
instance tfs128_0 : TFS Tryz.prog 128 0 0 1 := ⟨by kernel_rfl⟩
instance tfs128_1 : TFS Tryz.prog 128 1 1 1 := ⟨by kernel_rfl⟩
instance tfs128_2 : TFS Tryz.prog 128 2 2 3 := ⟨by kernel_rfl⟩
instance tfs128_3 : TFS Tryz.prog 128 3 5 1 := ⟨by kernel_rfl⟩
instance tfs128_4 : TFS Tryz.prog 128 4 6 1 := ⟨by kernel_rfl⟩
instance tfs128_5 : TFS Tryz.prog 128 5 7 1 := ⟨by kernel_rfl⟩
instance tfs128_6 : TFS Tryz.prog 128 6 8 3 := ⟨by kernel_rfl⟩
instance tfs128_7 : TFS Tryz.prog 128 7 11 1 := ⟨by kernel_rfl⟩
instance tz128 : TZ Tryz.prog 128 [.string ⟨#[]⟩, .slice none 0 0, .int .i64 0, .string ⟨#[]⟩, .slice none 0 0, .slice none 0 0, .bool false, .bool false, .int .i64 0, .string ⟨#[]⟩, .slice none 0 0, .slice none 0 0] := ⟨by kernel_rfl⟩
instance ti142 : TI Tryz.prog 142 true 3 24 := ⟨by kernel_rfl⟩
instance tf142_0 : TF Tryz.prog 142 0 0 := ⟨by kernel_rfl⟩
instance tf142_1 : TF Tryz.prog 142 1 1 := ⟨by kernel_rfl⟩
instance tbd142 : TBd Tryz.prog 142 := ⟨by kernel_rfl⟩
instance tfs142_0 : TFS Tryz.prog 142 0 0 1 := ⟨by kernel_rfl⟩
instance tfs142_1 : TFS Tryz.prog 142 1 1 2 := ⟨by kernel_rfl⟩
instance tz142 : TZ Tryz.prog 142 [.int .i64 0, .int .i64 0, .int .i64 0] := ⟨by kernel_rfl⟩
instance ti145 : TI Tryz.prog 145 false 1 24 := ⟨by kernel_rfl⟩
instance te145 : TE Tryz.prog 145 240 := ⟨by kernel_rfl⟩
instance tz145 : TZ Tryz.prog 145 [.slice none 0 0] := ⟨by kernel_rfl⟩
instance ti146 : TI Tryz.prog 146 false 1 24 := ⟨by kernel_rfl⟩
instance te146 : TE Tryz.prog 146 244 := ⟨by kernel_rfl⟩
instance tz146 : TZ Tryz.prog 146 [.slice none 0 0] := ⟨by kernel_rfl⟩
instance ti147 : TI Tryz.prog 147 false 1 24 := ⟨by kernel_rfl⟩
instance te147 : TE Tryz.prog 147 248 := ⟨by kernel_rfl⟩
instance tz147 : TZ Tryz.prog 147 [.slice none 0 0] := ⟨by kernel_rfl⟩
instance ti148 : TI Tryz.prog 148 false 1 24 := ⟨by kernel_rfl⟩
instance te148 : TE Tryz.prog 148 256 := ⟨by kernel_rfl⟩
instance tz148 : TZ Tryz.prog 148 [.slice none 0 0] := ⟨by kernel_rfl⟩
instance ti150 : TI Tryz.prog 150 true 6 136 := ⟨by kernel_rfl⟩
instance tf150_0 : TF Tryz.prog 150 0 0 := ⟨by kernel_rfl⟩
instance tf150_1 : TF Tryz.prog 150 1 1 := ⟨by kernel_rfl⟩
instance tf150_2 : TF Tryz.prog 150 2 2 := ⟨by kernel_rfl⟩
instance tf150_3 : TF Tryz.prog 150 3 3 := ⟨by kernel_rfl⟩
instance tf150_4 : TF Tryz.prog 150 4 4 := ⟨by kernel_rfl⟩
instance tf150_5 : TF Tryz.prog 150 5 5 := ⟨by kernel_rfl⟩
instance tbd150 : TBd Tryz.prog 150 := ⟨by kernel_rfl⟩
instance tfs150_0 : TFS Tryz.prog 150 0 0 1 := ⟨by kernel_rfl⟩
instance tfs150_1 : TFS Tryz.prog 150 1 1 1 := ⟨by kernel_rfl⟩
instance tfs150_2 : TFS Tryz.prog 150 2 2 1 := ⟨by kernel_rfl⟩
instance tfs150_3 : TFS Tryz.prog 150 3 3 1 := ⟨by kernel_rfl⟩
instance tfs150_4 : TFS Tryz.prog 150 4 4 1 := ⟨by kernel_rfl⟩
instance tfs150_5 : TFS Tryz.prog 150 5 5 1 := ⟨by kernel_rfl⟩
instance tz150 : TZ Tryz.prog 150 [.string ⟨#[]⟩, .slice none 0 0, .slice none 0 0, .slice none 0 0, .slice none 0 0, .slice none 0 0] := ⟨by kernel_rfl⟩
instance ti151 : TI Tryz.prog 151 false 1 24 := ⟨by kernel_rfl⟩
instance te151 : TE Tryz.prog 151 82 := ⟨by kernel_rfl⟩
instance tz151 : TZ Tryz.prog 151 [.slice none 0 0] := ⟨by kernel_rfl⟩
instance ti152 : TI Tryz.prog 152 false 1 24 := ⟨by kernel_rfl⟩
instance te152 : TE Tryz.prog 152 88 := ⟨by kernel_rfl⟩
instance tz152 : TZ Tryz.prog 152 [.slice none 0 0] := ⟨by kernel_rfl⟩
instance ti153 : TI Tryz.prog 153 false 1 24 := ⟨by kernel_rfl⟩
instance te153 : TE Tryz.prog 153 128 := ⟨by kernel_rfl⟩
instance tz153 : TZ Tryz.prog 153 [.slice none 0 0] := ⟨by kernel_rfl⟩
instance ti154 : TI Tryz.prog 154 false 1 24 := ⟨by kernel_rfl⟩
instance te154 : TE Tryz.prog 154 213 := ⟨by kernel_rfl⟩
instance tz154 : TZ Tryz.prog 154 [.slice none 0 0] := ⟨by kernel_rfl⟩
instance ti156 : TI Tryz.prog 156 true 6 136 := ⟨by kernel_rfl⟩
instance tf156_0 : TF Tryz.prog 156 0 0 := ⟨by kernel_rfl⟩
instance tf156_1 : TF Tryz.prog 156 1 1 := ⟨by kernel_rfl⟩
instance tf156_2 : TF Tryz.prog 156 2 2 := ⟨by kernel_rfl⟩
instance tf156_3 : TF Tryz.prog 156 3 3 := ⟨by kernel_rfl⟩
instance tf156_4 : TF Tryz.prog 156 4 4 := ⟨by kernel_rfl⟩
instance tf156_5 : TF Tryz.prog 156 5 5 := ⟨by kernel_rfl⟩
instance tbd156 : TBd Tryz.prog 156 := ⟨by kernel_rfl⟩
instance tfs156_0 : TFS Tryz.prog 156 0 0 1 := ⟨by kernel_rfl⟩
instance tfs156_1 : TFS Tryz.prog 156 1 1 1 := ⟨by kernel_rfl⟩
instance tfs156_2 : TFS Tryz.prog 156 2 2 1 := ⟨by kernel_rfl⟩
instance tfs156_3 : TFS Tryz.prog 156 3 3 1 := ⟨by kernel_rfl⟩
instance tfs156_4 : TFS Tryz.prog 156 4 4 1 := ⟨by kernel_rfl⟩
instance tfs156_5 : TFS Tryz.prog 156 5 5 1 := ⟨by kernel_rfl⟩
instance tz156 : TZ Tryz.prog 156 [.string ⟨#[]⟩, .slice none 0 0, .slice none 0 0, .slice none 0 0, .slice none 0 0, .slice none 0 0] := ⟨by kernel_rfl⟩
instance ti175 : TI Tryz.prog 175 false 1 24 := ⟨by kernel_rfl⟩
instance te175 : TE Tryz.prog 175 5 := ⟨by kernel_rfl⟩
instance tz175 : TZ Tryz.prog 175 [.slice none 0 0] := ⟨by kernel_rfl⟩
instance ti177 : TI Tryz.prog 177 false 1 24 := ⟨by kernel_rfl⟩
instance te177 : TE Tryz.prog 177 221 := ⟨by kernel_rfl⟩
instance tz177 : TZ Tryz.prog 177 [.slice none 0 0] := ⟨by kernel_rfl⟩
instance ti180 : TI Tryz.prog 180 false 1 8 := ⟨by kernel_rfl⟩
instance tz180 : TZ Tryz.prog 180 [.pointer none] := ⟨by kernel_rfl⟩
instance ti211 : TI Tryz.prog 211 false 1 24 := ⟨by kernel_rfl⟩
instance te211 : TE Tryz.prog 211 271 := ⟨by kernel_rfl⟩
instance tz211 : TZ Tryz.prog 211 [.slice none 0 0] := ⟨by kernel_rfl⟩
instance ti213 : TI Tryz.prog 213 true 16 280 := ⟨by kernel_rfl⟩
instance tf213_0 : TF Tryz.prog 213 0 0 := ⟨by kernel_rfl⟩
instance tf213_1 : TF Tryz.prog 213 1 1 := ⟨by kernel_rfl⟩
instance tf213_2 : TF Tryz.prog 213 2 2 := ⟨by kernel_rfl⟩
instance tf213_3 : TF Tryz.prog 213 3 3 := ⟨by kernel_rfl⟩
instance tf213_4 : TF Tryz.prog 213 4 4 := ⟨by kernel_rfl⟩
instance tf213_5 : TF Tryz.prog 213 5 7 := ⟨by kernel_rfl⟩
instance tbd213 : TBd Tryz.prog 213 := ⟨by kernel_rfl⟩
instance tfs213_0 : TFS Tryz.prog 213 0 0 1 := ⟨by kernel_rfl⟩
instance tfs213_1 : TFS Tryz.prog 213 1 1 1 := ⟨by kernel_rfl⟩
instance tfs213_2 : TFS Tryz.prog 213 2 2 1 := ⟨by kernel_rfl⟩
instance tfs213_3 : TFS Tryz.prog 213 3 3 1 := ⟨by kernel_rfl⟩
instance tfs213_4 : TFS Tryz.prog 213 4 4 3 := ⟨by kernel_rfl⟩
instance tfs213_5 : TFS Tryz.prog 213 5 7 9 := ⟨by kernel_rfl⟩
instance tz213 : TZ Tryz.prog 213 [.string ⟨#[]⟩, .slice none 0 0, .slice none 0 0, .slice none 0 0, .int .i64 0, .string ⟨#[]⟩, .slice none 0 0, .int .i64 0, .string ⟨#[]⟩, .string ⟨#[]⟩, .int .i64 0, .int .i64 0, .string ⟨#[]⟩, .slice none 0 0, .slice none 0 0, .slice none 0 0] := ⟨by kernel_rfl⟩
instance ti219 : TI Tryz.prog 219 false 1 24 := ⟨by kernel_rfl⟩
instance te219 : TE Tryz.prog 219 3 := ⟨by kernel_rfl⟩
instance tz219 : TZ Tryz.prog 219 [.slice none 0 0] := ⟨by kernel_rfl⟩
instance ti221 : TI Tryz.prog 221 true 6 96 := ⟨by kernel_rfl⟩
instance tf221_0 : TF Tryz.prog 221 0 0 := ⟨by kernel_rfl⟩
instance tf221_1 : TF Tryz.prog 221 1 4 := ⟨by kernel_rfl⟩
instance tf221_2 : TF Tryz.prog 221 2 5 := ⟨by kernel_rfl⟩
instance tbd221 : TBd Tryz.prog 221 := ⟨by kernel_rfl⟩
instance tfs221_0 : TFS Tryz.prog 221 0 0 4 := ⟨by kernel_rfl⟩
instance tfs221_1 : TFS Tryz.prog 221 1 4 1 := ⟨by kernel_rfl⟩
instance tfs221_2 : TFS Tryz.prog 221 2 5 1 := ⟨by kernel_rfl⟩
instance tz221 : TZ Tryz.prog 221 [.string ⟨#[]⟩, .int .i64 0, .string ⟨#[]⟩, .slice none 0 0, .int .i64 0, .slice none 0 0] := ⟨by kernel_rfl⟩
instance ti226 : TI Tryz.prog 226 true 2 48 := ⟨by kernel_rfl⟩
instance tf226_0 : TF Tryz.prog 226 0 0 := ⟨by kernel_rfl⟩
instance tf226_1 : TF Tryz.prog 226 1 1 := ⟨by kernel_rfl⟩
instance tbd226 : TBd Tryz.prog 226 := ⟨by kernel_rfl⟩
instance tfs226_0 : TFS Tryz.prog 226 0 0 1 := ⟨by kernel_rfl⟩
instance tfs226_1 : TFS Tryz.prog 226 1 1 1 := ⟨by kernel_rfl⟩
instance tz226 : TZ Tryz.prog 226 [.slice none 0 0, .slice none 0 0] := ⟨by kernel_rfl⟩
instance ti238 : TI Tryz.prog 238 false 1 24 := ⟨by kernel_rfl⟩
instance te238 : TE Tryz.prog 238 315 := ⟨by kernel_rfl⟩
instance tz238 : TZ Tryz.prog 238 [.slice none 0 0] := ⟨by kernel_rfl⟩
instance ti240 : TI Tryz.prog 240 true 5 72 := ⟨by kernel_rfl⟩
instance tf240_0 : TF Tryz.prog 240 0 0 := ⟨by kernel_rfl⟩
instance tf240_1 : TF Tryz.prog 240 1 1 := ⟨by kernel_rfl⟩
instance tf240_2 : TF Tryz.prog 240 2 2 := ⟨by kernel_rfl⟩
instance tf240_3 : TF Tryz.prog 240 3 3 := ⟨by kernel_rfl⟩
instance tf240_4 : TF Tryz.prog 240 4 4 := ⟨by kernel_rfl⟩
instance tbd240 : TBd Tryz.prog 240 := ⟨by kernel_rfl⟩
instance tfs240_0 : TFS Tryz.prog 240 0 0 1 := ⟨by kernel_rfl⟩
instance tfs240_1 : TFS Tryz.prog 240 1 1 1 := ⟨by kernel_rfl⟩
instance tfs240_2 : TFS Tryz.prog 240 2 2 1 := ⟨by kernel_rfl⟩
instance tfs240_3 : TFS Tryz.prog 240 3 3 1 := ⟨by kernel_rfl⟩
instance tfs240_4 : TFS Tryz.prog 240 4 4 1 := ⟨by kernel_rfl⟩
instance tz240 : TZ Tryz.prog 240 [.string ⟨#[]⟩, .slice none 0 0, .bool false, .bool false, .slice none 0 0] := ⟨by kernel_rfl⟩
instance ti242 : TI Tryz.prog 242 false 1 24 := ⟨by kernel_rfl⟩
instance te242 : TE Tryz.prog 242 318 := ⟨by kernel_rfl⟩
instance tz242 : TZ Tryz.prog 242 [.slice none 0 0] := ⟨by kernel_rfl⟩
instance ti244 : TI Tryz.prog 244 true 3 64 := ⟨by kernel_rfl⟩
instance tf244_0 : TF Tryz.prog 244 0 0 := ⟨by kernel_rfl⟩
instance tf244_1 : TF Tryz.prog 244 1 1 := ⟨by kernel_rfl⟩
instance tf244_2 : TF Tryz.prog 244 2 2 := ⟨by kernel_rfl⟩
instance tbd244 : TBd Tryz.prog 244 := ⟨by kernel_rfl⟩
instance tfs244_0 : TFS Tryz.prog 244 0 0 1 := ⟨by kernel_rfl⟩
instance tfs244_1 : TFS Tryz.prog 244 1 1 1 := ⟨by kernel_rfl⟩
instance tfs244_2 : TFS Tryz.prog 244 2 2 1 := ⟨by kernel_rfl⟩
instance tz244 : TZ Tryz.prog 244 [.string ⟨#[]⟩, .slice none 0 0, .slice none 0 0] := ⟨by kernel_rfl⟩
instance ti246 : TI Tryz.prog 246 false 1 24 := ⟨by kernel_rfl⟩
instance te246 : TE Tryz.prog 246 321 := ⟨by kernel_rfl⟩
instance tz246 : TZ Tryz.prog 246 [.slice none 0 0] := ⟨by kernel_rfl⟩
instance ti248 : TI Tryz.prog 248 true 12 192 := ⟨by kernel_rfl⟩
instance tf248_0 : TF Tryz.prog 248 0 0 := ⟨by kernel_rfl⟩
instance tf248_1 : TF Tryz.prog 248 1 1 := ⟨by kernel_rfl⟩
instance tf248_2 : TF Tryz.prog 248 2 2 := ⟨by kernel_rfl⟩
instance tf248_3 : TF Tryz.prog 248 3 5 := ⟨by kernel_rfl⟩
instance tf248_4 : TF Tryz.prog 248 4 6 := ⟨by kernel_rfl⟩
instance tf248_5 : TF Tryz.prog 248 5 7 := ⟨by kernel_rfl⟩
instance tf248_6 : TF Tryz.prog 248 6 8 := ⟨by kernel_rfl⟩
instance tf248_7 : TF Tryz.prog 248 7 11 := ⟨by kernel_rfl⟩
instance tbd248 : TBd Tryz.prog 248 := ⟨by kernel_rfl⟩
instance tfs248_0 : TFS Tryz.prog 248 0 0 1 := ⟨by kernel_rfl⟩
instance tfs248_1 : TFS Tryz.prog 248 1 1 1 := ⟨by kernel_rfl⟩
instance tfs248_2 : TFS Tryz.prog 248 2 2 3 := ⟨by kernel_rfl⟩
instance tfs248_3 : TFS Tryz.prog 248 3 5 1 := ⟨by kernel_rfl⟩
instance tfs248_4 : TFS Tryz.prog 248 4 6 1 := ⟨by kernel_rfl⟩
instance tfs248_5 : TFS Tryz.prog 248 5 7 1 := ⟨by kernel_rfl⟩
instance tfs248_6 : TFS Tryz.prog 248 6 8 3 := ⟨by kernel_rfl⟩
instance tfs248_7 : TFS Tryz.prog 248 7 11 1 := ⟨by kernel_rfl⟩
instance tz248 : TZ Tryz.prog 248 [.string ⟨#[]⟩, .slice none 0 0, .int .i64 0, .string ⟨#[]⟩, .slice none 0 0, .slice none 0 0, .bool false, .bool false, .int .i64 0, .string ⟨#[]⟩, .slice none 0 0, .slice none 0 0] := ⟨by kernel_rfl⟩
instance ti250 : TI Tryz.prog 250 false 1 24 := ⟨by kernel_rfl⟩
instance te250 : TE Tryz.prog 250 324 := ⟨by kernel_rfl⟩
instance tz250 : TZ Tryz.prog 250 [.slice none 0 0] := ⟨by kernel_rfl⟩
instance ti251 : TI Tryz.prog 251 false 1 24 := ⟨by kernel_rfl⟩
instance te251 : TE Tryz.prog 251 254 := ⟨by kernel_rfl⟩
instance tz251 : TZ Tryz.prog 251 [.slice none 0 0] := ⟨by kernel_rfl⟩
instance ti252 : TI Tryz.prog 252 false 1 24 := ⟨by kernel_rfl⟩
instance te252 : TE Tryz.prog 252 345 := ⟨by kernel_rfl⟩
instance tz252 : TZ Tryz.prog 252 [.slice none 0 0] := ⟨by kernel_rfl⟩
instance ti254 : TI Tryz.prog 254 true 9 144 := ⟨by kernel_rfl⟩
instance tf254_0 : TF Tryz.prog 254 0 0 := ⟨by kernel_rfl⟩
instance tf254_1 : TF Tryz.prog 254 1 1 := ⟨by kernel_rfl⟩
instance tf254_2 : TF Tryz.prog 254 2 2 := ⟨by kernel_rfl⟩
instance tf254_3 : TF Tryz.prog 254 3 3 := ⟨by kernel_rfl⟩
instance tf254_4 : TF Tryz.prog 254 4 4 := ⟨by kernel_rfl⟩
instance tf254_5 : TF Tryz.prog 254 5 7 := ⟨by kernel_rfl⟩
instance tf254_6 : TF Tryz.prog 254 6 8 := ⟨by kernel_rfl⟩
instance tbd254 : TBd Tryz.prog 254 := ⟨by kernel_rfl⟩
instance tfs254_0 : TFS Tryz.prog 254 0 0 1 := ⟨by kernel_rfl⟩
instance tfs254_1 : TFS Tryz.prog 254 1 1 1 := ⟨by kernel_rfl⟩
instance tfs254_2 : TFS Tryz.prog 254 2 2 1 := ⟨by kernel_rfl⟩
instance tfs254_3 : TFS Tryz.prog 254 3 3 1 := ⟨by kernel_rfl⟩
instance tfs254_4 : TFS Tryz.prog 254 4 4 3 := ⟨by kernel_rfl⟩
instance tfs254_5 : TFS Tryz.prog 254 5 7 1 := ⟨by kernel_rfl⟩
instance tfs254_6 : TFS Tryz.prog 254 6 8 1 := ⟨by kernel_rfl⟩
instance tz254 : TZ Tryz.prog 254 [.int .i64 0, .string ⟨#[]⟩, .string ⟨#[]⟩, .int .i64 0, .int .i64 0, .string ⟨#[]⟩, .slice none 0 0, .slice none 0 0, .slice none 0 0] := ⟨by kernel_rfl⟩
instance ti256 : TI Tryz.prog 256 true 16 280 := ⟨by kernel_rfl⟩
instance tf256_0 : TF Tryz.prog 256 0 0 := ⟨by kernel_rfl⟩
instance tf256_1 : TF Tryz.prog 256 1 1 := ⟨by kernel_rfl⟩
instance tf256_2 : TF Tryz.prog 256 2 2 := ⟨by kernel_rfl⟩
instance tf256_3 : TF Tryz.prog 256 3 3 := ⟨by kernel_rfl⟩
instance tf256_4 : TF Tryz.prog 256 4 4 := ⟨by kernel_rfl⟩
instance tf256_5 : TF Tryz.prog 256 5 7 := ⟨by kernel_rfl⟩
instance tbd256 : TBd Tryz.prog 256 := ⟨by kernel_rfl⟩
instance tfs256_0 : TFS Tryz.prog 256 0 0 1 := ⟨by kernel_rfl⟩
instance tfs256_1 : TFS Tryz.prog 256 1 1 1 := ⟨by kernel_rfl⟩
instance tfs256_2 : TFS Tryz.prog 256 2 2 1 := ⟨by kernel_rfl⟩
instance tfs256_3 : TFS Tryz.prog 256 3 3 1 := ⟨by kernel_rfl⟩
instance tfs256_4 : TFS Tryz.prog 256 4 4 3 := ⟨by kernel_rfl⟩
instance tfs256_5 : TFS Tryz.prog 256 5 7 9 := ⟨by kernel_rfl⟩
instance tz256 : TZ Tryz.prog 256 [.string ⟨#[]⟩, .slice none 0 0, .slice none 0 0, .slice none 0 0, .int .i64 0, .string ⟨#[]⟩, .slice none 0 0, .int .i64 0, .string ⟨#[]⟩, .string ⟨#[]⟩, .int .i64 0, .int .i64 0, .string ⟨#[]⟩, .slice none 0 0, .slice none 0 0, .slice none 0 0] := ⟨by kernel_rfl⟩
instance ti267 : TI Tryz.prog 267 true 2 40 := ⟨by kernel_rfl⟩
instance tf267_0 : TF Tryz.prog 267 0 0 := ⟨by kernel_rfl⟩
instance tf267_1 : TF Tryz.prog 267 1 1 := ⟨by kernel_rfl⟩
instance tbd267 : TBd Tryz.prog 267 := ⟨by kernel_rfl⟩
instance tfs267_0 : TFS Tryz.prog 267 0 0 1 := ⟨by kernel_rfl⟩
instance tfs267_1 : TFS Tryz.prog 267 1 1 1 := ⟨by kernel_rfl⟩
instance tz267 : TZ Tryz.prog 267 [.string ⟨#[]⟩, .slice none 0 0] := ⟨by kernel_rfl⟩
instance ti269 : TI Tryz.prog 269 true 11 184 := ⟨by kernel_rfl⟩
instance tf269_0 : TF Tryz.prog 269 0 0 := ⟨by kernel_rfl⟩
instance tf269_1 : TF Tryz.prog 269 1 1 := ⟨by kernel_rfl⟩
instance tf269_2 : TF Tryz.prog 269 2 2 := ⟨by kernel_rfl⟩
instance tbd269 : TBd Tryz.prog 269 := ⟨by kernel_rfl⟩
instance tfs269_0 : TFS Tryz.prog 269 0 0 1 := ⟨by kernel_rfl⟩
instance tfs269_1 : TFS Tryz.prog 269 1 1 1 := ⟨by kernel_rfl⟩
instance tfs269_2 : TFS Tryz.prog 269 2 2 9 := ⟨by kernel_rfl⟩
instance tz269 : TZ Tryz.prog 269 [.string ⟨#[]⟩, .slice none 0 0, .int .i64 0, .string ⟨#[]⟩, .string ⟨#[]⟩, .int .i64 0, .int .i64 0, .string ⟨#[]⟩, .slice none 0 0, .slice none 0 0, .slice none 0 0] := ⟨by kernel_rfl⟩
instance ti271 : TI Tryz.prog 271 true 4 64 := ⟨by kernel_rfl⟩
instance tf271_0 : TF Tryz.prog 271 0 0 := ⟨by kernel_rfl⟩
instance tf271_1 : TF Tryz.prog 271 1 1 := ⟨by kernel_rfl⟩
instance tbd271 : TBd Tryz.prog 271 := ⟨by kernel_rfl⟩
instance tfs271_0 : TFS Tryz.prog 271 0 0 1 := ⟨by kernel_rfl⟩
instance tfs271_1 : TFS Tryz.prog 271 1 1 3 := ⟨by kernel_rfl⟩
instance tz271 : TZ Tryz.prog 271 [.string ⟨#[]⟩, .int .i64 0, .string ⟨#[]⟩, .slice none 0 0] := ⟨by kernel_rfl⟩
instance ti273 : TI Tryz.prog 273 true 11 184 := ⟨by kernel_rfl⟩
instance tf273_0 : TF Tryz.prog 273 0 0 := ⟨by kernel_rfl⟩
instance tf273_1 : TF Tryz.prog 273 1 1 := ⟨by kernel_rfl⟩
instance tf273_2 : TF Tryz.prog 273 2 2 := ⟨by kernel_rfl⟩
instance tbd273 : TBd Tryz.prog 273 := ⟨by kernel_rfl⟩
instance tfs273_0 : TFS Tryz.prog 273 0 0 1 := ⟨by kernel_rfl⟩
instance tfs273_1 : TFS Tryz.prog 273 1 1 1 := ⟨by kernel_rfl⟩
instance tfs273_2 : TFS Tryz.prog 273 2 2 9 := ⟨by kernel_rfl⟩
instance tz273 : TZ Tryz.prog 273 [.string ⟨#[]⟩, .slice none 0 0, .int .i64 0, .string ⟨#[]⟩, .string ⟨#[]⟩, .int .i64 0, .int .i64 0, .string ⟨#[]⟩, .slice none 0 0, .slice none 0 0, .slice none 0 0] := ⟨by kernel_rfl⟩
instance ti315 : TI Tryz.prog 315 true 16 264 := ⟨by kernel_rfl⟩
instance tf315_0 : TF Tryz.prog 315 0 0 := ⟨by kernel_rfl⟩
instance tf315_1 : TF Tryz.prog 315 1 1 := ⟨by kernel_rfl⟩
instance tf315_2 : TF Tryz.prog 315 2 2 := ⟨by kernel_rfl⟩
instance tf315_3 : TF Tryz.prog 315 3 5 := ⟨by kernel_rfl⟩
instance tf315_4 : TF Tryz.prog 315 4 6 := ⟨by kernel_rfl⟩
instance tf315_5 : TF Tryz.prog 315 5 7 := ⟨by kernel_rfl⟩
instance tbd315 : TBd Tryz.prog 315 := ⟨by kernel_rfl⟩
instance tfs315_0 : TFS Tryz.prog 315 0 0 1 := ⟨by kernel_rfl⟩
instance tfs315_1 : TFS Tryz.prog 315 1 1 1 := ⟨by kernel_rfl⟩
instance tfs315_2 : TFS Tryz.prog 315 2 2 3 := ⟨by kernel_rfl⟩
instance tfs315_3 : TFS Tryz.prog 315 3 5 1 := ⟨by kernel_rfl⟩
instance tfs315_4 : TFS Tryz.prog 315 4 6 1 := ⟨by kernel_rfl⟩
instance tfs315_5 : TFS Tryz.prog 315 5 7 9 := ⟨by kernel_rfl⟩
instance tz315 : TZ Tryz.prog 315 [.string ⟨#[]⟩, .slice none 0 0, .int .i64 0, .string ⟨#[]⟩, .slice none 0 0, .bool false, .slice none 0 0, .int .i64 0, .string ⟨#[]⟩, .string ⟨#[]⟩, .int .i64 0, .int .i64 0, .string ⟨#[]⟩, .slice none 0 0, .slice none 0 0, .slice none 0 0] := ⟨by kernel_rfl⟩
instance ti318 : TI Tryz.prog 318 true 2 40 := ⟨by kernel_rfl⟩
instance tf318_0 : TF Tryz.prog 318 0 0 := ⟨by kernel_rfl⟩
instance tf318_1 : TF Tryz.prog 318 1 1 := ⟨by kernel_rfl⟩
instance tbd318 : TBd Tryz.prog 318 := ⟨by kernel_rfl⟩
instance tfs318_0 : TFS Tryz.prog 318 0 0 1 := ⟨by kernel_rfl⟩
instance tfs318_1 : TFS Tryz.prog 318 1 1 1 := ⟨by kernel_rfl⟩
instance tz318 : TZ Tryz.prog 318 [.string ⟨#[]⟩, .slice none 0 0] := ⟨by kernel_rfl⟩
instance ti321 : TI Tryz.prog 321 true 11 184 := ⟨by kernel_rfl⟩
instance tf321_0 : TF Tryz.prog 321 0 0 := ⟨by kernel_rfl⟩
instance tf321_1 : TF Tryz.prog 321 1 1 := ⟨by kernel_rfl⟩
instance tf321_2 : TF Tryz.prog 321 2 2 := ⟨by kernel_rfl⟩
instance tbd321 : TBd Tryz.prog 321 := ⟨by kernel_rfl⟩
instance tfs321_0 : TFS Tryz.prog 321 0 0 1 := ⟨by kernel_rfl⟩
instance tfs321_1 : TFS Tryz.prog 321 1 1 1 := ⟨by kernel_rfl⟩
instance tfs321_2 : TFS Tryz.prog 321 2 2 9 := ⟨by kernel_rfl⟩
instance tz321 : TZ Tryz.prog 321 [.string ⟨#[]⟩, .slice none 0 0, .int .i64 0, .string ⟨#[]⟩, .string ⟨#[]⟩, .int .i64 0, .int .i64 0, .string ⟨#[]⟩, .slice none 0 0, .slice none 0 0, .slice none 0 0] := ⟨by kernel_rfl⟩
instance ti324 : TI Tryz.prog 324 true 4 64 := ⟨by kernel_rfl⟩
instance tf324_0 : TF Tryz.prog 324 0 0 := ⟨by kernel_rfl⟩
instance tf324_1 : TF Tryz.prog 324 1 1 := ⟨by kernel_rfl⟩
instance tbd324 : TBd Tryz.prog 324 := ⟨by kernel_rfl⟩
instance tfs324_0 : TFS Tryz.prog 324 0 0 1 := ⟨by kernel_rfl⟩
instance tfs324_1 : TFS Tryz.prog 324 1 1 3 := ⟨by kernel_rfl⟩
instance tz324 : TZ Tryz.prog 324 [.string ⟨#[]⟩, .int .i64 0, .string ⟨#[]⟩, .slice none 0 0] := ⟨by kernel_rfl⟩
instance ti341 : TI Tryz.prog 341 false 1 24 := ⟨by kernel_rfl⟩
instance te341 : TE Tryz.prog 341 79 := ⟨by kernel_rfl⟩
instance tz341 : TZ Tryz.prog 341 [.slice none 0 0] := ⟨by kernel_rfl⟩
instance ti345 : TI Tryz.prog 345 true 11 184 := ⟨by kernel_rfl⟩
instance tf345_0 : TF Tryz.prog 345 0 0 := ⟨by kernel_rfl⟩
instance tf345_1 : TF Tryz.prog 345 1 1 := ⟨by kernel_rfl⟩
instance tf345_2 : TF Tryz.prog 345 2 2 := ⟨by kernel_rfl⟩
instance tbd345 : TBd Tryz.prog 345 := ⟨by kernel_rfl⟩
instance tfs345_0 : TFS Tryz.prog 345 0 0 1 := ⟨by kernel_rfl⟩
instance tfs345_1 : TFS Tryz.prog 345 1 1 1 := ⟨by kernel_rfl⟩
instance tfs345_2 : TFS Tryz.prog 345 2 2 9 := ⟨by kernel_rfl⟩
instance tz345 : TZ Tryz.prog 345 [.string ⟨#[]⟩, .slice none 0 0, .int .i64 0, .string ⟨#[]⟩, .string ⟨#[]⟩, .int .i64 0, .int .i64 0, .string ⟨#[]⟩, .slice none 0 0, .slice none 0 0, .slice none 0 0] := ⟨by kernel_rfl⟩
instance ti356 : TI Tryz.prog 356 false 1 4 := ⟨by kernel_rfl⟩
instance tu356 : TU Tryz.prog 356 .u32 := ⟨by kernel_rfl⟩
instance tz356 : TZ Tryz.prog 356 [.int .u32 0] := ⟨by kernel_rfl⟩
instance tp71 : TP Tryz.prog 71 := by
  refine ⟨?_⟩
  intro w a b c d
  refine ⟨by kernel_rfl, ?_⟩
  have hund : Tryz.prog.underlying 71 = some (.struct (Tryz.prog.fieldsOf 71)) := by kernel_rfl
  have hh : Tryz.prog.stoodInHeld 71 = false := by kernel_rfl
  have hf : (Tryz.prog.fieldsOf 71).toList = [{ name := "Package", type := 3, offset := 0, embedded := false, tag := "", pkgPath := "", byteOffset := 0 }, { name := "At", type := 3, offset := 1, embedded := false, tag := "", pkgPath := "", byteOffset := 8 }] := by kernel_rfl
  have hi : Tryz.prog.underlying 3 = some (.int .i64) := by kernel_rfl
  have hg : tyI Tryz.prog 3 = some (false, 1, 8) := by kernel_rfl
  have hint : ∀ (d : Nat) (w : World) (a c : Int), (Op.equalIn (d + 1) 3 (.int .i64 a) (.int .i64 c)).run Tryz.prog w = .ok (a == c) w := by
    intro d w a c
    simp [Op.equalIn, run_underlying hi]
  unfold Op.equal Op.maxDepth
  rw [run_equalIn_struct w 9999 71 _ _ hund hh, hf]
  have h9 := hint 9998
  rw [show 9998 + 1 = 9999 from rfl] at h9
  by_cases h1 : a = c <;> by_cases h2 : b = d <;> simp [Op.eqFields, part, run_isAgg hg, h9, h1, h2]
def tmS : TypeId → Option Sh
  | 3 => some (.int)
  | 4 => some (.bool)
  | 9 => some (.str)
  | 22 => some (.sl (.st 14))
  | 24 => some (.st 15)
  | 25 => some (.sl (.st 1))
  | 27 => some (.st 1)
  | 29 => some (.st 9)
  | 33 => some (.sl (.st 14))
  | 35 => some (.st 15)
  | 37 => some (.sl (.st 1))
  | 39 => some (.st 1)
  | 41 => some (.st 9)
  | 56 => some (.sl (.st 9))
  | 59 => some (.sl (.st 9))
  | 63 => some (.sl (.st 16))
  | 69 => some (.st 16)
  | 71 => some (.st 16)
  | 79 => some (.sl (.str))
  | 80 => some (.sl (.st 5))
  | 82 => some (.st 6)
  | 86 => some (.sl (.st 7))
  | 88 => some (.st 8)
  | 100 => some (.sl (.st 4))
  | 101 => some (.sl (.st 3))
  | 103 => some (.st 4)
  | 105 => some (.st 5)
  | 109 => some (.st 2)
  | 110 => some (.sl (.st 2))
  | 120 => some (.sl (.st 18))
  | 122 => some (.st 18)
  | 126 => some (.sl (.st 10))
  | 128 => some (.st 11)
  | 145 => some (.sl (.st 6))
  | 146 => some (.sl (.st 8))
  | 147 => some (.sl (.st 11))
  | 148 => some (.sl (.st 13))
  | 150 => some (.st 14)
  | 151 => some (.sl (.st 6))
  | 152 => some (.sl (.st 8))
  | 153 => some (.sl (.st 11))
  | 154 => some (.sl (.st 13))
  | 156 => some (.st 14)
  | 177 => some (.sl (.st 17))
  | 211 => some (.sl (.st 12))
  | 213 => some (.st 13)
  | 219 => some (.sl (.int))
  | 221 => some (.st 17)
  | 238 => some (.sl (.st 5))
  | 240 => some (.st 6)
  | 242 => some (.sl (.st 7))
  | 244 => some (.st 8)
  | 246 => some (.sl (.st 10))
  | 248 => some (.st 11)
  | 250 => some (.sl (.st 12))
  | 251 => some (.sl (.st 4))
  | 252 => some (.sl (.st 3))
  | 254 => some (.st 4)
  | 256 => some (.st 13)
  | 267 => some (.st 7)
  | 269 => some (.st 10)
  | 271 => some (.st 12)
  | 273 => some (.st 3)
  | 315 => some (.st 5)
  | 318 => some (.st 7)
  | 321 => some (.st 10)
  | 324 => some (.st 12)
  | 341 => some (.sl (.sl (.str)))
  | 345 => some (.st 3)
  | _ => none
theorem tmk3 : tmOk Tryz.prog tmS 3 (.int) := Tryz.underlying3
theorem tmk4 : tmOk Tryz.prog tmS 4 (.bool) := Tryz.underlying4
theorem tmk9 : tmOk Tryz.prog tmS 9 (.str) := Tryz.underlying9
theorem tmk22 : tmOk Tryz.prog tmS 22 (.sl (.st 14)) := ⟨150, Tryz.underlying22, rfl, by kernel_rfl, by decide, by decide +kernel⟩
theorem tmk24 : tmOk Tryz.prog tmS 24 (.st 15) := ⟨_, Tryz.underlying24, by kernel_rfl, And.intro rfl (And.intro rfl (And.intro (by kernel_rfl) (trivial)))⟩
theorem tmk25 : tmOk Tryz.prog tmS 25 (.sl (.st 1)) := ⟨27, Tryz.underlying25, rfl, by kernel_rfl, by decide, by decide +kernel⟩
theorem tmk27 : tmOk Tryz.prog tmS 27 (.st 1) := ⟨_, Tryz.underlying27, by kernel_rfl, And.intro rfl (And.intro rfl (And.intro (by kernel_rfl) (And.intro rfl (And.intro rfl (And.intro (by kernel_rfl) (And.intro rfl (And.intro rfl (And.intro (by kernel_rfl) (trivial)))))))))⟩
theorem tmk29 : tmOk Tryz.prog tmS 29 (.st 9) := ⟨_, Tryz.underlying29, by kernel_rfl, And.intro rfl (And.intro rfl (And.intro (by kernel_rfl) (And.intro rfl (And.intro rfl (And.intro (by kernel_rfl) (trivial))))))⟩
theorem tmk33 : tmOk Tryz.prog tmS 33 (.sl (.st 14)) := ⟨156, Tryz.underlying33, rfl, by kernel_rfl, by decide, by decide +kernel⟩
theorem tmk35 : tmOk Tryz.prog tmS 35 (.st 15) := ⟨_, Tryz.underlying35, by kernel_rfl, And.intro rfl (And.intro rfl (And.intro (by kernel_rfl) (trivial)))⟩
theorem tmk37 : tmOk Tryz.prog tmS 37 (.sl (.st 1)) := ⟨39, Tryz.underlying37, rfl, by kernel_rfl, by decide, by decide +kernel⟩
theorem tmk39 : tmOk Tryz.prog tmS 39 (.st 1) := ⟨_, Tryz.underlying39, by kernel_rfl, And.intro rfl (And.intro rfl (And.intro (by kernel_rfl) (And.intro rfl (And.intro rfl (And.intro (by kernel_rfl) (And.intro rfl (And.intro rfl (And.intro (by kernel_rfl) (trivial)))))))))⟩
theorem tmk41 : tmOk Tryz.prog tmS 41 (.st 9) := ⟨_, Tryz.underlying41, by kernel_rfl, And.intro rfl (And.intro rfl (And.intro (by kernel_rfl) (And.intro rfl (And.intro rfl (And.intro (by kernel_rfl) (trivial))))))⟩
theorem tmk56 : tmOk Tryz.prog tmS 56 (.sl (.st 9)) := ⟨29, Tryz.underlying56, rfl, by kernel_rfl, by decide, by decide +kernel⟩
theorem tmk59 : tmOk Tryz.prog tmS 59 (.sl (.st 9)) := ⟨41, Tryz.underlying59, rfl, by kernel_rfl, by decide, by decide +kernel⟩
theorem tmk63 : tmOk Tryz.prog tmS 63 (.sl (.st 16)) := ⟨71, Tryz.underlying63, rfl, by kernel_rfl, by decide, by decide +kernel⟩
theorem tmk69 : tmOk Tryz.prog tmS 69 (.st 16) := ⟨_, Tryz.underlying69, by kernel_rfl, And.intro rfl (And.intro rfl (And.intro (by kernel_rfl) (And.intro rfl (And.intro rfl (And.intro (by kernel_rfl) (trivial))))))⟩
theorem tmk71 : tmOk Tryz.prog tmS 71 (.st 16) := ⟨_, Tryz.underlying71, by kernel_rfl, And.intro rfl (And.intro rfl (And.intro (by kernel_rfl) (And.intro rfl (And.intro rfl (And.intro (by kernel_rfl) (trivial))))))⟩
theorem tmk79 : tmOk Tryz.prog tmS 79 (.sl (.str)) := ⟨9, Tryz.underlying79, rfl, by kernel_rfl, by decide, by decide +kernel⟩
theorem tmk80 : tmOk Tryz.prog tmS 80 (.sl (.st 5)) := ⟨105, Tryz.underlying80, rfl, by kernel_rfl, by decide, by decide +kernel⟩
theorem tmk82 : tmOk Tryz.prog tmS 82 (.st 6) := ⟨_, Tryz.underlying82, by kernel_rfl, And.intro rfl (And.intro rfl (And.intro (by kernel_rfl) (And.intro rfl (And.intro rfl (And.intro (by kernel_rfl) (And.intro rfl (And.intro rfl (And.intro (by kernel_rfl) (And.intro rfl (And.intro rfl (And.intro (by kernel_rfl) (And.intro rfl (And.intro rfl (And.intro (by kernel_rfl) (trivial)))))))))))))))⟩
theorem tmk86 : tmOk Tryz.prog tmS 86 (.sl (.st 7)) := ⟨267, Tryz.underlying86, rfl, by kernel_rfl, by decide, by decide +kernel⟩
theorem tmk88 : tmOk Tryz.prog tmS 88 (.st 8) := ⟨_, Tryz.underlying88, by kernel_rfl, And.intro rfl (And.intro rfl (And.intro (by kernel_rfl) (And.intro rfl (And.intro rfl (And.intro (by kernel_rfl) (And.intro rfl (And.intro rfl (And.intro (by kernel_rfl) (trivial)))))))))⟩
theorem tmk100 : tmOk Tryz.prog tmS 100 (.sl (.st 4)) := ⟨103, Tryz.underlying100, rfl, by kernel_rfl, by decide, by decide +kernel⟩
theorem tmk101 : tmOk Tryz.prog tmS 101 (.sl (.st 3)) := ⟨273, Tryz.underlying101, rfl, by kernel_rfl, by decide, by decide +kernel⟩
theorem tmk103 : tmOk Tryz.prog tmS 103 (.st 4) := ⟨_, Tryz.underlying103, by kernel_rfl, And.intro rfl (And.intro rfl (And.intro (by kernel_rfl) (And.intro rfl (And.intro rfl (And.intro (by kernel_rfl) (And.intro rfl (And.intro rfl (And.intro (by kernel_rfl) (And.intro rfl (And.intro rfl (And.intro (by kernel_rfl) (And.intro rfl (And.intro rfl (And.intro (by kernel_rfl) (And.intro rfl (And.intro rfl (And.intro (by kernel_rfl) (And.intro rfl (And.intro rfl (And.intro (by kernel_rfl) (trivial)))))))))))))))))))))⟩
theorem tmk105 : tmOk Tryz.prog tmS 105 (.st 5) := ⟨_, Tryz.underlying105, by kernel_rfl, And.intro rfl (And.intro rfl (And.intro (by kernel_rfl) (And.intro rfl (And.intro rfl (And.intro (by kernel_rfl) (And.intro rfl (And.intro rfl (And.intro (by kernel_rfl) (And.intro rfl (And.intro rfl (And.intro (by kernel_rfl) (And.intro rfl (And.intro rfl (And.intro (by kernel_rfl) (And.intro rfl (And.intro rfl (And.intro (by kernel_rfl) (trivial))))))))))))))))))⟩
theorem tmk109 : tmOk Tryz.prog tmS 109 (.st 2) := ⟨_, Tryz.underlying109, by kernel_rfl, And.intro rfl (And.intro rfl (And.intro (by kernel_rfl) (And.intro rfl (And.intro rfl (And.intro (by kernel_rfl) (trivial))))))⟩
theorem tmk110 : tmOk Tryz.prog tmS 110 (.sl (.st 2)) := ⟨109, Tryz.underlying110, rfl, by kernel_rfl, by decide, by decide +kernel⟩
theorem tmk120 : tmOk Tryz.prog tmS 120 (.sl (.st 18)) := ⟨122, Tryz.underlying120, rfl, by kernel_rfl, by decide, by decide +kernel⟩
theorem tmk122 : tmOk Tryz.prog tmS 122 (.st 18) := ⟨_, Tryz.underlying122, by kernel_rfl, And.intro rfl (And.intro rfl (And.intro (by kernel_rfl) (And.intro rfl (And.intro rfl (And.intro (by kernel_rfl) (And.intro rfl (And.intro rfl (And.intro (by kernel_rfl) (And.intro rfl (And.intro rfl (And.intro (by kernel_rfl) (trivial))))))))))))⟩
theorem tmk126 : tmOk Tryz.prog tmS 126 (.sl (.st 10)) := ⟨269, Tryz.underlying126, rfl, by kernel_rfl, by decide, by decide +kernel⟩
theorem tmk128 : tmOk Tryz.prog tmS 128 (.st 11) := ⟨_, Tryz.underlying128, by kernel_rfl, And.intro rfl (And.intro rfl (And.intro (by kernel_rfl) (And.intro rfl (And.intro rfl (And.intro (by kernel_rfl) (And.intro rfl (And.intro rfl (And.intro (by kernel_rfl) (And.intro rfl (And.intro rfl (And.intro (by kernel_rfl) (And.intro rfl (And.intro rfl (And.intro (by kernel_rfl) (And.intro rfl (And.intro rfl (And.intro (by kernel_rfl) (And.intro rfl (And.intro rfl (And.intro (by kernel_rfl) (And.intro rfl (And.intro rfl (And.intro (by kernel_rfl) (trivial))))))))))))))))))))))))⟩
theorem tmk145 : tmOk Tryz.prog tmS 145 (.sl (.st 6)) := ⟨240, Tryz.underlying145, rfl, by kernel_rfl, by decide, by decide +kernel⟩
theorem tmk146 : tmOk Tryz.prog tmS 146 (.sl (.st 8)) := ⟨244, Tryz.underlying146, rfl, by kernel_rfl, by decide, by decide +kernel⟩
theorem tmk147 : tmOk Tryz.prog tmS 147 (.sl (.st 11)) := ⟨248, Tryz.underlying147, rfl, by kernel_rfl, by decide, by decide +kernel⟩
theorem tmk148 : tmOk Tryz.prog tmS 148 (.sl (.st 13)) := ⟨256, Tryz.underlying148, rfl, by kernel_rfl, by decide, by decide +kernel⟩
theorem tmk150 : tmOk Tryz.prog tmS 150 (.st 14) := ⟨_, Tryz.underlying150, by kernel_rfl, And.intro rfl (And.intro rfl (And.intro (by kernel_rfl) (And.intro rfl (And.intro rfl (And.intro (by kernel_rfl) (And.intro rfl (And.intro rfl (And.intro (by kernel_rfl) (And.intro rfl (And.intro rfl (And.intro (by kernel_rfl) (And.intro rfl (And.intro rfl (And.intro (by kernel_rfl) (And.intro rfl (And.intro rfl (And.intro (by kernel_rfl) (trivial))))))))))))))))))⟩
theorem tmk151 : tmOk Tryz.prog tmS 151 (.sl (.st 6)) := ⟨82, Tryz.underlying151, rfl, by kernel_rfl, by decide, by decide +kernel⟩
theorem tmk152 : tmOk Tryz.prog tmS 152 (.sl (.st 8)) := ⟨88, Tryz.underlying152, rfl, by kernel_rfl, by decide, by decide +kernel⟩
theorem tmk153 : tmOk Tryz.prog tmS 153 (.sl (.st 11)) := ⟨128, Tryz.underlying153, rfl, by kernel_rfl, by decide, by decide +kernel⟩
theorem tmk154 : tmOk Tryz.prog tmS 154 (.sl (.st 13)) := ⟨213, Tryz.underlying154, rfl, by kernel_rfl, by decide, by decide +kernel⟩
theorem tmk156 : tmOk Tryz.prog tmS 156 (.st 14) := ⟨_, Tryz.underlying156, by kernel_rfl, And.intro rfl (And.intro rfl (And.intro (by kernel_rfl) (And.intro rfl (And.intro rfl (And.intro (by kernel_rfl) (And.intro rfl (And.intro rfl (And.intro (by kernel_rfl) (And.intro rfl (And.intro rfl (And.intro (by kernel_rfl) (And.intro rfl (And.intro rfl (And.intro (by kernel_rfl) (And.intro rfl (And.intro rfl (And.intro (by kernel_rfl) (trivial))))))))))))))))))⟩
theorem tmk177 : tmOk Tryz.prog tmS 177 (.sl (.st 17)) := ⟨221, Tryz.underlying177, rfl, by kernel_rfl, by decide, by decide +kernel⟩
theorem tmk211 : tmOk Tryz.prog tmS 211 (.sl (.st 12)) := ⟨271, Tryz.underlying211, rfl, by kernel_rfl, by decide, by decide +kernel⟩
theorem tmk213 : tmOk Tryz.prog tmS 213 (.st 13) := ⟨_, Tryz.underlying213, by kernel_rfl, And.intro rfl (And.intro rfl (And.intro (by kernel_rfl) (And.intro rfl (And.intro rfl (And.intro (by kernel_rfl) (And.intro rfl (And.intro rfl (And.intro (by kernel_rfl) (And.intro rfl (And.intro rfl (And.intro (by kernel_rfl) (And.intro rfl (And.intro rfl (And.intro (by kernel_rfl) (And.intro rfl (And.intro rfl (And.intro (by kernel_rfl) (trivial))))))))))))))))))⟩
theorem tmk219 : tmOk Tryz.prog tmS 219 (.sl (.int)) := ⟨3, Tryz.underlying219, rfl, by kernel_rfl, by decide, by decide +kernel⟩
theorem tmk221 : tmOk Tryz.prog tmS 221 (.st 17) := ⟨_, Tryz.underlying221, by kernel_rfl, And.intro rfl (And.intro rfl (And.intro (by kernel_rfl) (And.intro rfl (And.intro rfl (And.intro (by kernel_rfl) (And.intro rfl (And.intro rfl (And.intro (by kernel_rfl) (trivial)))))))))⟩
theorem tmk238 : tmOk Tryz.prog tmS 238 (.sl (.st 5)) := ⟨315, Tryz.underlying238, rfl, by kernel_rfl, by decide, by decide +kernel⟩
theorem tmk240 : tmOk Tryz.prog tmS 240 (.st 6) := ⟨_, Tryz.underlying240, by kernel_rfl, And.intro rfl (And.intro rfl (And.intro (by kernel_rfl) (And.intro rfl (And.intro rfl (And.intro (by kernel_rfl) (And.intro rfl (And.intro rfl (And.intro (by kernel_rfl) (And.intro rfl (And.intro rfl (And.intro (by kernel_rfl) (And.intro rfl (And.intro rfl (And.intro (by kernel_rfl) (trivial)))))))))))))))⟩
theorem tmk242 : tmOk Tryz.prog tmS 242 (.sl (.st 7)) := ⟨318, Tryz.underlying242, rfl, by kernel_rfl, by decide, by decide +kernel⟩
theorem tmk244 : tmOk Tryz.prog tmS 244 (.st 8) := ⟨_, Tryz.underlying244, by kernel_rfl, And.intro rfl (And.intro rfl (And.intro (by kernel_rfl) (And.intro rfl (And.intro rfl (And.intro (by kernel_rfl) (And.intro rfl (And.intro rfl (And.intro (by kernel_rfl) (trivial)))))))))⟩
theorem tmk246 : tmOk Tryz.prog tmS 246 (.sl (.st 10)) := ⟨321, Tryz.underlying246, rfl, by kernel_rfl, by decide, by decide +kernel⟩
theorem tmk248 : tmOk Tryz.prog tmS 248 (.st 11) := ⟨_, Tryz.underlying248, by kernel_rfl, And.intro rfl (And.intro rfl (And.intro (by kernel_rfl) (And.intro rfl (And.intro rfl (And.intro (by kernel_rfl) (And.intro rfl (And.intro rfl (And.intro (by kernel_rfl) (And.intro rfl (And.intro rfl (And.intro (by kernel_rfl) (And.intro rfl (And.intro rfl (And.intro (by kernel_rfl) (And.intro rfl (And.intro rfl (And.intro (by kernel_rfl) (And.intro rfl (And.intro rfl (And.intro (by kernel_rfl) (And.intro rfl (And.intro rfl (And.intro (by kernel_rfl) (trivial))))))))))))))))))))))))⟩
theorem tmk250 : tmOk Tryz.prog tmS 250 (.sl (.st 12)) := ⟨324, Tryz.underlying250, rfl, by kernel_rfl, by decide, by decide +kernel⟩
theorem tmk251 : tmOk Tryz.prog tmS 251 (.sl (.st 4)) := ⟨254, Tryz.underlying251, rfl, by kernel_rfl, by decide, by decide +kernel⟩
theorem tmk252 : tmOk Tryz.prog tmS 252 (.sl (.st 3)) := ⟨345, Tryz.underlying252, rfl, by kernel_rfl, by decide, by decide +kernel⟩
theorem tmk254 : tmOk Tryz.prog tmS 254 (.st 4) := ⟨_, Tryz.underlying254, by kernel_rfl, And.intro rfl (And.intro rfl (And.intro (by kernel_rfl) (And.intro rfl (And.intro rfl (And.intro (by kernel_rfl) (And.intro rfl (And.intro rfl (And.intro (by kernel_rfl) (And.intro rfl (And.intro rfl (And.intro (by kernel_rfl) (And.intro rfl (And.intro rfl (And.intro (by kernel_rfl) (And.intro rfl (And.intro rfl (And.intro (by kernel_rfl) (And.intro rfl (And.intro rfl (And.intro (by kernel_rfl) (trivial)))))))))))))))))))))⟩
theorem tmk256 : tmOk Tryz.prog tmS 256 (.st 13) := ⟨_, Tryz.underlying256, by kernel_rfl, And.intro rfl (And.intro rfl (And.intro (by kernel_rfl) (And.intro rfl (And.intro rfl (And.intro (by kernel_rfl) (And.intro rfl (And.intro rfl (And.intro (by kernel_rfl) (And.intro rfl (And.intro rfl (And.intro (by kernel_rfl) (And.intro rfl (And.intro rfl (And.intro (by kernel_rfl) (And.intro rfl (And.intro rfl (And.intro (by kernel_rfl) (trivial))))))))))))))))))⟩
theorem tmk267 : tmOk Tryz.prog tmS 267 (.st 7) := ⟨_, Tryz.underlying267, by kernel_rfl, And.intro rfl (And.intro rfl (And.intro (by kernel_rfl) (And.intro rfl (And.intro rfl (And.intro (by kernel_rfl) (trivial))))))⟩
theorem tmk269 : tmOk Tryz.prog tmS 269 (.st 10) := ⟨_, Tryz.underlying269, by kernel_rfl, And.intro rfl (And.intro rfl (And.intro (by kernel_rfl) (And.intro rfl (And.intro rfl (And.intro (by kernel_rfl) (And.intro rfl (And.intro rfl (And.intro (by kernel_rfl) (trivial)))))))))⟩
theorem tmk271 : tmOk Tryz.prog tmS 271 (.st 12) := ⟨_, Tryz.underlying271, by kernel_rfl, And.intro rfl (And.intro rfl (And.intro (by kernel_rfl) (And.intro rfl (And.intro rfl (And.intro (by kernel_rfl) (trivial))))))⟩
theorem tmk273 : tmOk Tryz.prog tmS 273 (.st 3) := ⟨_, Tryz.underlying273, by kernel_rfl, And.intro rfl (And.intro rfl (And.intro (by kernel_rfl) (And.intro rfl (And.intro rfl (And.intro (by kernel_rfl) (And.intro rfl (And.intro rfl (And.intro (by kernel_rfl) (trivial)))))))))⟩
theorem tmk315 : tmOk Tryz.prog tmS 315 (.st 5) := ⟨_, Tryz.underlying315, by kernel_rfl, And.intro rfl (And.intro rfl (And.intro (by kernel_rfl) (And.intro rfl (And.intro rfl (And.intro (by kernel_rfl) (And.intro rfl (And.intro rfl (And.intro (by kernel_rfl) (And.intro rfl (And.intro rfl (And.intro (by kernel_rfl) (And.intro rfl (And.intro rfl (And.intro (by kernel_rfl) (And.intro rfl (And.intro rfl (And.intro (by kernel_rfl) (trivial))))))))))))))))))⟩
theorem tmk318 : tmOk Tryz.prog tmS 318 (.st 7) := ⟨_, Tryz.underlying318, by kernel_rfl, And.intro rfl (And.intro rfl (And.intro (by kernel_rfl) (And.intro rfl (And.intro rfl (And.intro (by kernel_rfl) (trivial))))))⟩
theorem tmk321 : tmOk Tryz.prog tmS 321 (.st 10) := ⟨_, Tryz.underlying321, by kernel_rfl, And.intro rfl (And.intro rfl (And.intro (by kernel_rfl) (And.intro rfl (And.intro rfl (And.intro (by kernel_rfl) (And.intro rfl (And.intro rfl (And.intro (by kernel_rfl) (trivial)))))))))⟩
theorem tmk324 : tmOk Tryz.prog tmS 324 (.st 12) := ⟨_, Tryz.underlying324, by kernel_rfl, And.intro rfl (And.intro rfl (And.intro (by kernel_rfl) (And.intro rfl (And.intro rfl (And.intro (by kernel_rfl) (trivial))))))⟩
theorem tmk341 : tmOk Tryz.prog tmS 341 (.sl (.sl (.str))) := ⟨79, Tryz.underlying341, rfl, by kernel_rfl, by decide, by decide +kernel⟩
theorem tmk345 : tmOk Tryz.prog tmS 345 (.st 3) := ⟨_, Tryz.underlying345, by kernel_rfl, And.intro rfl (And.intro rfl (And.intro (by kernel_rfl) (And.intro rfl (And.intro rfl (And.intro (by kernel_rfl) (And.intro rfl (And.intro rfl (And.intro (by kernel_rfl) (trivial)))))))))⟩
theorem tm_ok : ∀ (T : TypeId) (s : Sh), tmS T = some s → tmOk Tryz.prog tmS T s := by
  intro T s h
  unfold tmS at h
  split at h
  · cases h; exact tmk3
  · cases h; exact tmk4
  · cases h; exact tmk9
  · cases h; exact tmk22
  · cases h; exact tmk24
  · cases h; exact tmk25
  · cases h; exact tmk27
  · cases h; exact tmk29
  · cases h; exact tmk33
  · cases h; exact tmk35
  · cases h; exact tmk37
  · cases h; exact tmk39
  · cases h; exact tmk41
  · cases h; exact tmk56
  · cases h; exact tmk59
  · cases h; exact tmk63
  · cases h; exact tmk69
  · cases h; exact tmk71
  · cases h; exact tmk79
  · cases h; exact tmk80
  · cases h; exact tmk82
  · cases h; exact tmk86
  · cases h; exact tmk88
  · cases h; exact tmk100
  · cases h; exact tmk101
  · cases h; exact tmk103
  · cases h; exact tmk105
  · cases h; exact tmk109
  · cases h; exact tmk110
  · cases h; exact tmk120
  · cases h; exact tmk122
  · cases h; exact tmk126
  · cases h; exact tmk128
  · cases h; exact tmk145
  · cases h; exact tmk146
  · cases h; exact tmk147
  · cases h; exact tmk148
  · cases h; exact tmk150
  · cases h; exact tmk151
  · cases h; exact tmk152
  · cases h; exact tmk153
  · cases h; exact tmk154
  · cases h; exact tmk156
  · cases h; exact tmk177
  · cases h; exact tmk211
  · cases h; exact tmk213
  · cases h; exact tmk219
  · cases h; exact tmk221
  · cases h; exact tmk238
  · cases h; exact tmk240
  · cases h; exact tmk242
  · cases h; exact tmk244
  · cases h; exact tmk246
  · cases h; exact tmk248
  · cases h; exact tmk250
  · cases h; exact tmk251
  · cases h; exact tmk252
  · cases h; exact tmk254
  · cases h; exact tmk256
  · cases h; exact tmk267
  · cases h; exact tmk269
  · cases h; exact tmk271
  · cases h; exact tmk273
  · cases h; exact tmk315
  · cases h; exact tmk318
  · cases h; exact tmk321
  · cases h; exact tmk324
  · cases h; exact tmk341
  · cases h; exact tmk345
  · cases h
theorem tmix : Tryz.prog.follows .mixedOrders = true := by kernel_rfl
instance : Mix Tryz.prog := ⟨tmix⟩
end Go.Proofs.YtihihldpcgiibaaGreat
