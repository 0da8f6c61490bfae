/- What the program says of its types. Written by a program of mine. -/
import Derived.Test.YtcdcekoffaaalaaProg
import Derived.Test.YtcdcekoffaaalaaEng13
namespace Go.Proofs.Ytcdcekoffaaalaa
open Go Go.Eng
instance ti3 : TI Try.prog 3 false 1 8 := ⟨by kernel_rfl⟩
instance tz3 : TZ Try.prog 3 [.int .i64 0] := ⟨by kernel_rfl⟩
instance ti4 : TI Try.prog 4 false 1 1 := ⟨by kernel_rfl⟩
instance tb4 : TB Try.prog 4 := ⟨by kernel_rfl⟩
instance tz4 : TZ Try.prog 4 [.bool false] := ⟨by kernel_rfl⟩
instance ti5 : TI Try.prog 5 false 1 1 := ⟨by kernel_rfl⟩
instance tz5 : TZ Try.prog 5 [.int .u8 0] := ⟨by kernel_rfl⟩
instance ti9 : TI Try.prog 9 false 1 16 := ⟨by kernel_rfl⟩
instance tss9 : TS Try.prog 9 := ⟨by kernel_rfl⟩
instance tz9 : TZ Try.prog 9 [.string ⟨#[]⟩] := ⟨by kernel_rfl⟩
instance ti21 : TI Try.prog 21 false 1 4 := ⟨by kernel_rfl⟩
instance tz21 : TZ Try.prog 21 [.int .i32 0] := ⟨by kernel_rfl⟩
instance ti23 : TI Try.prog 23 true 2 16 := ⟨by kernel_rfl⟩
instance tf23_0 : TF Try.prog 23 0 0 := ⟨by kernel_rfl⟩
instance tf23_1 : TF Try.prog 23 1 1 := ⟨by kernel_rfl⟩
instance tz23 : TZ Try.prog 23 [.int .i64 0, .int .i64 0] := ⟨by kernel_rfl⟩
instance ti24 : TI Try.prog 24 false 1 24 := ⟨by kernel_rfl⟩
instance te24 : TE Try.prog 24 3 := ⟨by kernel_rfl⟩
instance tz24 : TZ Try.prog 24 [.slice none 0 0] := ⟨by kernel_rfl⟩
instance ti25 : TI Try.prog 25 false 1 24 := ⟨by kernel_rfl⟩
instance te25 : TE Try.prog 25 27 := ⟨by kernel_rfl⟩
instance tz25 : TZ Try.prog 25 [.slice none 0 0] := ⟨by kernel_rfl⟩
instance ti27 : TI Try.prog 27 true 5 72 := ⟨by kernel_rfl⟩
instance tf27_0 : TF Try.prog 27 0 0 := ⟨by kernel_rfl⟩
instance tf27_1 : TF Try.prog 27 1 1 := ⟨by kernel_rfl⟩
instance tf27_2 : TF Try.prog 27 2 3 := ⟨by kernel_rfl⟩
instance tf27_3 : TF Try.prog 27 3 4 := ⟨by kernel_rfl⟩
instance tz27 : TZ Try.prog 27 [.int .i64 0, .int .i64 0, .int .i64 0, .slice none 0 0, .slice none 0 0] := ⟨by kernel_rfl⟩
instance ti28 : TI Try.prog 28 false 1 24 := ⟨by kernel_rfl⟩
instance te28 : TE Try.prog 28 30 := ⟨by kernel_rfl⟩
instance tz28 : TZ Try.prog 28 [.slice none 0 0] := ⟨by kernel_rfl⟩
instance ti30 : TI Try.prog 30 true 9 128 := ⟨by kernel_rfl⟩
instance tf30_0 : TF Try.prog 30 0 0 := ⟨by kernel_rfl⟩
instance tf30_1 : TF Try.prog 30 1 1 := ⟨by kernel_rfl⟩
instance tf30_2 : TF Try.prog 30 2 2 := ⟨by kernel_rfl⟩
instance tf30_3 : TF Try.prog 30 3 3 := ⟨by kernel_rfl⟩
instance tf30_4 : TF Try.prog 30 4 8 := ⟨by kernel_rfl⟩
instance tz30 : TZ Try.prog 30 [.int .i64 0, .int .i64 0, .string ⟨#[]⟩, .int .i64 0, .int .i64 0, .int .i64 0, .slice none 0 0, .slice none 0 0, .slice none 0 0] := ⟨by kernel_rfl⟩
instance ti33 : TI Try.prog 33 true 2 16 := ⟨by kernel_rfl⟩
instance tf33_0 : TF Try.prog 33 0 0 := ⟨by kernel_rfl⟩
instance tf33_1 : TF Try.prog 33 1 1 := ⟨by kernel_rfl⟩
instance tz33 : TZ Try.prog 33 [.int .i64 0, .int .i64 0] := ⟨by kernel_rfl⟩
instance ti34 : TI Try.prog 34 false 1 24 := ⟨by kernel_rfl⟩
instance te34 : TE Try.prog 34 36 := ⟨by kernel_rfl⟩
instance tz34 : TZ Try.prog 34 [.slice none 0 0] := ⟨by kernel_rfl⟩
instance ti36 : TI Try.prog 36 true 5 72 := ⟨by kernel_rfl⟩
instance tf36_0 : TF Try.prog 36 0 0 := ⟨by kernel_rfl⟩
instance tf36_1 : TF Try.prog 36 1 1 := ⟨by kernel_rfl⟩
instance tf36_2 : TF Try.prog 36 2 3 := ⟨by kernel_rfl⟩
instance tf36_3 : TF Try.prog 36 3 4 := ⟨by kernel_rfl⟩
instance tz36 : TZ Try.prog 36 [.int .i64 0, .int .i64 0, .int .i64 0, .slice none 0 0, .slice none 0 0] := ⟨by kernel_rfl⟩
instance ti37 : TI Try.prog 37 false 1 24 := ⟨by kernel_rfl⟩
instance te37 : TE Try.prog 37 39 := ⟨by kernel_rfl⟩
instance tz37 : TZ Try.prog 37 [.slice none 0 0] := ⟨by kernel_rfl⟩
instance ti39 : TI Try.prog 39 true 9 128 := ⟨by kernel_rfl⟩
instance tf39_0 : TF Try.prog 39 0 0 := ⟨by kernel_rfl⟩
instance tf39_1 : TF Try.prog 39 1 1 := ⟨by kernel_rfl⟩
instance tf39_2 : TF Try.prog 39 2 2 := ⟨by kernel_rfl⟩
instance tf39_3 : TF Try.prog 39 3 3 := ⟨by kernel_rfl⟩
instance tf39_4 : TF Try.prog 39 4 8 := ⟨by kernel_rfl⟩
instance tz39 : TZ Try.prog 39 [.int .i64 0, .int .i64 0, .string ⟨#[]⟩, .int .i64 0, .int .i64 0, .int .i64 0, .slice none 0 0, .slice none 0 0, .slice none 0 0] := ⟨by kernel_rfl⟩
instance ti42 : TI Try.prog 42 false 1 24 := ⟨by kernel_rfl⟩
instance te42 : TE Try.prog 42 44 := ⟨by kernel_rfl⟩
instance tz42 : TZ Try.prog 42 [.slice none 0 0] := ⟨by kernel_rfl⟩
instance ti44 : TI Try.prog 44 true 3 48 := ⟨by kernel_rfl⟩
instance tf44_0 : TF Try.prog 44 0 0 := ⟨by kernel_rfl⟩
instance tf44_1 : TF Try.prog 44 1 1 := ⟨by kernel_rfl⟩
instance tf44_2 : TF Try.prog 44 2 2 := ⟨by kernel_rfl⟩
instance tz44 : TZ Try.prog 44 [.int .i64 0, .string ⟨#[]⟩, .slice none 0 0] := ⟨by kernel_rfl⟩
instance ti45 : TI Try.prog 45 false 1 24 := ⟨by kernel_rfl⟩
instance te45 : TE Try.prog 45 128 := ⟨by kernel_rfl⟩
instance tz45 : TZ Try.prog 45 [.slice none 0 0] := ⟨by kernel_rfl⟩
instance ti46 : TI Try.prog 46 false 1 24 := ⟨by kernel_rfl⟩
instance te46 : TE Try.prog 46 49 := ⟨by kernel_rfl⟩
instance tz46 : TZ Try.prog 46 [.slice none 0 0] := ⟨by kernel_rfl⟩
instance ti47 : TI Try.prog 47 false 1 24 := ⟨by kernel_rfl⟩
instance te47 : TE Try.prog 47 131 := ⟨by kernel_rfl⟩
instance tz47 : TZ Try.prog 47 [.slice none 0 0] := ⟨by kernel_rfl⟩
instance ti49 : TI Try.prog 49 true 11 192 := ⟨by kernel_rfl⟩
instance tf49_0 : TF Try.prog 49 0 0 := ⟨by kernel_rfl⟩
instance tf49_1 : TF Try.prog 49 1 1 := ⟨by kernel_rfl⟩
instance tf49_2 : TF Try.prog 49 2 2 := ⟨by kernel_rfl⟩
instance tf49_3 : TF Try.prog 49 3 3 := ⟨by kernel_rfl⟩
instance tf49_4 : TF Try.prog 49 4 4 := ⟨by kernel_rfl⟩
instance tf49_5 : TF Try.prog 49 5 7 := ⟨by kernel_rfl⟩
instance tf49_6 : TF Try.prog 49 6 8 := ⟨by kernel_rfl⟩
instance tf49_7 : TF Try.prog 49 7 9 := ⟨by kernel_rfl⟩
instance tf49_8 : TF Try.prog 49 8 10 := ⟨by kernel_rfl⟩
instance tz49 : TZ Try.prog 49 [.int .i64 0, .string ⟨#[]⟩, .string ⟨#[]⟩, .int .i64 0, .int .i64 0, .string ⟨#[]⟩, .slice none 0 0, .slice none 0 0, .slice none 0 0, .slice none 0 0, .slice none 0 0] := ⟨by kernel_rfl⟩
instance ti52 : TI Try.prog 52 false 1 24 := ⟨by kernel_rfl⟩
instance te52 : TE Try.prog 52 54 := ⟨by kernel_rfl⟩
instance tz52 : TZ Try.prog 52 [.slice none 0 0] := ⟨by kernel_rfl⟩
instance ti54 : TI Try.prog 54 true 3 48 := ⟨by kernel_rfl⟩
instance tf54_0 : TF Try.prog 54 0 0 := ⟨by kernel_rfl⟩
instance tf54_1 : TF Try.prog 54 1 1 := ⟨by kernel_rfl⟩
instance tf54_2 : TF Try.prog 54 2 2 := ⟨by kernel_rfl⟩
instance tz54 : TZ Try.prog 54 [.int .i64 0, .string ⟨#[]⟩, .slice none 0 0] := ⟨by kernel_rfl⟩
instance ti55 : TI Try.prog 55 false 1 24 := ⟨by kernel_rfl⟩
instance te55 : TE Try.prog 55 99 := ⟨by kernel_rfl⟩
instance tz55 : TZ Try.prog 55 [.slice none 0 0] := ⟨by kernel_rfl⟩
instance ti56 : TI Try.prog 56 false 1 24 := ⟨by kernel_rfl⟩
instance te56 : TE Try.prog 56 59 := ⟨by kernel_rfl⟩
instance tz56 : TZ Try.prog 56 [.slice none 0 0] := ⟨by kernel_rfl⟩
instance ti57 : TI Try.prog 57 false 1 24 := ⟨by kernel_rfl⟩
instance te57 : TE Try.prog 57 85 := ⟨by kernel_rfl⟩
instance tz57 : TZ Try.prog 57 [.slice none 0 0] := ⟨by kernel_rfl⟩
instance ti59 : TI Try.prog 59 true 11 192 := ⟨by kernel_rfl⟩
instance tf59_0 : TF Try.prog 59 0 0 := ⟨by kernel_rfl⟩
instance tf59_1 : TF Try.prog 59 1 1 := ⟨by kernel_rfl⟩
instance tf59_2 : TF Try.prog 59 2 2 := ⟨by kernel_rfl⟩
instance tf59_3 : TF Try.prog 59 3 3 := ⟨by kernel_rfl⟩
instance tf59_4 : TF Try.prog 59 4 4 := ⟨by kernel_rfl⟩
instance tf59_5 : TF Try.prog 59 5 7 := ⟨by kernel_rfl⟩
instance tf59_6 : TF Try.prog 59 6 8 := ⟨by kernel_rfl⟩
instance tf59_7 : TF Try.prog 59 7 9 := ⟨by kernel_rfl⟩
instance tf59_8 : TF Try.prog 59 8 10 := ⟨by kernel_rfl⟩
instance tz59 : TZ Try.prog 59 [.int .i64 0, .string ⟨#[]⟩, .string ⟨#[]⟩, .int .i64 0, .int .i64 0, .string ⟨#[]⟩, .slice none 0 0, .slice none 0 0, .slice none 0 0, .slice none 0 0, .slice none 0 0] := ⟨by kernel_rfl⟩
instance ti64 : TI Try.prog 64 false 1 24 := ⟨by kernel_rfl⟩
instance te64 : TE Try.prog 64 108 := ⟨by kernel_rfl⟩
instance tz64 : TZ Try.prog 64 [.slice none 0 0] := ⟨by kernel_rfl⟩
instance ti67 : TI Try.prog 67 false 1 24 := ⟨by kernel_rfl⟩
instance te67 : TE Try.prog 67 112 := ⟨by kernel_rfl⟩
instance tz67 : TZ Try.prog 67 [.slice none 0 0] := ⟨by kernel_rfl⟩
instance ti83 : TI Try.prog 83 false 1 24 := ⟨by kernel_rfl⟩
instance te83 : TE Try.prog 83 9 := ⟨by kernel_rfl⟩
instance tz83 : TZ Try.prog 83 [.slice none 0 0] := ⟨by kernel_rfl⟩
instance ti85 : TI Try.prog 85 true 13 232 := ⟨by kernel_rfl⟩
instance tf85_0 : TF Try.prog 85 0 0 := ⟨by kernel_rfl⟩
instance tf85_1 : TF Try.prog 85 1 1 := ⟨by kernel_rfl⟩
instance tf85_2 : TF Try.prog 85 2 2 := ⟨by kernel_rfl⟩
instance tz85 : TZ Try.prog 85 [.string ⟨#[]⟩, .slice none 0 0, .int .i64 0, .string ⟨#[]⟩, .string ⟨#[]⟩, .int .i64 0, .int .i64 0, .string ⟨#[]⟩, .slice none 0 0, .slice none 0 0, .slice none 0 0, .slice none 0 0, .slice none 0 0] := ⟨by kernel_rfl⟩
instance ti99 : TI Try.prog 99 true 5 56 := ⟨by kernel_rfl⟩
instance tf99_0 : TF Try.prog 99 0 0 := ⟨by kernel_rfl⟩
instance tf99_1 : TF Try.prog 99 1 1 := ⟨by kernel_rfl⟩
instance tf99_2 : TF Try.prog 99 2 2 := ⟨by kernel_rfl⟩
instance tf99_3 : TF Try.prog 99 3 4 := ⟨by kernel_rfl⟩
instance tz99 : TZ Try.prog 99 [.int .i64 0, .int .i64 0, .int .i64 0, .int .i64 0, .slice none 0 0] := ⟨by kernel_rfl⟩
instance ti105 : TI Try.prog 105 false 1 24 := ⟨by kernel_rfl⟩
instance te105 : TE Try.prog 105 145 := ⟨by kernel_rfl⟩
instance tz105 : TZ Try.prog 105 [.slice none 0 0] := ⟨by kernel_rfl⟩
instance ti106 : TI Try.prog 106 false 1 24 := ⟨by kernel_rfl⟩
instance te106 : TE Try.prog 106 148 := ⟨by kernel_rfl⟩
instance tz106 : TZ Try.prog 106 [.slice none 0 0] := ⟨by kernel_rfl⟩
instance ti108 : TI Try.prog 108 true 21 344 := ⟨by kernel_rfl⟩
instance tf108_0 : TF Try.prog 108 0 0 := ⟨by kernel_rfl⟩
instance tf108_1 : TF Try.prog 108 1 1 := ⟨by kernel_rfl⟩
instance tf108_2 : TF Try.prog 108 2 2 := ⟨by kernel_rfl⟩
instance tf108_3 : TF Try.prog 108 3 3 := ⟨by kernel_rfl⟩
instance tf108_4 : TF Try.prog 108 4 4 := ⟨by kernel_rfl⟩
instance tf108_5 : TF Try.prog 108 5 5 := ⟨by kernel_rfl⟩
instance tf108_6 : TF Try.prog 108 6 6 := ⟨by kernel_rfl⟩
instance tf108_7 : TF Try.prog 108 7 7 := ⟨by kernel_rfl⟩
instance tf108_8 : TF Try.prog 108 8 10 := ⟨by kernel_rfl⟩
instance tz108 : TZ Try.prog 108 [.int .i64 0, .int .i64 0, .int .i64 0, .int .i64 0, .slice none 0 0, .slice none 0 0, .slice none 0 0, .int .i64 0, .string ⟨#[]⟩, .slice none 0 0, .int .i64 0, .string ⟨#[]⟩, .string ⟨#[]⟩, .int .i64 0, .int .i64 0, .string ⟨#[]⟩, .slice none 0 0, .slice none 0 0, .slice none 0 0, .slice none 0 0, .slice none 0 0] := ⟨by kernel_rfl⟩
instance ti109 : TI Try.prog 109 false 1 24 := ⟨by kernel_rfl⟩
instance te109 : TE Try.prog 109 150 := ⟨by kernel_rfl⟩
instance tz109 : TZ Try.prog 109 [.slice none 0 0] := ⟨by kernel_rfl⟩
instance ti110 : TI Try.prog 110 false 1 24 := ⟨by kernel_rfl⟩
instance te110 : TE Try.prog 110 153 := ⟨by kernel_rfl⟩
instance tz110 : TZ Try.prog 110 [.slice none 0 0] := ⟨by kernel_rfl⟩
instance ti112 : TI Try.prog 112 true 21 344 := ⟨by kernel_rfl⟩
instance tf112_0 : TF Try.prog 112 0 0 := ⟨by kernel_rfl⟩
instance tf112_1 : TF Try.prog 112 1 1 := ⟨by kernel_rfl⟩
instance tf112_2 : TF Try.prog 112 2 2 := ⟨by kernel_rfl⟩
instance tf112_3 : TF Try.prog 112 3 3 := ⟨by kernel_rfl⟩
instance tf112_4 : TF Try.prog 112 4 4 := ⟨by kernel_rfl⟩
instance tf112_5 : TF Try.prog 112 5 5 := ⟨by kernel_rfl⟩
instance tf112_6 : TF Try.prog 112 6 6 := ⟨by kernel_rfl⟩
instance tf112_7 : TF Try.prog 112 7 7 := ⟨by kernel_rfl⟩
instance tf112_8 : TF Try.prog 112 8 10 := ⟨by kernel_rfl⟩
instance tz112 : TZ Try.prog 112 [.int .i64 0, .int .i64 0, .int .i64 0, .int .i64 0, .slice none 0 0, .slice none 0 0, .slice none 0 0, .int .i64 0, .string ⟨#[]⟩, .slice none 0 0, .int .i64 0, .string ⟨#[]⟩, .string ⟨#[]⟩, .int .i64 0, .int .i64 0, .string ⟨#[]⟩, .slice none 0 0, .slice none 0 0, .slice none 0 0, .slice none 0 0, .slice none 0 0] := ⟨by kernel_rfl⟩
instance ti128 : TI Try.prog 128 true 5 56 := ⟨by kernel_rfl⟩
instance tf128_0 : TF Try.prog 128 0 0 := ⟨by kernel_rfl⟩
instance tf128_1 : TF Try.prog 128 1 1 := ⟨by kernel_rfl⟩
instance tf128_2 : TF Try.prog 128 2 2 := ⟨by kernel_rfl⟩
instance tf128_3 : TF Try.prog 128 3 4 := ⟨by kernel_rfl⟩
instance tz128 : TZ Try.prog 128 [.int .i64 0, .int .i64 0, .int .i64 0, .int .i64 0, .slice none 0 0] := ⟨by kernel_rfl⟩
instance ti131 : TI Try.prog 131 true 13 232 := ⟨by kernel_rfl⟩
instance tf131_0 : TF Try.prog 131 0 0 := ⟨by kernel_rfl⟩
instance tf131_1 : TF Try.prog 131 1 1 := ⟨by kernel_rfl⟩
instance tf131_2 : TF Try.prog 131 2 2 := ⟨by kernel_rfl⟩
instance tz131 : TZ Try.prog 131 [.string ⟨#[]⟩, .slice none 0 0, .int .i64 0, .string ⟨#[]⟩, .string ⟨#[]⟩, .int .i64 0, .int .i64 0, .string ⟨#[]⟩, .slice none 0 0, .slice none 0 0, .slice none 0 0, .slice none 0 0, .slice none 0 0] := ⟨by kernel_rfl⟩
instance ti145 : TI Try.prog 145 true 4 64 := ⟨by kernel_rfl⟩
instance tf145_0 : TF Try.prog 145 0 0 := ⟨by kernel_rfl⟩
instance tf145_1 : TF Try.prog 145 1 1 := ⟨by kernel_rfl⟩
instance tz145 : TZ Try.prog 145 [.string ⟨#[]⟩, .int .i64 0, .string ⟨#[]⟩, .slice none 0 0] := ⟨by kernel_rfl⟩
instance ti148 : TI Try.prog 148 true 4 64 := ⟨by kernel_rfl⟩
instance tf148_0 : TF Try.prog 148 0 0 := ⟨by kernel_rfl⟩
instance tf148_1 : TF Try.prog 148 1 1 := ⟨by kernel_rfl⟩
instance tz148 : TZ Try.prog 148 [.string ⟨#[]⟩, .int .i64 0, .string ⟨#[]⟩, .slice none 0 0] := ⟨by kernel_rfl⟩
instance ti150 : TI Try.prog 150 true 4 64 := ⟨by kernel_rfl⟩
instance tf150_0 : TF Try.prog 150 0 0 := ⟨by kernel_rfl⟩
instance tf150_1 : TF Try.prog 150 1 1 := ⟨by kernel_rfl⟩
instance tz150 : TZ Try.prog 150 [.string ⟨#[]⟩, .int .i64 0, .string ⟨#[]⟩, .slice none 0 0] := ⟨by kernel_rfl⟩
instance ti153 : TI Try.prog 153 true 4 64 := ⟨by kernel_rfl⟩
instance tf153_0 : TF Try.prog 153 0 0 := ⟨by kernel_rfl⟩
instance tf153_1 : TF Try.prog 153 1 1 := ⟨by kernel_rfl⟩
instance tz153 : TZ Try.prog 153 [.string ⟨#[]⟩, .int .i64 0, .string ⟨#[]⟩, .slice none 0 0] := ⟨by kernel_rfl⟩
instance ti164 : TI Try.prog 164 false 1 4 := ⟨by kernel_rfl⟩
instance tz164 : TZ Try.prog 164 [.int .u32 0] := ⟨by kernel_rfl⟩
instance tp33 : TP Try.prog 33 := by
  refine ⟨?_⟩
  intro w a b c d
  refine ⟨by kernel_rfl, ?_⟩
  have hund : Try.prog.underlying 33 = some (.struct (Try.prog.fieldsOf 33)) := by kernel_rfl
  have hh : Try.prog.stoodInHeld 33 = false := by kernel_rfl
  have hf : (Try.prog.fieldsOf 33).toList = [{ name := "Package", type := 3, offset := 0, embedded := false, tag := "", pkgPath := "", byteOffset := 0 }, { name := "At", type := 3, offset := 1, embedded := false, tag := "", pkgPath := "", byteOffset := 8 }] := by kernel_rfl
  have hi : Try.prog.underlying 3 = some (.int .i64) := by kernel_rfl
  have hg : tyI Try.prog 3 = some (false, 1, 8) := by kernel_rfl
  have hint : ∀ (d : Nat) (w : World) (a c : Int), (Op.equalIn (d + 1) 3 (.int .i64 a) (.int .i64 c)).run Try.prog w = .ok (a == c) w := by
    intro d w a c
    simp [Op.equalIn, run_underlying hi]
  unfold Op.equal Op.maxDepth
  rw [run_equalIn_struct w 9999 33 _ _ hund hh, hf]
  have h9 := hint 9998
  rw [show 9998 + 1 = 9999 from rfl] at h9
  by_cases h1 : a = c <;> by_cases h2 : b = d <;> simp [Op.eqFields, part, run_isAgg hg, h9, h1, h2]
def tmS : TypeId → Option Sh
  | 3 => some (.int)
  | 4 => some (.bool)
  | 9 => some (.str)
  | 23 => some (.st 16)
  | 24 => some (.sl (.int))
  | 25 => some (.sl (.st 26))
  | 27 => some (.st 26)
  | 28 => some (.sl (.st 27))
  | 30 => some (.st 27)
  | 33 => some (.st 16)
  | 34 => some (.sl (.st 26))
  | 36 => some (.st 26)
  | 37 => some (.sl (.st 27))
  | 39 => some (.st 27)
  | 42 => some (.sl (.st 1))
  | 44 => some (.st 1)
  | 45 => some (.sl (.st 18))
  | 46 => some (.sl (.st 21))
  | 47 => some (.sl (.st 20))
  | 49 => some (.st 21)
  | 52 => some (.sl (.st 1))
  | 54 => some (.st 1)
  | 55 => some (.sl (.st 18))
  | 56 => some (.sl (.st 21))
  | 57 => some (.sl (.st 20))
  | 59 => some (.st 21)
  | 64 => some (.sl (.st 25))
  | 67 => some (.sl (.st 25))
  | 83 => some (.sl (.str))
  | 85 => some (.st 20)
  | 99 => some (.st 18)
  | 105 => some (.sl (.st 9))
  | 106 => some (.sl (.st 12))
  | 108 => some (.st 25)
  | 109 => some (.sl (.st 9))
  | 110 => some (.sl (.st 12))
  | 112 => some (.st 25)
  | 128 => some (.st 18)
  | 131 => some (.st 20)
  | 145 => some (.st 9)
  | 148 => some (.st 12)
  | 150 => some (.st 9)
  | 153 => some (.st 12)
  | _ => none
theorem tmk3 : tmOk Try.prog tmS 3 (.int) := Try.underlying3
theorem tmk4 : tmOk Try.prog tmS 4 (.bool) := Try.underlying4
theorem tmk9 : tmOk Try.prog tmS 9 (.str) := Try.underlying9
theorem tmk23 : tmOk Try.prog tmS 23 (.st 16) := ⟨_, Try.underlying23, by kernel_rfl, And.intro rfl (And.intro rfl (And.intro (by kernel_rfl) (And.intro rfl (And.intro rfl (And.intro (by kernel_rfl) (trivial))))))⟩
theorem tmk24 : tmOk Try.prog tmS 24 (.sl (.int)) := ⟨3, Try.underlying24, rfl, by kernel_rfl, by decide, by decide +kernel⟩
theorem tmk25 : tmOk Try.prog tmS 25 (.sl (.st 26)) := ⟨27, Try.underlying25, rfl, by kernel_rfl, by decide, by decide +kernel⟩
theorem tmk27 : tmOk Try.prog tmS 27 (.st 26) := ⟨_, Try.underlying27, by kernel_rfl, And.intro rfl (And.intro rfl (And.intro (by kernel_rfl) (And.intro rfl (And.intro rfl (And.intro (by kernel_rfl) (And.intro rfl (And.intro rfl (And.intro (by kernel_rfl) (And.intro rfl (And.intro rfl (And.intro (by kernel_rfl) (trivial))))))))))))⟩
theorem tmk28 : tmOk Try.prog tmS 28 (.sl (.st 27)) := ⟨30, Try.underlying28, rfl, by kernel_rfl, by decide, by decide +kernel⟩
theorem tmk30 : tmOk Try.prog tmS 30 (.st 27) := ⟨_, Try.underlying30, by kernel_rfl, And.intro rfl (And.intro rfl (And.intro (by kernel_rfl) (And.intro rfl (And.intro rfl (And.intro (by kernel_rfl) (And.intro rfl (And.intro rfl (And.intro (by kernel_rfl) (And.intro rfl (And.intro rfl (And.intro (by kernel_rfl) (And.intro rfl (And.intro rfl (And.intro (by kernel_rfl) (trivial)))))))))))))))⟩
theorem tmk33 : tmOk Try.prog tmS 33 (.st 16) := ⟨_, Try.underlying33, by kernel_rfl, And.intro rfl (And.intro rfl (And.intro (by kernel_rfl) (And.intro rfl (And.intro rfl (And.intro (by kernel_rfl) (trivial))))))⟩
theorem tmk34 : tmOk Try.prog tmS 34 (.sl (.st 26)) := ⟨36, Try.underlying34, rfl, by kernel_rfl, by decide, by decide +kernel⟩
theorem tmk36 : tmOk Try.prog tmS 36 (.st 26) := ⟨_, Try.underlying36, by kernel_rfl, And.intro rfl (And.intro rfl (And.intro (by kernel_rfl) (And.intro rfl (And.intro rfl (And.intro (by kernel_rfl) (And.intro rfl (And.intro rfl (And.intro (by kernel_rfl) (And.intro rfl (And.intro rfl (And.intro (by kernel_rfl) (trivial))))))))))))⟩
theorem tmk37 : tmOk Try.prog tmS 37 (.sl (.st 27)) := ⟨39, Try.underlying37, rfl, by kernel_rfl, by decide, by decide +kernel⟩
theorem tmk39 : tmOk Try.prog tmS 39 (.st 27) := ⟨_, Try.underlying39, by kernel_rfl, And.intro rfl (And.intro rfl (And.intro (by kernel_rfl) (And.intro rfl (And.intro rfl (And.intro (by kernel_rfl) (And.intro rfl (And.intro rfl (And.intro (by kernel_rfl) (And.intro rfl (And.intro rfl (And.intro (by kernel_rfl) (And.intro rfl (And.intro rfl (And.intro (by kernel_rfl) (trivial)))))))))))))))⟩
theorem tmk42 : tmOk Try.prog tmS 42 (.sl (.st 1)) := ⟨44, Try.underlying42, rfl, by kernel_rfl, by decide, by decide +kernel⟩
theorem tmk44 : tmOk Try.prog tmS 44 (.st 1) := ⟨_, Try.underlying44, by kernel_rfl, And.intro rfl (And.intro rfl (And.intro (by kernel_rfl) (And.intro rfl (And.intro rfl (And.intro (by kernel_rfl) (And.intro rfl (And.intro rfl (And.intro (by kernel_rfl) (trivial)))))))))⟩
theorem tmk45 : tmOk Try.prog tmS 45 (.sl (.st 18)) := ⟨128, Try.underlying45, rfl, by kernel_rfl, by decide, by decide +kernel⟩
theorem tmk46 : tmOk Try.prog tmS 46 (.sl (.st 21)) := ⟨49, Try.underlying46, rfl, by kernel_rfl, by decide, by decide +kernel⟩
theorem tmk47 : tmOk Try.prog tmS 47 (.sl (.st 20)) := ⟨131, Try.underlying47, rfl, by kernel_rfl, by decide, by decide +kernel⟩
theorem tmk49 : tmOk Try.prog tmS 49 (.st 21) := ⟨_, Try.underlying49, by kernel_rfl, And.intro rfl (And.intro rfl (And.intro (by kernel_rfl) (And.intro rfl (And.intro rfl (And.intro (by kernel_rfl) (And.intro rfl (And.intro rfl (And.intro (by kernel_rfl) (And.intro rfl (And.intro rfl (And.intro (by kernel_rfl) (And.intro rfl (And.intro rfl (And.intro (by kernel_rfl) (And.intro rfl (And.intro rfl (And.intro (by kernel_rfl) (And.intro rfl (And.intro rfl (And.intro (by kernel_rfl) (And.intro rfl (And.intro rfl (And.intro (by kernel_rfl) (And.intro rfl (And.intro rfl (And.intro (by kernel_rfl) (trivial)))))))))))))))))))))))))))⟩
theorem tmk52 : tmOk Try.prog tmS 52 (.sl (.st 1)) := ⟨54, Try.underlying52, rfl, by kernel_rfl, by decide, by decide +kernel⟩
theorem tmk54 : tmOk Try.prog tmS 54 (.st 1) := ⟨_, Try.underlying54, by kernel_rfl, And.intro rfl (And.intro rfl (And.intro (by kernel_rfl) (And.intro rfl (And.intro rfl (And.intro (by kernel_rfl) (And.intro rfl (And.intro rfl (And.intro (by kernel_rfl) (trivial)))))))))⟩
theorem tmk55 : tmOk Try.prog tmS 55 (.sl (.st 18)) := ⟨99, Try.underlying55, rfl, by kernel_rfl, by decide, by decide +kernel⟩
theorem tmk56 : tmOk Try.prog tmS 56 (.sl (.st 21)) := ⟨59, Try.underlying56, rfl, by kernel_rfl, by decide, by decide +kernel⟩
theorem tmk57 : tmOk Try.prog tmS 57 (.sl (.st 20)) := ⟨85, Try.underlying57, rfl, by kernel_rfl, by decide, by decide +kernel⟩
theorem tmk59 : tmOk Try.prog tmS 59 (.st 21) := ⟨_, Try.underlying59, by kernel_rfl, And.intro rfl (And.intro rfl (And.intro (by kernel_rfl) (And.intro rfl (And.intro rfl (And.intro (by kernel_rfl) (And.intro rfl (And.intro rfl (And.intro (by kernel_rfl) (And.intro rfl (And.intro rfl (And.intro (by kernel_rfl) (And.intro rfl (And.intro rfl (And.intro (by kernel_rfl) (And.intro rfl (And.intro rfl (And.intro (by kernel_rfl) (And.intro rfl (And.intro rfl (And.intro (by kernel_rfl) (And.intro rfl (And.intro rfl (And.intro (by kernel_rfl) (And.intro rfl (And.intro rfl (And.intro (by kernel_rfl) (trivial)))))))))))))))))))))))))))⟩
theorem tmk64 : tmOk Try.prog tmS 64 (.sl (.st 25)) := ⟨108, Try.underlying64, rfl, by kernel_rfl, by decide, by decide +kernel⟩
theorem tmk67 : tmOk Try.prog tmS 67 (.sl (.st 25)) := ⟨112, Try.underlying67, rfl, by kernel_rfl, by decide, by decide +kernel⟩
theorem tmk83 : tmOk Try.prog tmS 83 (.sl (.str)) := ⟨9, Try.underlying83, rfl, by kernel_rfl, by decide, by decide +kernel⟩
theorem tmk85 : tmOk Try.prog tmS 85 (.st 20) := ⟨_, Try.underlying85, by kernel_rfl, And.intro rfl (And.intro rfl (And.intro (by kernel_rfl) (And.intro rfl (And.intro rfl (And.intro (by kernel_rfl) (And.intro rfl (And.intro rfl (And.intro (by kernel_rfl) (trivial)))))))))⟩
theorem tmk99 : tmOk Try.prog tmS 99 (.st 18) := ⟨_, Try.underlying99, by kernel_rfl, And.intro rfl (And.intro rfl (And.intro (by kernel_rfl) (And.intro rfl (And.intro rfl (And.intro (by kernel_rfl) (And.intro rfl (And.intro rfl (And.intro (by kernel_rfl) (And.intro rfl (And.intro rfl (And.intro (by kernel_rfl) (trivial))))))))))))⟩
theorem tmk105 : tmOk Try.prog tmS 105 (.sl (.st 9)) := ⟨145, Try.underlying105, rfl, by kernel_rfl, by decide, by decide +kernel⟩
theorem tmk106 : tmOk Try.prog tmS 106 (.sl (.st 12)) := ⟨148, Try.underlying106, rfl, by kernel_rfl, by decide, by decide +kernel⟩
theorem tmk108 : tmOk Try.prog tmS 108 (.st 25) := ⟨_, Try.underlying108, by kernel_rfl, And.intro rfl (And.intro rfl (And.intro (by kernel_rfl) (And.intro rfl (And.intro rfl (And.intro (by kernel_rfl) (And.intro rfl (And.intro rfl (And.intro (by kernel_rfl) (And.intro rfl (And.intro rfl (And.intro (by kernel_rfl) (And.intro rfl (And.intro rfl (And.intro (by kernel_rfl) (And.intro rfl (And.intro rfl (And.intro (by kernel_rfl) (And.intro rfl (And.intro rfl (And.intro (by kernel_rfl) (And.intro rfl (And.intro rfl (And.intro (by kernel_rfl) (And.intro rfl (And.intro rfl (And.intro (by kernel_rfl) (trivial)))))))))))))))))))))))))))⟩
theorem tmk109 : tmOk Try.prog tmS 109 (.sl (.st 9)) := ⟨150, Try.underlying109, rfl, by kernel_rfl, by decide, by decide +kernel⟩
theorem tmk110 : tmOk Try.prog tmS 110 (.sl (.st 12)) := ⟨153, Try.underlying110, rfl, by kernel_rfl, by decide, by decide +kernel⟩
theorem tmk112 : tmOk Try.prog tmS 112 (.st 25) := ⟨_, Try.underlying112, by kernel_rfl, And.intro rfl (And.intro rfl (And.intro (by kernel_rfl) (And.intro rfl (And.intro rfl (And.intro (by kernel_rfl) (And.intro rfl (And.intro rfl (And.intro (by kernel_rfl) (And.intro rfl (And.intro rfl (And.intro (by kernel_rfl) (And.intro rfl (And.intro rfl (And.intro (by kernel_rfl) (And.intro rfl (And.intro rfl (And.intro (by kernel_rfl) (And.intro rfl (And.intro rfl (And.intro (by kernel_rfl) (And.intro rfl (And.intro rfl (And.intro (by kernel_rfl) (And.intro rfl (And.intro rfl (And.intro (by kernel_rfl) (trivial)))))))))))))))))))))))))))⟩
theorem tmk128 : tmOk Try.prog tmS 128 (.st 18) := ⟨_, Try.underlying128, by kernel_rfl, And.intro rfl (And.intro rfl (And.intro (by kernel_rfl) (And.intro rfl (And.intro rfl (And.intro (by kernel_rfl) (And.intro rfl (And.intro rfl (And.intro (by kernel_rfl) (And.intro rfl (And.intro rfl (And.intro (by kernel_rfl) (trivial))))))))))))⟩
theorem tmk131 : tmOk Try.prog tmS 131 (.st 20) := ⟨_, Try.underlying131, by kernel_rfl, And.intro rfl (And.intro rfl (And.intro (by kernel_rfl) (And.intro rfl (And.intro rfl (And.intro (by kernel_rfl) (And.intro rfl (And.intro rfl (And.intro (by kernel_rfl) (trivial)))))))))⟩
theorem tmk145 : tmOk Try.prog tmS 145 (.st 9) := ⟨_, Try.underlying145, by kernel_rfl, And.intro rfl (And.intro rfl (And.intro (by kernel_rfl) (And.intro rfl (And.intro rfl (And.intro (by kernel_rfl) (trivial))))))⟩
theorem tmk148 : tmOk Try.prog tmS 148 (.st 12) := ⟨_, Try.underlying148, by kernel_rfl, And.intro rfl (And.intro rfl (And.intro (by kernel_rfl) (And.intro rfl (And.intro rfl (And.intro (by kernel_rfl) (trivial))))))⟩
theorem tmk150 : tmOk Try.prog tmS 150 (.st 9) := ⟨_, Try.underlying150, by kernel_rfl, And.intro rfl (And.intro rfl (And.intro (by kernel_rfl) (And.intro rfl (And.intro rfl (And.intro (by kernel_rfl) (trivial))))))⟩
theorem tmk153 : tmOk Try.prog tmS 153 (.st 12) := ⟨_, Try.underlying153, by kernel_rfl, And.intro rfl (And.intro rfl (And.intro (by kernel_rfl) (And.intro rfl (And.intro rfl (And.intro (by kernel_rfl) (trivial))))))⟩
theorem tm_ok : ∀ (T : TypeId) (s : Sh), tmS T = some s → tmOk Try.prog tmS T s := by
  intro T s h
  unfold tmS at h
  split at h
  · cases h; exact tmk3
  · cases h; exact tmk4
  · cases h; exact tmk9
  · cases h; exact tmk23
  · cases h; exact tmk24
  · cases h; exact tmk25
  · cases h; exact tmk27
  · cases h; exact tmk28
  · cases h; exact tmk30
  · cases h; exact tmk33
  · cases h; exact tmk34
  · cases h; exact tmk36
  · cases h; exact tmk37
  · cases h; exact tmk39
  · cases h; exact tmk42
  · cases h; exact tmk44
  · cases h; exact tmk45
  · cases h; exact tmk46
  · cases h; exact tmk47
  · cases h; exact tmk49
  · cases h; exact tmk52
  · cases h; exact tmk54
  · cases h; exact tmk55
  · cases h; exact tmk56
  · cases h; exact tmk57
  · cases h; exact tmk59
  · cases h; exact tmk64
  · cases h; exact tmk67
  · cases h; exact tmk83
  · cases h; exact tmk85
  · cases h; exact tmk99
  · cases h; exact tmk105
  · cases h; exact tmk106
  · cases h; exact tmk108
  · cases h; exact tmk109
  · cases h; exact tmk110
  · cases h; exact tmk112
  · cases h; exact tmk128
  · cases h; exact tmk131
  · cases h; exact tmk145
  · cases h; exact tmk148
  · cases h; exact tmk150
  · cases h; exact tmk153
  · cases h
theorem tmix : Try.prog.follows .mixedOrders = true := by kernel_rfl
end Go.Proofs.Ytcdcekoffaaalaa
