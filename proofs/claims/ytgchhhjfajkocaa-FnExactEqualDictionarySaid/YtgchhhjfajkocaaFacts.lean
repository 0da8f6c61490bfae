/- What the program says of its types. Written by a program of mine. -/
import Derived.Test.YtgchhhjfajkocaaProg
import Derived.Test.YtgchhhjfajkocaaEng13
namespace Go.Proofs.Ytgchhhjfajkocaa
open Go Go.Eng
instance ti3 : TI Try.prog 3 false 1 8 := ⟨by kernel_rfl⟩
instance tz3 : TZ Try.prog 3 [.int .i64 0] := ⟨by kernel_rfl⟩
instance ti4 : TI Try.prog 4 false 1 1 := ⟨by kernel_rfl⟩
instance tb4 : TB Try.prog 4 := ⟨by kernel_rfl⟩
instance tz4 : TZ Try.prog 4 [.bool false] := ⟨by kernel_rfl⟩
instance ti5 : TI Try.prog 5 false 1 1 := ⟨by kernel_rfl⟩
instance tz5 : TZ Try.prog 5 [.int .u8 0] := ⟨by kernel_rfl⟩
instance ti9 : TI Try.prog 9 false 1 16 := ⟨by kernel_rfl⟩
instance tss9 : TS Try.prog 9 := ⟨by kernel_rfl⟩
instance tz9 : TZ Try.prog 9 [.string ⟨#[]⟩] := ⟨by kernel_rfl⟩
instance ti21 : TI Try.prog 21 false 1 4 := ⟨by kernel_rfl⟩
instance tz21 : TZ Try.prog 21 [.int .i32 0] := ⟨by kernel_rfl⟩
instance ti25 : TI Try.prog 25 false 1 24 := ⟨by kernel_rfl⟩
instance te25 : TE Try.prog 25 27 := ⟨by kernel_rfl⟩
instance tz25 : TZ Try.prog 25 [.slice none 0 0] := ⟨by kernel_rfl⟩
instance ti27 : TI Try.prog 27 true 3 48 := ⟨by kernel_rfl⟩
instance tf27_0 : TF Try.prog 27 0 0 := ⟨by kernel_rfl⟩
instance tf27_1 : TF Try.prog 27 1 1 := ⟨by kernel_rfl⟩
instance tf27_2 : TF Try.prog 27 2 2 := ⟨by kernel_rfl⟩
instance tz27 : TZ Try.prog 27 [.int .i64 0, .string ⟨#[]⟩, .slice none 0 0] := ⟨by kernel_rfl⟩
instance ti30 : TI Try.prog 30 false 1 24 := ⟨by kernel_rfl⟩
instance te30 : TE Try.prog 30 32 := ⟨by kernel_rfl⟩
instance tz30 : TZ Try.prog 30 [.slice none 0 0] := ⟨by kernel_rfl⟩
instance ti32 : TI Try.prog 32 true 3 48 := ⟨by kernel_rfl⟩
instance tf32_0 : TF Try.prog 32 0 0 := ⟨by kernel_rfl⟩
instance tf32_1 : TF Try.prog 32 1 1 := ⟨by kernel_rfl⟩
instance tf32_2 : TF Try.prog 32 2 2 := ⟨by kernel_rfl⟩
instance tz32 : TZ Try.prog 32 [.int .i64 0, .string ⟨#[]⟩, .slice none 0 0] := ⟨by kernel_rfl⟩
instance ti37 : TI Try.prog 37 true 2 16 := ⟨by kernel_rfl⟩
instance tf37_0 : TF Try.prog 37 0 0 := ⟨by kernel_rfl⟩
instance tf37_1 : TF Try.prog 37 1 1 := ⟨by kernel_rfl⟩
instance tz37 : TZ Try.prog 37 [.int .i64 0, .int .i64 0] := ⟨by kernel_rfl⟩
instance ti38 : TI Try.prog 38 false 1 24 := ⟨by kernel_rfl⟩
instance te38 : TE Try.prog 38 3 := ⟨by kernel_rfl⟩
instance tz38 : TZ Try.prog 38 [.slice none 0 0] := ⟨by kernel_rfl⟩
instance ti39 : TI Try.prog 39 false 1 24 := ⟨by kernel_rfl⟩
instance te39 : TE Try.prog 39 41 := ⟨by kernel_rfl⟩
instance tz39 : TZ Try.prog 39 [.slice none 0 0] := ⟨by kernel_rfl⟩
instance ti41 : TI Try.prog 41 true 5 72 := ⟨by kernel_rfl⟩
instance tf41_0 : TF Try.prog 41 0 0 := ⟨by kernel_rfl⟩
instance tf41_1 : TF Try.prog 41 1 1 := ⟨by kernel_rfl⟩
instance tf41_2 : TF Try.prog 41 2 3 := ⟨by kernel_rfl⟩
instance tf41_3 : TF Try.prog 41 3 4 := ⟨by kernel_rfl⟩
instance tz41 : TZ Try.prog 41 [.int .i64 0, .int .i64 0, .int .i64 0, .slice none 0 0, .slice none 0 0] := ⟨by kernel_rfl⟩
instance ti44 : TI Try.prog 44 true 2 16 := ⟨by kernel_rfl⟩
instance tf44_0 : TF Try.prog 44 0 0 := ⟨by kernel_rfl⟩
instance tf44_1 : TF Try.prog 44 1 1 := ⟨by kernel_rfl⟩
instance tz44 : TZ Try.prog 44 [.int .i64 0, .int .i64 0] := ⟨by kernel_rfl⟩
instance ti45 : TI Try.prog 45 false 1 24 := ⟨by kernel_rfl⟩
instance te45 : TE Try.prog 45 47 := ⟨by kernel_rfl⟩
instance tz45 : TZ Try.prog 45 [.slice none 0 0] := ⟨by kernel_rfl⟩
instance ti47 : TI Try.prog 47 true 5 72 := ⟨by kernel_rfl⟩
instance tf47_0 : TF Try.prog 47 0 0 := ⟨by kernel_rfl⟩
instance tf47_1 : TF Try.prog 47 1 1 := ⟨by kernel_rfl⟩
instance tf47_2 : TF Try.prog 47 2 3 := ⟨by kernel_rfl⟩
instance tf47_3 : TF Try.prog 47 3 4 := ⟨by kernel_rfl⟩
instance tz47 : TZ Try.prog 47 [.int .i64 0, .int .i64 0, .int .i64 0, .slice none 0 0, .slice none 0 0] := ⟨by kernel_rfl⟩
instance ti51 : TI Try.prog 51 false 1 24 := ⟨by kernel_rfl⟩
instance te51 : TE Try.prog 51 9 := ⟨by kernel_rfl⟩
instance tz51 : TZ Try.prog 51 [.slice none 0 0] := ⟨by kernel_rfl⟩
instance ti81 : TI Try.prog 81 false 1 4 := ⟨by kernel_rfl⟩
instance tz81 : TZ Try.prog 81 [.int .u32 0] := ⟨by kernel_rfl⟩
instance tp44 : TP Try.prog 44 := by
  refine ⟨?_⟩
  intro w a b c d
  refine ⟨by kernel_rfl, ?_⟩
  have hund : Try.prog.underlying 44 = some (.struct (Try.prog.fieldsOf 44)) := by kernel_rfl
  have hh : Try.prog.stoodInHeld 44 = false := by kernel_rfl
  have hf : (Try.prog.fieldsOf 44).toList = [{ name := "Package", type := 3, offset := 0, embedded := false, tag := "", pkgPath := "", byteOffset := 0 }, { name := "At", type := 3, offset := 1, embedded := false, tag := "", pkgPath := "", byteOffset := 8 }] := by kernel_rfl
  have hi : Try.prog.underlying 3 = some (.int .i64) := by kernel_rfl
  have hg : tyI Try.prog 3 = some (false, 1, 8) := by kernel_rfl
  have hint : ∀ (d : Nat) (w : World) (a c : Int), (Op.equalIn (d + 1) 3 (.int .i64 a) (.int .i64 c)).run Try.prog w = .ok (a == c) w := by
    intro d w a c
    simp [Op.equalIn, run_underlying hi]
  unfold Op.equal Op.maxDepth
  rw [run_equalIn_struct w 9999 44 _ _ hund hh, hf]
  have h9 := hint 9998
  rw [show 9998 + 1 = 9999 from rfl] at h9
  by_cases h1 : a = c <;> by_cases h2 : b = d <;> simp [Op.eqFields, part, run_isAgg hg, h9, h1, h2]
def tmS : TypeId → Option Sh
  | 3 => some (.int)
  | 4 => some (.bool)
  | 9 => some (.str)
  | 25 => some (.sl (.st 1))
  | 27 => some (.st 1)
  | 30 => some (.sl (.st 1))
  | 32 => some (.st 1)
  | 37 => some (.st 16)
  | 38 => some (.sl (.int))
  | 39 => some (.sl (.st 26))
  | 41 => some (.st 26)
  | 44 => some (.st 16)
  | 45 => some (.sl (.st 26))
  | 47 => some (.st 26)
  | 51 => some (.sl (.str))
  | _ => none
theorem tmk3 : tmOk Try.prog tmS 3 (.int) := Try.underlying3
theorem tmk4 : tmOk Try.prog tmS 4 (.bool) := Try.underlying4
theorem tmk9 : tmOk Try.prog tmS 9 (.str) := Try.underlying9
theorem tmk25 : tmOk Try.prog tmS 25 (.sl (.st 1)) := ⟨27, Try.underlying25, rfl, by kernel_rfl, by decide, by decide +kernel⟩
theorem tmk27 : tmOk Try.prog tmS 27 (.st 1) := ⟨_, Try.underlying27, by kernel_rfl, And.intro rfl (And.intro rfl (And.intro (by kernel_rfl) (And.intro rfl (And.intro rfl (And.intro (by kernel_rfl) (And.intro rfl (And.intro rfl (And.intro (by kernel_rfl) (trivial)))))))))⟩
theorem tmk30 : tmOk Try.prog tmS 30 (.sl (.st 1)) := ⟨32, Try.underlying30, rfl, by kernel_rfl, by decide, by decide +kernel⟩
theorem tmk32 : tmOk Try.prog tmS 32 (.st 1) := ⟨_, Try.underlying32, by kernel_rfl, And.intro rfl (And.intro rfl (And.intro (by kernel_rfl) (And.intro rfl (And.intro rfl (And.intro (by kernel_rfl) (And.intro rfl (And.intro rfl (And.intro (by kernel_rfl) (trivial)))))))))⟩
theorem tmk37 : tmOk Try.prog tmS 37 (.st 16) := ⟨_, Try.underlying37, by kernel_rfl, And.intro rfl (And.intro rfl (And.intro (by kernel_rfl) (And.intro rfl (And.intro rfl (And.intro (by kernel_rfl) (trivial))))))⟩
theorem tmk38 : tmOk Try.prog tmS 38 (.sl (.int)) := ⟨3, Try.underlying38, rfl, by kernel_rfl, by decide, by decide +kernel⟩
theorem tmk39 : tmOk Try.prog tmS 39 (.sl (.st 26)) := ⟨41, Try.underlying39, rfl, by kernel_rfl, by decide, by decide +kernel⟩
theorem tmk41 : tmOk Try.prog tmS 41 (.st 26) := ⟨_, Try.underlying41, by kernel_rfl, And.intro rfl (And.intro rfl (And.intro (by kernel_rfl) (And.intro rfl (And.intro rfl (And.intro (by kernel_rfl) (And.intro rfl (And.intro rfl (And.intro (by kernel_rfl) (And.intro rfl (And.intro rfl (And.intro (by kernel_rfl) (trivial))))))))))))⟩
theorem tmk44 : tmOk Try.prog tmS 44 (.st 16) := ⟨_, Try.underlying44, by kernel_rfl, And.intro rfl (And.intro rfl (And.intro (by kernel_rfl) (And.intro rfl (And.intro rfl (And.intro (by kernel_rfl) (trivial))))))⟩
theorem tmk45 : tmOk Try.prog tmS 45 (.sl (.st 26)) := ⟨47, Try.underlying45, rfl, by kernel_rfl, by decide, by decide +kernel⟩
theorem tmk47 : tmOk Try.prog tmS 47 (.st 26) := ⟨_, Try.underlying47, by kernel_rfl, And.intro rfl (And.intro rfl (And.intro (by kernel_rfl) (And.intro rfl (And.intro rfl (And.intro (by kernel_rfl) (And.intro rfl (And.intro rfl (And.intro (by kernel_rfl) (And.intro rfl (And.intro rfl (And.intro (by kernel_rfl) (trivial))))))))))))⟩
theorem tmk51 : tmOk Try.prog tmS 51 (.sl (.str)) := ⟨9, Try.underlying51, rfl, by kernel_rfl, by decide, by decide +kernel⟩
theorem tm_ok : ∀ (T : TypeId) (s : Sh), tmS T = some s → tmOk Try.prog tmS T s := by
  intro T s h
  unfold tmS at h
  split at h <;> first | (cases h; exact tmk3) | (cases h; exact tmk4) | (cases h; exact tmk9) | (cases h; exact tmk25) | (cases h; exact tmk27) | (cases h; exact tmk30) | (cases h; exact tmk32) | (cases h; exact tmk37) | (cases h; exact tmk38) | (cases h; exact tmk39) | (cases h; exact tmk41) | (cases h; exact tmk44) | (cases h; exact tmk45) | (cases h; exact tmk47) | (cases h; exact tmk51) | cases h
theorem tmix : Try.prog.follows .mixedOrders = true := by kernel_rfl
end Go.Proofs.Ytgchhhjfajkocaa
