/- What the program says of its types. Written by a program of mine. -/
import Derived.Test.YtdofnoeiogjpjaaProg
import Derived.Test.YtdofnoeiogjpjaaEng37
namespace Go.Proofs.Ytdofnoeiogjpjaa
open Go Go.Eng
instance ti3 : TI Try.prog 3 false 1 8 := ⟨by kernel_rfl⟩
instance tu3 : TU Try.prog 3 .i64 := ⟨by kernel_rfl⟩
instance tz3 : TZ Try.prog 3 [.int .i64 0] := ⟨by kernel_rfl⟩
instance ti4 : TI Try.prog 4 false 1 1 := ⟨by kernel_rfl⟩
instance tb4 : TB Try.prog 4 := ⟨by kernel_rfl⟩
instance tz4 : TZ Try.prog 4 [.bool false] := ⟨by kernel_rfl⟩
instance ti5 : TI Try.prog 5 false 1 1 := ⟨by kernel_rfl⟩
instance tu5 : TU Try.prog 5 .u8 := ⟨by kernel_rfl⟩
instance tz5 : TZ Try.prog 5 [.int .u8 0] := ⟨by kernel_rfl⟩
instance ti9 : TI Try.prog 9 false 1 16 := ⟨by kernel_rfl⟩
instance tss9 : TS Try.prog 9 := ⟨by kernel_rfl⟩
instance tz9 : TZ Try.prog 9 [.string ⟨#[]⟩] := ⟨by kernel_rfl⟩
instance ti21 : TI Try.prog 21 false 1 4 := ⟨by kernel_rfl⟩
instance tu21 : TU Try.prog 21 .i32 := ⟨by kernel_rfl⟩
instance tz21 : TZ Try.prog 21 [.int .i32 0] := ⟨by kernel_rfl⟩
instance ti22 : TI Try.prog 22 false 1 24 := ⟨by kernel_rfl⟩
instance te22 : TE Try.prog 22 5 := ⟨by kernel_rfl⟩
instance tz22 : TZ Try.prog 22 [.slice none 0 0] := ⟨by kernel_rfl⟩
instance ti24 : TI Try.prog 24 false 1 24 := ⟨by kernel_rfl⟩
instance te24 : TE Try.prog 24 26 := ⟨by kernel_rfl⟩
instance tz24 : TZ Try.prog 24 [.slice none 0 0] := ⟨by kernel_rfl⟩
instance ti26 : TI Try.prog 26 true 3 48 := ⟨by kernel_rfl⟩
instance tf26_0 : TF Try.prog 26 0 0 := ⟨by kernel_rfl⟩
instance tf26_1 : TF Try.prog 26 1 1 := ⟨by kernel_rfl⟩
instance tf26_2 : TF Try.prog 26 2 2 := ⟨by kernel_rfl⟩
instance tbd26 : TBd Try.prog 26 := ⟨by kernel_rfl⟩
instance tfs26_0 : TFS Try.prog 26 0 0 1 := ⟨by kernel_rfl⟩
instance tfs26_1 : TFS Try.prog 26 1 1 1 := ⟨by kernel_rfl⟩
instance tfs26_2 : TFS Try.prog 26 2 2 1 := ⟨by kernel_rfl⟩
instance tz26 : TZ Try.prog 26 [.int .i64 0, .string ⟨#[]⟩, .slice none 0 0] := ⟨by kernel_rfl⟩
instance ti29 : TI Try.prog 29 false 1 24 := ⟨by kernel_rfl⟩
instance te29 : TE Try.prog 29 9 := ⟨by kernel_rfl⟩
instance tz29 : TZ Try.prog 29 [.slice none 0 0] := ⟨by kernel_rfl⟩
instance ti32 : TI Try.prog 32 false 1 24 := ⟨by kernel_rfl⟩
instance te32 : TE Try.prog 32 40 := ⟨by kernel_rfl⟩
instance tz32 : TZ Try.prog 32 [.slice none 0 0] := ⟨by kernel_rfl⟩
instance ti40 : TI Try.prog 40 true 4 64 := ⟨by kernel_rfl⟩
instance tf40_0 : TF Try.prog 40 0 0 := ⟨by kernel_rfl⟩
instance tf40_1 : TF Try.prog 40 1 1 := ⟨by kernel_rfl⟩
instance tbd40 : TBd Try.prog 40 := ⟨by kernel_rfl⟩
instance tfs40_0 : TFS Try.prog 40 0 0 1 := ⟨by kernel_rfl⟩
instance tfs40_1 : TFS Try.prog 40 1 1 3 := ⟨by kernel_rfl⟩
instance tz40 : TZ Try.prog 40 [.string ⟨#[]⟩, .int .i64 0, .string ⟨#[]⟩, .slice none 0 0] := ⟨by kernel_rfl⟩
instance ti50 : TI Try.prog 50 false 1 8 := ⟨by kernel_rfl⟩
instance tz50 : TZ Try.prog 50 [.pointer none] := ⟨by kernel_rfl⟩
instance ti69 : TI Try.prog 69 true 3 40 := ⟨by kernel_rfl⟩
instance tf69_0 : TF Try.prog 69 0 0 := ⟨by kernel_rfl⟩
instance tf69_1 : TF Try.prog 69 1 1 := ⟨by kernel_rfl⟩
instance tf69_2 : TF Try.prog 69 2 2 := ⟨by kernel_rfl⟩
instance tbd69 : TBd Try.prog 69 := ⟨by kernel_rfl⟩
instance tfs69_0 : TFS Try.prog 69 0 0 1 := ⟨by kernel_rfl⟩
instance tfs69_1 : TFS Try.prog 69 1 1 1 := ⟨by kernel_rfl⟩
instance tfs69_2 : TFS Try.prog 69 2 2 1 := ⟨by kernel_rfl⟩
instance tz69 : TZ Try.prog 69 [.slice none 0 0, .int .i64 0, .int .i64 0] := ⟨by kernel_rfl⟩
instance ti82 : TI Try.prog 82 false 1 24 := ⟨by kernel_rfl⟩
instance te82 : TE Try.prog 82 29 := ⟨by kernel_rfl⟩
instance tz82 : TZ Try.prog 82 [.slice none 0 0] := ⟨by kernel_rfl⟩
instance ti93 : TI Try.prog 93 false 1 4 := ⟨by kernel_rfl⟩
instance tu93 : TU Try.prog 93 .u32 := ⟨by kernel_rfl⟩
instance tz93 : TZ Try.prog 93 [.int .u32 0] := ⟨by kernel_rfl⟩
def tmS : TypeId → Option Sh
  | 3 => some (.int)
  | 4 => some (.bool)
  | 9 => some (.str)
  | 24 => some (.sl (.st 1))
  | 26 => some (.st 1)
  | 29 => some (.sl (.str))
  | 32 => some (.sl (.st 2))
  | 40 => some (.st 2)
  | 82 => some (.sl (.sl (.str)))
  | _ => none
theorem tmk3 : tmOk Try.prog tmS 3 (.int) := Try.underlying3
theorem tmk4 : tmOk Try.prog tmS 4 (.bool) := Try.underlying4
theorem tmk9 : tmOk Try.prog tmS 9 (.str) := Try.underlying9
theorem tmk24 : tmOk Try.prog tmS 24 (.sl (.st 1)) := ⟨26, Try.underlying24, rfl, by kernel_rfl, by decide, by decide +kernel⟩
theorem tmk26 : tmOk Try.prog tmS 26 (.st 1) := ⟨_, Try.underlying26, by kernel_rfl, And.intro rfl (And.intro rfl (And.intro (by kernel_rfl) (And.intro rfl (And.intro rfl (And.intro (by kernel_rfl) (And.intro rfl (And.intro rfl (And.intro (by kernel_rfl) (trivial)))))))))⟩
theorem tmk29 : tmOk Try.prog tmS 29 (.sl (.str)) := ⟨9, Try.underlying29, rfl, by kernel_rfl, by decide, by decide +kernel⟩
theorem tmk32 : tmOk Try.prog tmS 32 (.sl (.st 2)) := ⟨40, Try.underlying32, rfl, by kernel_rfl, by decide, by decide +kernel⟩
theorem tmk40 : tmOk Try.prog tmS 40 (.st 2) := ⟨_, Try.underlying40, by kernel_rfl, And.intro rfl (And.intro rfl (And.intro (by kernel_rfl) (And.intro rfl (And.intro rfl (And.intro (by kernel_rfl) (trivial))))))⟩
theorem tmk82 : tmOk Try.prog tmS 82 (.sl (.sl (.str))) := ⟨29, Try.underlying82, rfl, by kernel_rfl, by decide, by decide +kernel⟩
theorem tm_ok : ∀ (T : TypeId) (s : Sh), tmS T = some s → tmOk Try.prog tmS T s := by
  intro T s h
  unfold tmS at h
  split at h
  · cases h; exact tmk3
  · cases h; exact tmk4
  · cases h; exact tmk9
  · cases h; exact tmk24
  · cases h; exact tmk26
  · cases h; exact tmk29
  · cases h; exact tmk32
  · cases h; exact tmk40
  · cases h; exact tmk82
  · cases h
theorem tmix : Try.prog.follows .mixedOrders = true := by kernel_rfl
instance : Mix Try.prog := ⟨tmix⟩
end Go.Proofs.Ytdofnoeiogjpjaa
