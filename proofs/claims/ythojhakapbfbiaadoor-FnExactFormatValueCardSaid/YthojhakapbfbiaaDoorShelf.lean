/- What the library's contracts say at this program. -/
import Derived.Test.YthojhakapbfbiaaDoorFacts
import Derived.Test.YthojhakapbfbiaaDoorEng49
import Derived.Shelf.Lay
import Derived.Shelf.Strings.SplitShaped
import Derived.Shelf.Strings.OnBuilder
import Derived.Shelf.Strings.PiecesUse
import Derived.Shelf.Strconv.Itoa3
import Derived.Shelf.LaysM
namespace Go.Proofs
open Go.Shelf Go.RowKit
shelf_lay LaysM.n171 Nm 171 at Tryd as Tryd.laysItoa
shelf_lay Lays.n156 Nm 156 at Tryd as Tryd.laysJoin
theorem Tryd.extra : Builder.Extra Tryd.prog Tryd.laysJoin_ren where
  sizeBuilder := by kernel_rfl
  liesBuilder := by kernel_rfl
  t5 := Tryd.underlying5
  a5 := Tryd.isAgg5
  z5 := Tryd.sizeOf5
  v5 := Tryd.zeroValue5
  infoByte := by kernel_rfl
  cellsByte := by kernel_rfl
  sizeByte := by kernel_rfl
  neB5 := by decide
theorem Tryd.strconv_Itoa (n : Int) (h0 : -9223372036854775808 ≤ n) (h1 : n ≤ 9223372036854775807) (w : World) (htab : Lib.TabIs Tryd.prog w "internal/strconv.uint64pow10" .u64 Lib.pow10Tab) :
    Calls Tryd.prog 85 #[.int .i64 n] w fun e w' => e = .returned (.string ⟨(Lib.itoa n).toArray⟩) ∧ ∃ k os, w' = Sort.grow (w.drewN k) os := Any.strconv_Itoa Tryd.laysItoa n h0 h1 w htab
theorem Tryd.strings_Join (bk o c : Nat) (xs : List ByteArray) (sep : ByteArray) (w : World)
    (hcells : ∀ (j : Nat) x, xs[j]? = some x → w.cell? ⟨bk, o + j, none⟩ = some (.string x))
    (hbk : bk < w.heap.size) (hN : xs.length ≤ 140737488355328) (hcap : xs.length ≤ c)
    (hlen : (Lib.join (xs.map (·.data.toList)) sep.data.toList).length ≤ 140737488355328) :
    Calls Tryd.prog 86 #[.slice (some ⟨bk, o, none⟩) xs.length c, .string sep] w fun e w' => e = .returned (.string ⟨(Lib.join (xs.map (·.data.toList)) sep.data.toList).toArray⟩) ∧ Below w.heap.size w w' := Any.strings_Join Tryd.laysJoin Tryd.extra bk o c xs sep w hcells hbk hN hcap hlen
theorem Tryd.strings_Join_none (a : Option Addr) (c : Nat) (sep : ByteArray) (w : World) :
    Calls Tryd.prog 86 #[.slice a 0 c, .string sep] w fun e w' => e = .returned (.string ⟨#[]⟩) ∧ w' = w := Any.strings_Join_none Tryd.laysJoin Tryd.extra a c sep w
end Go.Proofs
