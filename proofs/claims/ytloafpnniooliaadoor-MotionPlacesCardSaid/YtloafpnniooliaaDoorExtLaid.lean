/- What the row's listed variables read as, as the walks want it: the decoder's two tables. -/
import Derived.Test.YtloafpnniooliaaDoorExtTabs
import Derived.Test.YtloafpnniooliaaDoorRows
import Derived.Lib.LaidU8T
import Derived.LaidLaws
import Derived.KernelRfl
namespace Go.Proofs.YtloafpnniooliaaDoor.Laid
open Go Go.RowKit Go.Shelf

theorem first_data : (Rows.laid_unicode_utf8_first : DataW Unit) = Lib.firstData := by kernel_rfl
theorem accept_data : (Rows.laid_unicode_utf8_acceptRanges : DataW Unit) = Lib.acceptData := by kernel_rfl

/-- The numbers of this program's types and variables. -/
def ren : Ren := ⟨fun x => x, fun x => if x = 5 then 5 else if x = 119 then 77 else if x = 138 then 80 else if x = 139 then 81 else x, fun x => if x = 3 then 0 else if x = 4 then 1 else x⟩

theorem types : U8Types Tryd.prog ren := ⟨by kernel_rfl, by kernel_rfl, by kernel_rfl, by kernel_rfl⟩
theorem extra : U8Extra Tryd.prog ren := ⟨by kernel_rfl, by kernel_rfl, by kernel_rfl, by kernel_rfl, by kernel_rfl, by kernel_rfl, by kernel_rfl⟩


theorem tabs_of {l : List (String × DataW Unit)} {W : World} (h : laidMet Tryd.prog l W) (h1 : ("unicode/utf8.first", Rows.laid_unicode_utf8_first) ∈ l) (h2 : ("unicode/utf8.acceptRanges", Rows.laid_unicode_utf8_acceptRanges) ∈ l) : Pa.Tabs W := by
  have a := Lib.laidMet.reads h h1
  have b := Lib.laidMet.reads h h2
  rw [first_data] at a
  rw [accept_data] at b
  have c := utf8Tabs_of_readsT types extra a b
  exact ⟨c.1, c.2⟩

end Go.Proofs.YtloafpnniooliaaDoor.Laid
