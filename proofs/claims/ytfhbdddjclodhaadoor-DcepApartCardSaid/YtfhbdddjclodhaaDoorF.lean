/- Layer 18: the tables that the rows lay, as the heap at the start. It bears no condition. -/
import Derived.Test.YtfhbdddjclodhaaDoorE
import Derived.Test.YtfhbdddjclodhaaDoorRows
import Derived.Test.YtfhbdddjclodhaaDoorTie
import Derived.Test.YtfhbdddjclodhaaDoorCards
import Derived.ProofKit
import Derived.OpenShut
import Derived.LaidMore
import Derived.Lay
import Derived.SevenTiedAt
import Derived.Stop.Joined
namespace Go.Proofs.YtfhbdddjclodhaaDoor.E
open Go.RowKit (Below)
open Go.Lib Go.Shelf
set_option linter.unusedVariables false
set_option linter.unusedSimpArgs false
theorem ext18 : U8Extra Tryd.prog lays_ren := by
  constructor
  all_goals kernel_rfl
theorem accept18 : (Rows.laid_unicode_utf8_acceptRanges : DataW Unit) = acceptData := by rfl
theorem first18 : Rows.laid_unicode_utf8_first = firstData := by kernel_rfl
def laid18 : List (String × DataW Unit) := [("unicode/utf8.acceptRanges", Rows.laid_unicode_utf8_acceptRanges), ("unicode/utf8.first", Rows.laid_unicode_utf8_first)]
theorem tabs18 {W : World} (h : laidMetH Tryd.prog laid18 W) : Utf8Tabs 0 1 W := by
  rw [MakeChecks.laidMetH_plain _ _ _ (by kernel_rfl)] at h
  exact utf8Tabs_of_readsT (U8Types.of196 laysV) ext18 (laidMet.reads h (by rw [← first18]; simp [laid18])) (laidMet.reads h (by rw [← accept18]; simp [laid18]))
theorem own18 : ownKnob Tryd.prog.godebug = none := by kernel_rfl
theorem Tb.of {H : AH} (h : ∀ n b, tabs0.get n = some b → H.get n = some b) : Tb H := ⟨h _ _ tabs0_get0, h _ _ tabs0_get1⟩
theorem txt_ex (s : ByteArray) : ∃ l, s = txt l := ⟨_, (txt_of s).symm⟩
theorem wfU8 {n : Int} (h : (Lit.int .u8 n).wf = true) : 0 ≤ n ∧ n < 256 := by simp [Lit.wf, IntKind.wrap, IntKind.signed, IntKind.bits, IntKind.min, IntKind.max] at h; omega
theorem wfU16 {n : Int} (h : (Lit.int .u16 n).wf = true) : 0 ≤ n ∧ n < 65536 := by simp [Lit.wf, IntKind.wrap, IntKind.signed, IntKind.bits, IntKind.min, IntKind.max] at h; omega
theorem wfU32 {n : Int} (h : (Lit.int .u32 n).wf = true) : 0 ≤ n ∧ n < 4294967296 := by simp [Lit.wf, IntKind.wrap, IntKind.signed, IntKind.bits, IntKind.min, IntKind.max] at h; omega
end Go.Proofs.YtfhbdddjclodhaaDoor.E
