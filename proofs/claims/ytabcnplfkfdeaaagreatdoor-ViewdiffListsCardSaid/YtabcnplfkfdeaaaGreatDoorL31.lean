/- Walks and plain laws that the claim stands on (part 31). -/
import Derived.Test.YtabcnplfkfdeaaaGreatDoorL3
import Derived.Test.YtabcnplfkfdeaaaGreatDoorRows
import Derived.WalkKit
import Derived.ProofKit
import Derived.OpenShut
import Derived.Deep.DeepHandedRow
import Derived.Lib.LaidTab
import Derived.Lib.LaidU8
import Derived.Lay
namespace Go.Proofs.YtabcnplfkfdeaaaGreatDoor
open Go.RowKit
set_option linter.unusedVariables false
theorem rowOwn : ownKnob Tryz.prog.godebug = none := by kernel_rfl
theorem rowLaidOut : laidOutB Tryz.prog = true := by kernel_rfl
theorem u8_extra : U8Extra Tryz.prog Tryz.lays260_ren where
  n3 := by kernel_rfl
  n4 := by kernel_rfl
  y3 := by kernel_rfl
  y4 := by kernel_rfl
  c5 := by kernel_rfl
  c119 := by kernel_rfl
  c138 := by kernel_rfl
theorem reads_first : (Rows.laid_unicode_utf8_first : DataW Unit) = Lib.firstData := by kernel_rfl
theorem reads_accept : (Rows.laid_unicode_utf8_acceptRanges : DataW Unit) = Lib.acceptData := by kernel_rfl
theorem reads_pow : (Rows.laid_internal_strconv_uint64pow10 : DataW Unit) = Lib.tabData .u64 Lib.pow10Tab := by kernel_rfl
theorem tabs_of {W : World} {laid : List (String × DataW Unit)} (h : laidMet Tryz.prog laid W) (hs : W.ShapedOpen Tryz.prog) (h1 : ("unicode/utf8.first", Rows.laid_unicode_utf8_first) ∈ laid) (h2 : ("unicode/utf8.acceptRanges", Rows.laid_unicode_utf8_acceptRanges) ∈ laid) (h3 : ("internal/strconv.uint64pow10", Rows.laid_internal_strconv_uint64pow10) ∈ laid) : Tabs W where
  utf := by
    have r1 := Lib.laidMet.reads h h1
    have r2 := Lib.laidMet.reads h h2
    rw [reads_first] at r1
    rw [reads_accept] at r2
    exact utf8Tabs_of_reads Tryz.lays260 u8_extra r1 r2
  max := by
    obtain ⟨m, hm⟩ := Tryz.laysM219.s1_3 W hs
    exact ⟨m, hm⟩
  pow := by
    have r3 := Lib.laidMet.reads h h3
    rw [reads_pow] at r3
    obtain ⟨g, t, cs, fuel, p, hg, hty, hvar, hd⟩ := r3
    obtain rfl := Option.some.inj ((show Tryz.prog.globalNamed "internal/strconv.uint64pow10" = some 3 by kernel_rfl).symm.trans hg)
    obtain rfl := Option.some.inj ((show (Tryz.prog.globals[3]?).map (·.type) = some 195 by kernel_rfl).symm.trans hty)
    have hcs := Lib.cells_of_tab Tryz.underlying195 Tryz.underlying157 (by kernel_rfl) (by kernel_rfl) hd
    unfold Lib.TabIs
    rw [hvar, ← hcs]
noncomputable def tabWorld (os : Os) : World := World.laidAll Tryz.prog os Rows.viewdiffListsRow.laid
end Go.Proofs.YtabcnplfkfdeaaaGreatDoor
