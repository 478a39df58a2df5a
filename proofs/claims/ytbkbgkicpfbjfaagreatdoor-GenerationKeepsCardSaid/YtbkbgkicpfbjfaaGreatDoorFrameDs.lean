/- What the laws of this seat read of the listed variables. -/
import Derived.Test.YtbkbgkicpfbjfaaGreatDoorFrameB
import Derived.Test.YtbkbgkicpfbjfaaGreatDoorDsA
import Derived.Test.YtbkbgkicpfbjfaaGreatDoorTxtA
namespace Go.Proofs.YtbkbgkicpfbjfaaGreatDoor
theorem gTabType : (Tryz.prog.globals[1]?).map (·.type) = some 214 := by kernel_rfl
theorem cellsTab : Tryz.prog.cellsOf 214 = 20 := by kernel_rfl
theorem cellsU64 : Tryz.prog.cellsOf 162 = 1 := by kernel_rfl
theorem tab_of {W : World} {rest : List (String × DataW Unit)} (h : laidMet Tryz.prog (("math/bits.deBruijn32tab", Rows.laid_math_bits_deBruijn32tab) :: ("math/bits.deBruijn64tab", Rows.laid_math_bits_deBruijn64tab) :: ("internal/strconv.uint64pow10", Rows.laid_internal_strconv_uint64pow10) :: rest) W) : Tab W :=
  Lib.tabIs_of_head (rest := rest) gTab gTabType Tryz.underlying214 Tryz.underlying162 cellsU64 cellsTab (laidMet.tail (laidMet.tail h))
theorem max_of {W : World} (h : W.ShapedOpen Tryz.prog) : MaxL W := Tryz.laysM144.s1_3 W h
end Go.Proofs.YtbkbgkicpfbjfaaGreatDoor
