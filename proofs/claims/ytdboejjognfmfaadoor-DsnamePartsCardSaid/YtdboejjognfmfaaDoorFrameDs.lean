/- What the laws of this seat read of the listed variables. -/
import Derived.Test.YtdboejjognfmfaaDoorFrameB
import Derived.Test.YtdboejjognfmfaaDoorDsB
import Derived.Test.YtdboejjognfmfaaDoorTxtA
namespace Go.Proofs.YtdboejjognfmfaaDoor
theorem gTabType : (Tryd.prog.globals[4]?).map (·.type) = some 116 := by kernel_rfl
theorem cellsTab : Tryd.prog.cellsOf 116 = 20 := by kernel_rfl
theorem cellsU64 : Tryd.prog.cellsOf 94 = 1 := by kernel_rfl
theorem tab_of {W : World} {rest : List (String × DataW Unit)} (h : laidMet Tryd.prog (("math/bits.deBruijn32tab", Rows.laid_math_bits_deBruijn32tab) :: ("math/bits.deBruijn64tab", Rows.laid_math_bits_deBruijn64tab) :: ("internal/strconv.uint64pow10", Rows.laid_internal_strconv_uint64pow10) :: rest) W) : Tab W :=
  Lib.tabIs_of_head (rest := rest) gTab gTabType Tryd.underlying116 Tryd.underlying94 cellsU64 cellsTab (laidMet.tail (laidMet.tail h))
theorem max_of {W : World} (h : W.ShapedOpen Tryd.prog) : MaxL W := Tryd.laysM144.s1_3 W h
end Go.Proofs.YtdboejjognfmfaaDoor
