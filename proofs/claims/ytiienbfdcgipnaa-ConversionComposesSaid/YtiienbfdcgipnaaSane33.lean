/- The examples of the chapter on conversion. -/
import Derived.Test.YtiienbfdcgipnaaConv2
namespace Go.Proofs.Ytiienbfdcgipnaa
open Go.Ab Go.Pure
set_option linter.unusedVariables false

/-! ## the law's examples -/

theorem c_lwhole (n : Int) : cw f_law33_whole [I n] [] = some (r_law33_whole.enc (ofR (n : Rat))) := e_law33_whole n rfl

def lS : List (Int × Int) := [(0, 0), (2, 4), (3, 5)]

theorem lS_asc : Asc (lS.map ofI) := asc_of (by unfold IAsc lS; decide)
theorem lS_pb : PB 5 0 5 0 (lS.map ofI) := pb_int (by unfold lS; decide)
theorem lS_1 : cv (lS.map ofI) ((1 : Int) : Rat) = ((2 : Int) : Rat) := by kernel_rfl
theorem lS_4 : cv (lS.map ofI) ((4 : Int) : Rat) = ((6 : Int) : Rat) := by kernel_rfl
theorem lS_nf : nf (lS.map ofI) = [(1, 2), (2, 4), (3, 5)].map ofI := by kernel_rfl

theorem c_sane : cw f_law33_sane [] [] = some (r_law33_sane.enc true) := by
  refine e_law33_sane ?_
  rw [callD_of (c_lwhole 0), callD_of (c_lwhole 0), callD_of (c_lwhole 2), callD_of (c_lwhole 4), callD_of (c_lwhole 3), callD_of (c_lwhole 5), callD_of (c_lwhole 1)]
  have h1 := c_Eval (lS.map ofI) ((1 : Int) : Rat) lS_asc (by decide) (by decide) lS_pb (bd_int (n := 3) (by decide)) (by decide) (by decide)
  have h4 := c_Eval (lS.map ofI) ((4 : Int) : Rat) lS_asc (by decide) (by decide) lS_pb (bd_int (n := 3) (by decide)) (by decide) (by decide)
  have hn := c_Normal (lS.map ofI) lS_asc (by decide) (by decide) lS_pb (by decide) (by decide)
  have hline := c_Line ((2 : Int) : Rat) ((1 : Int) : Rat) (bd_int (n := 3) (by decide)) (bd_int (n := 3) (by decide)) (by decide) (by decide) (by decide) (by decide)
  rw [lS_1] at h1
  rw [lS_4] at h4
  rw [lS_nf] at hn
  show callD r_conversion_Eval (cw f_conversion_Eval [aC (lS.map ofI), aR ((1 : Int) : Rat)] []) _ = _
  rw [callD_of h1, callD_of (c_lwhole 4)]
  show callD r_conversion_Eval (cw f_conversion_Eval [aC (lS.map ofI), aR ((4 : Int) : Rat)] []) _ = _
  rw [callD_of h4]
  show callD r_conversion_Normal (cw f_conversion_Normal [aC (lS.map ofI)] []) _ = _
  rw [callD_of hn, callD_of (c_lwhole 2), callD_of (c_lwhole 1), callD_of hline, brn_t (by rfl), brn_t (by rfl), brn_t (by rfl), brn_t (by rfl), callD_of (c_lwhole 2), brn_t (by rfl), callD_of (c_lwhole 6), brn_t (by rfl), brn_t (by rfl), chk_pos (by omega)]
  show elemD dGPoint (ptsE ([(1, 2), (2, 4), (3, 5)].map ofI)) (Int.toNat 0) _ = _
  rw [elemP (p := ofI (1, 2)) (by rfl), callD_of (c_lwhole 1), callD_of (c_lwhole 2), brn_t (by rfl), brn_t (by rfl), chk_pos (by omega)]
  show elemD dGPoint (ptsE [((0 : Rat), ((1 : Int) : Rat)), ((1 : Rat), ((2 : Int) : Rat) + ((1 : Int) : Rat))]) (Int.toNat 1) _ = _
  rw [elemP (p := ((1 : Rat), ((2 : Int) : Rat) + ((1 : Int) : Rat))) (by rfl), callD_of (c_lwhole 1), callD_of (c_lwhole 3)]
  have e3 : ((2 : Int) : Rat) + ((1 : Int) : Rat) = ((3 : Int) : Rat) := by kernel_rfl
  rw [e3]
  rfl
end Go.Proofs.Ytiienbfdcgipnaa
