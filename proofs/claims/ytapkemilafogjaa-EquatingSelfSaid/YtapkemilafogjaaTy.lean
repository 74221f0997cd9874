/- The types of the seat as data. -/
import Derived.Test.YtapkemilafogjaaAbDict
namespace Go.Proofs.Ytapkemilafogjaa
open Go.Ab
set_option linter.unusedSimpArgs false
set_option linter.unusedVariables false

noncomputable abbrev dL_I_i64 : TyD := TyD.of (List Int) (fun x => [.sl 1 (List.map dI_i64.enc x)]) (by
  intro x y h
  simp only [List.cons.injEq, AV.v.injEq, Value.int.injEq, Value.bool.injEq, Value.string.injEq, AV.sl.injEq, true_and, and_true, TyD.minj dI_i64] at h
  exact (h))

structure GDistribution where
  Counts : List Int

theorem GDistribution.eqOf {x y : GDistribution} (h0 : x.Counts = y.Counts) : x = y := by
  cases x; cases y; simp only at *; simp only [h0]

noncomputable abbrev dGDistribution : TyD := TyD.of GDistribution (fun x => [.sl 1 (List.map dI_i64.enc x.Counts)]) (by
  intro x y h
  simp only [List.cons.injEq, AV.v.injEq, Value.int.injEq, Value.bool.injEq, Value.string.injEq, AV.sl.injEq, true_and, and_true, TyD.minj dI_i64] at h
  exact (GDistribution.eqOf (h)))

structure GRatio where
  Num : Int
  Den : Int

theorem GRatio.eqOf {x y : GRatio} (h0 : x.Num = y.Num) (h1 : x.Den = y.Den) : x = y := by
  cases x; cases y; simp only at *; simp only [h0, h1]

noncomputable abbrev dGRatio : TyD := TyD.of GRatio (fun x => [I x.Num, I x.Den]) (by
  intro x y h
  simp only [List.cons.injEq, AV.v.injEq, Value.int.injEq, Value.bool.injEq, Value.string.injEq, AV.sl.injEq, true_and, and_true] at h
  exact (GRatio.eqOf (h.1) (h.2)))

structure GPoint where
  X : GRatio
  Y : GRatio

theorem GPoint.eqOf {x y : GPoint} (h0 : x.X = y.X) (h1 : x.Y = y.Y) : x = y := by
  cases x; cases y; simp only at *; simp only [h0, h1]

noncomputable abbrev dGPoint : TyD := TyD.of GPoint (fun x => [I x.X.Num, I x.X.Den, I x.Y.Num, I x.Y.Den]) (by
  intro x y h
  simp only [List.cons.injEq, AV.v.injEq, Value.int.injEq, Value.bool.injEq, Value.string.injEq, AV.sl.injEq, true_and, and_true] at h
  exact (GPoint.eqOf (GRatio.eqOf (h.1) (h.2.1)) (GRatio.eqOf (h.2.2.1) (h.2.2.2))))

noncomputable abbrev dL_GPoint : TyD := TyD.of (List GPoint) (fun x => [.sl 4 (List.map dGPoint.enc x)]) (by
  intro x y h
  simp only [List.cons.injEq, AV.v.injEq, Value.int.injEq, Value.bool.injEq, Value.string.injEq, AV.sl.injEq, true_and, and_true, TyD.minj dGPoint] at h
  exact (h))

structure GCurve where
  Points : List GPoint

theorem GCurve.eqOf {x y : GCurve} (h0 : x.Points = y.Points) : x = y := by
  cases x; cases y; simp only at *; simp only [h0]

noncomputable abbrev dGCurve : TyD := TyD.of GCurve (fun x => [.sl 4 (List.map dGPoint.enc x.Points)]) (by
  intro x y h
  simp only [List.cons.injEq, AV.v.injEq, Value.int.injEq, Value.bool.injEq, Value.string.injEq, AV.sl.injEq, true_and, and_true, TyD.minj dGPoint] at h
  exact (GCurve.eqOf (h)))

structure GmarkDice where
  L : List Int
  At : Int

theorem GmarkDice.eqOf {x y : GmarkDice} (h0 : x.L = y.L) (h1 : x.At = y.At) : x = y := by
  cases x; cases y; simp only at *; simp only [h0, h1]

noncomputable abbrev dGmarkDice : TyD := TyD.of GmarkDice (fun x => [.sl 1 (List.map dI_i64.enc x.L), I x.At]) (by
  intro x y h
  simp only [List.cons.injEq, AV.v.injEq, Value.int.injEq, Value.bool.injEq, Value.string.injEq, AV.sl.injEq, true_and, and_true, TyD.minj dI_i64] at h
  exact (GmarkDice.eqOf (h.1) (h.2)))

structure GratioWide where
  hi : Int
  lo : Int

theorem GratioWide.eqOf {x y : GratioWide} (h0 : x.hi = y.hi) (h1 : x.lo = y.lo) : x = y := by
  cases x; cases y; simp only at *; simp only [h0, h1]

noncomputable abbrev dGratioWide : TyD := TyD.of GratioWide (fun x => [.v (.int .u64 x.hi), .v (.int .u64 x.lo)]) (by
  intro x y h
  simp only [List.cons.injEq, AV.v.injEq, Value.int.injEq, Value.bool.injEq, Value.string.injEq, AV.sl.injEq, true_and, and_true] at h
  exact (GratioWide.eqOf (h.1) (h.2)))

structure GratioSigned where
  neg : Bool
  abs : GratioWide

theorem GratioSigned.eqOf {x y : GratioSigned} (h0 : x.neg = y.neg) (h1 : x.abs = y.abs) : x = y := by
  cases x; cases y; simp only at *; simp only [h0, h1]

noncomputable abbrev dGratioSigned : TyD := TyD.of GratioSigned (fun x => [B x.neg, .v (.int .u64 x.abs.hi), .v (.int .u64 x.abs.lo)]) (by
  intro x y h
  simp only [List.cons.injEq, AV.v.injEq, Value.int.injEq, Value.bool.injEq, Value.string.injEq, AV.sl.injEq, true_and, and_true] at h
  exact (GratioSigned.eqOf (h.1) (GratioWide.eqOf (h.2.1) (h.2.2))))

noncomputable abbrev dL_GRatio : TyD := TyD.of (List GRatio) (fun x => [.sl 2 (List.map dGRatio.enc x)]) (by
  intro x y h
  simp only [List.cons.injEq, AV.v.injEq, Value.int.injEq, Value.bool.injEq, Value.string.injEq, AV.sl.injEq, true_and, and_true, TyD.minj dGRatio] at h
  exact (h))

structure GconversionSteps where
  e : Int

theorem GconversionSteps.eqOf {x y : GconversionSteps} (h0 : x.e = y.e) : x = y := by
  cases x; cases y; simp only at *; simp only [h0]

noncomputable abbrev dGconversionSteps : TyD := TyD.of GconversionSteps (fun x => [I x.e]) (by
  intro x y h
  simp only [List.cons.injEq, AV.v.injEq, Value.int.injEq, Value.bool.injEq, Value.string.injEq, AV.sl.injEq, true_and, and_true] at h
  exact (GconversionSteps.eqOf (h)))

noncomputable def tyTab : List TyD := [dRaw, dRaw, dI_i64, dI_i64, dBool, dI_u8, dI_u8, dRaw, dRaw, dStr, dStr, dStr, dI_u64, dRaw, dRaw, dRaw, dRaw, dRaw, dRaw, dRaw, dRaw, dI_i32, dL_I_i64, dRaw, dRaw, dRaw, dRaw, dRaw, dGDistribution, dRaw, dL_GPoint, dRaw, dGCurve, dI_i64, dRaw, dRaw, dRaw, dGRatio, dRaw, dRaw, dRaw, dRaw, dRaw, dRaw, dRaw, dRaw, dRaw, dGmarkDice, dRaw, dRaw, dRaw, dRaw, dRaw, dGPoint, dRaw, dRaw, dRaw, dRaw, dRaw, dRaw, dRaw, dRaw, dRaw, dRaw, dRaw, dRaw, dRaw, dI_u64, dRaw, dRaw, dRaw, dGratioWide, dRaw, dGratioSigned, dRaw, dRaw, dRaw, dRaw, dRaw, dRaw, dL_GRatio, dRaw, dRaw, dRaw, dRaw, dRaw, dRaw, dRaw, dRaw, dRaw, dRaw, dRaw, dGconversionSteps, dRaw, dRaw, dRaw, dRaw, dRaw, dRaw, dRaw, dRaw, dRaw, dRaw, dRaw, dRaw, dRaw, dI_u64, dRaw, dRaw, dRaw, dRaw, dRaw, dRaw, dRaw, dRaw, dRaw, dRaw, dRaw, dRaw, dRaw, dI_i64, dRaw, dRaw, dRaw, dRaw, dRaw, dRaw, dRaw, dI_u32, dRaw, dI_u64, dRaw, dRaw, dRaw, dRaw, dRaw, dRaw, dRaw, dRaw, dRaw, dRaw, dRaw, dRaw, dRaw, dRaw, dRaw, dRaw, dI_u8, dI_u8, dRaw, dRaw, dI_i32, dI_i32, dRaw, dRaw, dRaw, dRaw, dRaw]
end Go.Proofs.Ytapkemilafogjaa
