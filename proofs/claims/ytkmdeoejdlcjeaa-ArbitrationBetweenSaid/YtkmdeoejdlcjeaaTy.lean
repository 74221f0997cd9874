/- The types of the seat as data. -/
import Derived.Test.YtkmdeoejdlcjeaaAbDict
namespace Go.Proofs.Ytkmdeoejdlcjeaa
open Go.Ab
set_option linter.unusedSimpArgs false
set_option linter.unusedVariables false

noncomputable abbrev dL_I_i64 : TyD := TyD.of (List Int) (fun x => [.sl 1 (List.map dI_i64.enc x)]) (by
  intro x y h
  simp only [List.cons.injEq, AV.v.injEq, Value.int.injEq, Value.bool.injEq, Value.string.injEq, AV.sl.injEq, true_and, and_true, TyD.minj dI_i64] at h
  exact (h))

structure GMarkRule where
  Double : Bool
  Tolerance : Int

theorem GMarkRule.eqOf {x y : GMarkRule} (h0 : x.Double = y.Double) (h1 : x.Tolerance = y.Tolerance) : x = y := by
  cases x; cases y; simp only at *; simp only [h0, h1]

noncomputable abbrev dGMarkRule : TyD := TyD.of GMarkRule (fun x => [B x.Double, I x.Tolerance]) (by
  intro x y h
  simp only [List.cons.injEq, AV.v.injEq, Value.int.injEq, Value.bool.injEq, Value.string.injEq, AV.sl.injEq, true_and, and_true] at h
  exact (GMarkRule.eqOf (h.1) (h.2)))

structure GStamp where
  Time : Int
  Source : Int
  Seq : Int

theorem GStamp.eqOf {x y : GStamp} (h0 : x.Time = y.Time) (h1 : x.Source = y.Source) (h2 : x.Seq = y.Seq) : x = y := by
  cases x; cases y; simp only at *; simp only [h0, h1, h2]

noncomputable abbrev dGStamp : TyD := TyD.of GStamp (fun x => [I x.Time, I x.Source, I x.Seq]) (by
  intro x y h
  simp only [List.cons.injEq, AV.v.injEq, Value.int.injEq, Value.bool.injEq, Value.string.injEq, AV.sl.injEq, true_and, and_true] at h
  exact (GStamp.eqOf (h.1) (h.2.1) (h.2.2)))

structure GGiven where
  Script : Int
  Part : Int
  Marker : Int
  Level : Int
  Value : Int
  Stamp : GStamp

theorem GGiven.eqOf {x y : GGiven} (h0 : x.Script = y.Script) (h1 : x.Part = y.Part) (h2 : x.Marker = y.Marker) (h3 : x.Level = y.Level) (h4 : x.Value = y.Value) (h5 : x.Stamp = y.Stamp) : x = y := by
  cases x; cases y; simp only at *; simp only [h0, h1, h2, h3, h4, h5]

noncomputable abbrev dGGiven : TyD := TyD.of GGiven (fun x => [I x.Script, I x.Part, I x.Marker, I x.Level, I x.Value, I x.Stamp.Time, I x.Stamp.Source, I x.Stamp.Seq]) (by
  intro x y h
  simp only [List.cons.injEq, AV.v.injEq, Value.int.injEq, Value.bool.injEq, Value.string.injEq, AV.sl.injEq, true_and, and_true] at h
  exact (GGiven.eqOf (h.1) (h.2.1) (h.2.2.1) (h.2.2.2.1) (h.2.2.2.2.1) (GStamp.eqOf (h.2.2.2.2.2.1) (h.2.2.2.2.2.2.1) (h.2.2.2.2.2.2.2))))

noncomputable abbrev dL_GGiven : TyD := TyD.of (List GGiven) (fun x => [.sl 8 (List.map dGGiven.enc x)]) (by
  intro x y h
  simp only [List.cons.injEq, AV.v.injEq, Value.int.injEq, Value.bool.injEq, Value.string.injEq, AV.sl.injEq, true_and, and_true, TyD.minj dGGiven] at h
  exact (h))

structure GVerdict where
  State : Int
  Value : Int

theorem GVerdict.eqOf {x y : GVerdict} (h0 : x.State = y.State) (h1 : x.Value = y.Value) : x = y := by
  cases x; cases y; simp only at *; simp only [h0, h1]

noncomputable abbrev dGVerdict : TyD := TyD.of GVerdict (fun x => [I x.State, I x.Value]) (by
  intro x y h
  simp only [List.cons.injEq, AV.v.injEq, Value.int.injEq, Value.bool.injEq, Value.string.injEq, AV.sl.injEq, true_and, and_true] at h
  exact (GVerdict.eqOf (h.1) (h.2)))

structure GmarkDice where
  L : List Int
  At : Int

theorem GmarkDice.eqOf {x y : GmarkDice} (h0 : x.L = y.L) (h1 : x.At = y.At) : x = y := by
  cases x; cases y; simp only at *; simp only [h0, h1]

noncomputable abbrev dGmarkDice : TyD := TyD.of GmarkDice (fun x => [.sl 1 (List.map dI_i64.enc x.L), I x.At]) (by
  intro x y h
  simp only [List.cons.injEq, AV.v.injEq, Value.int.injEq, Value.bool.injEq, Value.string.injEq, AV.sl.injEq, true_and, and_true, TyD.minj dI_i64] at h
  exact (GmarkDice.eqOf (h.1) (h.2)))

noncomputable def tyTab : List TyD := [dRaw, dRaw, dI_i64, dI_i64, dBool, dI_u8, dI_u8, dRaw, dRaw, dStr, dStr, dStr, dI_u64, dRaw, dRaw, dRaw, dRaw, dRaw, dRaw, dRaw, dRaw, dI_i32, dL_I_i64, dRaw, dRaw, dRaw, dRaw, dRaw, dGMarkRule, dRaw, dL_GGiven, dRaw, dRaw, dGVerdict, dRaw, dRaw, dGStamp, dRaw, dGGiven, dRaw, dRaw, dI_i64, dRaw, dRaw, dGmarkDice, dRaw, dRaw, dRaw, dRaw, dRaw, dRaw, dRaw, dRaw, dI_u64, dRaw, dRaw, dRaw, dRaw, dRaw, dI_u64, dRaw, dRaw, dRaw, dRaw, dRaw, dRaw, dRaw, dRaw, dI_u32, dI_u8, dI_u8, dRaw, dRaw, dI_i32, dI_i32, dRaw, dRaw, dRaw]
end Go.Proofs.Ytkmdeoejdlcjeaa
