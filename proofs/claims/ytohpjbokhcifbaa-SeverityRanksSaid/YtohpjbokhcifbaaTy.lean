/- The types of the seat as data. -/
import Derived.Test.YtohpjbokhcifbaaAbDict
namespace Go.Proofs.Ytohpjbokhcifbaa
open Go.Ab
set_option linter.unusedSimpArgs false
set_option linter.unusedVariables false

noncomputable abbrev dL_I_i64 : TyD := TyD.of (List Int) (fun x => [.sl 1 (List.map dI_i64.enc x)]) (by
  intro x y h
  simp only [List.cons.injEq, AV.v.injEq, Value.int.injEq, Value.bool.injEq, Value.string.injEq, AV.sl.injEq, AV.mp.injEq, true_and, and_true, TyD.minj dI_i64] at h
  exact (h))

structure GJudged where
  Marker : Int
  Value : Int
  Final : Int

theorem GJudged.eqOf {x y : GJudged} (h0 : x.Marker = y.Marker) (h1 : x.Value = y.Value) (h2 : x.Final = y.Final) : x = y := by
  cases x; cases y; simp only at *; simp only [h0, h1, h2]

noncomputable abbrev dGJudged : TyD := TyD.of GJudged (fun x => [I x.Marker, I x.Value, I x.Final]) (by
  intro x y h
  simp only [List.cons.injEq, AV.v.injEq, Value.int.injEq, Value.bool.injEq, Value.string.injEq, AV.sl.injEq, AV.mp.injEq, true_and, and_true] at h
  exact (GJudged.eqOf (h.1) (h.2.1) (h.2.2)))

noncomputable abbrev dL_GJudged : TyD := TyD.of (List GJudged) (fun x => [.sl 3 (List.map dGJudged.enc x)]) (by
  intro x y h
  simp only [List.cons.injEq, AV.v.injEq, Value.int.injEq, Value.bool.injEq, Value.string.injEq, AV.sl.injEq, AV.mp.injEq, true_and, and_true, TyD.minj dGJudged] at h
  exact (h))

structure GRatio where
  Num : Int
  Den : Int

theorem GRatio.eqOf {x y : GRatio} (h0 : x.Num = y.Num) (h1 : x.Den = y.Den) : x = y := by
  cases x; cases y; simp only at *; simp only [h0, h1]

noncomputable abbrev dGRatio : TyD := TyD.of GRatio (fun x => [I x.Num, I x.Den]) (by
  intro x y h
  simp only [List.cons.injEq, AV.v.injEq, Value.int.injEq, Value.bool.injEq, Value.string.injEq, AV.sl.injEq, AV.mp.injEq, true_and, and_true] at h
  exact (GRatio.eqOf (h.1) (h.2)))

noncomputable abbrev dE_I_i64_Bool : TyD := TyD.of (Int × Bool) (fun x => [I x.1, B x.2]) (by
  intro x y h
  have h1 := (List.cons.inj h).1
  have h2 := (List.cons.inj (List.cons.inj h).2).1
  exact Prod.ext (by simpa using h1) (by simpa using h2))

noncomputable abbrev dM_I_i64_Bool : TyD := TyD.of (List (Int × Bool)) (fun x => [.mp (List.map dE_I_i64_Bool.enc x)]) (by
  intro x y h
  simp only [List.cons.injEq, AV.v.injEq, Value.int.injEq, Value.bool.injEq, Value.string.injEq, AV.sl.injEq, AV.mp.injEq, true_and, and_true, TyD.minj dE_I_i64_Bool] at h
  exact (h))

noncomputable abbrev dL_I_u8 : TyD := TyD.of (List Int) (fun x => [.sl 1 (List.map dI_u8.enc x)]) (by
  intro x y h
  simp only [List.cons.injEq, AV.v.injEq, Value.int.injEq, Value.bool.injEq, Value.string.injEq, AV.sl.injEq, AV.mp.injEq, true_and, and_true, TyD.minj dI_u8] at h
  exact (h))

structure GmarkDice where
  L : List Int
  At : Int

theorem GmarkDice.eqOf {x y : GmarkDice} (h0 : x.L = y.L) (h1 : x.At = y.At) : x = y := by
  cases x; cases y; simp only at *; simp only [h0, h1]

noncomputable abbrev dGmarkDice : TyD := TyD.of GmarkDice (fun x => [.sl 1 (List.map dI_i64.enc x.L), I x.At]) (by
  intro x y h
  simp only [List.cons.injEq, AV.v.injEq, Value.int.injEq, Value.bool.injEq, Value.string.injEq, AV.sl.injEq, AV.mp.injEq, true_and, and_true, TyD.minj dI_i64] at h
  exact (GmarkDice.eqOf (h.1) (h.2)))

structure Gref01Wide where
  Hi : Int
  Lo : Int

theorem Gref01Wide.eqOf {x y : Gref01Wide} (h0 : x.Hi = y.Hi) (h1 : x.Lo = y.Lo) : x = y := by
  cases x; cases y; simp only at *; simp only [h0, h1]

noncomputable abbrev dGref01Wide : TyD := TyD.of Gref01Wide (fun x => [.v (.int .u64 x.Hi), .v (.int .u64 x.Lo)]) (by
  intro x y h
  simp only [List.cons.injEq, AV.v.injEq, Value.int.injEq, Value.bool.injEq, Value.string.injEq, AV.sl.injEq, AV.mp.injEq, true_and, and_true] at h
  exact (Gref01Wide.eqOf (h.1) (h.2)))

structure GratioWide where
  hi : Int
  lo : Int

theorem GratioWide.eqOf {x y : GratioWide} (h0 : x.hi = y.hi) (h1 : x.lo = y.lo) : x = y := by
  cases x; cases y; simp only at *; simp only [h0, h1]

noncomputable abbrev dGratioWide : TyD := TyD.of GratioWide (fun x => [.v (.int .u64 x.hi), .v (.int .u64 x.lo)]) (by
  intro x y h
  simp only [List.cons.injEq, AV.v.injEq, Value.int.injEq, Value.bool.injEq, Value.string.injEq, AV.sl.injEq, AV.mp.injEq, true_and, and_true] at h
  exact (GratioWide.eqOf (h.1) (h.2)))

structure GratioSigned where
  neg : Bool
  abs : GratioWide

theorem GratioSigned.eqOf {x y : GratioSigned} (h0 : x.neg = y.neg) (h1 : x.abs = y.abs) : x = y := by
  cases x; cases y; simp only at *; simp only [h0, h1]

noncomputable abbrev dGratioSigned : TyD := TyD.of GratioSigned (fun x => [B x.neg, .v (.int .u64 x.abs.hi), .v (.int .u64 x.abs.lo)]) (by
  intro x y h
  simp only [List.cons.injEq, AV.v.injEq, Value.int.injEq, Value.bool.injEq, Value.string.injEq, AV.sl.injEq, AV.mp.injEq, true_and, and_true] at h
  exact (GratioSigned.eqOf (h.1) (GratioWide.eqOf (h.2.1) (h.2.2))))

noncomputable def tyTab : List TyD := [dRaw, dRaw, dI_i64, dI_i64, dBool, dI_u8, dI_u8, dRaw, dRaw, dStr, dStr, dStr, dI_u64, dRaw, dRaw, dRaw, dRaw, dRaw, dRaw, dRaw, dRaw, dI_i32, dL_I_i64, dRaw, dRaw, dL_GJudged, dRaw, dRaw, dRaw, dRaw, dGRatio, dRaw, dGJudged, dRaw, dRaw, dRaw, dRaw, dM_I_i64_Bool, dRaw, dL_I_u8, dRaw, dRaw, dRaw, dRaw, dGmarkDice, dRaw, dRaw, dRaw, dRaw, dRaw, dRaw, dRaw, dRaw, dRaw, dRaw, dI_i64, dRaw, dRaw, dRaw, dI_u64, dRaw, dGref01Wide, dRaw, dRaw, dRaw, dRaw, dRaw, dRaw, dRaw, dRaw, dI_u64, dRaw, dGratioWide, dRaw, dGratioSigned, dRaw, dRaw, dRaw, dRaw, dRaw, dRaw, dRaw, dRaw, dRaw, dI_i64, dRaw, dRaw, dRaw, dRaw, dRaw, dRaw, dRaw, dI_u32, dRaw, dRaw, dRaw, dRaw, dRaw, dRaw, dRaw, dRaw, dRaw, dRaw, dI_u64, dRaw, dRaw, dRaw, dRaw, dRaw, dRaw, dRaw, dRaw, dRaw, dRaw, dRaw, dRaw, dRaw, dRaw, dRaw, dRaw, dRaw, dRaw, dRaw, dRaw, dRaw, dI_u8, dI_u8, dRaw, dRaw, dI_i32, dI_i32, dRaw, dRaw, dRaw, dRaw, dRaw, dRaw]
end Go.Proofs.Ytohpjbokhcifbaa
