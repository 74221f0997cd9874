/- The types of the seat as data. -/
import Derived.Test.YtdhibifcofaioaaGreatAbDict
namespace Go.Proofs.YtdhibifcofaioaaGreat
open Go.Ab
set_option linter.unusedSimpArgs false
set_option linter.unusedVariables false

noncomputable def nL_I_i64 : (List Int) → List AV := fun x => [.sl 1 (List.map dI_i64.enc x)]
noncomputable abbrev dL_I_i64 : TyD := TyD.of (List Int) nL_I_i64 (by
  intro x y h
  simp only [nL_I_i64, List.cons.injEq, AV.v.injEq, Value.int.injEq, Value.bool.injEq, Value.string.injEq, AV.sl.injEq, AV.mp.injEq, true_and, and_true, TyD.minj dI_i64] at h
  exact (h))

structure GStamp where
  Time : Int
  Source : Int
  Seq : Int

theorem GStamp.eqOf {x y : GStamp} (h0 : x.Time = y.Time) (h1 : x.Source = y.Source) (h2 : x.Seq = y.Seq) : x = y := by
  cases x; cases y; simp only at *; simp only [h0, h1, h2]

noncomputable def nGStamp : GStamp → List AV := fun x => [I x.Time, I x.Source, I x.Seq]
noncomputable abbrev dGStamp : TyD := TyD.of GStamp nGStamp (by
  intro x y h
  simp only [nGStamp, List.cons.injEq, AV.v.injEq, Value.int.injEq, Value.bool.injEq, Value.string.injEq, AV.sl.injEq, AV.mp.injEq, true_and, and_true] at h
  exact (GStamp.eqOf (h.1) (h.2.1) (h.2.2)))

structure GGiven where
  Script : Int
  Part : Int
  Marker : Int
  Level : Int
  Value : Int
  Stamp : GStamp

theorem GGiven.eqOf {x y : GGiven} (h0 : x.Script = y.Script) (h1 : x.Part = y.Part) (h2 : x.Marker = y.Marker) (h3 : x.Level = y.Level) (h4 : x.Value = y.Value) (h5 : x.Stamp = y.Stamp) : x = y := by
  cases x; cases y; simp only at *; simp only [h0, h1, h2, h3, h4, h5]

noncomputable def nGGiven : GGiven → List AV := fun x => [I x.Script, I x.Part, I x.Marker, I x.Level, I x.Value, I x.Stamp.Time, I x.Stamp.Source, I x.Stamp.Seq]
noncomputable abbrev dGGiven : TyD := TyD.of GGiven nGGiven (by
  intro x y h
  simp only [nGGiven, List.cons.injEq, AV.v.injEq, Value.int.injEq, Value.bool.injEq, Value.string.injEq, AV.sl.injEq, AV.mp.injEq, true_and, and_true] at h
  exact (GGiven.eqOf (h.1) (h.2.1) (h.2.2.1) (h.2.2.2.1) (h.2.2.2.2.1) (GStamp.eqOf (h.2.2.2.2.2.1) (h.2.2.2.2.2.2.1) (h.2.2.2.2.2.2.2))))

noncomputable def nL_GGiven : (List GGiven) → List AV := fun x => [.sl 8 (List.map dGGiven.enc x)]
noncomputable abbrev dL_GGiven : TyD := TyD.of (List GGiven) nL_GGiven (by
  intro x y h
  simp only [nL_GGiven, List.cons.injEq, AV.v.injEq, Value.int.injEq, Value.bool.injEq, Value.string.injEq, AV.sl.injEq, AV.mp.injEq, true_and, and_true, TyD.minj dGGiven] at h
  exact (h))

structure GMarkRule where
  Double : Bool
  Tolerance : Int

theorem GMarkRule.eqOf {x y : GMarkRule} (h0 : x.Double = y.Double) (h1 : x.Tolerance = y.Tolerance) : x = y := by
  cases x; cases y; simp only at *; simp only [h0, h1]

noncomputable def nGMarkRule : GMarkRule → List AV := fun x => [B x.Double, I x.Tolerance]
noncomputable abbrev dGMarkRule : TyD := TyD.of GMarkRule nGMarkRule (by
  intro x y h
  simp only [nGMarkRule, List.cons.injEq, AV.v.injEq, Value.int.injEq, Value.bool.injEq, Value.string.injEq, AV.sl.injEq, AV.mp.injEq, true_and, and_true] at h
  exact (GMarkRule.eqOf (h.1) (h.2)))

structure GMarker where
  ID : Int
  Centre : Int
  Level : Int
  Capacity : Int
  Papers : List Int

theorem GMarker.eqOf {x y : GMarker} (h0 : x.ID = y.ID) (h1 : x.Centre = y.Centre) (h2 : x.Level = y.Level) (h3 : x.Capacity = y.Capacity) (h4 : x.Papers = y.Papers) : x = y := by
  cases x; cases y; simp only at *; simp only [h0, h1, h2, h3, h4]

noncomputable def nGMarker : GMarker → List AV := fun x => [I x.ID, I x.Centre, I x.Level, I x.Capacity, .sl 1 (List.map dI_i64.enc x.Papers)]
noncomputable abbrev dGMarker : TyD := TyD.of GMarker nGMarker (by
  intro x y h
  simp only [nGMarker, List.cons.injEq, AV.v.injEq, Value.int.injEq, Value.bool.injEq, Value.string.injEq, AV.sl.injEq, AV.mp.injEq, true_and, and_true, TyD.minj dI_i64] at h
  exact (GMarker.eqOf (h.1) (h.2.1) (h.2.2.1) (h.2.2.2.1) (h.2.2.2.2)))

noncomputable def nL_GMarker : (List GMarker) → List AV := fun x => [.sl 5 (List.map dGMarker.enc x)]
noncomputable abbrev dL_GMarker : TyD := TyD.of (List GMarker) nL_GMarker (by
  intro x y h
  simp only [nL_GMarker, List.cons.injEq, AV.v.injEq, Value.int.injEq, Value.bool.injEq, Value.string.injEq, AV.sl.injEq, AV.mp.injEq, true_and, and_true, TyD.minj dGMarker] at h
  exact (h))

structure GScript where
  Number : Int
  Paper : Int
  Candidate : Int
  Centre : Int
  Variant : Int
  Pages : List Int
  Answers : List Int

theorem GScript.eqOf {x y : GScript} (h0 : x.Number = y.Number) (h1 : x.Paper = y.Paper) (h2 : x.Candidate = y.Candidate) (h3 : x.Centre = y.Centre) (h4 : x.Variant = y.Variant) (h5 : x.Pages = y.Pages) (h6 : x.Answers = y.Answers) : x = y := by
  cases x; cases y; simp only at *; simp only [h0, h1, h2, h3, h4, h5, h6]

noncomputable def nGScript : GScript → List AV := fun x => [I x.Number, I x.Paper, I x.Candidate, I x.Centre, I x.Variant, .sl 1 (List.map dI_i64.enc x.Pages), .sl 1 (List.map dI_i64.enc x.Answers)]
noncomputable abbrev dGScript : TyD := TyD.of GScript nGScript (by
  intro x y h
  simp only [nGScript, List.cons.injEq, AV.v.injEq, Value.int.injEq, Value.bool.injEq, Value.string.injEq, AV.sl.injEq, AV.mp.injEq, true_and, and_true, TyD.minj dI_i64] at h
  exact (GScript.eqOf (h.1) (h.2.1) (h.2.2.1) (h.2.2.2.1) (h.2.2.2.2.1) (h.2.2.2.2.2.1) (h.2.2.2.2.2.2)))

noncomputable def nL_GScript : (List GScript) → List AV := fun x => [.sl 7 (List.map dGScript.enc x)]
noncomputable abbrev dL_GScript : TyD := TyD.of (List GScript) nL_GScript (by
  intro x y h
  simp only [nL_GScript, List.cons.injEq, AV.v.injEq, Value.int.injEq, Value.bool.injEq, Value.string.injEq, AV.sl.injEq, AV.mp.injEq, true_and, and_true, TyD.minj dGScript] at h
  exact (h))

structure GPart where
  Kind : Int
  Max : Int
  Topic : Int
  Objective : Int
  Options : Int
  Key : Int

theorem GPart.eqOf {x y : GPart} (h0 : x.Kind = y.Kind) (h1 : x.Max = y.Max) (h2 : x.Topic = y.Topic) (h3 : x.Objective = y.Objective) (h4 : x.Options = y.Options) (h5 : x.Key = y.Key) : x = y := by
  cases x; cases y; simp only at *; simp only [h0, h1, h2, h3, h4, h5]

noncomputable def nGPart : GPart → List AV := fun x => [I x.Kind, I x.Max, I x.Topic, I x.Objective, I x.Options, I x.Key]
noncomputable abbrev dGPart : TyD := TyD.of GPart nGPart (by
  intro x y h
  simp only [nGPart, List.cons.injEq, AV.v.injEq, Value.int.injEq, Value.bool.injEq, Value.string.injEq, AV.sl.injEq, AV.mp.injEq, true_and, and_true] at h
  exact (GPart.eqOf (h.1) (h.2.1) (h.2.2.1) (h.2.2.2.1) (h.2.2.2.2.1) (h.2.2.2.2.2)))

noncomputable def nL_GPart : (List GPart) → List AV := fun x => [.sl 6 (List.map dGPart.enc x)]
noncomputable abbrev dL_GPart : TyD := TyD.of (List GPart) nL_GPart (by
  intro x y h
  simp only [nL_GPart, List.cons.injEq, AV.v.injEq, Value.int.injEq, Value.bool.injEq, Value.string.injEq, AV.sl.injEq, AV.mp.injEq, true_and, and_true, TyD.minj dGPart] at h
  exact (h))

structure GPaper where
  Code : Int
  Variant : Int
  Parts : List GPart

theorem GPaper.eqOf {x y : GPaper} (h0 : x.Code = y.Code) (h1 : x.Variant = y.Variant) (h2 : x.Parts = y.Parts) : x = y := by
  cases x; cases y; simp only at *; simp only [h0, h1, h2]

noncomputable def nGPaper : GPaper → List AV := fun x => [I x.Code, I x.Variant, .sl 6 (List.map dGPart.enc x.Parts)]
noncomputable abbrev dGPaper : TyD := TyD.of GPaper nGPaper (by
  intro x y h
  simp only [nGPaper, List.cons.injEq, AV.v.injEq, Value.int.injEq, Value.bool.injEq, Value.string.injEq, AV.sl.injEq, AV.mp.injEq, true_and, and_true, TyD.minj dGPart] at h
  exact (GPaper.eqOf (h.1) (h.2.1) (h.2.2)))

noncomputable def nL_GPaper : (List GPaper) → List AV := fun x => [.sl 3 (List.map dGPaper.enc x)]
noncomputable abbrev dL_GPaper : TyD := TyD.of (List GPaper) nL_GPaper (by
  intro x y h
  simp only [nL_GPaper, List.cons.injEq, AV.v.injEq, Value.int.injEq, Value.bool.injEq, Value.string.injEq, AV.sl.injEq, AV.mp.injEq, true_and, and_true, TyD.minj dGPaper] at h
  exact (h))

noncomputable def nL_L_I_i64 : (List (List Int)) → List AV := fun x => [.sl 1 (List.map dL_I_i64.enc x)]
noncomputable abbrev dL_L_I_i64 : TyD := TyD.of (List (List Int)) nL_L_I_i64 (by
  intro x y h
  simp only [nL_L_I_i64, List.cons.injEq, AV.v.injEq, Value.int.injEq, Value.bool.injEq, Value.string.injEq, AV.sl.injEq, AV.mp.injEq, true_and, and_true, TyD.minj dL_I_i64] at h
  exact (h))

structure GScheme where
  Keys : List (List Int)
  Withdrawn : List Int

theorem GScheme.eqOf {x y : GScheme} (h0 : x.Keys = y.Keys) (h1 : x.Withdrawn = y.Withdrawn) : x = y := by
  cases x; cases y; simp only at *; simp only [h0, h1]

noncomputable def nGScheme : GScheme → List AV := fun x => [.sl 1 (List.map dL_I_i64.enc x.Keys), .sl 1 (List.map dI_i64.enc x.Withdrawn)]
noncomputable abbrev dGScheme : TyD := TyD.of GScheme nGScheme (by
  intro x y h
  simp only [nGScheme, List.cons.injEq, AV.v.injEq, Value.int.injEq, Value.bool.injEq, Value.string.injEq, AV.sl.injEq, AV.mp.injEq, true_and, and_true, TyD.minj dI_i64, TyD.minj dL_I_i64] at h
  exact (GScheme.eqOf (h.1) (h.2)))

noncomputable def nL_GScheme : (List GScheme) → List AV := fun x => [.sl 2 (List.map dGScheme.enc x)]
noncomputable abbrev dL_GScheme : TyD := TyD.of (List GScheme) nL_GScheme (by
  intro x y h
  simp only [nL_GScheme, List.cons.injEq, AV.v.injEq, Value.int.injEq, Value.bool.injEq, Value.string.injEq, AV.sl.injEq, AV.mp.injEq, true_and, and_true, TyD.minj dGScheme] at h
  exact (h))

structure GSeed where
  Script : Int
  Marks : List Int

theorem GSeed.eqOf {x y : GSeed} (h0 : x.Script = y.Script) (h1 : x.Marks = y.Marks) : x = y := by
  cases x; cases y; simp only at *; simp only [h0, h1]

noncomputable def nGSeed : GSeed → List AV := fun x => [I x.Script, .sl 1 (List.map dI_i64.enc x.Marks)]
noncomputable abbrev dGSeed : TyD := TyD.of GSeed nGSeed (by
  intro x y h
  simp only [nGSeed, List.cons.injEq, AV.v.injEq, Value.int.injEq, Value.bool.injEq, Value.string.injEq, AV.sl.injEq, AV.mp.injEq, true_and, and_true, TyD.minj dI_i64] at h
  exact (GSeed.eqOf (h.1) (h.2)))

noncomputable def nL_GSeed : (List GSeed) → List AV := fun x => [.sl 2 (List.map dGSeed.enc x)]
noncomputable abbrev dL_GSeed : TyD := TyD.of (List GSeed) nL_GSeed (by
  intro x y h
  simp only [nL_GSeed, List.cons.injEq, AV.v.injEq, Value.int.injEq, Value.bool.injEq, Value.string.injEq, AV.sl.injEq, AV.mp.injEq, true_and, and_true, TyD.minj dGSeed] at h
  exact (h))

structure GMonitorRule where
  Part : Int
  Total : Int
  Window : Int
  Fails : Int

theorem GMonitorRule.eqOf {x y : GMonitorRule} (h0 : x.Part = y.Part) (h1 : x.Total = y.Total) (h2 : x.Window = y.Window) (h3 : x.Fails = y.Fails) : x = y := by
  cases x; cases y; simp only at *; simp only [h0, h1, h2, h3]

noncomputable def nGMonitorRule : GMonitorRule → List AV := fun x => [I x.Part, I x.Total, I x.Window, I x.Fails]
noncomputable abbrev dGMonitorRule : TyD := TyD.of GMonitorRule nGMonitorRule (by
  intro x y h
  simp only [nGMonitorRule, List.cons.injEq, AV.v.injEq, Value.int.injEq, Value.bool.injEq, Value.string.injEq, AV.sl.injEq, AV.mp.injEq, true_and, and_true] at h
  exact (GMonitorRule.eqOf (h.1) (h.2.1) (h.2.2.1) (h.2.2.2)))

structure GSetup where
  Markers : List GMarker
  Scripts : List GScript
  Papers : List GPaper
  Schemes : List GScheme
  Seeds : List GSeed
  Monitor : GMonitorRule

theorem GSetup.eqOf {x y : GSetup} (h0 : x.Markers = y.Markers) (h1 : x.Scripts = y.Scripts) (h2 : x.Papers = y.Papers) (h3 : x.Schemes = y.Schemes) (h4 : x.Seeds = y.Seeds) (h5 : x.Monitor = y.Monitor) : x = y := by
  cases x; cases y; simp only at *; simp only [h0, h1, h2, h3, h4, h5]

noncomputable def nGSetup : GSetup → List AV := fun x => [.sl 5 (List.map dGMarker.enc x.Markers), .sl 7 (List.map dGScript.enc x.Scripts), .sl 3 (List.map dGPaper.enc x.Papers), .sl 2 (List.map dGScheme.enc x.Schemes), .sl 2 (List.map dGSeed.enc x.Seeds), I x.Monitor.Part, I x.Monitor.Total, I x.Monitor.Window, I x.Monitor.Fails]
noncomputable abbrev dGSetup : TyD := TyD.of GSetup nGSetup (by
  intro x y h
  simp only [nGSetup, List.cons.injEq, AV.v.injEq, Value.int.injEq, Value.bool.injEq, Value.string.injEq, AV.sl.injEq, AV.mp.injEq, true_and, and_true, TyD.minj dGMarker, TyD.minj dGPaper, TyD.minj dGScheme, TyD.minj dGScript, TyD.minj dGSeed] at h
  exact (GSetup.eqOf (h.1) (h.2.1) (h.2.2.1) (h.2.2.2.1) (h.2.2.2.2.1) (GMonitorRule.eqOf (h.2.2.2.2.2.1) (h.2.2.2.2.2.2.1) (h.2.2.2.2.2.2.2.1) (h.2.2.2.2.2.2.2.2))))

structure GSuspension where
  Marker : Int
  Good : GStamp
  At : GStamp
  Until : GStamp
  First : Bool
  Lifted : Bool

theorem GSuspension.eqOf {x y : GSuspension} (h0 : x.Marker = y.Marker) (h1 : x.Good = y.Good) (h2 : x.At = y.At) (h3 : x.Until = y.Until) (h4 : x.First = y.First) (h5 : x.Lifted = y.Lifted) : x = y := by
  cases x; cases y; simp only at *; simp only [h0, h1, h2, h3, h4, h5]

noncomputable def nGSuspension : GSuspension → List AV := fun x => [I x.Marker, I x.Good.Time, I x.Good.Source, I x.Good.Seq, I x.At.Time, I x.At.Source, I x.At.Seq, I x.Until.Time, I x.Until.Source, I x.Until.Seq, B x.First, B x.Lifted]
noncomputable abbrev dGSuspension : TyD := TyD.of GSuspension nGSuspension (by
  intro x y h
  simp only [nGSuspension, List.cons.injEq, AV.v.injEq, Value.int.injEq, Value.bool.injEq, Value.string.injEq, AV.sl.injEq, AV.mp.injEq, true_and, and_true] at h
  exact (GSuspension.eqOf (h.1) (GStamp.eqOf (h.2.1) (h.2.2.1) (h.2.2.2.1)) (GStamp.eqOf (h.2.2.2.2.1) (h.2.2.2.2.2.1) (h.2.2.2.2.2.2.1)) (GStamp.eqOf (h.2.2.2.2.2.2.2.1) (h.2.2.2.2.2.2.2.2.1) (h.2.2.2.2.2.2.2.2.2.1)) (h.2.2.2.2.2.2.2.2.2.2.1) (h.2.2.2.2.2.2.2.2.2.2.2)))

noncomputable def nL_GSuspension : (List GSuspension) → List AV := fun x => [.sl 12 (List.map dGSuspension.enc x)]
noncomputable abbrev dL_GSuspension : TyD := TyD.of (List GSuspension) nL_GSuspension (by
  intro x y h
  simp only [nL_GSuspension, List.cons.injEq, AV.v.injEq, Value.int.injEq, Value.bool.injEq, Value.string.injEq, AV.sl.injEq, AV.mp.injEq, true_and, and_true, TyD.minj dGSuspension] at h
  exact (h))

structure GMarking where
  Given : List GGiven
  Suspensions : List GSuspension

theorem GMarking.eqOf {x y : GMarking} (h0 : x.Given = y.Given) (h1 : x.Suspensions = y.Suspensions) : x = y := by
  cases x; cases y; simp only at *; simp only [h0, h1]

noncomputable def nGMarking : GMarking → List AV := fun x => [.sl 8 (List.map dGGiven.enc x.Given), .sl 12 (List.map dGSuspension.enc x.Suspensions)]
noncomputable abbrev dGMarking : TyD := TyD.of GMarking nGMarking (by
  intro x y h
  simp only [nGMarking, List.cons.injEq, AV.v.injEq, Value.int.injEq, Value.bool.injEq, Value.string.injEq, AV.sl.injEq, AV.mp.injEq, true_and, and_true, TyD.minj dGGiven, TyD.minj dGSuspension] at h
  exact (GMarking.eqOf (h.1) (h.2)))

structure GMarkEvent where
  Stamp : GStamp
  Kind : Int
  Script : Int
  Part : Int
  Value : Int
  Marker : Int
  Pages : List Int

theorem GMarkEvent.eqOf {x y : GMarkEvent} (h0 : x.Stamp = y.Stamp) (h1 : x.Kind = y.Kind) (h2 : x.Script = y.Script) (h3 : x.Part = y.Part) (h4 : x.Value = y.Value) (h5 : x.Marker = y.Marker) (h6 : x.Pages = y.Pages) : x = y := by
  cases x; cases y; simp only at *; simp only [h0, h1, h2, h3, h4, h5, h6]

noncomputable def nGMarkEvent : GMarkEvent → List AV := fun x => [I x.Stamp.Time, I x.Stamp.Source, I x.Stamp.Seq, I x.Kind, I x.Script, I x.Part, I x.Value, I x.Marker, .sl 1 (List.map dI_i64.enc x.Pages)]
noncomputable abbrev dGMarkEvent : TyD := TyD.of GMarkEvent nGMarkEvent (by
  intro x y h
  simp only [nGMarkEvent, List.cons.injEq, AV.v.injEq, Value.int.injEq, Value.bool.injEq, Value.string.injEq, AV.sl.injEq, AV.mp.injEq, true_and, and_true, TyD.minj dI_i64] at h
  exact (GMarkEvent.eqOf (GStamp.eqOf (h.1) (h.2.1) (h.2.2.1)) (h.2.2.2.1) (h.2.2.2.2.1) (h.2.2.2.2.2.1) (h.2.2.2.2.2.2.1) (h.2.2.2.2.2.2.2.1) (h.2.2.2.2.2.2.2.2)))

noncomputable def nL_GMarkEvent : (List GMarkEvent) → List AV := fun x => [.sl 9 (List.map dGMarkEvent.enc x)]
noncomputable abbrev dL_GMarkEvent : TyD := TyD.of (List GMarkEvent) nL_GMarkEvent (by
  intro x y h
  simp only [nL_GMarkEvent, List.cons.injEq, AV.v.injEq, Value.int.injEq, Value.bool.injEq, Value.string.injEq, AV.sl.injEq, AV.mp.injEq, true_and, and_true, TyD.minj dGMarkEvent] at h
  exact (h))

noncomputable def nA3_GMarkRule : (GMarkRule × GMarkRule × GMarkRule) → List AV := fun x => [B x.1.Double, I x.1.Tolerance, B x.2.1.Double, I x.2.1.Tolerance, B x.2.2.Double, I x.2.2.Tolerance]
noncomputable abbrev dA3_GMarkRule : TyD := TyD.of (GMarkRule × GMarkRule × GMarkRule) nA3_GMarkRule (by
  intro x y h
  simp only [nA3_GMarkRule, List.cons.injEq, AV.v.injEq, Value.int.injEq, Value.bool.injEq, Value.string.injEq, AV.sl.injEq, AV.mp.injEq, true_and, and_true] at h
  exact (Prod.ext (GMarkRule.eqOf (h.1) (h.2.1)) (Prod.ext (GMarkRule.eqOf (h.2.2.1) (h.2.2.2.1)) (GMarkRule.eqOf (h.2.2.2.2.1) (h.2.2.2.2.2)))))

structure GVerdict where
  State : Int
  Value : Int

theorem GVerdict.eqOf {x y : GVerdict} (h0 : x.State = y.State) (h1 : x.Value = y.Value) : x = y := by
  cases x; cases y; simp only at *; simp only [h0, h1]

noncomputable def nGVerdict : GVerdict → List AV := fun x => [I x.State, I x.Value]
noncomputable abbrev dGVerdict : TyD := TyD.of GVerdict nGVerdict (by
  intro x y h
  simp only [nGVerdict, List.cons.injEq, AV.v.injEq, Value.int.injEq, Value.bool.injEq, Value.string.injEq, AV.sl.injEq, AV.mp.injEq, true_and, and_true] at h
  exact (GVerdict.eqOf (h.1) (h.2)))

noncomputable def nA2_I_i64 : (Int × Int) → List AV := fun x => [I x.1, I x.2]
noncomputable abbrev dA2_I_i64 : TyD := TyD.of (Int × Int) nA2_I_i64 (by
  intro x y h
  simp only [nA2_I_i64, List.cons.injEq, AV.v.injEq, Value.int.injEq, Value.bool.injEq, Value.string.injEq, AV.sl.injEq, AV.mp.injEq, true_and, and_true] at h
  exact (Prod.ext (h.1) (h.2)))

noncomputable def nL_A2_I_i64 : (List (Int × Int)) → List AV := fun x => [.sl 2 (List.map dA2_I_i64.enc x)]
noncomputable abbrev dL_A2_I_i64 : TyD := TyD.of (List (Int × Int)) nL_A2_I_i64 (by
  intro x y h
  simp only [nL_A2_I_i64, List.cons.injEq, AV.v.injEq, Value.int.injEq, Value.bool.injEq, Value.string.injEq, AV.sl.injEq, AV.mp.injEq, true_and, and_true, TyD.minj dA2_I_i64] at h
  exact (h))

noncomputable def nA4_I_i64 : (Int × Int × Int × Int) → List AV := fun x => [I x.1, I x.2.1, I x.2.2.1, I x.2.2.2]
noncomputable abbrev dA4_I_i64 : TyD := TyD.of (Int × Int × Int × Int) nA4_I_i64 (by
  intro x y h
  simp only [nA4_I_i64, List.cons.injEq, AV.v.injEq, Value.int.injEq, Value.bool.injEq, Value.string.injEq, AV.sl.injEq, AV.mp.injEq, true_and, and_true] at h
  exact (Prod.ext (h.1) (Prod.ext (h.2.1) (Prod.ext (h.2.2.1) (h.2.2.2)))))

noncomputable def nL_GVerdict : (List GVerdict) → List AV := fun x => [.sl 2 (List.map dGVerdict.enc x)]
noncomputable abbrev dL_GVerdict : TyD := TyD.of (List GVerdict) nL_GVerdict (by
  intro x y h
  simp only [nL_GVerdict, List.cons.injEq, AV.v.injEq, Value.int.injEq, Value.bool.injEq, Value.string.injEq, AV.sl.injEq, AV.mp.injEq, true_and, and_true, TyD.minj dGVerdict] at h
  exact (h))

structure GmarkDice where
  L : List Int
  At : Int

theorem GmarkDice.eqOf {x y : GmarkDice} (h0 : x.L = y.L) (h1 : x.At = y.At) : x = y := by
  cases x; cases y; simp only at *; simp only [h0, h1]

noncomputable def nGmarkDice : GmarkDice → List AV := fun x => [.sl 1 (List.map dI_i64.enc x.L), I x.At]
noncomputable abbrev dGmarkDice : TyD := TyD.of GmarkDice nGmarkDice (by
  intro x y h
  simp only [nGmarkDice, List.cons.injEq, AV.v.injEq, Value.int.injEq, Value.bool.injEq, Value.string.injEq, AV.sl.injEq, AV.mp.injEq, true_and, and_true, TyD.minj dI_i64] at h
  exact (GmarkDice.eqOf (h.1) (h.2)))

noncomputable def nL_Bool : (List Bool) → List AV := fun x => [.sl 1 (List.map dBool.enc x)]
noncomputable abbrev dL_Bool : TyD := TyD.of (List Bool) nL_Bool (by
  intro x y h
  simp only [nL_Bool, List.cons.injEq, AV.v.injEq, Value.int.injEq, Value.bool.injEq, Value.string.injEq, AV.sl.injEq, AV.mp.injEq, true_and, and_true, TyD.minj dBool] at h
  exact (h))

noncomputable def nE_A2_I_i64_I_i64 : ((Int × Int) × Int) → List AV := fun x => [.agg (dA2_I_i64.enc x.1), I x.2]
noncomputable abbrev dE_A2_I_i64_I_i64 : TyD := TyD.of ((Int × Int) × Int) nE_A2_I_i64_I_i64 (by
  intro x y h
  have h1 := (List.cons.inj h).1
  have h2 := (List.cons.inj (List.cons.inj h).2).1
  exact Prod.ext (dA2_I_i64.inj (AV.agg.inj h1)) (by simpa using h2))

noncomputable def nM_A2_I_i64_I_i64 : (List ((Int × Int) × Int)) → List AV := fun x => [.mp (List.map dE_A2_I_i64_I_i64.enc x)]
noncomputable abbrev dM_A2_I_i64_I_i64 : TyD := TyD.of (List ((Int × Int) × Int)) nM_A2_I_i64_I_i64 (by
  intro x y h
  simp only [nM_A2_I_i64_I_i64, List.cons.injEq, AV.v.injEq, Value.int.injEq, Value.bool.injEq, Value.string.injEq, AV.sl.injEq, AV.mp.injEq, true_and, and_true, TyD.minj dE_A2_I_i64_I_i64] at h
  exact (h))

noncomputable def nE_A2_I_i64_Bool : ((Int × Int) × Bool) → List AV := fun x => [.agg (dA2_I_i64.enc x.1), B x.2]
noncomputable abbrev dE_A2_I_i64_Bool : TyD := TyD.of ((Int × Int) × Bool) nE_A2_I_i64_Bool (by
  intro x y h
  have h1 := (List.cons.inj h).1
  have h2 := (List.cons.inj (List.cons.inj h).2).1
  exact Prod.ext (dA2_I_i64.inj (AV.agg.inj h1)) (by simpa using h2))

noncomputable def nM_A2_I_i64_Bool : (List ((Int × Int) × Bool)) → List AV := fun x => [.mp (List.map dE_A2_I_i64_Bool.enc x)]
noncomputable abbrev dM_A2_I_i64_Bool : TyD := TyD.of (List ((Int × Int) × Bool)) nM_A2_I_i64_Bool (by
  intro x y h
  simp only [nM_A2_I_i64_Bool, List.cons.injEq, AV.v.injEq, Value.int.injEq, Value.bool.injEq, Value.string.injEq, AV.sl.injEq, AV.mp.injEq, true_and, and_true, TyD.minj dE_A2_I_i64_Bool] at h
  exact (h))

structure GWatch where
  Last : List Bool
  Suspended : Bool

theorem GWatch.eqOf {x y : GWatch} (h0 : x.Last = y.Last) (h1 : x.Suspended = y.Suspended) : x = y := by
  cases x; cases y; simp only at *; simp only [h0, h1]

noncomputable def nGWatch : GWatch → List AV := fun x => [.sl 1 (List.map dBool.enc x.Last), B x.Suspended]
noncomputable abbrev dGWatch : TyD := TyD.of GWatch nGWatch (by
  intro x y h
  simp only [nGWatch, List.cons.injEq, AV.v.injEq, Value.int.injEq, Value.bool.injEq, Value.string.injEq, AV.sl.injEq, AV.mp.injEq, true_and, and_true, TyD.minj dBool] at h
  exact (GWatch.eqOf (h.1) (h.2)))

structure Gref29Noted where
  part : Int
  value : Int

theorem Gref29Noted.eqOf {x y : Gref29Noted} (h0 : x.part = y.part) (h1 : x.value = y.value) : x = y := by
  cases x; cases y; simp only at *; simp only [h0, h1]

noncomputable def nGref29Noted : Gref29Noted → List AV := fun x => [I x.part, I x.value]
noncomputable abbrev dGref29Noted : TyD := TyD.of Gref29Noted nGref29Noted (by
  intro x y h
  simp only [nGref29Noted, List.cons.injEq, AV.v.injEq, Value.int.injEq, Value.bool.injEq, Value.string.injEq, AV.sl.injEq, AV.mp.injEq, true_and, and_true] at h
  exact (Gref29Noted.eqOf (h.1) (h.2)))

noncomputable def nL_Gref29Noted : (List Gref29Noted) → List AV := fun x => [.sl 2 (List.map dGref29Noted.enc x)]
noncomputable abbrev dL_Gref29Noted : TyD := TyD.of (List Gref29Noted) nL_Gref29Noted (by
  intro x y h
  simp only [nL_Gref29Noted, List.cons.injEq, AV.v.injEq, Value.int.injEq, Value.bool.injEq, Value.string.injEq, AV.sl.injEq, AV.mp.injEq, true_and, and_true, TyD.minj dGref29Noted] at h
  exact (h))

noncomputable def nE_I_i64_L_Gref29Noted : (Int × (List Gref29Noted)) → List AV := fun x => [I x.1, .sl 2 (List.map dGref29Noted.enc x.2)]
noncomputable abbrev dE_I_i64_L_Gref29Noted : TyD := TyD.of (Int × (List Gref29Noted)) nE_I_i64_L_Gref29Noted (by
  intro x y h
  have h1 := (List.cons.inj h).1
  have h2 := (List.cons.inj (List.cons.inj h).2).1
  exact Prod.ext (by simpa using h1) (by simpa only [AV.sl.injEq, true_and, TyD.minj dGref29Noted] using h2))

noncomputable def nM_I_i64_L_Gref29Noted : (List (Int × (List Gref29Noted))) → List AV := fun x => [.mp (List.map dE_I_i64_L_Gref29Noted.enc x)]
noncomputable abbrev dM_I_i64_L_Gref29Noted : TyD := TyD.of (List (Int × (List Gref29Noted))) nM_I_i64_L_Gref29Noted (by
  intro x y h
  simp only [nM_I_i64_L_Gref29Noted, List.cons.injEq, AV.v.injEq, Value.int.injEq, Value.bool.injEq, Value.string.injEq, AV.sl.injEq, AV.mp.injEq, true_and, and_true, TyD.minj dE_I_i64_L_Gref29Noted] at h
  exact (h))

@[simp] theorem elemD_A2_I_i64 {β : Type} (l : List (Int × Int)) (i : Nat) (k : (Int × Int) → Option β) : elemD dA2_I_i64 (List.map nA2_I_i64 l) i k = (l[i]?).bind k := elemD_bind dA2_I_i64 l i k

@[simp] theorem elemD_A3_GMarkRule {β : Type} (l : List (GMarkRule × GMarkRule × GMarkRule)) (i : Nat) (k : (GMarkRule × GMarkRule × GMarkRule) → Option β) : elemD dA3_GMarkRule (List.map nA3_GMarkRule l) i k = (l[i]?).bind k := elemD_bind dA3_GMarkRule l i k

@[simp] theorem elemD_A4_I_i64 {β : Type} (l : List (Int × Int × Int × Int)) (i : Nat) (k : (Int × Int × Int × Int) → Option β) : elemD dA4_I_i64 (List.map nA4_I_i64 l) i k = (l[i]?).bind k := elemD_bind dA4_I_i64 l i k

@[simp] theorem elemD_E_A2_I_i64_Bool {β : Type} (l : List ((Int × Int) × Bool)) (i : Nat) (k : ((Int × Int) × Bool) → Option β) : elemD dE_A2_I_i64_Bool (List.map nE_A2_I_i64_Bool l) i k = (l[i]?).bind k := elemD_bind dE_A2_I_i64_Bool l i k

@[simp] theorem elemD_E_A2_I_i64_I_i64 {β : Type} (l : List ((Int × Int) × Int)) (i : Nat) (k : ((Int × Int) × Int) → Option β) : elemD dE_A2_I_i64_I_i64 (List.map nE_A2_I_i64_I_i64 l) i k = (l[i]?).bind k := elemD_bind dE_A2_I_i64_I_i64 l i k

@[simp] theorem elemD_E_I_i64_L_Gref29Noted {β : Type} (l : List (Int × (List Gref29Noted))) (i : Nat) (k : (Int × (List Gref29Noted)) → Option β) : elemD dE_I_i64_L_Gref29Noted (List.map nE_I_i64_L_Gref29Noted l) i k = (l[i]?).bind k := elemD_bind dE_I_i64_L_Gref29Noted l i k

@[simp] theorem elemD_GGiven {β : Type} (l : List GGiven) (i : Nat) (k : GGiven → Option β) : elemD dGGiven (List.map nGGiven l) i k = (l[i]?).bind k := elemD_bind dGGiven l i k

@[simp] theorem elemD_GMarkEvent {β : Type} (l : List GMarkEvent) (i : Nat) (k : GMarkEvent → Option β) : elemD dGMarkEvent (List.map nGMarkEvent l) i k = (l[i]?).bind k := elemD_bind dGMarkEvent l i k

@[simp] theorem elemD_GMarkRule {β : Type} (l : List GMarkRule) (i : Nat) (k : GMarkRule → Option β) : elemD dGMarkRule (List.map nGMarkRule l) i k = (l[i]?).bind k := elemD_bind dGMarkRule l i k

@[simp] theorem elemD_GMarker {β : Type} (l : List GMarker) (i : Nat) (k : GMarker → Option β) : elemD dGMarker (List.map nGMarker l) i k = (l[i]?).bind k := elemD_bind dGMarker l i k

@[simp] theorem elemD_GMarking {β : Type} (l : List GMarking) (i : Nat) (k : GMarking → Option β) : elemD dGMarking (List.map nGMarking l) i k = (l[i]?).bind k := elemD_bind dGMarking l i k

@[simp] theorem elemD_GMonitorRule {β : Type} (l : List GMonitorRule) (i : Nat) (k : GMonitorRule → Option β) : elemD dGMonitorRule (List.map nGMonitorRule l) i k = (l[i]?).bind k := elemD_bind dGMonitorRule l i k

@[simp] theorem elemD_GPaper {β : Type} (l : List GPaper) (i : Nat) (k : GPaper → Option β) : elemD dGPaper (List.map nGPaper l) i k = (l[i]?).bind k := elemD_bind dGPaper l i k

@[simp] theorem elemD_GPart {β : Type} (l : List GPart) (i : Nat) (k : GPart → Option β) : elemD dGPart (List.map nGPart l) i k = (l[i]?).bind k := elemD_bind dGPart l i k

@[simp] theorem elemD_GScheme {β : Type} (l : List GScheme) (i : Nat) (k : GScheme → Option β) : elemD dGScheme (List.map nGScheme l) i k = (l[i]?).bind k := elemD_bind dGScheme l i k

@[simp] theorem elemD_GScript {β : Type} (l : List GScript) (i : Nat) (k : GScript → Option β) : elemD dGScript (List.map nGScript l) i k = (l[i]?).bind k := elemD_bind dGScript l i k

@[simp] theorem elemD_GSeed {β : Type} (l : List GSeed) (i : Nat) (k : GSeed → Option β) : elemD dGSeed (List.map nGSeed l) i k = (l[i]?).bind k := elemD_bind dGSeed l i k

@[simp] theorem elemD_GSetup {β : Type} (l : List GSetup) (i : Nat) (k : GSetup → Option β) : elemD dGSetup (List.map nGSetup l) i k = (l[i]?).bind k := elemD_bind dGSetup l i k

@[simp] theorem elemD_GStamp {β : Type} (l : List GStamp) (i : Nat) (k : GStamp → Option β) : elemD dGStamp (List.map nGStamp l) i k = (l[i]?).bind k := elemD_bind dGStamp l i k

@[simp] theorem elemD_GSuspension {β : Type} (l : List GSuspension) (i : Nat) (k : GSuspension → Option β) : elemD dGSuspension (List.map nGSuspension l) i k = (l[i]?).bind k := elemD_bind dGSuspension l i k

@[simp] theorem elemD_GVerdict {β : Type} (l : List GVerdict) (i : Nat) (k : GVerdict → Option β) : elemD dGVerdict (List.map nGVerdict l) i k = (l[i]?).bind k := elemD_bind dGVerdict l i k

@[simp] theorem elemD_GWatch {β : Type} (l : List GWatch) (i : Nat) (k : GWatch → Option β) : elemD dGWatch (List.map nGWatch l) i k = (l[i]?).bind k := elemD_bind dGWatch l i k

@[simp] theorem elemD_GmarkDice {β : Type} (l : List GmarkDice) (i : Nat) (k : GmarkDice → Option β) : elemD dGmarkDice (List.map nGmarkDice l) i k = (l[i]?).bind k := elemD_bind dGmarkDice l i k

@[simp] theorem elemD_Gref29Noted {β : Type} (l : List Gref29Noted) (i : Nat) (k : Gref29Noted → Option β) : elemD dGref29Noted (List.map nGref29Noted l) i k = (l[i]?).bind k := elemD_bind dGref29Noted l i k

@[simp] theorem elemD_L_A2_I_i64 {β : Type} (l : List (List (Int × Int))) (i : Nat) (k : (List (Int × Int)) → Option β) : elemD dL_A2_I_i64 (List.map nL_A2_I_i64 l) i k = (l[i]?).bind k := elemD_bind dL_A2_I_i64 l i k

@[simp] theorem elemD_L_Bool {β : Type} (l : List (List Bool)) (i : Nat) (k : (List Bool) → Option β) : elemD dL_Bool (List.map nL_Bool l) i k = (l[i]?).bind k := elemD_bind dL_Bool l i k

@[simp] theorem elemD_L_GGiven {β : Type} (l : List (List GGiven)) (i : Nat) (k : (List GGiven) → Option β) : elemD dL_GGiven (List.map nL_GGiven l) i k = (l[i]?).bind k := elemD_bind dL_GGiven l i k

@[simp] theorem elemD_L_GMarkEvent {β : Type} (l : List (List GMarkEvent)) (i : Nat) (k : (List GMarkEvent) → Option β) : elemD dL_GMarkEvent (List.map nL_GMarkEvent l) i k = (l[i]?).bind k := elemD_bind dL_GMarkEvent l i k

@[simp] theorem elemD_L_GMarker {β : Type} (l : List (List GMarker)) (i : Nat) (k : (List GMarker) → Option β) : elemD dL_GMarker (List.map nL_GMarker l) i k = (l[i]?).bind k := elemD_bind dL_GMarker l i k

@[simp] theorem elemD_L_GPaper {β : Type} (l : List (List GPaper)) (i : Nat) (k : (List GPaper) → Option β) : elemD dL_GPaper (List.map nL_GPaper l) i k = (l[i]?).bind k := elemD_bind dL_GPaper l i k

@[simp] theorem elemD_L_GPart {β : Type} (l : List (List GPart)) (i : Nat) (k : (List GPart) → Option β) : elemD dL_GPart (List.map nL_GPart l) i k = (l[i]?).bind k := elemD_bind dL_GPart l i k

@[simp] theorem elemD_L_GScheme {β : Type} (l : List (List GScheme)) (i : Nat) (k : (List GScheme) → Option β) : elemD dL_GScheme (List.map nL_GScheme l) i k = (l[i]?).bind k := elemD_bind dL_GScheme l i k

@[simp] theorem elemD_L_GScript {β : Type} (l : List (List GScript)) (i : Nat) (k : (List GScript) → Option β) : elemD dL_GScript (List.map nL_GScript l) i k = (l[i]?).bind k := elemD_bind dL_GScript l i k

@[simp] theorem elemD_L_GSeed {β : Type} (l : List (List GSeed)) (i : Nat) (k : (List GSeed) → Option β) : elemD dL_GSeed (List.map nL_GSeed l) i k = (l[i]?).bind k := elemD_bind dL_GSeed l i k

@[simp] theorem elemD_L_GSuspension {β : Type} (l : List (List GSuspension)) (i : Nat) (k : (List GSuspension) → Option β) : elemD dL_GSuspension (List.map nL_GSuspension l) i k = (l[i]?).bind k := elemD_bind dL_GSuspension l i k

@[simp] theorem elemD_L_GVerdict {β : Type} (l : List (List GVerdict)) (i : Nat) (k : (List GVerdict) → Option β) : elemD dL_GVerdict (List.map nL_GVerdict l) i k = (l[i]?).bind k := elemD_bind dL_GVerdict l i k

@[simp] theorem elemD_L_Gref29Noted {β : Type} (l : List (List Gref29Noted)) (i : Nat) (k : (List Gref29Noted) → Option β) : elemD dL_Gref29Noted (List.map nL_Gref29Noted l) i k = (l[i]?).bind k := elemD_bind dL_Gref29Noted l i k

@[simp] theorem elemD_L_I_i64 {β : Type} (l : List (List Int)) (i : Nat) (k : (List Int) → Option β) : elemD dL_I_i64 (List.map nL_I_i64 l) i k = (l[i]?).bind k := elemD_bind dL_I_i64 l i k

@[simp] theorem elemD_L_L_I_i64 {β : Type} (l : List (List (List Int))) (i : Nat) (k : (List (List Int)) → Option β) : elemD dL_L_I_i64 (List.map nL_L_I_i64 l) i k = (l[i]?).bind k := elemD_bind dL_L_I_i64 l i k

@[simp] theorem elemD_M_A2_I_i64_Bool {β : Type} (l : List (List ((Int × Int) × Bool))) (i : Nat) (k : (List ((Int × Int) × Bool)) → Option β) : elemD dM_A2_I_i64_Bool (List.map nM_A2_I_i64_Bool l) i k = (l[i]?).bind k := elemD_bind dM_A2_I_i64_Bool l i k

@[simp] theorem elemD_M_A2_I_i64_I_i64 {β : Type} (l : List (List ((Int × Int) × Int))) (i : Nat) (k : (List ((Int × Int) × Int)) → Option β) : elemD dM_A2_I_i64_I_i64 (List.map nM_A2_I_i64_I_i64 l) i k = (l[i]?).bind k := elemD_bind dM_A2_I_i64_I_i64 l i k

@[simp] theorem elemD_M_I_i64_L_Gref29Noted {β : Type} (l : List (List (Int × (List Gref29Noted)))) (i : Nat) (k : (List (Int × (List Gref29Noted))) → Option β) : elemD dM_I_i64_L_Gref29Noted (List.map nM_I_i64_L_Gref29Noted l) i k = (l[i]?).bind k := elemD_bind dM_I_i64_L_Gref29Noted l i k

noncomputable def tyTab : List TyD := [dRaw, dRaw, dI_i64, dI_i64, dBool, dI_u8, dI_u8, dRaw, dRaw, dStr, dStr, dStr, dI_u64, dRaw, dRaw, dRaw, dRaw, dRaw, dRaw, dRaw, dRaw, dI_i32, dL_I_i64, dL_GGiven, dRaw, dGMarkRule, dRaw, dRaw, dRaw, dGStamp, dRaw, dGGiven, dRaw, dRaw, dL_GMarker, dL_GScript, dL_GPaper, dL_GScheme, dL_GSeed, dRaw, dGMonitorRule, dRaw, dGSetup, dRaw, dL_GSuspension, dRaw, dGMarking, dI_i64, dRaw, dRaw, dL_GMarkEvent, dRaw, dRaw, dRaw, dA3_GMarkRule, dRaw, dRaw, dRaw, dGVerdict, dRaw, dL_A2_I_i64, dRaw, dRaw, dA2_I_i64, dRaw, dA4_I_i64, dL_GVerdict, dRaw, dRaw, dRaw, dRaw, dRaw, dRaw, dRaw, dGScript, dRaw, dRaw, dL_GPart, dRaw, dGPaper, dL_L_I_i64, dRaw, dGScheme, dRaw, dGPart, dRaw, dGmarkDice, dRaw, dRaw, dRaw, dRaw, dRaw, dRaw, dRaw, dGSeed, dRaw, dRaw, dRaw, dRaw, dL_Bool, dRaw, dRaw, dRaw, dRaw, dRaw, dGMarkEvent, dRaw, dRaw, dRaw, dGMarker, dRaw, dRaw, dRaw, dRaw, dRaw, dRaw, dRaw, dRaw, dRaw, dRaw, dRaw, dRaw, dRaw, dRaw, dRaw, dRaw, dRaw, dRaw, dRaw, dRaw, dRaw, dRaw, dRaw, dRaw, dRaw, dRaw, dRaw, dRaw, dRaw, dM_A2_I_i64_I_i64, dM_A2_I_i64_Bool, dRaw, dRaw, dRaw, dRaw, dRaw, dRaw, dRaw, dRaw, dRaw, dI_u64, dRaw, dRaw, dRaw, dRaw, dRaw, dRaw, dRaw, dRaw, dRaw, dRaw, dRaw, dRaw, dRaw, dGWatch, dM_I_i64_L_Gref29Noted, dRaw, dGSuspension, dL_Gref29Noted, dRaw, dGref29Noted, dRaw, dRaw, dRaw, dRaw, dRaw, dRaw, dRaw, dRaw, dI_u64, dRaw, dRaw, dRaw, dRaw, dRaw, dRaw, dRaw, dRaw, dRaw, dRaw, dRaw, dRaw, dRaw, dRaw, dRaw, dRaw, dRaw, dRaw, dRaw, dRaw, dRaw, dRaw, dRaw, dI_u32, dI_u8, dI_u8, dRaw, dRaw, dI_i32, dI_i32, dRaw, dRaw, dRaw]
end Go.Proofs.YtdhibifcofaioaaGreat
