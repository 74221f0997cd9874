/- The parts of the reference of marking. -/
import Derived.Test.YtdhibifcofaioaaGreatR28
namespace Go.Proofs.YtdhibifcofaioaaGreat
open Go.Ab
set_option linter.unusedSimpArgs false

def seedOf (l : List GSeed) (n : Int) : Option (Nat × GSeed) := fnd (fun y => y.Script == n) 0 l

def seedR : Option (Nat × GSeed) → List Int × Bool
  | some (_, y) => (y.Marks, true)
  | none => ([], false)

theorem c_ref26_Definitive (l : List GSeed) (n : Int) (hl : l.length ≤ 1000000) (hm : ∀ y ∈ l, y.Marks.length ≤ 1000000) : cw f_ref26_Definitive [.sl 2 (List.map nGSeed l), I n] [] = some (q_ref26_Definitive (seedR (seedOf l n))) := by
  refine e_ref26_Definitive l n ?_
  refine find_gen l (fun y => y.Script == n) (fun i => k_ref26_Definitive_1 l n i) (fun o => q_ref26_Definitive (seedR o)) ?_ ?_ ?_
  · refine t_ref26_Definitive_1 _ _ _ ?_
    simp (disch := omega) only [List.length_map, brn_neg, Nat.zero_add, Nat.le_refl, chk_true]
    rfl
  · intro i hi h
    have := hm _ (List.getElem_mem hi)
    refine t_ref26_Definitive_1 _ _ _ ?_
    simp (disch := omega) only [List.length_map, brn_pos, chk_pos, Int.toNat_natCast, elemD_GSeed, List.getElem?_eq_getElem hi, Option.bind_some, h, brn_true, Nat.zero_add, Nat.le_refl, chk_true]
    rw [List.take_of_length_le (by simp)]
    rfl
  · intro i hi y h hk
    refine t_ref26_Definitive_1 _ _ _ ?_
    simp (disch := omega) only [List.length_map, brn_pos, chk_pos, Int.toNat_natCast, elemD_GSeed, List.getElem?_eq_getElem hi, Option.bind_some, h, brn_false, w64_id, hk]

def markerIx (l : List GMarker) (n : Int) : Option (Nat × GMarker) := fnd (fun y => y.ID == n) 0 l

def blankMarker : GMarker := ⟨0, 0, 0, 0, []⟩

def markerR : Option (Nat × GMarker) → GMarker × Bool
  | some (_, y) => (y, true)
  | none => (blankMarker, false)

theorem c_ref24_Find (l : List GMarker) (n : Int) (hl : l.length ≤ 1000000) : cw f_ref24_Find [.sl 5 (List.map nGMarker l), I n] [] = some (q_ref24_Find (markerR (markerIx l n))) := by
  refine e_ref24_Find l n ?_
  refine find_gen l (fun y => y.ID == n) (fun i => k_ref24_Find_1 l n i) (fun o => q_ref24_Find (markerR o)) ?_ ?_ ?_
  · refine t_ref24_Find_1 _ _ _ ?_
    simp (disch := omega) only [List.length_map, brn_neg]
    rfl
  · intro i hi h
    refine t_ref24_Find_1 _ _ _ ?_
    simp (disch := omega) only [List.length_map, brn_pos, chk_pos, Int.toNat_natCast, elemD_GMarker, List.getElem?_eq_getElem hi, Option.bind_some, h, brn_true]
    rfl
  · intro i hi y h hk
    refine t_ref24_Find_1 _ _ _ ?_
    simp (disch := omega) only [List.length_map, brn_pos, chk_pos, Int.toNat_natCast, elemD_GMarker, List.getElem?_eq_getElem hi, Option.bind_some, h, brn_false, w64_id, hk]

def FitsM (m : GMarker) (x : GScript) : Prop := x.Paper ∈ m.Papers ∧ m.Centre ≠ x.Centre

theorem c_ref24_Fits (m : GMarker) (x : GScript) (hl : m.Papers.length ≤ 1000000) : cw f_ref24_Fits [.agg (nGMarker m), .agg (nGScript x)] [] = some (q_ref24_Fits (dec (FitsM m x))) := by
  refine e_ref24_Fits m x ?_
  have H := any_bool m.Papers.length (fun j hj => m.Papers[j] = x.Paper) (fun i => k_ref24_Fits_1 m x i) (fun b => q_ref24_Fits (b && (m.Centre != x.Centre))) ?_ ?_ ?_
  · rw [H]
    congr 2
    rw [Bool.eq_iff_iff]
    simp only [Bool.and_eq_true, dec_eq_true, FitsM, bne_iff_ne]
    refine and_congr_left' ⟨fun ⟨j, hj, e⟩ => e ▸ List.getElem_mem hj, fun h => ?_⟩
    obtain ⟨j, hj, e⟩ := List.mem_iff_getElem.1 h
    exact ⟨j, hj, e⟩
  · exact t_ref24_Fits_1 _ _ _ (by simp (disch := omega) only [List.length_map, brn_neg]; rfl)
  · intro i hi h
    refine t_ref24_Fits_1 _ _ _ ?_
    simp (disch := omega) only [List.length_map, brn_pos, chk_pos, Int.toNat_natCast, elemD_I_i64, List.getElem?_eq_getElem hi, Option.bind_some, show (m.Papers[i] == x.Paper) = true by simpa using h, brn_true, Bool.true_and]
    rfl
  · intro i hi y h hk
    refine t_ref24_Fits_1 _ _ _ ?_
    simp (disch := omega) only [List.length_map, brn_pos, chk_pos, Int.toNat_natCast, elemD_I_i64, List.getElem?_eq_getElem hi, Option.bind_some, show (m.Papers[i] == x.Paper) = false by simpa using h, brn_false, w64_id, hk]

def Elig (l : List GMarker) (n : Int) (x : GScript) : Prop := ∃ k m, markerIx l n = some (k, m) ∧ FitsM m x

theorem c_ref24_Eligible (l : List GMarker) (n : Int) (x : GScript) (hl : l.length ≤ 1000000) (hm : ∀ m ∈ l, m.Papers.length ≤ 1000000) :
    cw f_ref24_Eligible [.sl 5 (List.map nGMarker l), I n, .agg (nGScript x)] [] = some (q_ref24_Eligible (dec (Elig l n x))) := by
  refine e_ref24_Eligible l n x ?_
  simp only [c_ref24_Find l n hl, callD_ref24_Find]
  cases h : markerIx l n with
  | none =>
    simp only [markerR, brn_false]
    rw [dec_false (by rintro ⟨k, m, h2, _⟩; rw [h] at h2; cases h2)]
    rfl
  | some q =>
    obtain ⟨k, m⟩ := q
    have hmem := List.mem_of_getElem? (fnd_at h).1
    simp only [markerR, brn_true, c_ref24_Fits m x (hm m hmem), callD_ref24_Fits]
    rw [show dec (Elig l n x) = dec (FitsM m x) from dec_iff ⟨by rintro ⟨k', m', h2, h3⟩; rw [h] at h2; cases h2; exact h3, fun h3 => ⟨k, m, h, h3⟩⟩]
    rfl

def PermP (x : GPart) (v : Int) : Prop := if x.Kind = 2 then v = -1 ∨ v = 0 ∨ v = x.Max else -1 ≤ v ∧ v ≤ x.Max

theorem c_ref23_Permitted (p : GPaper) (c : GScheme) (j : Nat) (x : GPart) (v : Int) (hs : Short c) (hok : OkScheme p c) (hx : p.Parts[j]? = some x) :
    cw f_ref23_Permitted [.agg (nGPaper p), .agg (nGScheme c), I j, I v] [] = some (q_ref23_Permitted (dec (PermP x v))) := by
  obtain ⟨hj, hx⟩ := List.getElem?_eq_some_iff.1 hx
  refine e_ref23_Permitted p c j v ?_
  simp (disch := omega) only [c_ref23_Valid p c hs, callD_ref23_Valid, dec_true hok, Bool.not_true, brn_false, List.length_map, brn_neg, chk_pos, Int.toNat_natCast, elemD_GPart, List.getElem?_eq_getElem hj, Option.bind_some, hx]
  simp only [brn_ite, decide_eq_true_eq, beq_iff_eq]
  by_cases h : x.Kind = 2
  · rw [if_pos h, show dec (PermP x v) = dec (v = -1 ∨ v = 0 ∨ v = x.Max) from dec_iff (by unfold PermP; rw [if_pos h])]
    repeat' split
    all_goals first
      | (rw [dec_true (by omega)]; rfl)
      | (rw [show (v == x.Max) = dec (v = -1 ∨ v = 0 ∨ v = x.Max) from dec_bool (by simp only [beq_iff_eq]; omega)]; rfl)
  · rw [if_neg h, show dec (PermP x v) = dec (-1 ≤ v ∧ v ≤ x.Max) from dec_iff (by unfold PermP; rw [if_neg h])]
    split
    · rw [show decide (v ≤ x.Max) = dec (-1 ≤ v ∧ v ≤ x.Max) from dec_bool (by simp only [decide_eq_true_eq]; omega)]; rfl
    · rw [dec_false (by omega)]; rfl

def OpenP (p : GPaper) (n : Int) : Prop := 0 ≤ n ∧ ∃ x, p.Parts[n.toNat]? = some x ∧ x.Kind = 1

theorem c_ref29_Open (p : GPaper) (n : Int) : cw f_ref29_Open [.agg (nGPaper p), I n] [] = some (q_ref29_Open (dec (OpenP p n))) := by
  refine e_ref29_Open p n ?_
  by_cases h0 : 0 ≤ n
  · by_cases h1 : n.toNat < p.Parts.length
    · simp (disch := omega) only [brn_pos, List.length_map, chk_pos, elemD_GPart, List.getElem?_eq_getElem h1, Option.bind_some]
      rw [show (p.Parts[n.toNat].Kind == 1) = dec (OpenP p n) from dec_bool (by
        simp only [beq_iff_eq]
        exact ⟨fun h => ⟨h0, _, List.getElem?_eq_getElem h1, h⟩, fun ⟨_, x, h2, h3⟩ => by rw [List.getElem?_eq_getElem h1] at h2; cases h2; exact h3⟩)]
      rfl
    · simp (disch := omega) only [brn_pos, List.length_map, brn_neg]
      rw [dec_false (by rintro ⟨_, x, h2, _⟩; exact h1 (List.getElem?_eq_some_iff.1 h2).1)]
      rfl
  · simp (disch := omega) only [brn_neg]
    rw [dec_false (fun h => h0 h.1)]
    rfl

def FitsE (s : GSetup) (e : GMarkEvent) : Prop :=
  ∃ x, scriptOf s.Scripts e.Script = some x ∧ e.Kind = 0 ∧ Elig s.Markers e.Stamp.Source x ∧ ∃ k p y, paperIx s.Papers x = some (k, p) ∧ 0 ≤ e.Part ∧ p.Parts[e.Part.toNat]? = some y ∧ y.Kind = 1 ∧ (-1 ≤ e.Value ∧ e.Value ≤ y.Max) ∧ e.Pages = x.Pages

theorem c_ref29_Fits (s : GSetup) (hs : OkSetup s) (e : GMarkEvent) (hm : ∀ m ∈ s.Markers, m.Papers.length ≤ 1000000) (hp : e.Pages.length ≤ 1000000) :
    cw f_ref29_Fits [.agg (nGSetup s), .agg (nGMarkEvent e)] [] = some (q_ref29_Fits (dec (FitsE s e))) := by
  have hm16 := hs.markers.1
  have hx60 := hs.scripts.1
  have hp32 := hs.papers
  refine e_ref29_Fits s e ?_
  simp only [c_ref24_Script s.Scripts e.Script (by omega), callD_ref24_Script]
  cases h1 : scriptOf s.Scripts e.Script with
  | none =>
    simp only [scR, Bool.not_false, brn_true]
    rw [dec_false (by rintro ⟨x, h2, _⟩; rw [h1] at h2; cases h2)]
    rfl
  | some x =>
    have hmem := (scriptOf_at h1).1
    obtain ⟨k, p, c, hk, hc, _⟩ := hs.script x hmem
    simp only [scR, Bool.not_true, brn_false]
    by_cases h2 : e.Kind = 0
    · simp only [show (e.Kind != 0) = false by simp [h2], brn_false, c_ref24_Eligible s.Markers e.Stamp.Source x (by omega) hm, callD_ref24_Eligible]
      by_cases h3 : Elig s.Markers e.Stamp.Source x
      · have hpk := (paperIx_at hk).1
        have hlt := (List.getElem?_eq_some_iff.1 hpk).1
        simp (disch := omega) only [dec_true h3, Bool.not_true, brn_false, c_ref26_Paper s.Papers x (by omega), hk, ixR, callD_ref26_Paper, chk_pos, Int.toNat_natCast, elemD_GPaper, hpk, Option.bind_some, c_ref29_Open, callD_ref29_Open, elemD_GScheme, hc]
        by_cases h4 : OpenP p e.Part
        · obtain ⟨h0, y, hy, hyk⟩ := h4
          have hy1 : 1 ≤ y.Max := ((hs.okPaper hpk).2.2.2.1 y (List.mem_of_getElem? hy)).1.1
          have hje : ((e.Part.toNat : Nat) : Int) = e.Part := by omega
          have hperm := c_ref23_Permitted p c e.Part.toNat y e.Value (hs.short c (List.mem_of_getElem? hc)) (hs.schemes k p c hpk hc) hy
          rw [hje] at hperm
          have hiff : FitsE s e ↔ (-1 ≤ e.Value ∧ e.Value ≤ y.Max) ∧ e.Pages = x.Pages := by
            constructor
            · rintro ⟨x', a1, _, _, k', p', y', a2, _, a3, _, a4, a5⟩
              rw [h1] at a1
              cases a1
              rw [hk] at a2
              cases a2
              rw [hy] at a3
              cases a3
              exact ⟨a4, a5⟩
            · rintro ⟨a4, a5⟩
              exact ⟨x, h1, h2, h3, k, p, y, hk, h0, hy, hyk, a4, a5⟩
          rw [dec_iff hiff]
          simp only [dec_true (show OpenP p e.Part from ⟨h0, y, hy, hyk⟩), brn_true, c_SamePages e.Pages x.Pages hp, callD_ref28_SamePages, hperm, callD_ref23_Permitted]
          by_cases h5 : e.Value = -1
          · simp only [show (e.Value == -1) = true by simp [h5], brn_true]
            rw [show dec ((-1 ≤ e.Value ∧ e.Value ≤ y.Max) ∧ e.Pages = x.Pages) = dec (e.Pages = x.Pages) from dec_iff ⟨fun h => h.2, fun h => ⟨by omega, h⟩⟩]
            rfl
          · simp only [show (e.Value == -1) = false by simpa using h5, brn_false]
            by_cases h6 : -1 ≤ e.Value ∧ e.Value ≤ y.Max
            · rw [dec_true (show PermP y e.Value by unfold PermP; rw [if_neg (by omega)]; exact h6), brn_true,
                show dec ((-1 ≤ e.Value ∧ e.Value ≤ y.Max) ∧ e.Pages = x.Pages) = dec (e.Pages = x.Pages) from dec_iff ⟨fun h => h.2, fun h => ⟨h6, h⟩⟩]
              rfl
            · rw [dec_false (show ¬ PermP y e.Value by unfold PermP; rw [if_neg (by omega)]; exact h6), brn_false, dec_false (fun h => h6 h.1)]
              rfl
        · simp only [dec_false h4, brn_false]
          rw [dec_false (by
            rintro ⟨x', a1, _, _, k', p', y', a2, a0, a3, a6, _⟩
            rw [h1] at a1
            cases a1
            rw [hk] at a2
            cases a2
            exact h4 ⟨a0, y', a3, a6⟩)]
          rfl
      · simp only [dec_false h3, Bool.not_false, brn_true]
        rw [dec_false (by
          rintro ⟨x', a1, _, a3, _⟩
          rw [h1] at a1
          cases a1
          exact h3 a3)]
        rfl
    · simp only [show (e.Kind != 0) = true by simpa using h2, brn_true]
      rw [dec_false (by rintro ⟨_, _, a, _⟩; exact h2 a)]
      rfl
end Go.Proofs.YtdhibifcofaioaaGreat

namespace Go.Proofs.YtdhibifcofaioaaGreat
open Go.Ab
set_option linter.unusedSimpArgs false

def failsN (l : List Bool) : Int := ((l.filter (!·)).length : Nat)

theorem c_ref27_fails (l : List Bool) (hl : l.length ≤ 1000000) : cw f_ref27_fails [.sl 1 (List.map nBool l)] [] = some (q_ref27_fails (failsN l)) := by
  refine e_ref27_fails l ?_
  have loop := range_int l (fun i r => ∀ x : Int, 0 ≤ x → x ≤ i → k_ref27_fails_1 l x i = some (q_ref27_fails (x + failsN r))) ?_ ?_ 0 (by omega) (by omega)
  · rw [loop, Int.zero_add]
  · intro x _ _
    refine t_ref27_fails_1 _ _ _ ?_
    simp (disch := omega) only [List.length_map, brn_neg]
    simp only [failsN, List.filter_nil, List.length_nil, Int.natCast_zero, Int.add_zero]
    rfl
  · intro i hi r hr ih x h0 h1
    refine t_ref27_fails_1 _ _ _ ?_
    simp (disch := omega) only [List.length_map, brn_pos, chk_pos, Int.toNat_natCast, elemD_Bool, List.getElem?_eq_getElem hi, Option.bind_some]
    cases hb : l[i] with
    | true =>
      simp (disch := omega) only [Bool.not_true, brn_false, w64_id]
      rw [ih x h0 (by omega), show failsN (true :: r) = failsN r by simp [failsN]]
    | false =>
      simp (disch := omega) only [Bool.not_false, brn_true, w64_id]
      rw [ih (x + 1) (by omega) (by omega), show failsN (false :: r) = 1 + failsN r by simp [failsN]; omega, Int.add_assoc]

theorem failsN_bd (l : List Bool) : 0 ≤ failsN l ∧ failsN l ≤ l.length := by
  unfold failsN
  have := List.length_filter_le (!·) l
  omega

def OkWatch (r : GMonitorRule) (w : GWatch) : Prop := (w.Last.length : Int) ≤ r.Window ∧ w.Suspended = decide (r.Fails ≤ failsN w.Last)

theorem c_ref27_Valid (r : GMonitorRule) (w : GWatch) (hr : OkMon r) : cw f_ref27_Valid [.agg (nGMonitorRule r), .agg (nGWatch w)] [] = some (q_ref27_Valid (dec (OkWatch r w))) := by
  have hw := hr.2.2.1
  refine e_ref27_Valid r w ?_
  simp only [c_ref27_Check r hr, callD_ref27_Check, beq_self_eq_true, brn_true, List.length_map]
  by_cases h : (w.Last.length : Int) ≤ r.Window
  · simp (disch := omega) only [brn_pos, c_ref27_fails, callD_ref27_fails]
    rw [show (w.Suspended == decide (r.Fails ≤ failsN w.Last)) = dec (OkWatch r w) from dec_bool (by simp only [beq_iff_eq, OkWatch]; exact ⟨fun h2 => ⟨h, h2⟩, fun h2 => h2.2⟩)]
    rfl
  · simp (disch := omega) only [brn_neg]
    rw [dec_false (fun h2 => h h2.1)]
    rfl

def lastW (r : GMonitorRule) (w : GWatch) (b : Bool) : List Bool := if r.Window < ((w.Last ++ [b]).length : Nat) then (w.Last ++ [b]).drop 1 else w.Last ++ [b]

def stepW (r : GMonitorRule) (w : GWatch) (b : Bool) : GWatch := ⟨lastW r w b, decide (r.Fails ≤ failsN (lastW r w b))⟩

theorem stepW_ok (r : GMonitorRule) (w : GWatch) (b : Bool) (h : OkWatch r w) : OkWatch r (stepW r w b) := by
  refine ⟨?_, rfl⟩
  have := h.1
  show ((lastW r w b).length : Int) ≤ r.Window
  unfold lastW
  split
  · simp at *; omega
  · simp at *; omega

theorem c_ref27_Step (r : GMonitorRule) (w : GWatch) (b : Bool) (hr : OkMon r) (hw : OkWatch r w) (hs : w.Suspended = false) :
    cw f_ref27_Step [.agg (nGMonitorRule r), .agg (nGWatch w), B b] [] = some (q_ref27_Step (stepW r w b, 0)) := by
  have h1 := hr.2.2.1
  have h2 := hw.1
  refine e_ref27_Step r w b ?_
  have hsnoc : List.map nBool w.Last ++ [[AV.v (Go.Value.bool b)]] = List.map nBool (w.Last ++ [b]) := by simp [nBool]
  have hsnoc2 : List.map nBool w.Last ++ [nBool b] = List.map nBool (w.Last ++ [b]) := by simp
  have hsnoc3 : List.map nBool w.Last ++ [[B b]] = List.map nBool (w.Last ++ [b]) := by simp [nBool]
  have hlen : (w.Last ++ [b]).length = w.Last.length + 1 := by simp
  simp (disch := omega) only [c_ref27_Valid r w hr, callD_ref27_Valid, dec_true hw, Bool.not_true, brn_false, hs, List.length_map, chk_pos, chk_true, hsnoc]
  by_cases hb : r.Window < ((w.Last ++ [b]).length : Nat)
  · simp (disch := omega) only [brn_pos, chk_pos, chk_true, Nat.le_refl]
    refine t_ref27_Step_1008 _ _ _ ?_
    have hdrop : List.take ((w.Last ++ [b]).length - Int.toNat 1) (List.drop (0 + Int.toNat 1) (List.map nBool (w.Last ++ [b]))) = List.map nBool (lastW r w b) := by
      rw [show 0 + Int.toNat 1 = 1 from rfl, ← List.map_drop, List.take_of_length_le (by simp)]
      unfold lastW
      rw [if_pos hb]
    have hll : (lastW r w b).length ≤ 1000000 := by
      unfold lastW
      rw [if_pos hb]
      simp
      omega
    simp (disch := omega) only [hsnoc, hsnoc2, hsnoc3, List.length_map, hdrop, chk_pos, c_ref27_fails _ hll, callD_ref27_fails]
    rfl
  · simp (disch := omega) only [brn_neg]
    refine t_ref27_Step_1008v1 _ _ _ ?_
    have hdrop : List.take (w.Last ++ [b]).length (List.map nBool (w.Last ++ [b])) = List.map nBool (lastW r w b) := by
      rw [List.take_of_length_le (by simp)]
      unfold lastW
      rw [if_neg hb]
    have hll : (lastW r w b).length ≤ 1000000 := by
      unfold lastW
      rw [if_neg hb]
      simp
      omega
    simp (disch := omega) only [hsnoc, hsnoc2, hsnoc3, List.length_map, hdrop, chk_pos, c_ref27_fails _ hll, callD_ref27_fails]
    rfl

theorem c_ref27_size (n : Int) : ∃ m, cw f_ref27_size [I n] [] = some (q_ref27_size m) := by
  by_cases h : n < 0
  · exact ⟨_, e_ref27_size n (by simp (disch := omega) only [brn_pos]; rfl)⟩
  · exact ⟨_, e_ref27_size n (by simp (disch := omega) only [brn_neg]; rfl)⟩

theorem c_ref27_Good (r : GMonitorRule) (a b : List Int) (hr : OkMon r) : ∃ v, cw f_ref27_Good [.agg (nGMonitorRule r), .sl 1 (List.map nI_i64 a), .sl 1 (List.map nI_i64 b)] [] = some (q_ref27_Good v) := by
  let Q : AV × Mem → Prop := fun y => ∃ v, y = q_ref27_Good v
  suffices H : Sat Q (cw f_ref27_Good [.agg (nGMonitorRule r), .sl 1 (List.map nI_i64 a), .sl 1 (List.map nI_i64 b)] []) by
    obtain ⟨y, e, v, rfl⟩ := H
    exact ⟨v, e⟩
  have no : Sat Q (some (B false, [])) := sat_some ⟨false, rfl⟩
  refine sat_of (fun y => e_ref27_Good _ _ _) ?_
  simp only [c_ref27_Check r hr, callD_ref27_Check, bne_self_eq_false, brn_false, List.length_map]
  by_cases h1 : a.length = b.length
  · simp only [h1, bne_self_eq_false, brn_false]
    by_cases h2 : b.length ≤ 24
    · simp (disch := omega) only [brn_neg]
      refine range_int a (fun i _ => ∀ x, Sat Q (k_ref27_Good_1 r a b x i)) ?_ ?_ 0
      · intro x
        obtain ⟨m, em⟩ := c_ref27_size x
        refine sat_of (fun y => t_ref27_Good_1 _ _ _ _ _) ?_
        simp (disch := omega) only [List.length_map, brn_neg, em, callD_ref27_size]
        exact sat_some ⟨_, rfl⟩
      · intro i hi rr _ ih x
        have hi2 : i < b.length := by omega
        refine sat_of (fun y => t_ref27_Good_1 _ _ _ _ _) ?_
        simp (disch := omega) only [List.length_map, brn_pos, chk_pos, Int.toNat_natCast, elemD_I_i64, List.getElem?_eq_getElem hi, List.getElem?_eq_getElem hi2, Option.bind_some, w64_id (n := (i : Int) + 1)]
        obtain ⟨m, em⟩ := c_ref27_size (w64 ((if 0 > a[i] then 0 else a[i]) - if 0 > b[i] then 0 else b[i]))
        simp only [em, callD_ref27_size]
        simp only [brn_ite]
        repeat' split
        all_goals first
          | exact no
          | exact ih _
    · simp (disch := omega) only [brn_pos]
      exact no
  · simp only [show ((a.length : Int) != (b.length : Int)) = true by simp only [bne_iff_ne, ne_eq]; omega, brn_true]
    exact no

theorem c_judge (s : GSetup) (hs : OkSetup s) (k : Nat) (p : GPaper) (i : Nat) (y : GSeed) (n : Int) (l : List Gref29Noted) (hk : paperOf s n = some (k, p)) (hy : seedOf s.Seeds n = some (i, y)) (hm : OkMarks p y.Marks)
    (hl : l.length ≤ 100000) : ∃ v, cw f_ref29_judge [.agg (nGSetup s), I n, .sl 2 (List.map nGref29Noted l)] [] = some (q_ref29_judge v) := by
  let Q : AV × Mem → Prop := fun y => ∃ v, y = q_ref29_judge v
  suffices H : Sat Q (cw f_ref29_judge [.agg (nGSetup s), I n, .sl 2 (List.map nGref29Noted l)] []) by
    obtain ⟨y, e, v, rfl⟩ := H
    exact ⟨v, e⟩
  have hx60 := hs.scripts.1
  have hp32 := hs.papers
  have hsd := hs.seeds
  have hpk := paperOf_at hk
  have hparts : p.Parts.length ≤ 24 := (hs.okPaper hpk).2.2.1.2
  have hmarks : ∀ y ∈ s.Seeds, y.Marks.length ≤ 1000000 := by
    intro y hy
    obtain ⟨k', p', h1, h2⟩ := hs.seed y hy
    have := (hs.okPaper (paperOf_at h1)).2.2.1
    have := h2.1
    omega
  refine sat_of (fun y => e_ref29_judge _ _ _) ?_
  simp (disch := omega) only [c_ref29_PaperOf s n (by omega) (by omega), hk, ixR, callD_ref29_PaperOf, c_ref26_Definitive s.Seeds n (by omega) hmarks, hy, seedR, callD_ref26_Definitive]
  refine range_int p.Parts (fun q _ => ∀ (a b : List Int), (a.length : Int) ≤ 100000 * q → (b.length : Int) ≤ 100000 * q → Sat Q (k_ref29_judge_1 s l ((k : Int), true) (y.Marks, true) (List.map nI_i64 a) (List.map nI_i64 b) q)) ?_ ?_ [] [] (by simp) (by simp)
  · intro a b ha hb
    refine sat_of (fun y => t_ref29_judge_1 _ _ _ _ _ _ _) ?_
    simp (disch := omega) only [chk_pos, Int.toNat_natCast, elemD_GPaper, hpk, Option.bind_some, List.length_map, brn_neg, Nat.zero_add, Nat.le_refl, chk_true]
    rw [List.take_of_length_le (by simp), List.take_of_length_le (by simp)]
    obtain ⟨v, ev⟩ := c_ref27_Good s.Monitor a b hs.monitor
    simp only [ev, callD_ref27_Good]
    exact sat_some ⟨(true, v), rfl⟩
  · intro q hq r _ ih a b ha hb
    refine sat_of (fun y => t_ref29_judge_1 _ _ _ _ _ _ _) ?_
    simp (disch := omega) only [chk_pos, Int.toNat_natCast, elemD_GPaper, hpk, Option.bind_some, List.length_map, brn_pos, c_ref29_Open, callD_ref29_Open]
    cases dec (OpenP p (q : Int)) with
    | false =>
      simp (disch := omega) only [Bool.not_false, brn_true, w64_id]
      exact ih a b (by omega) (by omega)
    | true =>
      simp only [Bool.not_true, brn_false]
      have hqm : q < y.Marks.length := by have := hm.1; omega
      refine range_int l (fun j _ => ∀ (a b : List Int) (f : Bool), (a.length : Int) ≤ 100000 * q + j → (b.length : Int) ≤ 100000 * q + j → Sat Q (k_ref29_judge_2 s l ((k : Int), true) (y.Marks, true) q (List.map nI_i64 a) (List.map nI_i64 b) f j)) ?_ ?_ a b false (by omega) (by omega)
      · intro a b f ha hb
        refine sat_of (fun y => t_ref29_judge_2 _ _ _ _ _ _ _ _ _) ?_
        cases f with
        | false =>
          simp (disch := omega) only [List.length_map, brn_neg, Bool.not_false, brn_true]
          exact sat_some ⟨(false, false), rfl⟩
        | true =>
          simp (disch := omega) only [List.length_map, brn_neg, Bool.not_true, brn_false, w64_id]
          exact ih a b (by omega) (by omega)
      · intro j hj r _ ih2 a b f ha hb
        refine sat_of (fun y => t_ref29_judge_2 _ _ _ _ _ _ _ _ _) ?_
        simp (disch := omega) only [List.length_map, brn_pos, chk_pos, chk_true, Int.toNat_natCast, elemD_Gref29Noted, List.getElem?_eq_getElem hj, Option.bind_some, elemD_I_i64, List.getElem?_eq_getElem hqm, map_snoc nI_i64, w64_id]
        cases l[j].part == (q : Int) with
        | true =>
          simp only [brn_true]
          exact ih2 _ _ true (by simp; omega) (by simp; omega)
        | false =>
          simp only [brn_false]
          exact ih2 a b f (by omega) (by omega)
end Go.Proofs.YtdhibifcofaioaaGreat

namespace Go.Proofs.YtdhibifcofaioaaGreat
open Go.Ab
set_option linter.unusedSimpArgs false

structure WInv (s : GSetup) (l : List GMarkEvent) (i : Nat) (out : List GSuspension) (w : GWatch) (void : List Bool) (notes : List (Int × List Gref29Noted)) : Prop where
  olen : out.length ≤ i
  ow : OkWatch s.Monitor w
  os : w.Suspended = true → 1 ≤ out.length
  vlen : void.length = l.length
  nlen : ∀ q ∈ notes, q.2.length ≤ i

theorem WInv.up {s : GSetup} {l : List GMarkEvent} {i : Nat} {out : List GSuspension} {w : GWatch} {void : List Bool} {notes : List (Int × List Gref29Noted)} (h : WInv s l i out w void notes) : WInv s l (i + 1) out w void notes :=
  ⟨by have := h.olen; omega, h.ow, h.os, h.vlen, fun q hq => by have := h.nlen q hq; omega⟩

theorem blankWatch {r : GMonitorRule} (h : OkMon r) : OkWatch r ⟨[], false⟩ := by
  have h1 := h.2.2.1
  have h2 := h.2.2.2
  refine ⟨by simp; omega, ?_⟩
  have : ¬ r.Fails ≤ failsN [] := by simp [failsN]; omega
  simp [this]

def QW (l : List GMarkEvent) : AV × Mem → Prop := fun y => ∃ r, y = q_ref29_watch r ∧ r.2.length = l.length ∧ r.1.length ≤ l.length

theorem seed_judge {s : GSetup} (hs : OkSetup s) {n : Int} {i : Nat} {y : GSeed} (h : seedOf s.Seeds n = some (i, y)) : ∃ k p, paperOf s n = some (k, p) ∧ OkMarks p y.Marks := by
  obtain ⟨h1, h2, _⟩ := fnd_at h
  obtain ⟨k, p, h3, h4⟩ := hs.seed y (List.mem_of_getElem? h1)
  simp only [beq_iff_eq] at h2
  rw [h2] at h3
  exact ⟨k, p, h3, h4⟩

theorem seed_short {s : GSetup} (hs : OkSetup s) : ∀ y ∈ s.Seeds, y.Marks.length ≤ 1000000 := by
  intro y hy
  obtain ⟨k', p', h1, h2⟩ := hs.seed y hy
  have := (hs.okPaper (paperOf_at h1)).2.2.1
  have := h2.1
  omega

theorem watch2 (s : GSetup) (hs : OkSetup s) (l : List GMarkEvent) (hl : l.length ≤ 2000) (hp : ∀ e ∈ l, e.Pages.length ≤ 1000000) (mk : Int) :
    ∀ (n i : Nat), i + n = l.length → ∀ (good : GStamp) (first : Bool) (begin : Int) (out : List GSuspension) (w : GWatch) (void : List Bool) (notes : List (Int × List Gref29Noted)) (ol : Nat), 0 ≤ begin → begin ≤ i → ol = out.length → WInv s l i out w void notes →
      Sat (QW l) (k_ref29_watch_1v1 s l mk good first begin (List.map nGSuspension out) w (List.map nBool void) (List.map nE_I_i64_L_Gref29Noted notes) ol i) := by
  have hsd := hs.seeds
  intro n
  induction n with
  | zero =>
    intro i hi good first begin out w void notes ol h0 h1 ho inv
    have hvl := inv.vlen
    have hol := inv.olen
    subst ho
    refine sat_of (fun y => t_ref29_watch_1v1 _ _ _ _ _ _ _ _ _ _ _ _) ?_
    simp (disch := omega) only [List.length_map, List.length_replicate, Int.toNat_natCast, brn_neg, chk_pos]
    rw [List.take_of_length_le (by simp), List.take_of_length_le (by simp; omega)]
    exact sat_some ⟨(out, void), rfl, hvl, by dsimp only; omega⟩
  | succ n ih =>
    intro i hi good first begin out w void notes ol h0 h1 ho inv
    have hvl := inv.vlen
    have hol := inv.olen
    subst ho
    have hlt : i < l.length := by omega
    have hltv : i < void.length := by omega
    have go : ∀ (good : GStamp) (first : Bool) (begin : Int) (out : List GSuspension) (w : GWatch) (void : List Bool) (notes : List (Int × List Gref29Noted)) (ol : Nat), 0 ≤ begin → begin ≤ i → ol = out.length → WInv s l (i + 1) out w void notes →
        Sat (QW l) (k_ref29_watch_1v1 s l mk good first begin (List.map nGSuspension out) w (List.map nBool void) (List.map nE_I_i64_L_Gref29Noted notes) ol (w64 ((i : Int) + 1))) := by
      intro good first begin out w void notes ol h0 h1 ho inv
      rw [w64_id (by omega) (by omega)]
      exact ih (i + 1) (by omega) good first begin out w void notes ol h0 (by omega) ho inv
    have m1008 : ∀ (good : GStamp) (first : Bool) (begin : Int) (out : List GSuspension) (w : GWatch) (void : List Bool) (notes : List (Int × List Gref29Noted)) (ol : Nat), 0 ≤ begin → begin ≤ i → ol = out.length → WInv s l (i + 1) out w void notes →
        Sat (QW l) (k_ref29_watch_1008 s l mk (List.map nGSuspension out) w good (List.map nBool void) (List.map nE_I_i64_L_Gref29Noted notes) ol first begin i) := by
      intro good first begin out w void notes ol h0 h1 ho inv
      refine sat_of (fun y => t_ref29_watch_1008 _ _ _ _ _ _ _ _ _ _ _ _) ?_
      exact go good first begin out w void notes ol h0 h1 ho inv
    have m1029 : ∀ (w' : GWatch) (notes' : List (Int × List Gref29Noted)) (r : Bool × Bool), OkWatch s.Monitor w' → (∀ q ∈ notes', q.2.length ≤ i + 1) →
        Sat (QW l) (k_ref29_watch_1029v1 s l mk good first begin (List.map nGSuspension out) (List.map nBool void) out.length i l[i] (List.map nE_I_i64_L_Gref29Noted notes') r (w', 0)) := by
      intro w' notes' r hw' hn'
      have loop : ∀ (m : Nat) (j : Int) (void' : List Bool), 0 ≤ j → j + m = i + 1 → void'.length = l.length →
          Sat (QW l) (k_ref29_watch_3v1 s l mk good first begin (List.map nGSuspension out) (List.map nBool void) out.length i l[i] (List.map nE_I_i64_L_Gref29Noted notes') r (w', 0) (List.map nBool void') j) := by
        intro m
        induction m with
        | zero =>
          intro j void' hj hjm hv'
          refine sat_of (fun y => t_ref29_watch_3v1 _ _ _ _ _ _ _ _ _ _ _ _ _ _ _ _) ?_
          simp (disch := omega) only [brn_neg]
          refine sat_of (fun y => t_ref29_watch_1008v13 _ _ _ _ _ _ _ _ _ _ _ _ _ _ _ _) ?_
          rw [map_snoc nGSuspension]
          refine go _ _ _ _ _ _ _ _ h0 h1 (by simp) ⟨by simp; omega, hw', fun _ => by simp, hv', hn'⟩
        | succ m ih3 =>
          intro j void' hj hjm hv'
          have hj1 : j.toNat < l.length := by omega
          have hj2 : j.toNat < void'.length := by omega
          have m1033 : ∀ (b : Bool), Sat (QW l) (k_ref29_watch_1033v1 s l mk good first begin (List.map nGSuspension out) (List.map nBool void) out.length i l[i] (List.map nE_I_i64_L_Gref29Noted notes') r (w', 0) j (List.map nBool (void'.set j.toNat b))) := by
            intro b
            refine sat_of (fun y => t_ref29_watch_1033v1 _ _ _ _ _ _ _ _ _ _ _ _ _ _ _ _) ?_
            rw [w64_id (by omega) (by omega)]
            exact ih3 (j + 1) (void'.set j.toNat b) (by omega) (by omega) (by simpa using hv')
          refine sat_of (fun y => t_ref29_watch_3v1 _ _ _ _ _ _ _ _ _ _ _ _ _ _ _ _) ?_
          simp (disch := omega) only [List.length_map, List.length_replicate, Int.toNat_natCast, Nat.zero_add, brn_pos, chk_pos, elemD_Bool, elemD_GMarkEvent, List.getElem?_eq_getElem hj1, List.getElem?_eq_getElem hj2, Option.bind_some, c_ref28_Less, callD_ref28_Less, map_set' nBool]
          simp only [brn_ite]
          repeat' split
          all_goals exact m1033 _
      refine sat_of (fun y => t_ref29_watch_1029v1 _ _ _ _ _ _ _ _ _ _ _ _ _ _) ?_
      cases hsus : w'.Suspended with
      | true =>
        simp (disch := omega) only [brn_true, eq_self, chk_true, List.length_map, chk_pos]
        exact loop (i + 1 - begin.toNat) begin void h0 (by omega) hvl
      | false =>
        simp only [brn_false]
        cases r.2 with
        | true =>
          simp only [brn_true]
          exact m1008 _ _ _ _ _ _ _ _ h0 h1 rfl ⟨by omega, hw', by simp [hsus], hvl, hn'⟩
        | false =>
          simp only [brn_false]
          refine sat_of (fun y => t_ref29_watch_1008v12 _ _ _ _ _ _ _ _ _ _ _ _ _) ?_
          exact go _ _ _ _ _ _ _ _ h0 h1 rfl ⟨by omega, hw', by simp [hsus], hvl, hn'⟩
    have m1025 : ∀ (c : List Gref29Noted) (q : Nat) (y : GSeed), w.Suspended = false → c.length ≤ i → seedOf s.Seeds l[i].Script = some (q, y) →
        Sat (QW l) (k_ref29_watch_1025v1 s l mk good first begin (List.map nGSuspension out) w (List.map nBool void) (List.map nE_I_i64_L_Gref29Noted notes) out.length i l[i] c) := by
      intro c q y hsus hc hsd
      obtain ⟨k, p, hk, hm⟩ := seed_judge hs hsd
      refine sat_of (fun y => t_ref29_watch_1025v1 _ _ _ _ _ _ _ _ _ _ _ _ _ _) ?_
      have hlen : (List.map nGref29Noted c ++ [[I l[i].Part, I l[i].Value]]).length = c.length + 1 := by simp
      have htk : List.take (c.length + 1) (List.map nGref29Noted c ++ [nGref29Noted ⟨l[i].Part, l[i].Value⟩]) = List.map nGref29Noted (c ++ [⟨l[i].Part, l[i].Value⟩]) := by
        rw [map_snoc nGref29Noted, List.take_of_length_le (by simp)]
      simp (disch := omega) only [hlen, List.length_map, chk_pos, chk_true, htk, st_M_i64_L_ref29_noted]
      have hnn : ∀ q ∈ mput l[i].Script (c ++ [⟨l[i].Part, l[i].Value⟩]) notes, q.2.length ≤ i + 1 := by
        intro q hq
        rcases mput_mem hq with rfl | hq
        · simp; omega
        · have := inv.nlen q hq; omega
      refine sat_of (fun y => t_ref29_watch_1026v1 _ _ _ _ _ _ _ _ _ _ _ _ _) ?_
      simp only [lk_M_i64_L_ref29_noted]
      have hlk : ((mfind l[i].Script (mput l[i].Script (c ++ [⟨l[i].Part, l[i].Value⟩]) notes)).getD []).length ≤ 100000 := by
        cases hf : mfind l[i].Script (mput l[i].Script (c ++ [⟨l[i].Part, l[i].Value⟩]) notes) with
        | none => simp
        | some v => have := hnn _ (mfind_mem hf); simp only [Option.getD_some]; simp only at this; omega
      obtain ⟨v, ev⟩ := c_judge s hs k p q y l[i].Script _ hk hsd hm hlk
      simp only [ev, callD_ref29_judge]
      cases v.1 with
      | false =>
        simp only [Bool.not_false, brn_true]
        refine sat_of (fun y => t_ref29_watch_1008v9 _ _ _ _ _ _ _ _ _ _ _ _ _ _) ?_
        exact go _ _ _ _ _ _ _ _ h0 h1 rfl ⟨by omega, inv.ow, inv.os, hvl, hnn⟩
      | true =>
        simp only [Bool.not_true, brn_false]
        refine sat_of (fun y => t_ref29_watch_1028v1 _ _ _ _ _ _ _ _ _ _ _ _ _ _) ?_
        simp only [c_ref27_Step s.Monitor w v.2 hs.monitor inv.ow hsus, callD_ref27_Step]
        exact m1029 _ _ _ (stepW_ok _ _ _ inv.ow) hnn
    have m1019 : ∀ (q : Nat) (y : GSeed), w.Suspended = false → seedOf s.Seeds l[i].Script = some (q, y) →
        Sat (QW l) (k_ref29_watch_1019v1 s l mk good first begin (List.map nGSuspension out) w (List.map nBool void) (List.map nE_I_i64_L_Gref29Noted notes) out.length i l[i]) := by
      intro q y hsus hsd
      refine sat_of (fun y => t_ref29_watch_1019v1 _ _ _ _ _ _ _ _ _ _ _ _ _) ?_
      simp only [lk_M_i64_L_ref29_noted]
      have hc : ((mfind l[i].Script notes).getD []).length ≤ i := by
        cases hf : mfind l[i].Script notes with
        | none => simp
        | some v => have := inv.nlen _ (mfind_mem hf); simpa using this
      generalize (mfind l[i].Script notes).getD [] = c at hc
      refine range_int c (fun j _ => ∀ b, Sat (QW l) (k_ref29_watch_2v1 s l mk good first begin (List.map nGSuspension out) w (List.map nBool void) (List.map nE_I_i64_L_Gref29Noted notes) out.length i l[i] c b j)) ?_ ?_ false
      · intro b
        refine sat_of (fun y => t_ref29_watch_2v1 _ _ _ _ _ _ _ _ _ _ _ _ _ _ _ _) ?_
        simp (disch := omega) only [List.length_map, brn_neg]
        cases b with
        | true =>
          simp only [brn_true]
          refine sat_of (fun y => t_ref29_watch_1008v7 _ _ _ _ _ _ _ _ _ _ _ _ _ _) ?_
          exact go _ _ _ _ _ _ _ _ h0 h1 rfl inv.up
        | false =>
          simp only [brn_false]
          exact m1025 c q y hsus hc hsd
      · intro j hj r _ ih2 b
        refine sat_of (fun y => t_ref29_watch_2v1 _ _ _ _ _ _ _ _ _ _ _ _ _ _ _ _) ?_
        simp (disch := omega) only [List.length_map, brn_pos, chk_pos, Int.toNat_natCast, elemD_Gref29Noted, List.getElem?_eq_getElem hj, Option.bind_some, w64_id]
        cases b with
        | true => simp only [brn_true]; exact ih2 _
        | false => simp only [brn_false]; exact ih2 _
    have m1014 : Sat (QW l) (k_ref29_watch_1014v1 s l mk good first begin (List.map nGSuspension out) w (List.map nBool void) (List.map nE_I_i64_L_Gref29Noted notes) out.length i l[i]) := by
      have stay : Sat (QW l) (k_ref29_watch_1008v3 s l mk good first begin (List.map nGSuspension out) w (List.map nBool void) (List.map nE_I_i64_L_Gref29Noted notes) out.length i l[i]) :=
        sat_of (fun y => t_ref29_watch_1008v3 _ _ _ _ _ _ _ _ _ _ _ _ _) (go _ _ _ _ _ _ _ _ h0 h1 rfl inv.up)
      have stay2 : Sat (QW l) (k_ref29_watch_1008v5 s l mk good first begin (List.map nGSuspension out) w (List.map nBool void) (List.map nE_I_i64_L_Gref29Noted notes) out.length i l[i]) :=
        sat_of (fun y => t_ref29_watch_1008v5 _ _ _ _ _ _ _ _ _ _ _ _ _) (go _ _ _ _ _ _ _ _ h0 h1 rfl inv.up)
      refine sat_of (fun y => t_ref29_watch_1014v1 _ _ _ _ _ _ _ _ _ _ _ _ _) ?_
      cases l[i].Kind != 0 with
      | true => simp only [brn_true]; exact stay
      | false =>
        simp only [brn_false]
        cases l[i].Stamp.Source != mk with
        | true => simp only [brn_true]; exact stay
        | false =>
          simp only [brn_false]
          refine sat_of (fun y => t_ref29_watch_1015v1 _ _ _ _ _ _ _ _ _ _ _ _ _) ?_
          cases hsus : w.Suspended with
          | true =>
            simp (disch := omega) only [brn_true, List.length_map, List.length_replicate, Int.toNat_natCast, Nat.zero_add, chk_pos, elemD_Bool, List.getElem?_eq_getElem hltv, Option.bind_some, map_set' nBool]
            exact m1008 _ _ _ _ _ _ _ _ h0 h1 rfl ⟨by omega, inv.ow, inv.os, by simpa using hvl, inv.up.nlen⟩
          | false =>
            simp only [brn_false]
            refine sat_of (fun y => t_ref29_watch_1017v1 _ _ _ _ _ _ _ _ _ _ _ _ _) ?_
            simp (disch := omega) only [c_ref26_Definitive s.Seeds l[i].Script (by omega) (seed_short hs), callD_ref26_Definitive]
            cases hq : seedOf s.Seeds l[i].Script with
            | none => simp only [seedR, Bool.not_false, brn_true]; exact stay2
            | some qy =>
              obtain ⟨q, y⟩ := qy
              simp only [seedR, Bool.not_true, brn_false, c_ref29_Fits s hs l[i] hs.short2 (hp _ (List.getElem_mem hlt)), callD_ref29_Fits]
              cases dec (FitsE s l[i]) with
              | false => simp only [Bool.not_false, brn_true]; exact stay2
              | true => simp only [Bool.not_true, brn_false]; exact m1019 q y hsus hq
    refine sat_of (fun y => t_ref29_watch_1v1 _ _ _ _ _ _ _ _ _ _ _ _) ?_
    simp (disch := omega) only [List.length_map, brn_pos, chk_pos, Int.toNat_natCast, elemD_GMarkEvent, List.getElem?_eq_getElem hlt, Option.bind_some]
    cases l[i].Kind == 1 with
    | false => simp only [brn_false]; exact m1014
    | true =>
      simp only [brn_true]
      cases l[i].Marker == mk with
      | false => simp only [brn_false]; exact m1014
      | true =>
        simp only [brn_true]
        cases hsus : w.Suspended with
        | false => simp only [brn_false]; exact m1014
        | true =>
          have hon := inv.os hsus
          have hoe : ((out.length : Int) - 1).toNat = out.length - 1 := by omega
          have hol2 : out.length - 1 < out.length := by omega
          simp (disch := omega) only [brn_true, w64_id, hoe, Nat.zero_add, chk_pos, elemD_GSuspension, List.getElem?_eq_getElem hol2, Option.bind_some, map_set' nGSuspension, List.getElem?_set_self hol2]
          exact m1008 _ _ _ _ _ _ [] _ (by omega) (by omega) (by simp) ⟨by simp; omega, blankWatch hs.monitor, by simp, hvl, by simp⟩
end Go.Proofs.YtdhibifcofaioaaGreat

namespace Go.Proofs.YtdhibifcofaioaaGreat
open Go.Ab
set_option linter.unusedSimpArgs false

theorem watch1 (s : GSetup) (hs : OkSetup s) (l : List GMarkEvent) (hl : l.length ≤ 2000) (hp : ∀ e ∈ l, e.Pages.length ≤ 1000000) (mk : Int) :
    ∀ (n i : Nat), i + n = l.length → ∀ (good : GStamp) (first : Bool) (out : List GSuspension) (w : GWatch) (void : List Bool) (notes : List (Int × List Gref29Noted)), WInv s l i out w void notes →
      Sat (QW l) (k_ref29_watch_1 s l mk (List.map nGSuspension out) w good (List.map nBool void) (List.map nE_I_i64_L_Gref29Noted notes) first i) := by
  have hsd := hs.seeds
  intro n
  induction n with
  | zero =>
    intro i hi good first out w void notes inv
    have hvl := inv.vlen
    have hol := inv.olen
    refine sat_of (fun y => t_ref29_watch_1 _ _ _ _ _ _ _ _ _ _) ?_
    simp (disch := omega) only [List.length_map, List.length_replicate, Int.toNat_natCast, brn_neg, chk_pos]
    rw [List.take_of_length_le (by simp), List.take_of_length_le (by simp; omega)]
    exact sat_some ⟨(out, void), rfl, hvl, by dsimp only; omega⟩
  | succ n ih =>
    intro i hi good first out w void notes inv
    have hvl := inv.vlen
    have hol := inv.olen
    have hlt : i < l.length := by omega
    have hltv : i < void.length := by omega
    have go : ∀ (good : GStamp) (first : Bool) (out : List GSuspension) (w : GWatch) (void : List Bool) (notes : List (Int × List Gref29Noted)), WInv s l (i + 1) out w void notes →
        Sat (QW l) (k_ref29_watch_1 s l mk (List.map nGSuspension out) w good (List.map nBool void) (List.map nE_I_i64_L_Gref29Noted notes) first (w64 ((i : Int) + 1))) := by
      intro good first out w void notes inv
      rw [w64_id (by omega) (by omega)]
      exact ih (i + 1) (by omega) good first out w void notes inv
    have m1008 : ∀ (good : GStamp) (first : Bool) (out : List GSuspension) (w : GWatch) (void : List Bool) (notes : List (Int × List Gref29Noted)), WInv s l (i + 1) out w void notes →
        Sat (QW l) (k_ref29_watch_1008v2 s l mk (List.map nGSuspension out) i w good (List.map nBool void) (List.map nE_I_i64_L_Gref29Noted notes) first) := by
      intro good first out w void notes inv
      refine sat_of (fun y => t_ref29_watch_1008v2 _ _ _ _ _ _ _ _ _ _) ?_
      exact go good first out w void notes inv
    have m1029 : ∀ (w' : GWatch) (notes' : List (Int × List Gref29Noted)) (r : Bool × Bool), OkWatch s.Monitor w' → (∀ q ∈ notes', q.2.length ≤ i + 1) →
        Sat (QW l) (k_ref29_watch_1029 s l mk (List.map nGSuspension out) good (List.map nBool void) first i l[i] (List.map nE_I_i64_L_Gref29Noted notes') r (w', 0)) := by
      intro w' notes' r hw' hn'
      have loop : ∀ (m : Nat) (j : Int) (void' : List Bool), 0 ≤ j → j + m = i + 1 → void'.length = l.length →
          Sat (QW l) (k_ref29_watch_3 s l mk (List.map nGSuspension out) good (List.map nBool void) first i l[i] (List.map nE_I_i64_L_Gref29Noted notes') r (w', 0) (List.map nBool void') j) := by
        intro m
        induction m with
        | zero =>
          intro j void' hj hjm hv'
          refine sat_of (fun y => t_ref29_watch_3 _ _ _ _ _ _ _ _ _ _ _ _ _ _) ?_
          simp (disch := omega) only [brn_neg]
          refine sat_of (fun y => t_ref29_watch_1008v11 _ _ _ _ _ _ _ _ _ _ _ _ _ _) ?_
          rw [map_snoc nGSuspension]
          refine go _ _ _ _ _ _ ⟨by simp; omega, hw', fun _ => by simp, hv', hn'⟩
        | succ m ih3 =>
          intro j void' hj hjm hv'
          have hj1 : j.toNat < l.length := by omega
          have hj2 : j.toNat < void'.length := by omega
          have m1033 : ∀ (b : Bool), Sat (QW l) (k_ref29_watch_1033 s l mk (List.map nGSuspension out) good (List.map nBool void) first i l[i] (List.map nE_I_i64_L_Gref29Noted notes') r (w', 0) j (List.map nBool (void'.set j.toNat b))) := by
            intro b
            refine sat_of (fun y => t_ref29_watch_1033 _ _ _ _ _ _ _ _ _ _ _ _ _ _) ?_
            rw [w64_id (by omega) (by omega)]
            exact ih3 (j + 1) (void'.set j.toNat b) (by omega) (by omega) (by simpa using hv')
          refine sat_of (fun y => t_ref29_watch_3 _ _ _ _ _ _ _ _ _ _ _ _ _ _) ?_
          simp (disch := omega) only [List.length_map, List.length_replicate, Int.toNat_natCast, Nat.zero_add, brn_pos, chk_pos, elemD_Bool, elemD_GMarkEvent, List.getElem?_eq_getElem hj1, List.getElem?_eq_getElem hj2, Option.bind_some, c_ref28_Less, callD_ref28_Less, map_set' nBool]
          simp only [brn_ite]
          repeat' split
          all_goals exact m1033 _
      refine sat_of (fun y => t_ref29_watch_1029 _ _ _ _ _ _ _ _ _ _ _ _) ?_
      cases hsus : w'.Suspended with
      | true =>
        simp (disch := omega) only [brn_true, eq_self, chk_true, List.length_map, chk_pos]
        exact loop (i + 1) 0 void (by omega) (by omega) hvl
      | false =>
        simp only [brn_false]
        cases r.2 with
        | true =>
          simp only [brn_true]
          exact m1008 _ _ _ _ _ _ ⟨by omega, hw', by simp [hsus], hvl, hn'⟩
        | false =>
          simp only [brn_false]
          refine sat_of (fun y => t_ref29_watch_1008v10 _ _ _ _ _ _ _ _ _ _ _) ?_
          exact go _ _ _ _ _ _ ⟨by omega, hw', by simp [hsus], hvl, hn'⟩
    have m1025 : ∀ (c : List Gref29Noted) (q : Nat) (y : GSeed), w.Suspended = false → c.length ≤ i → seedOf s.Seeds l[i].Script = some (q, y) →
        Sat (QW l) (k_ref29_watch_1025 s l mk (List.map nGSuspension out) w good (List.map nBool void) (List.map nE_I_i64_L_Gref29Noted notes) first i l[i] c) := by
      intro c q y hsus hc hsd
      obtain ⟨k, p, hk, hm⟩ := seed_judge hs hsd
      refine sat_of (fun y => t_ref29_watch_1025 _ _ _ _ _ _ _ _ _ _ _ _) ?_
      have hlen : (List.map nGref29Noted c ++ [[I l[i].Part, I l[i].Value]]).length = c.length + 1 := by simp
      have htk : List.take (c.length + 1) (List.map nGref29Noted c ++ [nGref29Noted ⟨l[i].Part, l[i].Value⟩]) = List.map nGref29Noted (c ++ [⟨l[i].Part, l[i].Value⟩]) := by
        rw [map_snoc nGref29Noted, List.take_of_length_le (by simp)]
      simp (disch := omega) only [hlen, List.length_map, chk_pos, chk_true, htk, st_M_i64_L_ref29_noted]
      have hnn : ∀ q ∈ mput l[i].Script (c ++ [⟨l[i].Part, l[i].Value⟩]) notes, q.2.length ≤ i + 1 := by
        intro q hq
        rcases mput_mem hq with rfl | hq
        · simp; omega
        · have := inv.nlen q hq; omega
      refine sat_of (fun y => t_ref29_watch_1026 _ _ _ _ _ _ _ _ _ _ _) ?_
      simp only [lk_M_i64_L_ref29_noted]
      have hlk : ((mfind l[i].Script (mput l[i].Script (c ++ [⟨l[i].Part, l[i].Value⟩]) notes)).getD []).length ≤ 100000 := by
        cases hf : mfind l[i].Script (mput l[i].Script (c ++ [⟨l[i].Part, l[i].Value⟩]) notes) with
        | none => simp
        | some v => have := hnn _ (mfind_mem hf); simp only [Option.getD_some]; simp only at this; omega
      obtain ⟨v, ev⟩ := c_judge s hs k p q y l[i].Script _ hk hsd hm hlk
      simp only [ev, callD_ref29_judge]
      cases v.1 with
      | false =>
        simp only [Bool.not_false, brn_true]
        refine sat_of (fun y => t_ref29_watch_1008v8 _ _ _ _ _ _ _ _ _ _ _ _) ?_
        exact go _ _ _ _ _ _ ⟨by omega, inv.ow, inv.os, hvl, hnn⟩
      | true =>
        simp only [Bool.not_true, brn_false]
        refine sat_of (fun y => t_ref29_watch_1028 _ _ _ _ _ _ _ _ _ _ _ _) ?_
        simp only [c_ref27_Step s.Monitor w v.2 hs.monitor inv.ow hsus, callD_ref27_Step]
        exact m1029 _ _ _ (stepW_ok _ _ _ inv.ow) hnn
    have m1019 : ∀ (q : Nat) (y : GSeed), w.Suspended = false → seedOf s.Seeds l[i].Script = some (q, y) →
        Sat (QW l) (k_ref29_watch_1019 s l mk (List.map nGSuspension out) w good (List.map nBool void) (List.map nE_I_i64_L_Gref29Noted notes) first i l[i]) := by
      intro q y hsus hsd
      refine sat_of (fun y => t_ref29_watch_1019 _ _ _ _ _ _ _ _ _ _ _) ?_
      simp only [lk_M_i64_L_ref29_noted]
      have hc : ((mfind l[i].Script notes).getD []).length ≤ i := by
        cases hf : mfind l[i].Script notes with
        | none => simp
        | some v => have := inv.nlen _ (mfind_mem hf); simpa using this
      generalize (mfind l[i].Script notes).getD [] = c at hc
      refine range_int c (fun j _ => ∀ b, Sat (QW l) (k_ref29_watch_2 s l mk (List.map nGSuspension out) w good (List.map nBool void) (List.map nE_I_i64_L_Gref29Noted notes) first i l[i] c b j)) ?_ ?_ false
      · intro b
        refine sat_of (fun y => t_ref29_watch_2 _ _ _ _ _ _ _ _ _ _ _ _ _ _) ?_
        simp (disch := omega) only [List.length_map, brn_neg]
        cases b with
        | true =>
          simp only [brn_true]
          refine sat_of (fun y => t_ref29_watch_1008v6 _ _ _ _ _ _ _ _ _ _ _ _) ?_
          exact go _ _ _ _ _ _ inv.up
        | false =>
          simp only [brn_false]
          exact m1025 c q y hsus hc hsd
      · intro j hj r _ ih2 b
        refine sat_of (fun y => t_ref29_watch_2 _ _ _ _ _ _ _ _ _ _ _ _ _ _) ?_
        simp (disch := omega) only [List.length_map, brn_pos, chk_pos, Int.toNat_natCast, elemD_Gref29Noted, List.getElem?_eq_getElem hj, Option.bind_some, w64_id]
        cases b with
        | true => simp only [brn_true]; exact ih2 _
        | false => simp only [brn_false]; exact ih2 _
    have m1014 : Sat (QW l) (k_ref29_watch_1014 s l mk (List.map nGSuspension out) w good (List.map nBool void) (List.map nE_I_i64_L_Gref29Noted notes) first i l[i]) := by
      have stay : Sat (QW l) (k_ref29_watch_1008v1 s l mk (List.map nGSuspension out) w good (List.map nBool void) (List.map nE_I_i64_L_Gref29Noted notes) first i l[i]) :=
        sat_of (fun y => t_ref29_watch_1008v1 _ _ _ _ _ _ _ _ _ _ _) (go _ _ _ _ _ _ inv.up)
      have stay2 : Sat (QW l) (k_ref29_watch_1008v4 s l mk (List.map nGSuspension out) w good (List.map nBool void) (List.map nE_I_i64_L_Gref29Noted notes) first i l[i]) :=
        sat_of (fun y => t_ref29_watch_1008v4 _ _ _ _ _ _ _ _ _ _ _) (go _ _ _ _ _ _ inv.up)
      refine sat_of (fun y => t_ref29_watch_1014 _ _ _ _ _ _ _ _ _ _ _) ?_
      cases l[i].Kind != 0 with
      | true => simp only [brn_true]; exact stay
      | false =>
        simp only [brn_false]
        cases l[i].Stamp.Source != mk with
        | true => simp only [brn_true]; exact stay
        | false =>
          simp only [brn_false]
          refine sat_of (fun y => t_ref29_watch_1015 _ _ _ _ _ _ _ _ _ _ _) ?_
          cases hsus : w.Suspended with
          | true =>
            simp (disch := omega) only [brn_true, List.length_map, List.length_replicate, Int.toNat_natCast, Nat.zero_add, chk_pos, elemD_Bool, List.getElem?_eq_getElem hltv, Option.bind_some, map_set' nBool]
            exact m1008 _ _ _ _ _ _ ⟨by omega, inv.ow, inv.os, by simpa using hvl, inv.up.nlen⟩
          | false =>
            simp only [brn_false]
            refine sat_of (fun y => t_ref29_watch_1017 _ _ _ _ _ _ _ _ _ _ _) ?_
            simp (disch := omega) only [c_ref26_Definitive s.Seeds l[i].Script (by omega) (seed_short hs), callD_ref26_Definitive]
            cases hq : seedOf s.Seeds l[i].Script with
            | none => simp only [seedR, Bool.not_false, brn_true]; exact stay2
            | some qy =>
              obtain ⟨q, y⟩ := qy
              simp only [seedR, Bool.not_true, brn_false, c_ref29_Fits s hs l[i] hs.short2 (hp _ (List.getElem_mem hlt)), callD_ref29_Fits]
              cases dec (FitsE s l[i]) with
              | false => simp only [Bool.not_false, brn_true]; exact stay2
              | true => simp only [Bool.not_true, brn_false]; exact m1019 q y hsus hq
    refine sat_of (fun y => t_ref29_watch_1 _ _ _ _ _ _ _ _ _ _) ?_
    simp (disch := omega) only [List.length_map, brn_pos, chk_pos, Int.toNat_natCast, elemD_GMarkEvent, List.getElem?_eq_getElem hlt, Option.bind_some]
    cases l[i].Kind == 1 with
    | false => simp only [brn_false]; exact m1014
    | true =>
      simp only [brn_true]
      cases l[i].Marker == mk with
      | false => simp only [brn_false]; exact m1014
      | true =>
        simp only [brn_true]
        cases hsus : w.Suspended with
        | false => simp only [brn_false]; exact m1014
        | true =>
          have hon := inv.os hsus
          have hoe : ((out.length : Int) - 1).toNat = out.length - 1 := by omega
          have hol2 : out.length - 1 < out.length := by omega
          simp (disch := omega) only [brn_true, w64_id, hoe, Nat.zero_add, chk_pos, elemD_GSuspension, List.getElem?_eq_getElem hol2, Option.bind_some, map_set' nGSuspension, List.getElem?_set_self hol2]
          refine sat_of (fun y => t_ref29_watch_1008 _ _ _ _ _ _ _ _ _ _ _ _) ?_
          rw [w64_id (by omega) (by omega)]
          exact watch2 s hs l hl hp mk n (i + 1) (by omega) _ _ _ _ _ _ [] _ (by omega) (by omega) (by simp) ⟨by simp; omega, blankWatch hs.monitor, by simp, hvl, by simp⟩

theorem c_watch (s : GSetup) (hs : OkSetup s) (l : List GMarkEvent) (hl : l.length ≤ 2000) (hp : ∀ e ∈ l, e.Pages.length ≤ 1000000) (mk : Int) :
    ∃ r, cw f_ref29_watch [.agg (nGSetup s), .sl 9 (List.map nGMarkEvent l), I mk] [] = some (q_ref29_watch r) ∧ r.2.length = l.length ∧ r.1.length ≤ l.length := by
  have H : Sat (QW l) (cw f_ref29_watch [.agg (nGSetup s), .sl 9 (List.map nGMarkEvent l), I mk] []) := by
    refine sat_of (fun y => e_ref29_watch _ _ _) ?_
    simp (disch := omega) only [List.length_map, chk_pos, chk_true, Int.toNat_natCast, map_rep nBool]
    exact watch1 s hs l hl hp mk l.length 0 (by omega) ⟨0, 0, 0⟩ true [] ⟨[], false⟩ (List.replicate l.length false) [] ⟨by simp, blankWatch hs.monitor, by simp, by simp, by simp⟩
  obtain ⟨y, e, r, rfl, h⟩ := H
  exact ⟨r, e, h⟩
end Go.Proofs.YtdhibifcofaioaaGreat

namespace Go.Proofs.YtdhibifcofaioaaGreat
open Go.Ab
set_option linter.unusedSimpArgs false

theorem c_all (s : GSetup) (hs : OkSetup s) (l : List GMarkEvent) (hl : l.length ≤ 2000) (hp : ∀ e ∈ l, e.Pages.length ≤ 1000000) :
    ∃ r, cw f_ref29_all [.agg (nGSetup s), .sl 9 (List.map nGMarkEvent l)] [] = some (q_ref29_all r) ∧ r.2.length = l.length ∧ r.1.length ≤ 40000 := by
  let Q : AV × Mem → Prop := fun y => ∃ r, y = q_ref29_all r ∧ r.2.length = l.length ∧ r.1.length ≤ 40000
  suffices H : Sat Q (cw f_ref29_all [.agg (nGSetup s), .sl 9 (List.map nGMarkEvent l)] []) by
    obtain ⟨y, e, r, rfl, h⟩ := H
    exact ⟨r, e, h⟩
  have hm16 := hs.markers.1
  refine sat_of (fun y => e_ref29_all _ _) ?_
  simp (disch := omega) only [List.length_map, chk_pos, chk_true, Int.toNat_natCast, map_rep nBool]
  refine range_int s.Markers (fun i _ => ∀ (out : List GSuspension) (void : List Bool), (out.length : Int) ≤ 2000 * i → void.length = l.length → Sat Q (k_ref29_all_1 s l (List.map nGSuspension out) (List.map nBool void) i)) ?_ ?_ [] _ (by simp) (by simp)
  · intro out void ho hv
    refine sat_of (fun y => t_ref29_all_1 _ _ _ _ _) ?_
    simp (disch := omega) only [List.length_map, List.length_replicate, Int.toNat_natCast, brn_neg, chk_pos]
    rw [List.take_of_length_le (by simp), List.take_of_length_le (by simp; omega)]
    exact sat_some ⟨(out, void), rfl, hv, by dsimp only; omega⟩
  · intro i hi _ _ ih out void ho hv
    obtain ⟨r, er, r1, r2⟩ := c_watch s hs l hl hp s.Markers[i].ID
    refine sat_of (fun y => t_ref29_all_1 _ _ _ _ _) ?_
    simp (disch := omega) only [List.length_map, brn_pos, chk_pos, chk_true, Int.toNat_natCast, elemD_GMarker, List.getElem?_eq_getElem hi, Option.bind_some, er, callD_ref29_watch, eq_self]
    refine range_int r.2 (fun j _ => ∀ void : List Bool, void.length = l.length → Sat Q (k_ref29_all_2 s l (List.map nGSuspension out) i r (List.map nBool void) j)) ?_ ?_ void hv
    · intro void hv
      refine sat_of (fun y => t_ref29_all_2 _ _ _ _ _ _ _) ?_
      simp (disch := omega) only [List.length_map, brn_neg, w64_id, ← List.map_append]
      exact ih (out ++ r.1) void (by simp; omega) hv
    · intro j hj _ _ ih2 void hv
      have hj1 : j < void.length := by omega
      refine sat_of (fun y => t_ref29_all_2 _ _ _ _ _ _ _) ?_
      simp (disch := omega) only [List.length_map, List.length_replicate, Int.toNat_natCast, Nat.zero_add, brn_pos, chk_pos, elemD_Bool, List.getElem?_eq_getElem hj1, List.getElem?_eq_getElem hj, Option.bind_some, map_set' nBool, w64_id]
      cases void[j] with
      | true => simp only [brn_true]; exact ih2 _ (by simpa using hv)
      | false => simp only [brn_false]; exact ih2 _ (by simpa using hv)

theorem c_stopped (s : GSetup) (hs : OkSetup s) (l : List GMarkEvent) (hl : l.length ≤ 100000) (i : Nat) (hi : i < l.length) :
    ∃ b, cw f_ref29_stopped [.agg (nGSetup s), .sl 9 (List.map nGMarkEvent l), I i] [] = some (q_ref29_stopped b) := by
  let Q : AV × Mem → Prop := fun y => ∃ r, y = q_ref29_stopped r
  suffices H : Sat Q (cw f_ref29_stopped [.agg (nGSetup s), .sl 9 (List.map nGMarkEvent l), I i] []) by
    obtain ⟨y, e, r, rfl⟩ := H
    exact ⟨r, e⟩
  have hm16 := hs.markers.1
  refine sat_of (fun y => e_ref29_stopped _ _ _) ?_
  simp (disch := omega) only [chk_pos, Int.toNat_natCast, elemD_GMarkEvent, List.getElem?_eq_getElem hi, Option.bind_some, c_ref24_Find s.Markers _ (show s.Markers.length ≤ 1000000 by omega), callD_ref24_Find, w64_id]
  generalize markerR (markerIx s.Markers l[i].Stamp.Source) = mk
  have loop : ∀ (m : Nat) (k : Nat), k + m = l.length → Sat Q (k_ref29_stopped_1 l i mk k) := by
    intro m
    induction m with
    | zero =>
      intro k hk
      refine sat_of (fun y => t_ref29_stopped_1 _ _ _ _) ?_
      simp (disch := omega) only [List.length_map, brn_neg]
      exact sat_some ⟨false, rfl⟩
    | succ m ih =>
      intro k hk
      have hkl : k < l.length := by omega
      refine sat_of (fun y => t_ref29_stopped_1 _ _ _ _) ?_
      simp (disch := omega) only [List.length_map, brn_pos, chk_pos, Int.toNat_natCast, elemD_GMarkEvent, List.getElem?_eq_getElem hi, List.getElem?_eq_getElem hkl, Option.bind_some, w64_id]
      simp only [brn_ite]
      repeat' split
      all_goals first
        | exact ih (k + 1) (by omega)
        | exact sat_some ⟨true, rfl⟩
  exact loop (l.length - (i + 1)) (i + 1) (by omega)

theorem c_ref29_less (a b : GGiven) : ∃ v, cw f_ref29_less [.agg (nGGiven a), .agg (nGGiven b)] [] = some (q_ref29_less v) := by
  by_cases h1 : a.Script = b.Script
  · by_cases h2 : a.Part = b.Part
    · exact ⟨_, e_ref29_less a b (by simp only [h1, h2, bne_self_eq_false, brn_false]; rfl)⟩
    · exact ⟨_, e_ref29_less a b (by simp only [h1, show (a.Part != b.Part) = true by simpa using h2, bne_self_eq_false, brn_false, brn_true]; rfl)⟩
  · exact ⟨_, e_ref29_less a b (by simp only [show (a.Script != b.Script) = true by simpa using h1, brn_true]; rfl)⟩

theorem c_put (l : List GGiven) (x : GGiven) (hl : l.length ≤ 100000) :
    ∃ r, cw f_ref29_put [.row 950 8 0 (List.length (List.map nGGiven l)), .agg (nGGiven x)] [(950, ⟨8, ty_api_Given, List.map nGGiven l, false⟩)] = some (q_ref29_put r) ∧ r.length ≤ l.length + 1 ∧ ∀ g ∈ r, g = x ∨ g ∈ l := by
  let Q : AV × Mem → Prop := fun y => ∃ r, y = q_ref29_put r ∧ r.length ≤ l.length + 1 ∧ ∀ g ∈ r, g = x ∨ g ∈ l
  suffices H : Sat Q (cw f_ref29_put [.row 950 8 0 (List.length (List.map nGGiven l)), .agg (nGGiven x)] [(950, ⟨8, ty_api_Given, List.map nGGiven l, false⟩)]) by
    obtain ⟨y, e, r, rfl, h⟩ := H
    exact ⟨r, e, h⟩
  have m1007 : ∀ k : Nat, k ≤ l.length → Sat Q (k_ref29_put_1007 l x k) := by
    intro k hk
    refine sat_of (fun y => t_ref29_put_1007 _ _ _) ?_
    have hraw : List.map nGGiven l ++ [[I x.Script, I x.Part, I x.Marker, I x.Level, I x.Value, I x.Stamp.Time, I x.Stamp.Source, I x.Stamp.Seq]] = List.map nGGiven (l ++ [x]) := by rw [← map_snoc nGGiven]; rfl
    have hraw2 : [I x.Script, I x.Part, I x.Marker, I x.Level, I x.Value, I x.Stamp.Time, I x.Stamp.Source, I x.Stamp.Seq] = nGGiven x := rfl
    have hk1 : ((k : Int) + 1).toNat = k + 1 := by omega
    have hA : (l ++ [x]).length = l.length + 1 := by simp
    simp (disch := omega) only [hraw, hraw2, map_snoc nGGiven, w64_id, hk1, Int.toNat_natCast, Nat.zero_add, List.length_map, hA, chk_pos, chk_true, ← List.map_take, ← List.map_drop, ← List.map_append, map_set' nGGiven, List.length_set]
    generalize hX : (List.take (k + 1) (l ++ [x]) ++ List.take (l.length + 1 - (k + 1)) (List.take (l.length + 1 - k) (List.drop k (l ++ [x]))) ++ List.drop (k + 1 + Min.min (List.take (l.length + 1 - k) (List.drop k (l ++ [x]))).length (l.length + 1 - (k + 1))) (l ++ [x])) = X
    have hXl : X.length = l.length + 1 := by
      rw [← hX]
      simp only [List.length_append, List.length_take, List.length_drop, List.length_cons, List.length_nil]
      omega
    have hXm : ∀ g ∈ X, g = x ∨ g ∈ l := by
      intro g hg
      have : g ∈ l ++ [x] := by
        rw [← hX] at hg
        rcases List.mem_append.1 hg with hg | hg
        · rcases List.mem_append.1 hg with hg | hg
          · exact List.mem_of_mem_take hg
          · exact List.mem_of_mem_drop (List.mem_of_mem_take (List.mem_of_mem_take hg))
        · exact List.mem_of_mem_drop hg
      rcases List.mem_append.1 this with h | h
      · exact Or.inr h
      · exact Or.inl (by simpa using h)
    have hkX : k < X.length := by omega
    simp (disch := omega) only [elemD_GGiven, List.getElem?_eq_getElem hkX, Option.bind_some, hXl, chk_true, chk_pos]
    refine sat_some ⟨X.set k x, rfl, by simp; omega, ?_⟩
    intro g hg
    rcases List.mem_or_eq_of_mem_set hg with h | h
    · exact hXm g h
    · exact Or.inl h
  have m1004 : ∀ k : Nat, k ≤ l.length → Sat Q (k_ref29_put_1004 l x k) := by
    intro k hk
    refine sat_of (fun y => t_ref29_put_1004 _ _ _) ?_
    by_cases h0 : 0 < k
    · have hkl : k - 1 < l.length := by omega
      have hk1 : ((k : Int) - 1).toNat = k - 1 := by omega
      obtain ⟨v, ev⟩ := c_ref29_less l[k - 1] x
      simp (disch := omega) only [brn_pos, w64_id, hk1, Nat.zero_add, List.length_map, chk_pos, elemD_GGiven, List.getElem?_eq_getElem hkl, Option.bind_some, ev, callD_ref29_less]
      cases v with
      | true => simp only [Bool.not_true, brn_false]; exact m1007 k hk
      | false =>
        simp (disch := omega) only [Bool.not_false, brn_true, List.length_set, List.length_map, chk_pos, chk_true, map_set' nGGiven]
        refine sat_some ⟨l.set (k - 1) x, rfl, by simp, ?_⟩
        intro g hg
        rcases List.mem_or_eq_of_mem_set hg with h | h
        · exact Or.inr h
        · exact Or.inl h
    · simp (disch := omega) only [brn_neg]
      exact m1007 k hk
  have m1 : ∀ k : Nat, k ≤ l.length → Sat Q (k_ref29_put_1 l x k) := by
    intro k
    induction k with
    | zero =>
      intro hk
      refine sat_of (fun y => t_ref29_put_1 _ _ _) ?_
      simp (disch := omega) only [brn_neg]
      exact m1004 0 hk
    | succ k ih =>
      intro hk
      have hkl : k < l.length := by omega
      have hk1 : ((k + 1 : Nat) : Int) - 1 = k := by omega
      refine sat_of (fun y => t_ref29_put_1 _ _ _) ?_
      obtain ⟨v, ev⟩ := c_ref29_less x l[k]
      simp (disch := omega) only [brn_pos, w64_id, hk1, Int.toNat_natCast, Nat.zero_add, List.length_map, chk_pos, elemD_GGiven, List.getElem?_eq_getElem hkl, Option.bind_some, ev, callD_ref29_less]
      cases v with
      | true => simp only [brn_true]; exact ih (by omega)
      | false => simp only [brn_false]; exact m1004 (k + 1) hk
  refine sat_of (fun y => e_ref29_put _ _) ?_
  simp only [List.length_map]
  exact m1 l.length (by omega)

def GivenOk (s : GSetup) (g : GGiven) : Prop := ∃ e, FitsE s e ∧ g.Script = e.Script ∧ g.Part = e.Part ∧ g.Value = e.Value

theorem c_ref29_Fold (s : GSetup) (hs : OkSetup s) (l : List GMarkEvent) (hl : l.length ≤ 2000) (hp : ∀ e ∈ l, e.Pages.length ≤ 1000000) :
    ∃ m, cw f_ref29_Fold [.agg (nGSetup s), .sl 9 (List.map nGMarkEvent l)] [] = some (q_ref29_Fold (m, 0)) ∧ m.Given.length ≤ l.length ∧ (∀ g ∈ m.Given, GivenOk s g) ∧ m.Suspensions.length ≤ 40000 := by
  let Q : AV × Mem → Prop := fun y => ∃ m, y = q_ref29_Fold (m, 0) ∧ m.Given.length ≤ l.length ∧ (∀ g ∈ m.Given, GivenOk s g) ∧ m.Suspensions.length ≤ 40000
  suffices H : Sat Q (cw f_ref29_Fold [.agg (nGSetup s), .sl 9 (List.map nGMarkEvent l)] []) by
    obtain ⟨y, e, r, rfl, h⟩ := H
    exact ⟨r, e, h⟩
  have hsd := hs.seeds
  have hm16 := hs.markers.1
  obtain ⟨c, ec, pc, _⟩ := c_Canonical l hl hp
  have hcl : c.length ≤ l.length := by rw [pc.length_eq]; exact ckeep_len
  have hcp : ∀ e ∈ c, e.Pages.length ≤ 1000000 := fun e he => hp e (ckeep_mem (pc.mem_iff.1 he))
  obtain ⟨r2, e2, v1, v2⟩ := c_all s hs c (by omega) hcp
  refine sat_of (fun y => e_ref29_Fold _ _) ?_
  simp only [c_ref29_Check hs, callD_ref29_Check, bne_self_eq_false, brn_false, ec, callD_ref28_Canonical, e2, callD_ref29_all]
  refine range_int c (fun i _ => ∀ out : List GGiven, (out.length : Int) ≤ i → (∀ g ∈ out, GivenOk s g) → Sat Q (k_ref29_Fold_1 s (c, 0) r2 (List.map nGGiven out) i)) ?_ ?_ [] (by simp) (by simp)
  · intro out ho hg
    refine sat_of (fun y => t_ref29_Fold_1 _ _ _ _ _) ?_
    simp (disch := omega) only [List.length_map, brn_neg, chk_pos]
    rw [List.take_of_length_le (by simp)]
    exact sat_some ⟨⟨out, r2.1⟩, rfl, by dsimp only; omega, hg, v2⟩
  · intro i hi _ _ ih out ho hg
    have stay : Sat Q (k_ref29_Fold_1 s (c, 0) r2 (List.map nGGiven out) ((i : Int) + 1)) := ih out (by omega) hg
    have hiv : i < r2.2.length := by omega
    refine sat_of (fun y => t_ref29_Fold_1 _ _ _ _ _) ?_
    obtain ⟨b, eb⟩ := c_stopped s hs c (by omega) i hi
    simp (disch := omega) only [List.length_map, brn_pos, chk_pos, Int.toNat_natCast, elemD_GMarkEvent, List.getElem?_eq_getElem hi, Option.bind_some, c_ref26_Definitive s.Seeds _ (show s.Seeds.length ≤ 1000000 by omega) (seed_short hs), callD_ref26_Definitive, elemD_Bool, List.getElem?_eq_getElem hiv,
      c_ref29_Fits s hs c[i] hs.short2 (hcp _ (List.getElem_mem hi)), callD_ref29_Fits, eb, callD_ref29_stopped, c_ref24_Find s.Markers _ (show s.Markers.length ≤ 1000000 by omega), callD_ref24_Find, w64_id]
    cases (seedR (seedOf s.Seeds c[i].Script)).2 with
    | true => simp only [brn_true]; exact stay
    | false =>
      simp only [brn_false]
      cases r2.2[i] with
      | true => simp only [brn_true]; exact stay
      | false =>
        simp only [brn_false]
        by_cases hf : FitsE s c[i]
        · simp only [dec_true hf, Bool.not_true, brn_false]
          cases b with
          | true => simp only [brn_true]; exact stay
          | false =>
            simp only [brn_false, eq_self, chk_true]
            obtain ⟨r, er, h1, h2⟩ := c_put out ⟨c[i].Script, c[i].Part, (markerR (markerIx s.Markers c[i].Stamp.Source)).1.ID, (markerR (markerIx s.Markers c[i].Stamp.Source)).1.Level, c[i].Value, ⟨c[i].Stamp.Time, c[i].Stamp.Source, c[i].Stamp.Seq⟩⟩ (by omega)
            simp only [List.length_map] at er
            simp only [er, callD_ref29_put]
            refine ih r (by omega) ?_
            intro g hgm
            rcases h2 g hgm with rfl | h
            · exact ⟨c[i], hf, rfl, rfl, rfl⟩
            · exact hg g h
        · simp only [dec_false hf, Bool.not_false, brn_true]
          exact stay
end Go.Proofs.YtdhibifcofaioaaGreat
