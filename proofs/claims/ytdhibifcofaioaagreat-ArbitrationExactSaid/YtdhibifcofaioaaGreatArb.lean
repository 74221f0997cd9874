/- Arbitration: what the functions compute. -/
import Derived.Test.YtdhibifcofaioaaGreatR29
namespace Go.Proofs.YtdhibifcofaioaaGreat
open Go.Ab
set_option linter.unusedSimpArgs false

def worth (g : GGiven) : Int := if g.Value < 0 then 0 else g.Value

theorem worth_nonneg (g : GGiven) : 0 ≤ worth g := by unfold worth; split <;> omega

theorem c_worth (g : GGiven) : cw f_arbitration_worth [.agg (nGGiven g)] [] = some (q_arbitration_worth (worth g)) := e_arbitration_worth g rfl

def cmpI (a b : Int) : Int := if a < b then -1 else if b < a then 1 else 0

theorem c_isNaN (a : Int) : cw f_cmp_isNaN_int [I a] [] = some (q_cmp_isNaN_int false) := by
  refine e_cmp_isNaN_int a ?_
  simp
  rfl

theorem c_cmp (a b : Int) : cw f_cmp_Compare_int [I a, I b] [] = some (q_cmp_Compare_int (cmpI a b)) := by
  refine e_cmp_Compare_int a b ?_
  rw [c_isNaN a, callD_cmp_isNaN_int, c_isNaN b, callD_cmp_isNaN_int, brn_false, brn_false, brn_dec, brn_dec]
  unfold cmpI
  split
  · rfl
  · split <;> rfl

def firstNZ : List Int → Int
  | [] => 0
  | x :: r => if x = 0 then firstNZ r else x

theorem c_Or (l : List Int) (hl : l.length ≤ 1000000) : cw f_cmp_Or_int [.sl 1 (List.map nI_i64 l)] [] = some (q_cmp_Or_int (firstNZ l)) := by
  refine e_cmp_Or_int l ?_
  refine range_ind l (fun i r => k_cmp_Or_int_1 l (i : Nat) = some (q_cmp_Or_int (firstNZ r))) ?_ ?_
  · refine t_cmp_Or_int_1 l _ ?_
    rw [List.length_map, brn_dec, if_neg (by omega)]
    rfl
  · intro i x r hi hx hr ih
    refine t_cmp_Or_int_1 l _ ?_
    rw [List.length_map, brn_dec, if_pos (by omega), chk_pos (by omega), Int.toNat_natCast, elemD_I_i64, List.getElem?_eq_getElem hi, Option.bind_some, hx, w64_id (by omega) (by omega)]
    by_cases h0 : x = 0
    · subst h0
      simpa [firstNZ] using ih
    · simp only [h0, firstNZ, if_false, show (x != 0) = true from by simpa using h0, brn_true]
      rfl

def cmpS (a b : GStamp) : Int := firstNZ [cmpI a.Time b.Time, cmpI a.Source b.Source, cmpI a.Seq b.Seq]

theorem c_cmpS (a b : GStamp) : cw f_stamp_Compare [.agg (nGStamp a), .agg (nGStamp b)] [] = some (q_stamp_Compare (cmpS a b)) := by
  refine e_stamp_Compare a b ?_
  rw [c_cmp _ _, callD_cmp_Compare_int, c_cmp _ _, callD_cmp_Compare_int, c_cmp _ _, callD_cmp_Compare_int, c_Or _ (by simp), callD_cmp_Or_int]
  rfl

def stepD (b : GGiven × Bool) (g : GGiven) : GGiven × Bool :=
  if g.Level < 2 then b
  else if b.2 = false ∨ b.1.Level < g.Level ∨ (g.Level = b.1.Level ∧ 0 ≤ cmpS g.Stamp b.1.Stamp) then (g, true) else b

def decisive (l : List GGiven) : GGiven × Bool := l.foldl stepD (⟨0, 0, 0, 0, 0, ⟨0, 0, 0⟩⟩, false)

theorem c_decisive (l : List GGiven) (hl : l.length ≤ 1000000) : cw f_arbitration_decisive [.sl 8 (List.map nGGiven l)] [] = some (q_arbitration_decisive (decisive l)) := by
  refine e_arbitration_decisive l ?_
  refine range_ind l (fun i r => ∀ (b : GGiven) (f : Bool), k_arbitration_decisive_1 l b f (i : Nat) = some (q_arbitration_decisive (r.foldl stepD (b, f)))) ?_ ?_ _ _
  · intro b f
    refine t_arbitration_decisive_1 l b f _ ?_
    rw [List.length_map, brn_dec, if_neg (by omega)]
    rfl
  · intro i x r hi hx hr ih b f
    refine t_arbitration_decisive_1 l b f _ ?_
    rw [List.length_map, brn_dec, if_pos (by omega), chk_pos (by omega), Int.toNat_natCast, elemD_GGiven, List.getElem?_eq_getElem hi, Option.bind_some, hx, w64_id (by omega) (by omega)]
    have e1 : ((i : Int) + 1) = ((i + 1 : Nat) : Int) := by omega
    rw [e1, ih, ih, c_cmpS _ _, callD_stamp_Compare, brn_dec, brn_dec, brn_dec, List.foldl_cons]
    unfold stepD
    by_cases h1 : x.Level < 2
    · rw [if_pos h1, if_pos h1]
    · rw [if_neg h1, if_neg h1]
      cases f with
      | false => simp
      | true =>
        simp only [Bool.not_true, brn_false, Bool.true_eq_false, false_or]
        by_cases h2 : b.Level < x.Level
        · rw [if_pos h2, if_pos (.inl h2)]
        · rw [if_neg h2]
          by_cases h3 : x.Level = b.Level
          · simp only [h3, beq_self_eq_true, brn_true]
            by_cases h4 : 0 ≤ cmpS x.Stamp b.Stamp
            · rw [if_pos h4, if_pos (.inr ⟨trivial, h4⟩)]
            · rw [if_neg h4, if_neg (by rintro (h | h) <;> first | omega | exact h4 h.2)]
          · rw [show (x.Level == b.Level) = false by simpa using h3, brn_false, if_neg (by rintro (h | h) <;> first | omega | exact h3 h.1)]

def sumW (l : List GGiven) : Int := l.foldl (fun s g => s + worth g) 0

def mean (l : List GGiven) : Int := if (l.length : Int) ≤ 2 * (sumW l).tmod l.length then (sumW l).tdiv l.length + 1 else (sumW l).tdiv l.length

theorem c_Div64 (a b : Int) (ha : 0 ≤ a) (ha2 : a < 18446744073709551616) (hb : 0 < b) : cw f_bits_Div64 [.v (.int .u64 0), .v (.int .u64 a), .v (.int .u64 b)] [] = some (q_bits_Div64 (a.tdiv b, a.tmod b)) := by
  refine e_bits_Div64 a b ?_
  have h1 : (b == 0) = false := by simpa using (show b ≠ 0 by omega)
  have h2 : 0 ≤ a.tdiv b := Int.tdiv_nonneg ha (by omega)
  have h3 : a.tdiv b ≤ a := Int.tdiv_le_self b ha
  rw [h1, brn_false, brn_dec, if_neg (by omega), chk_pos (by omega), chk_pos (by omega), wu64_id h2 (by omega)]
  rfl

theorem sumW_acc (l : List GGiven) (s : Int) : l.foldl (fun s g => s + worth g) s = s + sumW l := by
  unfold sumW
  induction l generalizing s with
  | nil => simp
  | cons g r ih => simp only [List.foldl_cons]; rw [ih, ih (0 + worth g)]; omega

theorem sumW_cons (g : GGiven) (l : List GGiven) : sumW (g :: l) = worth g + sumW l := by
  have := sumW_acc l (0 + worth g)
  unfold sumW at this ⊢
  simp only [List.foldl_cons]
  rw [this]
  omega

theorem sumW_nonneg (l : List GGiven) : 0 ≤ sumW l := by
  induction l with
  | nil => simp [sumW]
  | cons g r ih => rw [sumW_cons]; have := worth_nonneg g; omega

theorem sumW_le (l : List GGiven) (M : Int) (h : ∀ g ∈ l, worth g ≤ M) : sumW l ≤ l.length * M := by
  induction l with
  | nil => simp [sumW]
  | cons g r ih =>
    have h1 := ih (fun g hg => h g (by simp [hg]))
    have h2 := h g (by simp)
    rw [sumW_cons, List.length_cons]
    have : ((r.length + 1 : Nat) : Int) * M = r.length * M + M := by
      rw [Int.natCast_add, Int.add_mul]; simp
    omega

theorem c_mean (l : List GGiven) (hl : l.length ≤ 1000000) (h0 : l ≠ []) (hv : ∀ g ∈ l, g.Value ≤ 1099511627776) : cw f_arbitration_mean [.sl 8 (List.map nGGiven l)] [] = some (q_arbitration_mean (mean l)) := by
  have hw : ∀ g ∈ l, worth g ≤ 1099511627776 := fun g hg => by have := hv g hg; unfold worth; split <;> omega
  have hpos : 0 < l.length := List.length_pos_iff.2 h0
  have hs : sumW l ≤ 1099511627776000000 := by
    have h1 := sumW_le l _ hw
    have h2 : (l.length : Int) * 1099511627776 ≤ 1000000 * 1099511627776 := Int.mul_le_mul_of_nonneg_right (by omega) (by omega)
    omega
  have hs0 := sumW_nonneg l
  refine e_arbitration_mean l ?_
  refine range_ind l (fun i r => ∀ (s : Int), 0 ≤ s → s + sumW r = sumW l → k_arbitration_mean_1 l 0 s (i : Nat) = some (q_arbitration_mean (mean l))) ?_ ?_ 0 (by omega) (by omega)
  · intro s hs' he
    have hse : s = sumW l := by simpa [sumW] using he
    refine t_arbitration_mean_1 l _ _ _ ?_
    rw [List.length_map, brn_dec, if_neg (by omega), wu64_id (by omega) (by omega), c_Div64 s l.length hs' (by omega) (by omega), callD_bits_Div64, brn_dec]
    have h1 : 0 ≤ s.tmod l.length := Int.tmod_nonneg _ hs'
    have h2 : s.tmod l.length < l.length := Int.tmod_lt_of_pos _ (by omega)
    have h3 : 0 ≤ s.tdiv l.length := Int.tdiv_nonneg hs' (by omega)
    have h4 : s.tdiv l.length ≤ s := Int.tdiv_le_self _ hs'
    rw [wu64_id (by show 0 ≤ 2 * s.tmod l.length; omega) (by show 2 * s.tmod l.length < _; omega)]
    show (if (l.length : Int) ≤ 2 * s.tmod l.length then some (I (w64 (wu64 (s.tdiv l.length + 1))), []) else some (I (w64 (s.tdiv l.length)), [])) = _
    rw [wu64_id (by omega) (by omega), w64_id (by omega) (by omega), w64_id (by omega) (by omega), hse]
    unfold mean
    split <;> rfl
  · intro i x r hi hx hr ih s hs' he
    refine t_arbitration_mean_1 l _ _ _ ?_
    rw [List.length_map, brn_dec, if_pos (by omega), chk_pos (by omega), Int.toNat_natCast, elemD_GGiven, List.getElem?_eq_getElem hi, Option.bind_some, hx, c_worth x, callD_arbitration_worth, w64_id (by omega) (by omega)]
    have hx0 := worth_nonneg x
    rw [sumW_cons] at he
    have hr0 := sumW_nonneg r
    rw [wu64_id hx0 (by omega)]
    have e2 : (s.toNat + (worth x).toNat + Int.toNat 0) / 2 ^ 64 = 0 := Nat.div_eq_of_lt (by simp; omega)
    have e3 : (s.toNat + (worth x).toNat + Int.toNat 0) % 2 ^ 64 = s.toNat + (worth x).toNat := by rw [Nat.mod_eq_of_lt (by simp; omega)]; simp
    rw [e2, e3]
    have e4 : Int.ofNat (s.toNat + (worth x).toNat) = s + worth x := by simp; omega
    rw [e4, show wu64 (0 + Int.ofNat 0) = 0 from rfl]
    have e1 : ((i : Int) + 1) = ((i + 1 : Nat) : Int) := by omega
    rw [e1]
    exact ih (s + worth x) (by omega) (by omega)

def minW (l : List GGiven) (m : Int) : Int := l.foldl (fun m g => if worth g < m then worth g else m) m
def maxW (l : List GGiven) (m : Int) : Int := l.foldl (fun m g => if m < worth g then worth g else m) m

def decideV (r : GMarkRule) (l : List GGiven) : GVerdict :=
  if (decisive l).2 = true then ⟨3, worth (decisive l).1⟩
  else match l with
    | [] => ⟨0, 0⟩
    | [g] => if r.Double = true then ⟨1, 0⟩ else ⟨3, worth g⟩
    | g :: _ => if r.Tolerance < maxW l (worth g) - minW l (worth g) then ⟨2, 0⟩ else ⟨3, mean l⟩

theorem minW_bd (l : List GGiven) : ∀ (m : Int), 0 ≤ m → 0 ≤ minW l m ∧ minW l m ≤ m := by
  induction l with
  | nil => intro m hm; exact ⟨hm, Int.le_refl _⟩
  | cons g r ih =>
    intro m hm
    have hw := worth_nonneg g
    simp only [minW, List.foldl_cons]
    split
    · have := ih (worth g) hw; unfold minW at this; omega
    · exact ih m hm

theorem maxW_bd (l : List GGiven) (M : Int) (h : ∀ g ∈ l, worth g ≤ M) : ∀ (m : Int), m ≤ M → m ≤ maxW l m ∧ maxW l m ≤ M := by
  induction l with
  | nil => intro m hm; exact ⟨Int.le_refl _, hm⟩
  | cons g r ih =>
    intro m hm
    have hw := h g (by simp)
    have ih' := ih (fun g hg => h g (by simp [hg]))
    simp only [maxW, List.foldl_cons]
    split
    · have := ih' (worth g) hw; unfold maxW at this; omega
    · exact ih' m hm

theorem c_Decide (r : GMarkRule) (l : List GGiven) (hl : l.length ≤ 1000000) (hv : ∀ g ∈ l, g.Value ≤ 1099511627776) :
    cw f_arbitration_Decide [.agg (nGMarkRule r), .sl 8 (List.map nGGiven l)] [] = some (q_arbitration_Decide (decideV r l)) := by
  have hw : ∀ g ∈ l, worth g ≤ 1099511627776 := fun g hg => by have := hv g hg; unfold worth; split <;> omega
  refine e_arbitration_Decide r l ?_
  rw [c_decisive l hl, callD_arbitration_decisive, c_worth _, callD_arbitration_worth]
  unfold decideV
  cases hb : (decisive l).2 with
  | true => rw [if_pos rfl]; rfl
  | false =>
    rw [if_neg (by simp), List.length_map, brn_false]
    match l, hl, hv, hw with
    | [], _, _, _ => rfl
    | [g], _, _, _ =>
      rw [show (((([g] : List GGiven).length : Nat) : Int) == 0) = false from rfl, brn_false, show (((([g] : List GGiven).length : Nat) : Int) == 1) = true from rfl, brn_true, chk_pos (Int.le_refl 0)]
      rw [elemD_GGiven, show ([g] : List GGiven)[Int.toNat 0]? = some g from rfl, Option.bind_some, c_worth _, callD_arbitration_worth]
      cases r.Double <;> rfl
    | g :: g' :: t, hl, hv, hw =>
      have h1 : ((((g :: g' :: t : List GGiven).length : Nat) : Int) == 0) = false := by simp; omega
      have h2 : ((((g :: g' :: t : List GGiven).length : Nat) : Int) == 1) = false := by simp; omega
      rw [h1, brn_false, h2, brn_false, chk_pos (Int.le_refl 0), elemD_GGiven, show (g :: g' :: t : List GGiven)[Int.toNat 0]? = some g from rfl, Option.bind_some, c_worth _, callD_arbitration_worth, chk_pos (Int.le_refl 0), elemD_GGiven, show (g :: g' :: t : List GGiven)[Int.toNat 0]? = some g from rfl, Option.bind_some, c_worth _, callD_arbitration_worth]
      show k_arbitration_Decide_1 r (g :: g' :: t) (worth g) (worth g) 0 = some (q_arbitration_Decide (if r.Tolerance < maxW (g :: g' :: t) (worth g) - minW (g :: g' :: t) (worth g) then ⟨2, 0⟩ else ⟨3, mean (g :: g' :: t)⟩))
      generalize hL : g :: g' :: t = L at *
      have hne : L ≠ [] := by rw [← hL]; simp
      have hg := hw g (by rw [← hL]; simp)
      have hg0 := worth_nonneg g
      refine range_ind L (fun i s => ∀ (a b : Int), minW s a = minW L (worth g) → maxW s b = maxW L (worth g) → k_arbitration_Decide_1 r L a b (i : Nat) = some (q_arbitration_Decide (if r.Tolerance < maxW L (worth g) - minW L (worth g) then ⟨2, 0⟩ else ⟨3, mean L⟩))) ?_ ?_ (worth g) (worth g) rfl rfl
      · intro a b ha hb
        have ha' : a = minW L (worth g) := ha
        have hb' : b = maxW L (worth g) := hb
        have q1 := minW_bd L (worth g) hg0
        have q2 := maxW_bd L _ hw (worth g) hg
        refine t_arbitration_Decide_1 r L a b _ ?_
        rw [List.length_map, brn_dec, if_neg (by omega), brn_dec, w64_id (by omega) (by omega), c_mean L hl hne hv, callD_arbitration_mean, ha', hb']
        split <;> rfl
      · intro i x s hi hx hr ih a b ha hb
        refine t_arbitration_Decide_1 r L a b _ ?_
        rw [List.length_map, brn_dec, if_pos (by omega), chk_pos (by omega), Int.toNat_natCast, elemD_GGiven, List.getElem?_eq_getElem hi, Option.bind_some, hx, c_worth x, callD_arbitration_worth, callD_arbitration_worth, w64_id (by omega) (by omega)]
        have e1 : ((i : Int) + 1) = ((i + 1 : Nat) : Int) := by omega
        rw [e1]
        exact ih _ _ ha hb
end Go.Proofs.YtdhibifcofaioaaGreat

namespace Go.Proofs.YtdhibifcofaioaaGreat
open Go.Ab
set_option linter.unusedSimpArgs false

def chkR (r : GMarkRule) : Int := if r.Tolerance < 0 then 2 else if 40 < r.Tolerance then 2 else 0

theorem c_arbitration_Check (r : GMarkRule) : cw f_arbitration_Check [.agg (nGMarkRule r)] [] = some (q_arbitration_Check (chkR r)) := by
  refine e_arbitration_Check r ?_
  unfold chkR
  simp only [brn_ite, decide_eq_true_eq]
  split
  · rfl
  · split <;> rfl

theorem c_right (r : GMarkRule) (s : GSetup) (hs : OkSetup s) : cw f_arbitration_right [.agg (nGMarkRule r), .agg (nGSetup s)] [] = some (q_arbitration_right (chkR r == 0)) := by
  refine e_arbitration_right r s ?_
  simp only [c_marking_Check hs, callD_marking_Check, beq_self_eq_true, brn_true, c_arbitration_Check, callD_arbitration_Check]
  rfl

theorem c_definitive (s : GSetup) (n : Int) (hl : s.Seeds.length ≤ 1000000) : cw f_arbitration_definitive [.agg (nGSetup s), I n] [] = some (q_arbitration_definitive (seedR (seedOf s.Seeds n))) := by
  refine e_arbitration_definitive s n ?_
  refine find_gen s.Seeds (fun y => y.Script == n) (fun i => k_arbitration_definitive_1 s n i) (fun o => q_arbitration_definitive (seedR o)) ?_ ?_ ?_
  · refine t_arbitration_definitive_1 _ _ _ ?_
    simp (disch := omega) only [List.length_map, brn_neg]
    rfl
  · intro i hi h
    refine t_arbitration_definitive_1 _ _ _ ?_
    simp (disch := omega) only [List.length_map, brn_pos, chk_pos, Int.toNat_natCast, elemD_GSeed, List.getElem?_eq_getElem hi, Option.bind_some, h, brn_true]
    rfl
  · intro i hi y h hk
    refine t_arbitration_definitive_1 _ _ _ ?_
    simp (disch := omega) only [List.length_map, brn_pos, chk_pos, Int.toNat_natCast, elemD_GSeed, List.getElem?_eq_getElem hi, Option.bind_some, h, brn_false, w64_id, hk]

def countG (m : GMarking) (n p : Int) : List GGiven := m.Given.filter fun g => g.Script == n && g.Part == p

theorem c_Counting (m : GMarking) (n p : Int) (hl : m.Given.length ≤ 1000000) : cw f_marking_Counting [.agg (nGMarking m), I n, I p] [] = some (q_marking_Counting (countG m n p)) := by
  refine e_marking_Counting m n p ?_
  refine range_int m.Given (fun i r => ∀ out : List GGiven, (out.length : Int) ≤ i → k_marking_Counting_1 m n p (List.map nGGiven out) i = some (q_marking_Counting (out ++ r.filter fun g => g.Script == n && g.Part == p))) ?_ ?_ [] (by simp)
  · intro out _
    refine t_marking_Counting_1 _ _ _ _ _ ?_
    simp (disch := omega) only [List.length_map, brn_neg, chk_true, List.filter_nil, List.append_nil]
    rfl
  · intro i hi r _ ih out ho
    refine t_marking_Counting_1 _ _ _ _ _ ?_
    simp (disch := omega) only [List.length_map, brn_pos, chk_pos, Int.toNat_natCast, elemD_GGiven, List.getElem?_eq_getElem hi, Option.bind_some, chk_true, map_snoc nGGiven, w64_id, List.filter_cons]
    cases m.Given[i].Script == n with
    | false =>
      simp only [brn_false, Bool.false_and, Bool.false_eq_true, if_false]
      exact ih out (by omega)
    | true =>
      simp only [brn_true, Bool.true_and]
      cases m.Given[i].Part == p with
      | false =>
        simp only [brn_false, Bool.false_eq_true, if_false]
        exact ih out (by omega)
      | true =>
        simp only [brn_true, if_true]
        have := ih (out ++ [m.Given[i]]) (by simp; omega)
        rw [List.append_assoc, List.singleton_append] at this
        exact this

noncomputable def verdAt (r : GMarkRule) (m : GMarking) (x : GScript) (p : GPaper) (c : GScheme) (o : Option (Nat × GSeed)) (i : Nat) : GVerdict :=
  match p.Parts[i]?, c.Withdrawn[i]? with
  | some y, some w =>
    if y.Kind = 2 ∨ w ≠ 0 then ⟨3, if 0 > closedAt p c x.Answers i then 0 else closedAt p c x.Answers i⟩
    else match o with
      | some (_, sd) => ⟨3, sd.Marks.getD i 0⟩
      | none => decideV r (countG m x.Number i)
  | _, _ => ⟨0, 0⟩

noncomputable def verdL (r : GMarkRule) (m : GMarking) (x : GScript) (p : GPaper) (c : GScheme) (o : Option (Nat × GSeed)) : List GVerdict := (List.range p.Parts.length).map (verdAt r m x p c o)

noncomputable def verdS (r : GMarkRule) (s : GSetup) (m : GMarking) (x : GScript) : List GVerdict :=
  match paperIx s.Papers x with
  | some (k, p) => verdL r m x p ((s.Schemes[k]?).getD ⟨[], []⟩) (seedOf s.Seeds x.Number)
  | none => []

def SmallM (m : GMarking) : Prop := m.Given.length ≤ 1000000 ∧ ∀ g ∈ m.Given, g.Value ≤ 1099511627776

theorem SmallM.count {m : GMarking} (h : SmallM m) (n p : Int) : (countG m n p).length ≤ 1000000 ∧ ∀ g ∈ countG m n p, g.Value ≤ 1099511627776 :=
  ⟨Nat.le_trans (List.length_filter_le _ _) h.1, fun g hg => h.2 g (List.mem_filter.1 hg).1⟩

theorem c_verdicts (r : GMarkRule) (s : GSetup) (hs : OkSetup s) (m : GMarking) (hm : SmallM m) (x : GScript) (hx : x ∈ s.Scripts) :
    cw f_arbitration_verdicts [.agg (nGMarkRule r), .agg (nGSetup s), .agg (nGMarking m), .agg (nGScript x)] [] = some (q_arbitration_verdicts (verdS r s m x)) := by
  have hx60 := hs.scripts.1
  have hp32 := hs.papers
  have hsd := hs.seeds
  obtain ⟨k, p, c, hk, hc, ha⟩ := hs.script x hx
  have hpk := (paperIx_at hk).1
  have hok := hs.schemes k p c hpk hc
  have hparts := hok.1.2.2.1
  have hwl := hok.2.2.1
  have hpo : paperOf s x.Number = some (k, p) := by unfold paperOf; rw [scriptOf_mem hs.scripts.2.2 hx]; exact hk
  obtain ⟨rc, erc, hrc, hrc2⟩ := c_scheme_Closed p c x.Answers (hs.short c (List.mem_of_getElem? hc))
  have hz := hrc.2 ⟨hok, ha⟩
  have hcl := hrc2 hz
  obtain ⟨rc1, rc2⟩ := rc
  simp only at hz hcl
  subst hz
  subst hcl
  unfold verdS
  rw [hk]
  dsimp only
  rw [hc]
  refine e_arbitration_verdicts r s m x ?_
  simp (disch := omega) only [c_PaperOf s x.Number (show s.Scripts.length ≤ 1000000 by omega) (show s.Papers.length ≤ 1000000 by omega), hpo, ixR, callD_marking_PaperOf, chk_pos, Int.toNat_natCast, elemD_GPaper, hpk, Option.bind_some, elemD_GScheme, hc, erc, callD_scheme_Closed,
    c_definitive s x.Number (show s.Seeds.length ≤ 1000000 by omega), callD_arbitration_definitive, List.length_map, chk_true, eq_self, map_rep nGVerdict, Option.getD_some]
  rw [← mkN_zero p.Parts.length (verdAt r m x p c (seedOf s.Seeds x.Number)) ⟨0, 0⟩]
  refine range_int p.Parts (fun i _ => k_arbitration_verdicts_1 r m x p c (closedL p c x.Answers, 0) (seedR (seedOf s.Seeds x.Number)) (List.map nGVerdict (mkN p.Parts.length (verdAt r m x p c (seedOf s.Seeds x.Number)) ⟨0, 0⟩ i.toNat)) i = some (q_arbitration_verdicts (verdL r m x p c (seedOf s.Seeds x.Number)))) ?_ ?_
  · refine t_arbitration_verdicts_1 _ _ _ _ _ _ _ _ _ ?_
    simp (disch := omega) only [List.length_map, List.length_replicate, Int.toNat_natCast, brn_neg, mkN_length, mkN_all, List.length_range, eq_self, chk_true]
    rfl
  · intro i hi _ _ ih
    have hiw : i < c.Withdrawn.length := by omega
    have hix : ((i : Int) + 1).toNat = i + 1 := by omega
    rw [hix] at ih
    have hcl : i < (closedL p c x.Answers).length := by simp [closedL]; omega
    have hcv : (closedL p c x.Answers)[i] = closedAt p c x.Answers i := by simp [closedL]
    have hset : ∀ v, v = verdAt r m x p c (seedOf s.Seeds x.Number) i → List.map nGVerdict ((mkN p.Parts.length (verdAt r m x p c (seedOf s.Seeds x.Number)) ⟨0, 0⟩ i).set i v) = List.map nGVerdict (mkN p.Parts.length (verdAt r m x p c (seedOf s.Seeds x.Number)) ⟨0, 0⟩ (i + 1)) := fun v hv => by rw [mkN_set hv]
    have m1011 : (p.Parts[i].Kind = 2 ∨ c.Withdrawn[i] ≠ 0) → k_arbitration_verdicts_1011 r m x p c (closedL p c x.Answers, 0) (seedR (seedOf s.Seeds x.Number)) (List.map nGVerdict (mkN p.Parts.length (verdAt r m x p c (seedOf s.Seeds x.Number)) ⟨0, 0⟩ i)) i = some (q_arbitration_verdicts (verdL r m x p c (seedOf s.Seeds x.Number))) := by
      intro hor
      refine t_arbitration_verdicts_1011 _ _ _ _ _ _ _ _ _ ?_
      simp (disch := omega) only [List.length_map, List.length_replicate, Int.toNat_natCast, Nat.zero_add, chk_pos, elemD_I_i64, List.getElem?_eq_getElem hcl, Option.bind_some, hcv, elemD_GVerdict, mkN_get hi, map_set' nGVerdict, w64_id]
      rw [hset _ (by unfold verdAt; rw [List.getElem?_eq_getElem hi, List.getElem?_eq_getElem hiw]; dsimp only; rw [if_pos hor])]
      exact ih
    refine t_arbitration_verdicts_1 _ _ _ _ _ _ _ _ _ ?_
    simp (disch := omega) only [List.length_map, List.length_replicate, Int.toNat_natCast, Nat.zero_add, brn_pos, chk_pos, elemD_GPart, List.getElem?_eq_getElem hi, Option.bind_some, elemD_I_i64, List.getElem?_eq_getElem hiw]
    by_cases h1 : p.Parts[i].Kind = 2
    · simp only [show (p.Parts[i].Kind == 2) = true by simpa using h1, brn_true]
      exact m1011 (Or.inl h1)
    · simp only [show (p.Parts[i].Kind == 2) = false by simpa using h1, brn_false]
      by_cases h2 : c.Withdrawn[i] = 0
      · simp only [show (c.Withdrawn[i] != 0) = false by simpa using h2, brn_false]
        have hva : verdAt r m x p c (seedOf s.Seeds x.Number) i = match seedOf s.Seeds x.Number with
            | some (_, sd) => ⟨3, sd.Marks.getD i 0⟩
            | none => decideV r (countG m x.Number i) := by
          unfold verdAt
          rw [List.getElem?_eq_getElem hi, List.getElem?_eq_getElem hiw]
          dsimp only
          rw [if_neg (by rintro (h | h) <;> contradiction)]
        cases ho : seedOf s.Seeds x.Number with
        | some q =>
          obtain ⟨q, sd⟩ := q
          obtain ⟨k', p', hpo', hmk⟩ := seed_judge hs ho
          rw [hpo] at hpo'
          cases hpo'
          have him : i < sd.Marks.length := by have := hmk.1; omega
          rw [ho] at hset hva ih
          simp (disch := omega) only [seedR, brn_true, elemD_I_i64, List.getElem?_eq_getElem him, Option.bind_some, elemD_GVerdict, mkN_get hi, chk_pos, map_set' nGVerdict, w64_id]
          rw [hset _ (by rw [hva]; simp [him])]
          simp only [seedR] at ih
          exact ih
        | none =>
          rw [ho] at hset hva ih
          have hct := hm.count x.Number i
          simp (disch := omega) only [seedR, brn_false, c_Counting m x.Number i hm.1, callD_marking_Counting, List.length_map, Nat.le_refl, chk_true]
          rw [List.take_of_length_le (by simp)]
          simp (disch := omega) only [c_Decide r _ hct.1 hct.2, callD_arbitration_Decide, elemD_GVerdict, mkN_get hi, Option.bind_some, chk_pos, map_set' nGVerdict, w64_id]
          rw [hset _ hva.symm]
          simp only [seedR] at ih
          exact ih
      · simp only [show (c.Withdrawn[i] != 0) = true by simpa using h2, brn_true]
        exact m1011 (Or.inr h2)

theorem verdS_len {r : GMarkRule} {s : GSetup} (hs : OkSetup s) {m : GMarking} {x : GScript} : (verdS r s m x).length ≤ 24 := by
  unfold verdS
  cases hk : paperIx s.Papers x with
  | none => simp
  | some q =>
    obtain ⟨k, p⟩ := q
    have := (hs.okPaper (paperIx_at hk).1).2.2.1.2
    simp [verdL]
    omega

theorem c_Verdicts (r : GMarkRule) (s : GSetup) (hs : OkSetup s) (m : GMarking) (hm : SmallM m) (n : Int) :
    cw f_arbitration_Verdicts [.agg (nGMarkRule r), .agg (nGSetup s), .agg (nGMarking m), I n] [] = some (q_arbitration_Verdicts (if chkR r = 0 then match scriptOf s.Scripts n with | some x => (verdS r s m x, 0) | none => ([], 4) else ([], 1))) := by
  have hx60 := hs.scripts.1
  refine e_arbitration_Verdicts r s m n ?_
  simp only [c_right r s hs, callD_arbitration_right]
  by_cases hr : chkR r = 0
  · rw [if_pos hr]
    simp only [show (chkR r == 0) = true by simpa using hr, Bool.not_true, brn_false]
    have key := find_gen s.Scripts (fun x => x.Number == n) (fun i => k_arbitration_Verdicts_1 r s m n i) (fun o => q_arbitration_Verdicts (match o.map (·.2) with | some x => (verdS r s m x, 0) | none => ([], 4))) ?_ ?_ ?_
    · exact key
    · refine t_arbitration_Verdicts_1 _ _ _ _ _ ?_
      simp (disch := omega) only [List.length_map, brn_neg]
      rfl
    · intro i hi h
      refine t_arbitration_Verdicts_1 _ _ _ _ _ ?_
      simp (disch := omega) only [List.length_map, brn_pos, chk_pos, Int.toNat_natCast, elemD_GScript, List.getElem?_eq_getElem hi, Option.bind_some, h, brn_true, c_verdicts r s hs m hm _ (List.getElem_mem hi), callD_arbitration_verdicts, Nat.zero_add, Nat.le_refl, chk_true]
      rw [List.take_of_length_le (by simp)]
      rfl
    · intro i hi y h hk
      refine t_arbitration_Verdicts_1 _ _ _ _ _ ?_
      simp (disch := omega) only [List.length_map, brn_pos, chk_pos, Int.toNat_natCast, elemD_GScript, List.getElem?_eq_getElem hi, Option.bind_some, h, brn_false, w64_id, hk]
  · rw [if_neg hr]
    simp only [show (chkR r == 0) = false by simpa using hr, Bool.not_false, brn_true]
    rfl

def openOf (n : Int) : List GVerdict → Nat → List (Int × Int)
  | [], _ => []
  | v :: r, i => if v.State = 3 then openOf n r (i + 1) else (n, (i : Int)) :: openOf n r (i + 1)

theorem openOf_len {n : Int} : ∀ {l : List GVerdict} {i : Nat}, (openOf n l i).length ≤ l.length
  | [], _ => by simp [openOf]
  | v :: r, i => by
    unfold openOf
    have := openOf_len (n := n) (l := r) (i := i + 1)
    split <;> simp <;> omega

noncomputable def openL (r : GMarkRule) (s : GSetup) (m : GMarking) (l : List GScript) : List (Int × Int) := l.flatMap fun x => openOf x.Number (verdS r s m x) 0

theorem c_Open (r : GMarkRule) (s : GSetup) (hs : OkSetup s) (m : GMarking) (hm : SmallM m) :
    cw f_arbitration_Open [.agg (nGMarkRule r), .agg (nGSetup s), .agg (nGMarking m)] [] = some (q_arbitration_Open (if chkR r = 0 then (openL r s m s.Scripts, 0) else ([], 1))) := by
  have hx60 := hs.scripts.1
  refine e_arbitration_Open r s m ?_
  simp only [c_right r s hs, callD_arbitration_right]
  by_cases hr : chkR r = 0
  · rw [if_pos hr]
    simp only [show (chkR r == 0) = true by simpa using hr, Bool.not_true, brn_false]
    refine range_int s.Scripts (fun i rest => ∀ out : List (Int × Int), (out.length : Int) ≤ 24 * i → k_arbitration_Open_1 r s m (List.map nA2_I_i64 out) i = some (q_arbitration_Open (out ++ openL r s m rest, 0))) ?_ ?_ [] (by simp)
    · intro out _
      refine t_arbitration_Open_1 _ _ _ _ _ ?_
      simp (disch := omega) only [List.length_map, brn_neg, Nat.zero_add, Nat.le_refl, chk_true]
      rw [List.take_of_length_le (by simp)]
      simp only [openL, List.flatMap_nil, List.append_nil]
      rfl
    · intro i hi rest _ ih out ho
      refine t_arbitration_Open_1 _ _ _ _ _ ?_
      simp (disch := omega) only [List.length_map, brn_pos, chk_pos, Int.toNat_natCast, elemD_GScript, List.getElem?_eq_getElem hi, Option.bind_some, c_verdicts r s hs m hm _ (List.getElem_mem hi), callD_arbitration_verdicts]
      have hvl := verdS_len (r := r) hs (m := m) (x := s.Scripts[i])
      have inner := range_int (verdS r s m s.Scripts[i]) (fun j rest2 => ∀ out : List (Int × Int), (out.length : Int) ≤ 24 * i + j → k_arbitration_Open_2 r s m i s.Scripts[i] (verdS r s m s.Scripts[i]) (List.map nA2_I_i64 out) j = some (q_arbitration_Open (out ++ (openOf s.Scripts[i].Number rest2 j.toNat ++ openL r s m rest), 0))) ?_ ?_ out (by omega)
      · rw [inner]
        rfl
      · intro out ho
        refine t_arbitration_Open_2 _ _ _ _ _ _ _ _ ?_
        simp (disch := omega) only [List.length_map, brn_neg, w64_id]
        rw [ih out (by omega)]
        rfl
      · intro j hj rest2 _ ih2 out ho
        have hjx : ((j : Int) + 1).toNat = j + 1 := by omega
        rw [hjx] at ih2
        refine t_arbitration_Open_2 _ _ _ _ _ _ _ _ ?_
        simp (disch := omega) only [List.length_map, brn_pos, chk_pos, Int.toNat_natCast, Nat.zero_add, elemD_GVerdict, List.getElem?_eq_getElem hj, Option.bind_some, chk_true, w64_id, openOf]
        by_cases h3 : (verdS r s m s.Scripts[i])[j].State = 3
        · simp only [show ((verdS r s m s.Scripts[i])[j].State != 3) = false by simpa using h3, brn_false]
          rw [if_pos h3]
          exact ih2 out (by omega)
        · simp only [show ((verdS r s m s.Scripts[i])[j].State != 3) = true by simpa using h3, brn_true]
          rw [if_neg h3]
          have := ih2 (out ++ [(s.Scripts[i].Number, (j : Int))]) (by simp; omega)
          rw [← map_snoc nA2_I_i64, List.append_assoc, List.singleton_append] at this
          exact this
  · rw [if_neg hr]
    simp only [show (chkR r == 0) = false by simpa using hr, Bool.not_false, brn_true]
    rfl
end Go.Proofs.YtdhibifcofaioaaGreat

namespace Go.Proofs.YtdhibifcofaioaaGreat
open Go.Ab
set_option linter.unusedSimpArgs false

theorem c_permitted (x : GPart) (v : Int) (hx : OkPart x) : cw f_scheme_permitted [.agg (nGPart x), I v] [] = some (q_scheme_permitted (dec (PermP x v))) := by
  have hm := hx.1
  refine e_scheme_permitted x v ?_
  simp only [brn_ite, beq_iff_eq, decide_eq_true_eq]
  by_cases h : x.Kind = 2
  · rw [show dec (PermP x v) = dec (v = -1 ∨ v = 0 ∨ v = x.Max) from dec_iff (by unfold PermP; rw [if_pos h])]
    rw [if_pos h]
    repeat' split
    all_goals first
      | (rw [dec_true (by omega)]; rfl)
      | (rw [show (v == x.Max) = dec (v = -1 ∨ v = 0 ∨ v = x.Max) from dec_bool (by simp only [beq_iff_eq]; omega)]; rfl)
  · rw [show dec (PermP x v) = dec (-1 ≤ v ∧ v ≤ x.Max) from dec_iff (by unfold PermP; rw [if_neg h])]
    rw [if_neg h]
    repeat' split
    all_goals first
      | (rw [dec_true (by omega)]; rfl)
      | (rw [dec_false (by omega)]; rfl)
      | (rw [show decide (v ≤ x.Max) = dec (-1 ≤ v ∧ v ≤ x.Max) from dec_bool (by simp only [decide_eq_true_eq]; omega)]; rfl)

def MarkedP (p : GPaper) (c : GScheme) (l : List Int) : Prop :=
  ∀ (j : Nat) (x : GPart) (w v : Int), p.Parts[j]? = some x → c.Withdrawn[j]? = some w → l[j]? = some v → w = 0 → PermP x v

theorem c_Marked (p : GPaper) (c : GScheme) (l : List Int) (hs : Short c) (hok : OkScheme p c) (hl : l.length = p.Parts.length) :
    cw f_scheme_Marked [.agg (nGPaper p), .agg (nGScheme c), .sl 1 (List.map nI_i64 l)] [] = some (q_scheme_Marked (dec (MarkedP p c l))) := by
  have hpl := hok.1.2.2.1
  have hwl := hok.2.2.1
  refine e_scheme_Marked p c l ?_
  simp only [c_scheme_Valid p c hs, callD_scheme_Valid, dec_true hok, Bool.not_true, brn_false, List.length_map, hl, bne_self_eq_false]
  have H := all_bool p.Parts.length (fun j hj => c.Withdrawn[j]'(by omega) = 0 → PermP p.Parts[j] (l[j]'(by omega))) (fun i => k_scheme_Marked_1 p c l i) q_scheme_Marked ?_ ?_ ?_
  · rw [H, dec_iff]
    constructor
    · intro h j x w v hx hw hv hz
      obtain ⟨hj, rfl⟩ := List.getElem?_eq_some_iff.1 hx
      obtain ⟨_, rfl⟩ := List.getElem?_eq_some_iff.1 hw
      obtain ⟨_, rfl⟩ := List.getElem?_eq_some_iff.1 hv
      exact h j hj hz
    · intro h j hj hz
      exact h j _ _ _ (List.getElem?_eq_getElem hj) (List.getElem?_eq_getElem (by omega)) (List.getElem?_eq_getElem (by omega)) hz
  · exact t_scheme_Marked_1 _ _ _ _ (by simp (disch := omega) only [List.length_map, brn_neg]; rfl)
  · intro i hi hn
    have hiw : i < c.Withdrawn.length := by omega
    have hil : i < l.length := by omega
    refine t_scheme_Marked_1 _ _ _ _ ?_
    have hw : c.Withdrawn[i] = 0 := Classical.byContradiction fun h => hn (fun h' => absurd h' h)
    have hp : ¬ PermP p.Parts[i] l[i] := fun h => hn (fun _ => h)
    simp (disch := omega) only [List.length_map, brn_pos, chk_pos, Int.toNat_natCast, elemD_GPart, List.getElem?_eq_getElem hi, Option.bind_some, elemD_I_i64, List.getElem?_eq_getElem hiw, List.getElem?_eq_getElem hil, show (c.Withdrawn[i] == 0) = true by simpa using hw, brn_true, c_permitted _ _ (hok.1.2.2.2.1 _ (List.getElem_mem hi)), callD_scheme_permitted, dec_false hp, Bool.not_false]
    rfl
  · intro i hi y hg hk
    have hiw : i < c.Withdrawn.length := by omega
    have hil : i < l.length := by omega
    refine t_scheme_Marked_1 _ _ _ _ ?_
    simp (disch := omega) only [List.length_map, brn_pos, chk_pos, Int.toNat_natCast, elemD_GPart, List.getElem?_eq_getElem hi, Option.bind_some, elemD_I_i64, List.getElem?_eq_getElem hiw, List.getElem?_eq_getElem hil, c_permitted _ _ (hok.1.2.2.2.1 _ (List.getElem_mem hi)), callD_scheme_permitted, w64_id, hk]
    by_cases hw : c.Withdrawn[i] = 0
    · simp only [show (c.Withdrawn[i] == 0) = true by simpa using hw, brn_true, dec_true (hg hw), Bool.not_true, brn_false]
    · simp only [show (c.Withdrawn[i] == 0) = false by simpa using hw, brn_false]

def termT (x : GPart) (w v : Int) : Int := if w = 1 then x.Max else if w = 2 then 0 else if 0 > v then 0 else v

theorem c_Total_1 (i : Nat) (x : GPart) (c : GScheme) (l : List Int) (h1 : i < c.Withdrawn.length) (h2 : i < l.length) :
    cw f_scheme_Total_1 [I i, .agg (nGPart x), .fp [.sl 1 (List.map nL_I_i64 c.Keys), .sl 1 (List.map nI_i64 c.Withdrawn)], .fp [.sl 1 (List.map nI_i64 l)]] [] = some (q_scheme_Total_1 (termT x c.Withdrawn[i] l[i])) := by
  refine e_scheme_Total_1 i x c l ?_
  simp (disch := omega) only [chk_pos, Int.toNat_natCast, elemD_I_i64, List.getElem?_eq_getElem h1, List.getElem?_eq_getElem h2, Option.bind_some]
  unfold termT
  simp only [brn_ite, beq_iff_eq]
  split
  · rfl
  · split <;> rfl

def sumT : List GPart → List Int → List Int → Int
  | x :: ps, w :: ws, v :: vs => termT x w v + sumT ps ws vs
  | _, _, _ => 0

theorem c_sum (p : GPaper) (c : GScheme) (l : List Int) (hok : OkScheme p c) (hl : l.length = p.Parts.length) (hm : MarkedP p c l) :
    cw f_scheme_sum [.agg (nGPaper p), .fn f_scheme_Total_1 [.fp [.sl 1 (List.map nL_I_i64 c.Keys), .sl 1 (List.map nI_i64 c.Withdrawn)], .fp [.sl 1 (List.map nI_i64 l)]]] [] = some (q_scheme_sum (sumT p.Parts c.Withdrawn l)) := by
  have hpl := hok.1.2.2.1
  have hwl := hok.2.2.1
  refine e_scheme_sum p c l ?_
  have loop := range_int p.Parts (fun i r => ∀ a : Int, 0 ≤ a → a ≤ 40 * i → k_scheme_sum_1 p c l a i = some (q_scheme_sum (a + sumT r (c.Withdrawn.drop i.toNat) (l.drop i.toNat)))) ?_ ?_ 0 (by omega) (by omega)
  · rw [loop]
    simp
  · intro a _ _
    refine t_scheme_sum_1 _ _ _ _ _ ?_
    simp (disch := omega) only [List.length_map, brn_neg, sumT, Int.add_zero]
    rfl
  · intro i hi r _ ih a h0 h1
    have hiw : i < c.Withdrawn.length := by omega
    have hil : i < l.length := by omega
    have hix : ((i : Int) + 1).toNat = i + 1 := by omega
    rw [hix] at ih
    have hxo := hok.1.2.2.2.1 _ (List.getElem_mem hi)
    have hmx := hxo.1
    have hw := (hok.2.2.2 i _ (c.Keys[i]'(by have := hok.2.1; omega)) _ (List.getElem?_eq_getElem hi) (List.getElem?_eq_getElem _) (List.getElem?_eq_getElem hiw)).2
    have hterm : 0 ≤ termT p.Parts[i] c.Withdrawn[i] l[i] ∧ termT p.Parts[i] c.Withdrawn[i] l[i] ≤ 40 := by
      unfold termT
      split
      · omega
      · split
        · omega
        · have := hm i _ _ _ (List.getElem?_eq_getElem hi) (List.getElem?_eq_getElem hiw) (List.getElem?_eq_getElem hil) (by omega)
          unfold PermP at this
          split <;> split at this <;> omega
    refine t_scheme_sum_1 _ _ _ _ _ ?_
    simp (disch := omega) only [List.length_map, brn_pos, chk_pos, Int.toNat_natCast, elemD_GPart, List.getElem?_eq_getElem hi, Option.bind_some, c_Total_1 i p.Parts[i] c l hiw hil, callD_scheme_Total_1, w64_id]
    rw [ih _ (by omega) (by omega), List.drop_eq_getElem_cons hiw, List.drop_eq_getElem_cons hil, sumT, Int.add_assoc]

theorem c_scheme_Total (p : GPaper) (c : GScheme) (l : List Int) (hs : Short c) (hok : OkScheme p c) (hl : l.length = p.Parts.length) :
    cw f_scheme_Total [.agg (nGPaper p), .agg (nGScheme c), .sl 1 (List.map nI_i64 l)] [] = some (q_scheme_Total (bif dec (MarkedP p c l) then (sumT p.Parts c.Withdrawn l, 0) else (0, 8))) := by
  refine e_scheme_Total p c l ?_
  simp only [c_scheme_Valid p c hs, callD_scheme_Valid, dec_true hok, Bool.not_true, brn_false, List.length_map, hl, bne_self_eq_false, c_Marked p c l hs hok hl, callD_scheme_Marked]
  by_cases hm : MarkedP p c l
  · simp only [dec_true hm, Bool.not_true, brn_false, c_sum p c l hok hl hm, callD_scheme_sum, cond_true]
    rfl
  · simp only [dec_false hm, Bool.not_false, brn_true, cond_false]
    rfl

def stateL (l : List GVerdict) : Int := l.foldl (fun s v => if v.State < s then v.State else s) 3

theorem verdS_parts {r : GMarkRule} {s : GSetup} {m : GMarking} {x : GScript} {k : Nat} {p : GPaper} (hk : paperIx s.Papers x = some (k, p)) : (verdS r s m x).length = p.Parts.length := by
  unfold verdS
  rw [hk]
  simp [verdL]

theorem c_Total (r : GMarkRule) (s : GSetup) (hs : OkSetup s) (m : GMarking) (hm : SmallM m) (hr : chkR r = 0) (x : GScript) (hx : x ∈ s.Scripts) (k : Nat) (p : GPaper) (c : GScheme) (hk : paperIx s.Papers x = some (k, p)) (hc : s.Schemes[k]? = some c)
    (hmk : stateL (verdS r s m x) = 3 → MarkedP p c ((verdS r s m x).map (·.Value))) :
    cw f_arbitration_Total [.agg (nGMarkRule r), .agg (nGSetup s), .agg (nGMarking m), I x.Number] [] = some (q_arbitration_Total (if stateL (verdS r s m x) = 3 then (3, sumT p.Parts c.Withdrawn ((verdS r s m x).map (·.Value)), 0) else (stateL (verdS r s m x), 0, 0))) := by
  have hx60 := hs.scripts.1
  have hp32 := hs.papers
  have hpk := (paperIx_at hk).1
  have hok := hs.schemes k p c hpk hc
  have hso := scriptOf_mem hs.scripts.2.2 hx
  have hpo : paperOf s x.Number = some (k, p) := by unfold paperOf; rw [hso]; exact hk
  have hvp := verdS_parts (r := r) (m := m) hk
  have hvl := verdS_len (r := r) hs (m := m) (x := x)
  refine e_arbitration_Total r s m x.Number ?_
  simp only [c_Verdicts r s hs m hm x.Number, callD_arbitration_Verdicts, if_pos hr, hso, bne_self_eq_false, brn_false]
  generalize hV : verdS r s m x = V at *
  have loop := range_int V (fun i rest => ∀ (out : List Int) (a : Int), (out.length : Int) = i → k_arbitration_Total_1 s x.Number (V, 0) (List.map nI_i64 out) a i = some (q_arbitration_Total (
      if rest.foldl (fun s v => if v.State < s then v.State else s) a = 3 then
        (bif dec (MarkedP p c (out ++ rest.map (·.Value))) then (3, sumT p.Parts c.Withdrawn (out ++ rest.map (·.Value)), 0) else (0, 0, 8))
      else (rest.foldl (fun s v => if v.State < s then v.State else s) a, 0, 0)))) ?_ ?_ [] 3 (by simp)
  · refine Eq.trans loop ?_
    by_cases h3 : stateL V = 3
    · have h3' := h3
      unfold stateL at h3'
      rw [if_pos h3', if_pos h3]
      simp only [List.nil_append, dec_true (hmk h3), cond_true]
    · have h3' := h3
      unfold stateL at h3'
      rw [if_neg h3', if_neg h3]
      rfl
  · intro out a ho
    refine t_arbitration_Total_1 _ _ _ _ _ _ ?_
    simp (disch := omega) only [List.length_map, brn_neg, List.foldl_nil, List.map_nil, List.append_nil]
    by_cases h3 : a = 3
    · subst h3
      simp (disch := omega) only [bne_self_eq_false, brn_false, c_PaperOf s x.Number (show s.Scripts.length ≤ 1000000 by omega) (show s.Papers.length ≤ 1000000 by omega), hpo, ixR, callD_marking_PaperOf, chk_pos, Int.toNat_natCast, elemD_GPaper, hpk, Option.bind_some, elemD_GScheme, hc, Nat.zero_add, Nat.le_refl, chk_true, if_true]
      rw [List.take_of_length_le (by simp)]
      simp only [c_scheme_Total p c out (hs.short c (List.mem_of_getElem? hc)) hok (by omega), callD_scheme_Total]
      by_cases hmm : MarkedP p c out
      · simp only [dec_true hmm, cond_true, bne_self_eq_false, brn_false]
        rfl
      · simp only [dec_false hmm, cond_false, show ((8 : Int) != 0) = true from rfl, brn_true]
        rfl
    · simp only [show (a != 3) = true by simpa using h3, brn_true, if_neg h3]
      rfl
  · intro i hi rest _ ih out a ho
    refine t_arbitration_Total_1 _ _ _ _ _ _ ?_
    simp (disch := omega) only [List.length_map, brn_pos, chk_pos, Int.toNat_natCast, elemD_GVerdict, List.getElem?_eq_getElem hi, Option.bind_some, chk_true, map_snoc nI_i64, w64_id]
    have := ih (out ++ [V[i].Value]) (if V[i].State < a then V[i].State else a) (by simp; omega)
    rw [List.append_assoc, List.singleton_append] at this
    exact this
end Go.Proofs.YtdhibifcofaioaaGreat
