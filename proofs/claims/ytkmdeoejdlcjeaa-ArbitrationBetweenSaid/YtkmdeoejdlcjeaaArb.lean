/- Arbitration: what the functions compute. -/
import Derived.Test.YtkmdeoejdlcjeaaDice
namespace Go.Proofs.Ytkmdeoejdlcjeaa
open Go.Ab

/-- what a mark counts -/
def worth (g : GGiven) : Int := if g.Value < 0 then 0 else g.Value

theorem worth_nonneg (g : GGiven) : 0 ≤ worth g := by unfold worth; split <;> omega

theorem c_worth (g : GGiven) : cw f_arbitration_worth [.agg (dGGiven.enc g)] [] = some (r_arbitration_worth.enc (worth g)) := e_arbitration_worth g rfl

def cmpI (a b : Int) : Int := if a < b then -1 else if b < a then 1 else 0

theorem c_isNaN (a : Int) : cw f_cmp_isNaN_int [I a] [] = some (r_cmp_isNaN_int.enc false) := by
  refine e_cmp_isNaN_int a ?_
  simp

theorem c_cmp (a b : Int) : cw f_cmp_Compare_int [I a, I b] [] = some (r_cmp_Compare_int.enc (cmpI a b)) := by
  refine e_cmp_Compare_int a b ?_
  rw [callD_of (c_isNaN a), callD_of (c_isNaN b), brn_false, brn_false, brn_dec, brn_dec]
  unfold cmpI
  split
  · rfl
  · split <;> rfl

def firstNZ : List Int → Int
  | [] => 0
  | x :: r => if x = 0 then firstNZ r else x

theorem c_Or (l : List Int) (hl : l.length ≤ 1000000) : cw f_cmp_Or_int [.sl 1 (List.map dI_i64.enc l)] [] = some (r_cmp_Or_int.enc (firstNZ l)) := by
  refine e_cmp_Or_int l ?_
  refine range_ind l (fun i r => k_cmp_Or_int_1 l (i : Nat) = some (r_cmp_Or_int.enc (firstNZ r))) ?_ ?_
  · refine t_cmp_Or_int_1 l _ ?_
    rw [List.length_map, brn_dec, if_neg (by omega)]
    rfl
  · intro i x r hi hx hr ih
    refine t_cmp_Or_int_1 l _ ?_
    rw [List.length_map, brn_dec, if_pos (by omega), chk_pos (by omega), Int.toNat_natCast, elemD_get hi, hx, w64_id (by omega) (by omega)]
    by_cases h0 : x = 0
    · subst h0
      simpa [firstNZ] using ih
    · simp only [h0, firstNZ, if_false, show (x != 0) = true from by simpa using h0, brn_true]

/-- how stamps compare -/
def cmpS (a b : GStamp) : Int := firstNZ [cmpI a.Time b.Time, cmpI a.Source b.Source, cmpI a.Seq b.Seq]

theorem c_cmpS (a b : GStamp) : cw f_stamp_Compare [.agg (dGStamp.enc a), .agg (dGStamp.enc b)] [] = some (r_stamp_Compare.enc (cmpS a b)) := by
  refine e_stamp_Compare a b ?_
  rw [callD_of (c_cmp _ _), callD_of (c_cmp _ _), callD_of (c_cmp _ _), callD_of (c_Or _ (by simp))]
  rfl

/-- the mark of the greatest level, then of the greatest stamp, then the last -/
def stepD (b : GGiven × Bool) (g : GGiven) : GGiven × Bool :=
  if g.Level < 2 then b
  else if b.2 = false ∨ b.1.Level < g.Level ∨ (g.Level = b.1.Level ∧ 0 ≤ cmpS g.Stamp b.1.Stamp) then (g, true) else b

def decisive (l : List GGiven) : GGiven × Bool := l.foldl stepD (⟨0, 0, 0, 0, 0, ⟨0, 0, 0⟩⟩, false)

theorem c_decisive (l : List GGiven) (hl : l.length ≤ 1000000) : cw f_arbitration_decisive [.sl 8 (List.map dGGiven.enc l)] [] = some (r_arbitration_decisive.enc (decisive l)) := by
  refine e_arbitration_decisive l ?_
  refine range_ind l (fun i r => ∀ (b : GGiven) (f : Bool), k_arbitration_decisive_1 l b f (i : Nat) = some (r_arbitration_decisive.enc (r.foldl stepD (b, f)))) ?_ ?_ _ _
  · intro b f
    refine t_arbitration_decisive_1 l b f _ ?_
    rw [List.length_map, brn_dec, if_neg (by omega)]
    rfl
  · intro i x r hi hx hr ih b f
    refine t_arbitration_decisive_1 l b f _ ?_
    rw [List.length_map, brn_dec, if_pos (by omega), chk_pos (by omega), Int.toNat_natCast, elemD_get hi, hx, w64_id (by omega) (by omega)]
    have e1 : ((i : Int) + 1) = ((i + 1 : Nat) : Int) := by omega
    rw [e1, ih, ih, callD_of (c_cmpS _ _), brn_dec, brn_dec, brn_dec, List.foldl_cons]
    unfold stepD
    by_cases h1 : x.Level < 2
    · rw [if_pos h1, if_pos h1]
    · rw [if_neg h1, if_neg h1]
      cases f with
      | false => simp
      | true =>
        simp only [Bool.not_true, brn_false, Bool.true_eq_false, false_or]
        by_cases h2 : b.Level < x.Level
        · rw [if_pos h2, if_pos (.inl h2)]
        · rw [if_neg h2]
          by_cases h3 : x.Level = b.Level
          · simp only [h3, beq_self_eq_true, brn_true]
            by_cases h4 : 0 ≤ cmpS x.Stamp b.Stamp
            · rw [if_pos h4, if_pos (.inr ⟨trivial, h4⟩)]
            · rw [if_neg h4, if_neg (by rintro (h | h) <;> first | omega | exact h4 h.2)]
          · rw [show (x.Level == b.Level) = false by simpa using h3, brn_false, if_neg (by rintro (h | h) <;> first | omega | exact h3 h.1)]

def sumW (l : List GGiven) : Int := l.foldl (fun s g => s + worth g) 0

/-- the sum divided by the number, rounded -/
def mean (l : List GGiven) : Int := if (l.length : Int) ≤ 2 * (sumW l).tmod l.length then (sumW l).tdiv l.length + 1 else (sumW l).tdiv l.length

theorem c_Div64 (a b : Int) (ha : 0 ≤ a) (ha2 : a < 18446744073709551616) (hb : 0 < b) : cw f_bits_Div64 [.v (.int .u64 0), .v (.int .u64 a), .v (.int .u64 b)] [] = some (r_bits_Div64.enc (a.tdiv b, a.tmod b)) := by
  refine e_bits_Div64 a b ?_
  have h1 : (b == 0) = false := by simpa using (show b ≠ 0 by omega)
  have h2 : 0 ≤ a.tdiv b := Int.tdiv_nonneg ha (by omega)
  have h3 : a.tdiv b ≤ a := Int.tdiv_le_self b ha
  rw [h1, brn_false, brn_dec, if_neg (by omega), chk_pos (by omega), chk_pos (by omega), wu64_id h2 (by omega)]

theorem sumW_acc (l : List GGiven) (s : Int) : l.foldl (fun s g => s + worth g) s = s + sumW l := by
  unfold sumW
  induction l generalizing s with
  | nil => simp
  | cons g r ih => simp only [List.foldl_cons]; rw [ih, ih (0 + worth g)]; omega

theorem sumW_cons (g : GGiven) (l : List GGiven) : sumW (g :: l) = worth g + sumW l := by
  have := sumW_acc l (0 + worth g)
  unfold sumW at this ⊢
  simp only [List.foldl_cons]
  rw [this]
  omega

theorem sumW_nonneg (l : List GGiven) : 0 ≤ sumW l := by
  induction l with
  | nil => simp [sumW]
  | cons g r ih => rw [sumW_cons]; have := worth_nonneg g; omega

theorem sumW_le (l : List GGiven) (M : Int) (h : ∀ g ∈ l, worth g ≤ M) : sumW l ≤ l.length * M := by
  induction l with
  | nil => simp [sumW]
  | cons g r ih =>
    have h1 := ih (fun g hg => h g (by simp [hg]))
    have h2 := h g (by simp)
    rw [sumW_cons, List.length_cons]
    have : ((r.length + 1 : Nat) : Int) * M = r.length * M + M := by
      rw [Int.natCast_add, Int.add_mul]; simp
    omega

theorem c_mean (l : List GGiven) (hl : l.length ≤ 1000000) (h0 : l ≠ []) (hv : ∀ g ∈ l, g.Value ≤ 1099511627776) : cw f_arbitration_mean [.sl 8 (List.map dGGiven.enc l)] [] = some (r_arbitration_mean.enc (mean l)) := by
  have hw : ∀ g ∈ l, worth g ≤ 1099511627776 := fun g hg => by have := hv g hg; unfold worth; split <;> omega
  have hpos : 0 < l.length := List.length_pos_iff.2 h0
  have hs : sumW l ≤ 1099511627776000000 := by
    have h1 := sumW_le l _ hw
    have h2 : (l.length : Int) * 1099511627776 ≤ 1000000 * 1099511627776 := Int.mul_le_mul_of_nonneg_right (by omega) (by omega)
    omega
  have hs0 := sumW_nonneg l
  refine e_arbitration_mean l ?_
  refine range_ind l (fun i r => ∀ (s : Int), 0 ≤ s → s + sumW r = sumW l → k_arbitration_mean_1 l 0 s (i : Nat) = some (r_arbitration_mean.enc (mean l))) ?_ ?_ 0 (by omega) (by omega)
  · intro s hs' he
    have hse : s = sumW l := by simpa [sumW] using he
    refine t_arbitration_mean_1 l _ _ _ ?_
    rw [List.length_map, brn_dec, if_neg (by omega), wu64_id (by omega) (by omega), callD_of (c_Div64 s l.length hs' (by omega) (by omega)), brn_dec]
    have h1 : 0 ≤ s.tmod l.length := Int.tmod_nonneg _ hs'
    have h2 : s.tmod l.length < l.length := Int.tmod_lt_of_pos _ (by omega)
    have h3 : 0 ≤ s.tdiv l.length := Int.tdiv_nonneg hs' (by omega)
    have h4 : s.tdiv l.length ≤ s := Int.tdiv_le_self _ hs'
    rw [wu64_id (by show 0 ≤ 2 * s.tmod l.length; omega) (by show 2 * s.tmod l.length < _; omega)]
    show (if (l.length : Int) ≤ 2 * s.tmod l.length then some (I (w64 (wu64 (s.tdiv l.length + 1))), []) else some (I (w64 (s.tdiv l.length)), [])) = _
    rw [wu64_id (by omega) (by omega), w64_id (by omega) (by omega), w64_id (by omega) (by omega), hse]
    unfold mean
    split <;> rfl
  · intro i x r hi hx hr ih s hs' he
    refine t_arbitration_mean_1 l _ _ _ ?_
    rw [List.length_map, brn_dec, if_pos (by omega), chk_pos (by omega), Int.toNat_natCast, elemD_get hi, hx, callD_of (c_worth x), w64_id (by omega) (by omega)]
    have hx0 := worth_nonneg x
    rw [sumW_cons] at he
    have hr0 := sumW_nonneg r
    rw [wu64_id hx0 (by omega)]
    have e2 : (s.toNat + (worth x).toNat + Int.toNat 0) / 2 ^ 64 = 0 := Nat.div_eq_of_lt (by simp; omega)
    have e3 : (s.toNat + (worth x).toNat + Int.toNat 0) % 2 ^ 64 = s.toNat + (worth x).toNat := by rw [Nat.mod_eq_of_lt (by simp; omega)]; simp
    rw [e2, e3]
    have e4 : Int.ofNat (s.toNat + (worth x).toNat) = s + worth x := by simp; omega
    rw [e4, show wu64 (0 + Int.ofNat 0) = 0 from rfl]
    have e1 : ((i : Int) + 1) = ((i + 1 : Nat) : Int) := by omega
    rw [e1]
    exact ih (s + worth x) (by omega) (by omega)

def minW (l : List GGiven) (m : Int) : Int := l.foldl (fun m g => if worth g < m then worth g else m) m
def maxW (l : List GGiven) (m : Int) : Int := l.foldl (fun m g => if m < worth g then worth g else m) m

/-- the verdict -/
def decideV (r : GMarkRule) (l : List GGiven) : GVerdict :=
  if (decisive l).2 = true then ⟨3, worth (decisive l).1⟩
  else match l with
    | [] => ⟨0, 0⟩
    | [g] => if r.Double = true then ⟨1, 0⟩ else ⟨3, worth g⟩
    | g :: _ => if r.Tolerance < maxW l (worth g) - minW l (worth g) then ⟨2, 0⟩ else ⟨3, mean l⟩

theorem minW_bd (l : List GGiven) : ∀ (m : Int), 0 ≤ m → 0 ≤ minW l m ∧ minW l m ≤ m := by
  induction l with
  | nil => intro m hm; exact ⟨hm, Int.le_refl _⟩
  | cons g r ih =>
    intro m hm
    have hw := worth_nonneg g
    simp only [minW, List.foldl_cons]
    split
    · have := ih (worth g) hw; unfold minW at this; omega
    · exact ih m hm

theorem maxW_bd (l : List GGiven) (M : Int) (h : ∀ g ∈ l, worth g ≤ M) : ∀ (m : Int), m ≤ M → m ≤ maxW l m ∧ maxW l m ≤ M := by
  induction l with
  | nil => intro m hm; exact ⟨Int.le_refl _, hm⟩
  | cons g r ih =>
    intro m hm
    have hw := h g (by simp)
    have ih' := ih (fun g hg => h g (by simp [hg]))
    simp only [maxW, List.foldl_cons]
    split
    · have := ih' (worth g) hw; unfold maxW at this; omega
    · exact ih' m hm

theorem c_Decide (r : GMarkRule) (l : List GGiven) (hl : l.length ≤ 1000000) (hv : ∀ g ∈ l, g.Value ≤ 1099511627776) :
    cw f_arbitration_Decide [.agg (dGMarkRule.enc r), .sl 8 (List.map dGGiven.enc l)] [] = some (r_arbitration_Decide.enc (decideV r l)) := by
  have hw : ∀ g ∈ l, worth g ≤ 1099511627776 := fun g hg => by have := hv g hg; unfold worth; split <;> omega
  refine e_arbitration_Decide r l ?_
  rw [callD_of (c_decisive l hl), callD_of (c_worth _)]
  unfold decideV
  cases hb : (decisive l).2 with
  | true => rw [if_pos rfl]; rfl
  | false =>
    rw [if_neg (by simp), List.length_map, brn_false]
    match l, hl, hv, hw with
    | [], _, _, _ => rfl
    | [g], _, _, _ =>
      rw [show (((([g] : List GGiven).length : Nat) : Int) == 0) = false from rfl, brn_false, show (((([g] : List GGiven).length : Nat) : Int) == 1) = true from rfl, brn_true, chk_pos (Int.le_refl 0)]
      rw [elemD_get (D := dGGiven) (l := [g]) (i := Int.toNat 0) (by simp), callD_of (c_worth _)]
      cases r.Double <;> rfl
    | g :: g' :: t, hl, hv, hw =>
      have h1 : ((((g :: g' :: t : List GGiven).length : Nat) : Int) == 0) = false := by simp; omega
      have h2 : ((((g :: g' :: t : List GGiven).length : Nat) : Int) == 1) = false := by simp; omega
      rw [h1, brn_false, h2, brn_false, chk_pos (Int.le_refl 0), elemD_get (i := Int.toNat 0) (by simp), callD_of (c_worth _), chk_pos (Int.le_refl 0), elemD_get (i := Int.toNat 0) (by simp), callD_of (c_worth _)]
      show k_arbitration_Decide_1 r (g :: g' :: t) (worth g) (worth g) 0 = some (r_arbitration_Decide.enc (if r.Tolerance < maxW (g :: g' :: t) (worth g) - minW (g :: g' :: t) (worth g) then ⟨2, 0⟩ else ⟨3, mean (g :: g' :: t)⟩))
      generalize hL : g :: g' :: t = L at *
      have hne : L ≠ [] := by rw [← hL]; simp
      have hg := hw g (by rw [← hL]; simp)
      have hg0 := worth_nonneg g
      refine range_ind L (fun i s => ∀ (a b : Int), minW s a = minW L (worth g) → maxW s b = maxW L (worth g) → k_arbitration_Decide_1 r L a b (i : Nat) = some (r_arbitration_Decide.enc (if r.Tolerance < maxW L (worth g) - minW L (worth g) then ⟨2, 0⟩ else ⟨3, mean L⟩))) ?_ ?_ (worth g) (worth g) rfl rfl
      · intro a b ha hb
        have ha' : a = minW L (worth g) := ha
        have hb' : b = maxW L (worth g) := hb
        have q1 := minW_bd L (worth g) hg0
        have q2 := maxW_bd L _ hw (worth g) hg
        refine t_arbitration_Decide_1 r L a b _ ?_
        rw [List.length_map, brn_dec, if_neg (by omega), brn_dec, w64_id (by omega) (by omega), callD_of (c_mean L hl hne hv), ha', hb']
        split <;> rfl
      · intro i x s hi hx hr ih a b ha hb
        refine t_arbitration_Decide_1 r L a b _ ?_
        rw [List.length_map, brn_dec, if_pos (by omega), chk_pos (by omega), Int.toNat_natCast, elemD_get hi, hx, callD_of (c_worth x), callD_of (c_worth x), w64_id (by omega) (by omega)]
        have e1 : ((i : Int) + 1) = ((i + 1 : Nat) : Int) := by omega
        rw [e1]
        exact ih _ _ ha hb
end Go.Proofs.Ytkmdeoejdlcjeaa
