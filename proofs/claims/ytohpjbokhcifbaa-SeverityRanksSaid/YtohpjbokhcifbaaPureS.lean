/- Kappa and means of differences: plain laws; no program in sight. -/
namespace Go.PureS

theorem mk_div (N : Int) (D : Nat) : mkRat N D = (N : Rat) / (D : Rat) := Rat.mkRat_eq_div N D
theorem mk_lt {N M : Int} {D E : Nat} (hD : 0 < D) (hE : 0 < E) : mkRat N D < mkRat M E ↔ N * E < M * D := by
  rw [mk_div, mk_div]
  have h1 : (0 : Rat) < (D : Rat) := by exact_mod_cast hD
  have h2 : (0 : Rat) < (E : Rat) := by exact_mod_cast hE
  rw [Rat.div_lt_iff h1]
  have e : (M : Rat) / (E : Rat) * (D : Rat) = ((M : Rat) * D) / E := by grind
  rw [e, Rat.lt_div_iff h2]
  exact_mod_cast Iff.rfl
theorem mk_eq {N M : Int} {D E : Nat} (hD : 0 < D) (hE : 0 < E) : mkRat N D = mkRat M E ↔ N * E = M * D := Rat.mkRat_eq_iff (by omega) (by omega)
theorem mk_neg (N : Int) (D : Nat) : -(mkRat N D) = mkRat (-N) D := Rat.neg_mkRat N D
theorem mk_one {N : Int} {D : Nat} (hD : 0 < D) : mkRat N D = 1 ↔ N = D := by
  rw [show (1 : Rat) = mkRat 1 1 by rfl, mk_eq hD (by omega)]; omega
theorem mk_zero {N : Int} {D : Nat} (hD : 0 < D) : mkRat N D = 0 ↔ N = 0 := by
  rw [show (0 : Rat) = mkRat 0 1 by rfl, mk_eq hD (by omega)]; omega
theorem one_lt_mk {N : Int} {D : Nat} (hD : 0 < D) : 1 < mkRat N D ↔ (D : Int) < N := by
  rw [show (1 : Rat) = mkRat 1 1 by rfl, mk_lt (by omega) hD]; omega
theorem mk_lt_zero {N : Int} {D : Nat} (hD : 0 < D) : mkRat N D < 0 ↔ N < 0 := by
  rw [show (0 : Rat) = mkRat 0 1 by rfl, mk_lt hD (by omega)]; omega
theorem num_neg (r : Rat) : r.num < 0 ↔ r < 0 := by
  rw [Rat.lt_iff]
  simp

/-! ## kappa -/

/-- how often each mark stands in a list -/
def cnts (a : List Int) : List Int := (List.range 41).map fun (m : Nat) => ((a.count (m : Int) : Nat) : Int)
def eqn : List Int → List Int → Nat
  | x :: a, y :: b => (if x = y then 1 else 0) + eqn a b
  | _, _ => 0
/-- how many pairs of one of each list are equal -/
def chn (a b : List Int) : Nat := (a.map fun z => b.count z).sum

theorem chn_cons (x : Int) (a b : List Int) : chn (x :: a) b = b.count x + chn a b := rfl
theorem count_c (x y : Int) (l : List Int) : (y :: l).count x = l.count x + (if x = y then 1 else 0) := by
  rw [List.count_cons]
  by_cases h : x = y
  · subst h; simp
  · have h' : ¬ y = x := fun e => h e.symm
    simp [h, h']
theorem chn_cons_right (a b : List Int) (y : Int) : chn a (y :: b) = chn a b + a.count y := by
  induction a with
  | nil => rfl
  | cons x a ih =>
    rw [chn_cons, chn_cons, ih, count_c, count_c]
    by_cases h : x = y
    · subst h; simp; omega
    · have h' : ¬ y = x := fun e => h e.symm
      rw [if_neg h, if_neg h']; omega
theorem chn_comm (a b : List Int) : chn a b = chn b a := by
  induction a with
  | nil => 
    have : chn b [] = 0 := by
      unfold chn
      induction b with
      | nil => rfl
      | cons x b ih => simpa using ih
    rw [this]; rfl
  | cons x a ih => rw [chn_cons_right, ← ih, chn_cons]; omega
theorem eqn_comm : ∀ a b : List Int, eqn a b = eqn b a
  | [], [] => rfl
  | [], _ :: _ => rfl
  | _ :: _, [] => rfl
  | x :: a, y :: b => by unfold eqn; rw [eqn_comm a b]; by_cases h : x = y <;> simp [h, eq_comm]
theorem eqn_le : ∀ a b : List Int, eqn a b ≤ a.length
  | [], [] => by simp [eqn]
  | [], _ :: _ => by simp [eqn]
  | _ :: _, [] => by simp [eqn]
  | x :: a, y :: b => by have := eqn_le a b; simp only [eqn, List.length_cons]; split <;> omega
theorem eqn_full : ∀ a b : List Int, a.length = b.length → (eqn a b = a.length ↔ a = b)
  | [], [], _ => by simp [eqn]
  | [], _ :: _, h => by simp at h
  | _ :: _, [], h => by simp at h
  | x :: a, y :: b, h => by
    have hl : a.length = b.length := by simpa using h
    have ih := eqn_full a b hl
    have := eqn_le a b
    simp only [eqn, List.length_cons, List.cons.injEq]
    by_cases hxy : x = y
    · rw [if_pos hxy, ← ih]; omega
    · rw [if_neg hxy]; omega
theorem chn_le (a b : List Int) : chn a b ≤ a.length * b.length := by
  unfold chn
  induction a with
  | nil => simp
  | cons x a ih =>
    have : b.count x ≤ b.length := List.count_le_length
    simp only [List.map_cons, List.sum_cons, List.length_cons, Nat.add_mul]
    omega
theorem count_map {f : Int → Int} (hf : ∀ x y, f x = f y → x = y) (z : Int) (b : List Int) : (b.map f).count (f z) = b.count z := by
  induction b with
  | nil => rfl
  | cons y b ih =>
    rw [List.map_cons, count_c, count_c, ih]
    by_cases h : z = y
    · subst h; simp
    · rw [if_neg h, if_neg (fun e => h (hf _ _ e))]
theorem chn_map {f : Int → Int} (hf : ∀ x y, f x = f y → x = y) (a b : List Int) : chn (a.map f) (b.map f) = chn a b := by
  induction a with
  | nil => rfl
  | cons x a ih => rw [List.map_cons, chn_cons, chn_cons, ih, count_map hf]
theorem eqn_map {f : Int → Int} (hf : ∀ x y, f x = f y → x = y) : ∀ a b : List Int, eqn (a.map f) (b.map f) = eqn a b
  | [], [] => rfl
  | [], _ :: _ => rfl
  | _ :: _, [] => rfl
  | x :: a, y :: b => by
    simp only [List.map_cons, eqn, eqn_map hf a b]
    by_cases h : x = y
    · simp [h]
    · rw [if_neg h, if_neg (fun e => h (hf _ _ e))]

/-- the sum over all marks up to one -/
def dot : Nat → List Int → List Int → Int
  | 0, _, _ => 0
  | k + 1, a, b => dot k a b + ((a.count (k : Int) : Nat) : Int) * ((b.count (k : Int) : Nat) : Int)
theorem dot_nil (k : Nat) (b : List Int) : dot k [] b = 0 := by
  induction k with
  | zero => rfl
  | succ k ih => simp [dot, ih]
theorem dot_cons (k : Nat) (z : Int) (a b : List Int) (hz : 0 ≤ z) : dot k (z :: a) b = dot k a b + (if z < (k : Int) then ((b.count z : Nat) : Int) else 0) := by
  induction k with
  | zero => rw [if_neg (by omega)]; rfl
  | succ k ih =>
    simp only [dot]
    rw [ih, count_c]
    by_cases h : z = (k : Int)
    · subst h
      rw [if_neg (show ¬ ((k : Int) < (k : Int)) by omega), if_pos (show (k : Int) < ((k + 1 : Nat) : Int) by omega), if_pos rfl]
      grind
    · rw [if_neg (show ¬ (k : Int) = z from fun e => h e.symm)]
      by_cases h2 : z < (k : Int)
      · rw [if_pos h2, if_pos (show z < ((k + 1 : Nat) : Int) by omega)]; grind
      · rw [if_neg h2, if_neg (show ¬ z < ((k + 1 : Nat) : Int) by omega)]; grind
theorem dot_chn (a b : List Int) (h : ∀ z ∈ a, 0 ≤ z ∧ z < 41) : dot 41 a b = (chn a b : Nat) := by
  induction a with
  | nil => rw [dot_nil]; rfl
  | cons z a ih =>
    have hz := h z (by simp)
    rw [dot_cons _ _ _ _ hz.1, if_pos (show z < ((41 : Nat) : Int) by omega), ih (fun w hw => h w (by simp [hw])), chn_cons]
    omega

theorem cnts_len (a : List Int) : (cnts a).length = 41 := by simp [cnts]
theorem cnts_get (a : List Int) (i : Nat) (h : i < (cnts a).length) : (cnts a)[i] = ((a.count (i : Int) : Nat) : Int) := by simp [cnts]
theorem cnts_snoc (a : List Int) (z : Int) (h0 : 0 ≤ z) (h1 : z < 41) : cnts (a ++ [z]) = (cnts a).set z.toNat (((a.count z : Nat) : Int) + 1) := by
  apply List.ext_getElem
  · simp [cnts]
  · intro i h1 h2
    rw [cnts_get, List.getElem_set]
    rw [List.count_append]
    by_cases h : z.toNat = i
    · have e : z = (i : Int) := by omega
      rw [if_pos h, ← e]; simp
    · have e : ¬ z = (i : Int) := by omega
      rw [if_neg h, cnts_get]
      simp [e]
theorem eqn_snoc : ∀ (a b : List Int) (x y : Int), a.length = b.length → eqn (a ++ [x]) (b ++ [y]) = eqn a b + (if x = y then 1 else 0)
  | [], [], x, y, _ => by simp [eqn]
  | [], _ :: _, _, _, h => by simp at h
  | _ :: _, [], _, _, h => by simp at h
  | u :: a, v :: b, x, y, h => by
    simp only [List.cons_append, eqn]
    rw [eqn_snoc a b x y (by simpa using h)]; omega
end Go.PureS
