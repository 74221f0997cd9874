/- Equating: lines. -/
import Derived.Test.YthhedegaeeadhaaEqu2
namespace Go.Proofs.Ythhedegaeeadhaa
open Go.Ab Go.Pure
set_option linter.unusedVariables false

/-- a line, with sizes -/
structure LineOk (s t : Rat) : Prop where
  pos : 0 < s
  bs : Bd 25 25 s
  bt : Bd 27 25 t
  bst : Bd 28 25 (s + t)

def lp (s t : Rat) : List Pt := [((0 : Rat), t), ((1 : Rat), s + t)]

theorem one_bd : Bd 0 0 (1 : Rat) := ⟨by decide, by decide⟩
theorem zero_bd : Bd 0 0 (0 : Rat) := ⟨by decide, by decide⟩

theorem lp_asc {s t : Rat} (h : 0 < s) : Asc (lp s t) := by
  unfold lp Asc
  rw [List.pairwise_cons]
  refine ⟨fun q hq => ?_, List.pairwise_singleton _ _⟩
  rw [List.mem_singleton.1 hq]
  exact ⟨by show (0 : Rat) < 1; decide, by show t < s + t; grind⟩

theorem sl_lp (s t : Rat) : sl ((0 : Rat), t) ((1 : Rat), s + t) = s := by
  unfold sl
  show (s + t - t) / (1 - 0) = s
  grind

theorem cv_lp (s t x : Rat) : cv (lp s t) x = t + x * s := by
  unfold lp
  rw [cv_two, sl_lp]
  unfold ln
  show t + (x - 0) * s = _
  grind

theorem each_two {p q : Pt} {P : Pt → Pt → Prop} (h : P p q) : Each [p, q] P := by
  intro i a b ha hb
  match i, ha, hb with
  | 0, ha, hb => simp at ha hb; rw [← ha, ← hb]; exact h
  | i + 1, ha, hb => simp at hb

theorem LineOk.vals {s t : Rat} (h : LineOk s t) : AllV (lp s t) := by
  intro p hp
  unfold lp at hp
  simp at hp
  rcases hp with hp | hp
  · rw [hp]; exact ⟨.mk zero_bd (by omega) (by omega), .mk h.bt (by omega) (by omega)⟩
  · rw [hp]; exact ⟨.mk one_bd (by omega) (by omega), .mk h.bst (by omega) (by omega)⟩

theorem LineOk.sls {s t : Rat} (h : LineOk s t) : SlOk ((0 : Rat), t) ((1 : Rat), s + t) := by
  refine ⟨.mk h.bst h.bt (by omega) (by omega) (by omega), .mk one_bd zero_bd (by omega) (by omega) (by omega), ?_⟩
  have e1 : s + t - t = s := by grind
  have e2 : (1 : Rat) - 0 = 1 := by grind
  show DivOk (s + t - t) (1 - 0)
  rw [e1, e2]
  exact .mk (by decide) h.bs one_bd (by omega) (by omega)

theorem LineOk.ev {s t : Rat} (h : LineOk s t) {x : Rat} {nr dr n d : Nat} (hx : Bd nr dr x) (hxs : Bd n d (x * s)) (h1 : nr + 25 ≤ 60) (h2 : dr + 25 ≤ 60) (h3 : 27 + d + 1 ≤ 60) (h4 : n + 25 + 1 ≤ 60) : Each (lp s t) fun p q => EvOk p q x := by
  refine each_two ⟨h.sls, .mk hx zero_bd (by omega) (by omega) (by omega), ?_, ?_⟩
  · have e : x - 0 = x := by grind
    show MulOk (x - 0) (sl ((0 : Rat), t) ((1 : Rat), s + t))
    rw [e, sl_lp]
    exact .mk hx h.bs (by omega) (by omega)
  · have e : x - 0 = x := by grind
    show AddOk t ((x - 0) * sl ((0 : Rat), t) ((1 : Rat), s + t))
    rw [e, sl_lp]
    exact .mk h.bt hxs (by omega) (by omega) (by omega)

theorem LineOk.eval {s t : Rat} (h : LineOk s t) {x : Rat} {nr dr n d : Nat} (hx : Bd nr dr x) (hxs : Bd n d (x * s)) (h1 : nr + 25 ≤ 60) (h2 : dr + 25 ≤ 60) (h3 : 27 + d + 1 ≤ 60) (h4 : n + 25 + 1 ≤ 60) :
    cw f_conversion_Eval [aC (lp s t), aR x] [] = some (r_conversion_Eval.enc (ofR (t + x * s), 0)) := by
  have := g_Eval (lp s t) x (lp_asc h.pos) (by simp [lp]) (by simp [lp]) h.vals (.mk hx (by omega) (by omega)) (h.ev hx hxs h1 h2 h3 h4)
  rwa [cv_lp] at this

theorem bn_two (p q : Pt) : bn [p, q] = [] := rfl

theorem LineOk.norm {s t : Rat} (h : LineOk s t) : NormOk (lp s t) := by
  refine ⟨lp_asc h.pos, by simp [lp], by simp [lp], h.vals, each_two h.sls, ⟨.mk zero_bd (by omega) (by omega), ?_⟩, ⟨.mk one_bd (by omega) (by omega), ?_⟩, fun p hp => by cases hp⟩
  · refine h.ev (x := 0) (n := 0) (d := 0) zero_bd ?_ (by omega) (by omega) (by omega) (by omega)
    have : (0 : Rat) * s = 0 := by grind
    rw [this]; exact zero_bd
  · refine h.ev (x := 1) (n := 25) (d := 25) one_bd ?_ (by omega) (by omega) (by omega) (by omega)
    have : (1 : Rat) * s = s := by grind
    rw [this]; exact h.bs

theorem sl_xl {s t : Rat} (h : 0 < s) : sl (t, (0 : Rat)) (s + t, (1 : Rat)) = s⁻¹ := by
  unfold sl
  show ((1 : Rat) - 0) / (s + t - t) = s⁻¹
  have e1 : s + t - t = s := by grind
  rw [e1, Rat.div_def]; grind

theorem LineOk.normX {s t : Rat} (h : LineOk s t) : NormOk (ex (lp s t)) := by
  have he : ex (lp s t) = [(t, (0 : Rat)), (s + t, (1 : Rat))] := rfl
  have hv : AllV (ex (lp s t)) := by
    intro p hp
    rw [he] at hp
    simp at hp
    rcases hp with hp | hp
    · rw [hp]; exact ⟨.mk h.bt (by omega) (by omega), .mk zero_bd (by omega) (by omega)⟩
    · rw [hp]; exact ⟨.mk h.bst (by omega) (by omega), .mk one_bd (by omega) (by omega)⟩
  have hne : s ≠ 0 := by have := h.pos; grind
  have hs : SlOk (t, (0 : Rat)) (s + t, (1 : Rat)) := by
    refine ⟨.mk one_bd zero_bd (by omega) (by omega) (by omega), .mk h.bst h.bt (by omega) (by omega) (by omega), ?_⟩
    have e1 : s + t - t = s := by grind
    have e2 : (1 : Rat) - 0 = 1 := by grind
    show DivOk (1 - 0) (s + t - t)
    rw [e1, e2]
    exact .mk hne one_bd h.bs (by omega) (by omega)
  have hev : ∀ (x : Rat), Bd 0 0 x → EvOk (t, (0 : Rat)) (s + t, (1 : Rat)) x := by
    intro x hx
    have b1 : Bd 28 25 (x - t) := hx.sub h.bt (by omega) (by omega) (by omega)
    have b2 : Bd 53 50 ((x - t) * s⁻¹) := b1.mul h.bs.inv (by omega) (by omega)
    refine ⟨hs, .mk hx h.bt (by omega) (by omega) (by omega), ?_, ?_⟩
    · show MulOk (x - t) (sl (t, (0 : Rat)) (s + t, (1 : Rat)))
      rw [sl_xl h.pos]
      exact .mk b1 h.bs.inv (by omega) (by omega)
    · show AddOk 0 ((x - t) * sl (t, (0 : Rat)) (s + t, (1 : Rat)))
      rw [sl_xl h.pos]
      exact .mk zero_bd b2 (by omega) (by omega) (by omega)
  exact ⟨ex_asc (lp_asc h.pos), by rw [he]; simp, by rw [he]; simp, hv, each_two hs, ⟨.mk zero_bd (by omega) (by omega), each_two (hev 0 zero_bd)⟩, ⟨.mk one_bd (by omega) (by omega), each_two (hev 1 one_bd)⟩, fun p hp => by rw [he, bn_two] at hp; cases hp⟩

theorem nf_lp (s t : Rat) : nf (lp s t) = lp s t := by
  have h0 : cv (lp s t) 0 = t := by rw [cv_lp]; grind
  have h1 : cv (lp s t) 1 = s + t := by rw [cv_lp]; grind
  show [((0 : Rat), cv (lp s t) 0), ((1 : Rat), cv (lp s t) 1)] = lp s t
  rw [h0, h1]; rfl

/-- the inverse of a line is the other line -/
theorem nf_ex_lp {s t s' t' : Rat} (h : 0 < s) (hs : s' = s⁻¹) (ht : t' = -t * s⁻¹) : nf (ex (lp s t)) = lp s' t' := by
  have hp : 0 < s' := by rw [hs]; exact Rat.inv_pos.2 h
  rw [← nf_lp s' t']
  refine canon (ex_asc (lp_asc h)) (by rw [ex_len]; simp [lp]) (lp_asc hp) (by simp [lp]) (fun x => ?_)
  have e1 : cv (lp s t) (cv (lp s' t') x) = x := by
    rw [cv_lp, cv_lp, hs, ht]
    have : s ≠ 0 := by grind
    grind
  have := ex_back (lp_asc (t := t) h) (by simp [lp]) (cv (lp s' t') x)
  rw [e1] at this
  exact this

/-! ## means and deviations -/

theorem fd_sc : ∀ (l : List Int) (i : Nat), (∀ c ∈ l, 1 ≤ c ∧ c ≤ 6) → i + l.length ≤ 7 → 0 ≤ sc i l ∧ sc i l ≤ 6 * l.sum
  | [], i, _, _ => by simp [sc]
  | c :: l, i, h, hi => by
    simp only [List.length_cons] at hi
    have h1 := fd_sc l (i + 1) (fun x hx => h x (by simp [hx])) (by omega)
    have h2 := h c (by simp)
    have h3 : (i : Int) * c ≤ 6 * c := Int.mul_le_mul_of_nonneg_right (by omega) (by omega)
    have h4 : 0 ≤ (i : Int) * c := Int.mul_nonneg (by omega) (by omega)
    simp only [sc, List.sum_cons]
    omega

theorem fd_dv (n S : Int) (hn : 0 ≤ n ∧ n ≤ 42) (hS : 0 ≤ S ∧ S ≤ 252) : ∀ (l : List Int) (i : Nat), (∀ c ∈ l, 1 ≤ c ∧ c ≤ 6) → i + l.length ≤ 7 → 0 ≤ dv n S i l ∧ dv n S i l ≤ 252 * l.sum
  | [], i, _, _ => by simp [dv]
  | c :: l, i, h, hi => by
    simp only [List.length_cons] at hi
    have h1 := fd_dv n S hn hS l (i + 1) (fun x hx => h x (by simp [hx])) (by omega)
    have h2 := h c (by simp)
    have m1 : (i : Int) * n ≤ 6 * n := Int.mul_le_mul_of_nonneg_right (by omega) hn.1
    have m2 : 0 ≤ (i : Int) * n := Int.mul_nonneg (by omega) hn.1
    have h3 : ((((i : Int) * n - S).natAbs : Nat) : Int) ≤ 252 := by omega
    have h4 : c * ((((i : Int) * n - S).natAbs : Nat) : Int) ≤ c * 252 := Int.mul_le_mul_of_nonneg_left h3 (by omega)
    have h5 : 0 ≤ c * ((((i : Int) * n - S).natAbs : Nat) : Int) := Int.mul_nonneg (by omega) (by omega)
    simp only [dv, List.sum_cons]
    omega

theorem FD.scB {x : List Int} (h : FD x) : 0 ≤ sc 0 x ∧ sc 0 x ≤ 252 := by
  have := fd_sc x 0 h.2.2 (by have := h.2.1; omega)
  have := h.sum
  omega

/-- the sum of the distances -/
def dd (x : List Int) : Int := dv x.sum (sc 0 x) 0 x

theorem FD.ddB {x : List Int} (h : FD x) : 0 ≤ dd x ∧ dd x ≤ 10584 := by
  have s := h.sum
  have := fd_dv x.sum (sc 0 x) (by omega) h.scB x 0 h.2.2 (by have := h.2.1; omega)
  unfold dd
  omega

theorem FD.sqB {x : List Int} (h : FD x) : 1 ≤ x.sum * x.sum ∧ x.sum * x.sum ≤ 1764 := by
  have s := h.sum
  have h1 : 0 < x.sum * x.sum := Int.mul_pos (by omega) (by omega)
  have h2 : x.sum * x.sum ≤ 42 * 42 := Int.mul_le_mul s.2 s.2 (by omega) (by omega)
  omega

theorem mn_eq {x : List Int} (h : FD x) : mn x = (sc 0 x : Rat) / (x.sum : Rat) := by
  have s := h.sum
  unfold mn
  rw [Rat.mkRat_eq_div]
  have : ((x.sum.toNat : Nat) : Rat) = (((x.sum.toNat : Nat) : Int) : Rat) := rfl
  rw [this, show ((x.sum.toNat : Nat) : Int) = x.sum by omega]

theorem dvn_eq {x : List Int} (h : FD x) : dvn x = (dd x : Rat) / ((x.sum : Rat) * (x.sum : Rat)) := by
  have s := h.sqB
  unfold dvn dd
  rw [Rat.mkRat_eq_div]
  have : (((x.sum * x.sum).toNat : Nat) : Rat) = ((((x.sum * x.sum).toNat : Nat) : Int) : Rat) := rfl
  rw [this, show (((x.sum * x.sum).toNat : Nat) : Int) = x.sum * x.sum by omega, Rat.intCast_mul]

theorem mn_bd {x : List Int} (h : FD x) : Bd 8 6 (mn x) := by
  have s := h.sum
  have := h.scB
  exact bd_mk (by omega) (by show _ ≤ 256; omega) (by show _ ≤ 64; omega)

theorem dvn_bd {x : List Int} (h : FD x) : Bd 14 11 (dvn x) := by
  have s := h.sqB
  have := h.ddB
  unfold dd at this
  exact bd_mk (by omega) (by show _ ≤ 16384; omega) (by show _ ≤ 2048; omega)

theorem c_bothM {x y : List Int} (hx : FD x) (hy : FD y) : cw f_equating_both [aD x, aD y, .fn f_distribution_Mean []] [] = some (r_equating_both.enc (ofR (mn x), ofR (mn y), 0)) := by
  have sx := hx.sum
  have sy := hy.sum
  refine e_equating_both_Mean _ _ ?_
  rw [callD_of (c_DValid hx.dg), brn_nt, callD_of (c_DValid hy.dg), brn_nt, callD_of (c_DCount hx.dg), brn_f (beq_false_of_ne (by omega)), callD_of (c_DCount hy.dg), brn_f (beq_false_of_ne (by omega)), callD_of (c_DMean hx.dg (by omega)), brn_f (by rfl), callD_of (c_DMean hy.dg (by omega)), brn_f (by rfl)]

theorem c_bothD {x y : List Int} (hx : FD x) (hy : FD y) : cw f_equating_both [aD x, aD y, .fn f_distribution_Deviation []] [] = some (r_equating_both.enc (ofR (dvn x), ofR (dvn y), 0)) := by
  have sx := hx.sum
  have sy := hy.sum
  refine e_equating_both_Deviation _ _ ?_
  rw [callD_of (c_DValid hx.dg), brn_nt, callD_of (c_DValid hy.dg), brn_nt, callD_of (c_DCount hx.dg), brn_f (beq_false_of_ne (by omega)), callD_of (c_DCount hy.dg), brn_f (beq_false_of_ne (by omega)), callD_of (c_DDev hx.dg (by omega)), brn_f (by rfl), callD_of (c_DDev hy.dg (by omega)), brn_f (by rfl)]

theorem c_through {s mx my : Rat} (h1 : MulOk s mx) (h2 : AddOk my (s * mx)) (h : LineOk s (my - s * mx)) : cw f_equating_through [aR s, aR mx, aR my] [] = some (r_equating_through.enc (⟨(lp s (my - s * mx)).map ofP⟩, 0)) := by
  refine e_equating_through _ _ _ ?_
  rw [callD_of (g_Mul h1), brn_f (by rfl), callD_of (g_Sub h2), brn_f (by rfl), callD_of (g_Line (.mk h.bs h.bt (by omega) (by omega) (by omega)) (.mk h.bs (by omega) (by omega)) (.mk h.bt (by omega) (by omega)) h.pos)]
  rfl

/-- the line of the means -/
theorem lineM {x y : List Int} (hx : FD x) (hy : FD y) : LineOk 1 (mn y - 1 * mn x) := by
  have e : (1 : Rat) * mn x = mn x := by grind
  rw [e]
  have b1 := mn_bd hx
  have b2 := mn_bd hy
  have b3 : Bd 15 12 (mn y - mn x) := b2.sub b1 (by omega) (by omega) (by omega)
  exact ⟨by decide, one_bd.mono (by omega) (by omega), b3.mono (by omega) (by omega), (one_bd.add b3 (N := 16) (D := 12) (by omega) (by omega) (by omega)).mono (by omega) (by omega)⟩

theorem c_EMean {x y : List Int} (hx : FD x) (hy : FD y) : cw f_equating_Mean [aD x, aD y] [] = some (r_equating_Mean.enc (⟨(lp 1 (mn y - 1 * mn x)).map ofP⟩, 0)) := by
  have b1 := mn_bd hx
  have b2 := mn_bd hy
  have e : (1 : Rat) * mn x = mn x := by grind
  have hl := lineM hx hy
  have ht := c_through (s := 1) (mx := mn x) (my := mn y) (.mk one_bd b1 (by omega) (by omega)) (by rw [e]; exact .mk b2 b1 (by omega) (by omega) (by omega)) hl
  refine e_equating_Mean _ _ ?_
  rw [callD_of (c_bothM hx hy), brn_f (by rfl)]
  show callD r_equating_through (cw f_equating_through [aR 1, aR (mn x), aR (mn y)] []) _ = _
  rw [callD_of ht]

/-- the line of the deviations -/
def ls (x y : List Int) : Rat := dvn y / dvn x
def lt (x y : List Int) : Rat := mn y - ls x y * mn x

theorem dd_pos {x : List Int} (h : FD x) (h0 : dvn x ≠ 0) : 0 < dd x := by
  have hd := h.ddB
  by_cases hz : dd x = 0
  · exfalso
    apply h0
    rw [dvn_eq h, hz]
    show ((0 : Int) : Rat) / _ = 0
    show (0 : Rat) / _ = 0
    rw [Rat.div_def]; grind
  · omega

theorem lineL {x y : List Int} (hx : FD x) (hy : FD y) (h0 : dvn x ≠ 0) (h1 : dvn y ≠ 0) : LineOk (ls x y) (lt x y) ∧ MulOk (ls x y) (mn x) ∧ AddOk (mn y) (ls x y * mn x) ∧ Bd 28 25 ((mn x + dvn x) * ls x y) ∧ Bd 27 25 (mn x * ls x y) := by
  have dx := dd_pos hx h0
  have dy := dd_pos hy h1
  have bdx := hx.ddB
  have bdy := hy.ddB
  have sx := hx.sum
  have sy := hy.sum
  have cx := hx.scB
  have cy := hy.scB
  have qx := hx.sqB
  have qy := hy.sqB
  have bs : Bd 25 25 (ls x y) := by
    unfold ls
    rw [Rat.div_def]
    exact (dvn_bd hy).mul (dvn_bd hx).inv (by omega) (by omega)
  -- the common denominator
  have hK0 : 0 < dd x * (y.sum * y.sum) := Int.mul_pos dx (by omega)
  have hK1 : dd x * (y.sum * y.sum) ≤ 10584 * 1764 := Int.mul_le_mul bdx.2 qy.2 (by omega) (by omega)
  have n1 := ratNe dx
  have n2 := ratNe dy
  have n3 := ratNe (show 0 < x.sum by omega)
  have n4 := ratNe (show 0 < y.sum by omega)
  have eK : (((dd x * (y.sum * y.sum)).toNat : Nat) : Rat) = (dd x : Rat) * ((y.sum : Rat) * (y.sum : Rat)) := by
    have : (((dd x * (y.sum * y.sum)).toNat : Nat) : Rat) = ((((dd x * (y.sum * y.sum)).toNat : Nat) : Int) : Rat) := rfl
    rw [this, show (((dd x * (y.sum * y.sum)).toNat : Nat) : Int) = dd x * (y.sum * y.sum) by omega, Rat.intCast_mul, Rat.intCast_mul]
  have es : ls x y * ((dd x : Rat) * ((y.sum : Rat) * (y.sum : Rat))) = (dd y : Rat) * ((x.sum : Rat) * (x.sum : Rat)) := by
    unfold ls
    rw [dvn_eq hx, dvn_eq hy]
    generalize (dd x : Rat) = A at *
    generalize (dd y : Rat) = B at *
    generalize (x.sum : Rat) = N at *
    generalize (y.sum : Rat) = M at *
    have h3 : N * N ≠ 0 := by intro hc; rcases Rat.mul_eq_zero.1 hc with h | h <;> exact n3 h
    have h4 : M * M ≠ 0 := by intro hc; rcases Rat.mul_eq_zero.1 hc with h | h <;> exact n4 h
    have h5 : A / (N * N) ≠ 0 := by
      intro hc
      have : A = A / (N * N) * (N * N) := by grind
      grind
    have h6 : B / (M * M) / (A / (N * N)) * (A / (N * N)) = B / (M * M) := by grind
    have h7 : B / (M * M) / (A / (N * N)) * A = B / (M * M) * (N * N) := by
      have : B / (M * M) / (A / (N * N)) * A = B / (M * M) / (A / (N * N)) * (A / (N * N)) * (N * N) := by grind
      rw [this, h6]
    have h8 : B / (M * M) / (A / (N * N)) * (A * (M * M)) = B / (M * M) / (A / (N * N)) * A * (M * M) := by grind
    rw [h8, h7]
    grind
  have em : mn x * (x.sum : Rat) = (sc 0 x : Rat) := by rw [mn_eq hx]; grind
  have en : mn y * (y.sum : Rat) = (sc 0 y : Rat) := by rw [mn_eq hy]; grind
  have ed : dvn x * ((x.sum : Rat) * (x.sum : Rat)) = (dd x : Rat) := by
    rw [dvn_eq hx]
    have h3 : (x.sum : Rat) * (x.sum : Rat) ≠ 0 := by intro hc; rcases Rat.mul_eq_zero.1 hc with h | h <;> exact n3 h
    grind
  have ems : mn x * ls x y * ((dd x : Rat) * ((y.sum : Rat) * (y.sum : Rat))) = (dd y : Rat) * (x.sum : Rat) * (sc 0 x : Rat) := by
    have : mn x * ls x y * ((dd x : Rat) * ((y.sum : Rat) * (y.sum : Rat))) = mn x * (ls x y * ((dd x : Rat) * ((y.sum : Rat) * (y.sum : Rat)))) := by grind
    rw [this, es]
    have : mn x * ((dd y : Rat) * ((x.sum : Rat) * (x.sum : Rat))) = (dd y : Rat) * (x.sum : Rat) * (mn x * (x.sum : Rat)) := by grind
    rw [this, em]
  -- sizes
  have p1 : dd y * x.sum ≤ 10584 * 42 := Int.mul_le_mul bdy.2 sx.2 (by omega) (by omega)
  have p1' : 0 ≤ dd y * x.sum := Int.mul_nonneg (by omega) (by omega)
  have p2 : dd y * x.sum * sc 0 x ≤ (10584 * 42) * 252 := Int.mul_le_mul p1 cx.2 (by omega) (by omega)
  have p3 : 0 ≤ dd y * x.sum * sc 0 x := Int.mul_nonneg p1' (by omega)
  have p4 : sc 0 y * y.sum ≤ 252 * 42 := Int.mul_le_mul cy.2 sy.2 (by omega) (by omega)
  have p4' : 0 ≤ sc 0 y * y.sum := Int.mul_nonneg (by omega) (by omega)
  have p5 : sc 0 y * y.sum * dd x ≤ (252 * 42) * 10584 := Int.mul_le_mul p4 bdx.2 (by omega) (by omega)
  have p6 : 0 ≤ sc 0 y * y.sum * dd x := Int.mul_nonneg p4' (by omega)
  have p7 : dd y * (x.sum * x.sum) ≤ 10584 * 1764 := Int.mul_le_mul bdy.2 qx.2 (by omega) (by omega)
  have p8 : 0 ≤ dd y * (x.sum * x.sum) := Int.mul_nonneg (by omega) (by omega)
  have p9 : dd y * dd x ≤ 10584 * 10584 := Int.mul_le_mul bdy.2 bdx.2 (by omega) (by omega)
  have p9' : 0 ≤ dd y * dd x := Int.mul_nonneg (by omega) (by omega)
  have et : lt x y * ((dd x : Rat) * ((y.sum : Rat) * (y.sum : Rat))) = ((sc 0 y * y.sum * dd x - dd y * x.sum * sc 0 x : Int) : Rat) := by
    rw [Rat.intCast_sub, Rat.intCast_mul, Rat.intCast_mul, Rat.intCast_mul, Rat.intCast_mul]
    unfold lt
    have : (mn y - ls x y * mn x) * ((dd x : Rat) * ((y.sum : Rat) * (y.sum : Rat))) = (mn y * (y.sum : Rat)) * (y.sum : Rat) * (dd x : Rat) - mn x * ls x y * ((dd x : Rat) * ((y.sum : Rat) * (y.sum : Rat))) := by grind
    rw [this, en, ems]
  have bt : Bd 27 25 (lt x y) := bd_eq (N := sc 0 y * y.sum * dd x - dd y * x.sum * sc 0 x) (D := (dd x * (y.sum * y.sum)).toNat) (by rw [eK]; exact et) (by omega) (by show _ ≤ 134217728; omega) (by show _ ≤ 33554432; omega)
  have bst : Bd 28 25 (ls x y + lt x y) := bd_eq (N := dd y * (x.sum * x.sum) + (sc 0 y * y.sum * dd x - dd y * x.sum * sc 0 x)) (D := (dd x * (y.sum * y.sum)).toNat) (by
    rw [eK, Rat.add_mul, et, es, Rat.intCast_add, Rat.intCast_mul (dd y), Rat.intCast_mul x.sum]) (by omega) (by show _ ≤ 268435456; omega) (by show _ ≤ 33554432; omega)
  have bms : Bd 27 25 (mn x * ls x y) := bd_eq (N := dd y * x.sum * sc 0 x) (D := (dd x * (y.sum * y.sum)).toNat) (by
    rw [eK, ems, Rat.intCast_mul, Rat.intCast_mul]) (by omega) (by show _ ≤ 134217728; omega) (by show _ ≤ 33554432; omega)
  have bfs : Bd 28 25 ((mn x + dvn x) * ls x y) := bd_eq (N := dd y * x.sum * sc 0 x + dd y * dd x) (D := (dd x * (y.sum * y.sum)).toNat) (by
    rw [eK, Rat.intCast_add, Rat.intCast_mul, Rat.intCast_mul, Rat.intCast_mul]
    have : (mn x + dvn x) * ls x y * ((dd x : Rat) * ((y.sum : Rat) * (y.sum : Rat))) = mn x * ls x y * ((dd x : Rat) * ((y.sum : Rat) * (y.sum : Rat))) + dvn x * (ls x y * ((dd x : Rat) * ((y.sum : Rat) * (y.sum : Rat)))) := by grind
    rw [this, ems, es]
    have : dvn x * ((dd y : Rat) * ((x.sum : Rat) * (x.sum : Rat))) = (dd y : Rat) * (dvn x * ((x.sum : Rat) * (x.sum : Rat))) := by grind
    rw [this, ed]) (by omega) (by show _ ≤ 268435456; omega) (by show _ ≤ 33554432; omega)
  have hpos : 0 < ls x y := by
    unfold ls
    rw [Rat.div_def]
    have g : ∀ z : List Int, FD z → 0 < dd z → 0 < dvn z := fun z hz hdz => by
      rw [dvn_eq hz, Rat.div_def]
      refine Rat.mul_pos (Rat.intCast_lt_intCast.2 hdz) (Rat.inv_pos.2 ?_)
      have hzs := hz.sum
      have h0z : ((0 : Int) : Rat) < (z.sum : Rat) := Rat.intCast_lt_intCast.2 (by omega)
      exact Rat.mul_pos h0z h0z
    exact Rat.mul_pos (g y hy dy) (Rat.inv_pos.2 (g x hx dx))
  refine ⟨⟨hpos, bs, bt, bst⟩, .mk bs (mn_bd hx) (by omega) (by omega), ?_, bfs, bms⟩
  have : ls x y * mn x = mn x * ls x y := by grind
  rw [this]
  exact .mk (mn_bd hy) bms (by omega) (by omega) (by omega)

theorem num0 (r : Rat) : (r.num == 0) = decide (r = 0) := by
  by_cases h : r = 0
  · subst h; rfl
  · rw [decide_eq_false h]
    exact beq_false_of_ne (fun h' => h (Rat.num_eq_zero.1 h'))

theorem c_Linear0 {x y : List Int} (hx : FD x) (hy : FD y) (h : dvn x = 0 ∨ dvn y = 0) : cw f_equating_Linear [aD x, aD y] [] = some (r_equating_Linear.enc (⟨[]⟩, 10)) := by
  refine e_equating_Linear _ _ ?_
  rw [callD_of (c_bothD hx hy), brn_f (by rfl)]
  show brn ((ofR (dvn x)).Num == 0) _ (brn ((ofR (dvn y)).Num == 0) _ _) = _
  rw [oN, oN, num0, num0]
  by_cases h0 : dvn x = 0
  · rw [decide_eq_true h0, brn_T]
  · rw [decide_eq_false h0, brn_F, decide_eq_true (by rcases h with h | h; exact absurd h h0; exact h), brn_T]

theorem c_Linear {x y : List Int} (hx : FD x) (hy : FD y) (h0 : dvn x ≠ 0) (h1 : dvn y ≠ 0) : cw f_equating_Linear [aD x, aD y] [] = some (r_equating_Linear.enc (⟨(lp (ls x y) (lt x y)).map ofP⟩, 0)) := by
  obtain ⟨hl, hm, ha, -, -⟩ := lineL hx hy h0 h1
  refine e_equating_Linear _ _ ?_
  rw [callD_of (c_bothD hx hy), brn_f (by rfl)]
  show brn ((ofR (dvn x)).Num == 0) _ (brn ((ofR (dvn y)).Num == 0) _ _) = _
  rw [oN, oN, num0, num0, decide_eq_false h0, decide_eq_false h1, brn_F, brn_F, callD_of (c_bothM hx hy), brn_f (by rfl), callD_of (c_Div (dvn y) (dvn x) (dvn_bd hy) (dvn_bd hx) h0 (by omega) (by omega)), brn_f (by rfl)]
  show callD r_equating_through (cw f_equating_through [aR (ls x y), aR (mn x), aR (mn y)] []) _ = _
  rw [callD_of (c_through hm ha hl)]
  rfl
end Go.Proofs.Ythhedegaeeadhaa
