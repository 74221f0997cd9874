/- The statement on shares. -/
import Derived.Test.YthhedegaeeadhaaLaws34a
namespace Go.Proofs.Ythhedegaeeadhaa
open Go.Ab Go.Pure
set_option linter.unusedVariables false

/-- the continuous number below a score, in a piece -/
def Fb (y : List Int) (k : Nat) (v : Rat) : Rat := ((y.take k).sum : Rat) + ((y.getD k 0 : Int) : Rat) * (v - ((k : Rat) - 1 / 2))

theorem getD_at {y : List Int} {k : Nat} (h : k < y.length) : y.getD k 0 = y[k] := by rw [List.getD_eq_getElem?_getD, List.getElem?_eq_getElem h]; rfl

theorem shr_mul {y : List Int} (h : FD y) (k : Nat) : shr y k * (y.sum : Rat) = ((y.take k).sum : Rat) := by
  unfold shr
  have := ratNe (show 0 < y.sum by have := h.sum; omega)
  grind

/-- within its own piece, a score has its share -/
theorem Fb_own {y : List Int} (h : FD y) {d : Nat} (hd : d < y.length) (s : Rat) : Fb y d (Qs (shr y) d s) = s * (y.sum : Rat) := by
  unfold Fb Qs
  rw [shr_diff h hd, getD_at hd]
  have n1 := ratNe (show 0 < y.sum by have := h.sum; omega)
  have n2 := ratNe (show 0 < y[d] by have := h.at hd; omega)
  have e := shr_mul h d
  rw [← e]
  generalize (y.sum : Rat) = M at *
  generalize (y[d] : Rat) = c at *
  generalize shr y d = b at *
  have n3 : c / M ≠ 0 := by
    intro hc
    have : c = c / M * M := by grind
    grind
  have f : c * ((s - b) / (c / M)) = (s - b) * M := by
    have g1 : (s - b) / (c / M) * (c / M) = s - b := by grind
    have g2 : c * ((s - b) / (c / M)) = (s - b) / (c / M) * (c / M) * M := by grind
    rw [g2, g1]
  have : b * M + c * ((d : Rat) - 1 / 2 + (s - b) / (c / M) - ((d : Rat) - 1 / 2)) = b * M + c * ((s - b) / (c / M)) := by grind
  rw [this, f]
  grind

theorem natR {a b : Nat} : ((a : Nat) : Rat) ≤ ((b : Nat) : Rat) ↔ a ≤ b := by
  have : ((a : Int) : Rat) ≤ ((b : Int) : Rat) ↔ (a : Int) ≤ (b : Int) := Rat.intCast_le_intCast
  constructor
  · intro h; have := this.1 h; omega
  · intro h; exact this.2 (by omega)

/-- in the piece where the search ends, too -/
theorem Fb_end {y : List Int} (h : FD y) {d : Nat} (hd : d < y.length) {s : Rat} (h1 : shr y d ≤ s) (h2 : s ≤ shr y (d + 1)) {k : Nat} (hk : k < y.length)
    (a1 : k = 0 ∨ (k : Rat) - 1 / 2 < Qs (shr y) d s) (a2 : k + 1 = y.length ∨ Qs (shr y) d s ≤ (k : Rat) + 1 / 2) : Fb y k (Qs (shr y) d s) = s * (y.sum : Rat) := by
  have hs := h.sh
  have up := hs.up d hd
  have hlo : (d : Rat) - 1 / 2 ≤ Qs (shr y) d s := by
    by_cases e : shr y d = s
    · rw [← e, Qs_0]; exact Rat.le_refl
    · have := Qs_up (i := d) up (s := shr y d) (t := s) (by grind)
      rw [Qs_0] at this; grind
  have hhi : Qs (shr y) d s ≤ (d : Rat) + 1 / 2 := by
    have e1 : ((d + 1 : Nat) : Rat) = (d : Rat) + 1 := by rw [Rat.natCast_add]; rfl
    by_cases e : s = shr y (d + 1)
    · rw [e, Qs_1 up, e1]; grind
    · have := Qs_up (i := d) up (s := s) (t := shr y (d + 1)) (by grind)
      rw [Qs_1 up, e1] at this; grind
  rcases Nat.lt_trichotomy k d with hc | hc | hc
  · have hle : Qs (shr y) d s ≤ (k : Rat) + 1 / 2 := by
      rcases a2 with a2 | a2
      · omega
      · exact a2
    have e1 : ((k + 1 : Nat) : Rat) = (k : Rat) + 1 := by rw [Rat.natCast_add]; rfl
    have h3 : ((d : Nat) : Rat) ≤ ((k + 1 : Nat) : Rat) := by rw [e1]; grind
    have hdk : d = k + 1 := by have := natR.1 h3; omega
    subst hdk
    have hv : Qs (shr y) (k + 1) s = ((k + 1 : Nat) : Rat) - 1 / 2 := by rw [e1] at hlo ⊢; grind
    have hse : s = shr y (k + 1) := by
      apply Decidable.byContradiction
      intro hne
      have := Qs_up (i := k + 1) up (s := shr y (k + 1)) (t := s) (by grind)
      rw [Qs_0, hv] at this
      grind
    rw [hv, hse]
    unfold Fb
    rw [getD_at hk, shr_mul h, take_next hk, Rat.intCast_add, e1]
    grind
  · subst hc; exact Fb_own h hk s
  · exfalso
    have hgt : (k : Rat) - 1 / 2 < Qs (shr y) d s := by
      rcases a1 with a1 | a1
      · omega
      · exact a1
    have h3 : ((d + 1 : Nat) : Rat) ≤ ((k : Nat) : Rat) := natR.2 (by omega)
    have e1 : ((d + 1 : Nat) : Rat) = (d : Rat) + 1 := by rw [Rat.natCast_add]; rfl
    rw [e1] at h3
    grind

theorem num_den (v : Rat) : v * (v.den : Rat) = (v.num : Rat) := by
  have h : v = (v.num : Rat) / (v.den : Rat) := by rw [← Rat.mkRat_eq_div, Rat.mkRat_self]
  have hn : (v.den : Rat) ≠ 0 := ratNe (N := (v.den : Int)) (by have := v.den_pos; omega)
  conv => lhs; rw [h]
  grind

theorem gt_half (v : Rat) (k : Nat) : (2 * (k : Int) + 1) * (v.den : Int) < v.num * 2 ↔ (k : Rat) + 1 / 2 < v := by
  have hp : ((0 : Int) : Rat) < ((v.den : Int) : Rat) := Rat.intCast_lt_intCast.2 (by have := v.den_pos; omega)
  have hp' : (0 : Rat) < (v.den : Rat) := hp
  have e := num_den v
  rw [← Rat.intCast_lt_intCast, Rat.intCast_mul, Rat.intCast_mul, Rat.intCast_add, Rat.intCast_mul]
  show (2 * (k : Rat) + 1) * (v.den : Rat) < (v.num : Rat) * 2 ↔ _
  rw [← e]
  have hi : 0 < (v.den : Rat)⁻¹ := Rat.inv_pos.2 hp'
  constructor
  · intro h
    have h2 : 0 < (v * (v.den : Rat) * 2 - (2 * (k : Rat) + 1) * (v.den : Rat)) * (v.den : Rat)⁻¹ := Rat.mul_pos (by grind) hi
    have h3 : (v * (v.den : Rat) * 2 - (2 * (k : Rat) + 1) * (v.den : Rat)) * (v.den : Rat)⁻¹ = v * 2 - (2 * (k : Rat) + 1) := by
      have : (v.den : Rat) ≠ 0 := by grind
      grind
    rw [h3] at h2
    grind
  · intro h
    have h2 : 0 < (v - ((k : Rat) + 1 / 2)) * (v.den : Rat) := Rat.mul_pos (by grind) hp'
    grind

/-- what the statement tests, in whole numbers -/
theorem test_int {x y : List Int} (hx : FD x) (hy : FD y) {v : Rat} {k c : Nat} (hk : k < y.length) (h : Fb y k v = shr x c * (y.sum : Rat)) :
    ((y.take k).sum * 2 * (v.den : Int) + y[k] * (2 * v.num - (2 * (k : Int) - 1) * (v.den : Int))) * x.sum = (x.take c).sum * y.sum * 2 * (v.den : Int) := by
  rw [← Rat.intCast_inj]
  simp only [Rat.intCast_mul, Rat.intCast_add, Rat.intCast_sub]
  have e := num_den v
  have s := shr_mul hx c
  unfold Fb at h
  rw [getD_at hk] at h
  show (((y.take k).sum : Rat) * 2 * (v.den : Rat) + (y[k] : Rat) * (2 * (v.num : Rat) - (2 * (k : Rat) - 1) * (v.den : Rat))) * (x.sum : Rat) = ((x.take c).sum : Rat) * (y.sum : Rat) * 2 * (v.den : Rat)
  rw [← e, ← s]
  generalize (v.den : Rat) = D at *
  generalize (x.sum : Rat) = N at *
  generalize (y.sum : Rat) = M at *
  generalize shr x c = a at *
  generalize ((y.take k).sum : Rat) = Y at *
  generalize (y[k] : Rat) = q at *
  have : (Y * 2 * D + q * (2 * (v * D) - (2 * (k : Rat) - 1) * D)) * N = 2 * D * N * (Y + q * (v - ((k : Rat) - 1 / 2))) := by grind
  rw [this, h]
  grind

theorem law_Shares (t : List Int) : cw f_law34_EquatingShares [.sl 1 (List.map dI_i64.enc t)] [] = some (r_law34_EquatingShares.enc true) := by
  refine e_law34_EquatingShares t ?_
  rw [callD_of (c_Light t), callD_of c_sane]
  by_cases ht : (t.length : Int) ≤ 600
  case neg => rw [decide_eq_false ht]; rfl
  rw [decide_eq_true ht, brn_nt, callD_of (c_Roll t)]
  obtain ⟨x, d1, h1, hd1, x1, x2, x3⟩ := c_Distribution ⟨t, 0⟩ 6 true ⟨Int.le_refl _, by show t.length ≤ 600; omega⟩ (by omega) (by omega)
  obtain ⟨y, d2, h2, hd2, y1, y2, y3⟩ := c_Distribution d1 6 true hd1 (by omega) (by omega)
  have hx := fd_of x1 x2 x3
  have hy := fd_of y1 y2 y3
  have sx := hx.sum
  have sy := hy.sum
  have hnice := pts_nice hx hy
  rw [callD_of h1, callD_of h2, callD_of (c_Percentile hx hy), brn_f (by rfl), callD_of (c_rCount hx.dg), callD_of (c_rCount hy.dg)]
  have loop : ∀ (n i : Nat), i + n = x.length + 1 → k_law34_EquatingShares_1 (⟨x⟩, d1) (⟨y⟩, d2) (⟨(nf (pc x y)).map ofP⟩, 0) x.sum y.sum (i : Int) = some (r_law34_EquatingShares.enc true) := by
    intro n
    induction n with
    | zero =>
      intro i hi
      refine t_law34_EquatingShares_1 _ _ _ _ _ _ ?_
      rw [brn_dec, if_neg (by show ¬ (i : Int) ≤ ((List.map dI_i64.enc x).length : Int); rw [lenI]; omega), callD_of c_sane]
    | succ n ih =>
      intro i hi
      obtain ⟨p, hp, p1, d, hd, b1, b2, p2⟩ := pts_knot hx.sh hy.sh i (by omega)
      have hv : cv (pc x y) p.1 = p.2 := ev_through hnice.asc hnice.len p hp
      have eu : mkRat (2 * (i : Int) - 1) 2 = p.1 := by
        rw [p1, Rat.mkRat_eq_div]
        have e2 : ((2 * (i : Int) - 1 : Int) : Rat) = 2 * (i : Rat) - 1 := by rw [Rat.intCast_sub, Rat.intCast_mul]; rfl
        have e4 : ((2 : Nat) : Rat) = 2 := rfl
        rw [e2, e4]; grind
      have bu : Bd 13 9 p.1 := by
        rw [← eu]
        exact bd_mk (by omega) (by show _ ≤ 8192; omega) (by show _ ≤ 512; omega)
      have bv := (hnice.pb p hp).2
      have bv1 : p.2.num.natAbs ≤ 4096 := bv.1
      have bv2 : p.2.den ≤ 512 := bv.2
      have hev := nfEval hx hy bu
      rw [hv] at hev
      have hnew : cw f_ref01_New [I (2 * (i : Int) - 1), I 2] [] = some (r_ref01_New.enc (ofR (mkRat (2 * i - 1) 2), 0)) := c_rNew (2 * i - 1) 2 (by omega) (by omega) (by omega)
      rw [eu] at hnew
      have e1 : w64 (w64 (2 * (i : Int)) - 1) = 2 * i - 1 := by rw [w64_id (n := 2 * (i : Int)) (by omega) (by omega), w64_id (by omega) (by omega)]
      have ei : w64 ((i : Int) + 1) = ((i + 1 : Nat) : Int) := by rw [w64_id (by omega) (by omega)]; omega
      have tx := hx.take i
      -- the test at the end of the search
      have test : ∀ k : Nat, k < y.length → (k = 0 ∨ (k : Rat) - 1 / 2 < p.2) → (k + 1 = y.length ∨ p.2 ≤ (k : Rat) + 1 / 2) →
          k_law34_EquatingShares_1019 (⟨x⟩, d1) (⟨y⟩, d2) (⟨(nf (pc x y)).map ofP⟩, 0) x.sum y.sum (i : Int) (ofR p.2, 0) (k : Int) = some (r_law34_EquatingShares.enc true) := by
        intro k hk a1 a2
        rw [p2] at a1 a2
        have hF := Fb_end hy hd b1 b2 hk a1 a2
        rw [← p2] at hF
        have hint := test_int hx hy hk hF
        have ty := hy.take k
        have ak := hy.at hk
        have bb := c_rBelow hy.dg (k : Int)
        have ba := c_rBelow hx.dg (i : Int)
        rw [Int.toNat_natCast] at bb ba
        refine t_law34_EquatingShares_1019 _ _ _ _ _ _ _ _ ?_
        rw [callD_of bb, chk_pos (by omega), Int.toNat_natCast]
        show elemD dI_i64 (List.map dI_i64.enc y) k _ = _
        rw [elemI hk, callD_of ba]
        dsimp only
        rw [oN, oD, ei]
        have ky : (k : Int) ≤ 6 := by have := hy.2.1; omega
        have m0 : (y.take k).sum * 2 * (p.2.den : Int) ≤ 84 * 512 := Int.mul_le_mul (by omega) (by omega) (by omega) (by omega)
        have m0' : 0 ≤ (y.take k).sum * 2 * (p.2.den : Int) := Int.mul_nonneg (by omega) (by omega)
        have m1 : (2 * (k : Int) - 1) * (p.2.den : Int) ≤ 11 * (p.2.den : Int) := Int.mul_le_mul_of_nonneg_right (by omega) (by omega)
        have m2 : (-1) * (p.2.den : Int) ≤ (2 * (k : Int) - 1) * (p.2.den : Int) := Int.mul_le_mul_of_nonneg_right (by omega) (by omega)
        have m3 : -20000 ≤ 2 * p.2.num - (2 * (k : Int) - 1) * (p.2.den : Int) ∧ 2 * p.2.num - (2 * (k : Int) - 1) * (p.2.den : Int) ≤ 20000 := by omega
        have m4 : -120000 ≤ y[k] * (2 * p.2.num - (2 * (k : Int) - 1) * (p.2.den : Int)) ∧ y[k] * (2 * p.2.num - (2 * (k : Int) - 1) * (p.2.den : Int)) ≤ 120000 := by
          generalize 2 * p.2.num - (2 * (k : Int) - 1) * (p.2.den : Int) = z at *
          have c1 : y[k] * z ≤ y[k] * 20000 := Int.mul_le_mul_of_nonneg_left m3.2 (by omega)
          have c2 : y[k] * (-20000) ≤ y[k] * z := Int.mul_le_mul_of_nonneg_left m3.1 (by omega)
          omega
        have m5 : -8400000 ≤ ((y.take k).sum * 2 * (p.2.den : Int) + y[k] * (2 * p.2.num - (2 * (k : Int) - 1) * (p.2.den : Int))) * x.sum ∧ ((y.take k).sum * 2 * (p.2.den : Int) + y[k] * (2 * p.2.num - (2 * (k : Int) - 1) * (p.2.den : Int))) * x.sum ≤ 8400000 := by
          generalize hz : (y.take k).sum * 2 * (p.2.den : Int) + y[k] * (2 * p.2.num - (2 * (k : Int) - 1) * (p.2.den : Int)) = z at *
          have c1 : z * x.sum ≤ 200000 * x.sum := Int.mul_le_mul_of_nonneg_right (by omega) (by omega)
          have c2 : (-200000) * x.sum ≤ z * x.sum := Int.mul_le_mul_of_nonneg_right (by omega) (by omega)
          omega
        have m6 : (x.take i).sum * y.sum ≤ 42 * 42 := Int.mul_le_mul (by omega) (by omega) (by omega) (by omega)
        have m6' : 0 ≤ (x.take i).sum * y.sum := Int.mul_nonneg (by omega) (by omega)
        have m7 : (x.take i).sum * y.sum * 2 * (p.2.den : Int) ≤ 3528 * 512 := Int.mul_le_mul (by omega) (by omega) (by omega) (by omega)
        have m7' : 0 ≤ (x.take i).sum * y.sum * 2 * (p.2.den : Int) := Int.mul_nonneg (by omega) (by omega)
        rw [w64_id (n := (y.take k).sum * 2) (by omega) (by omega), w64_id (n := (y.take k).sum * 2 * _) (by omega) (by omega), w64_id (n := 2 * p.2.num) (by omega) (by omega), w64_id (n := 2 * (k : Int)) (by omega) (by omega), w64_id (n := 2 * (k : Int) - 1) (by omega) (by omega),
          w64_id (n := (2 * (k : Int) - 1) * _) (by omega) (by omega), w64_id (n := 2 * p.2.num - _) (by omega) (by omega), w64_id (n := y[k] * _) (by omega) (by omega), w64_id (n := (y.take k).sum * 2 * _ + _) (by omega) (by omega), w64_id (n := _ * x.sum) (by omega) (by omega),
          w64_id (n := (x.take i).sum * y.sum) (by omega) (by omega), w64_id (n := (x.take i).sum * y.sum * 2) (by omega) (by omega), w64_id (n := (x.take i).sum * y.sum * 2 * _) (by omega) (by omega), hint, brn_f (by simp)]
        exact ih (i + 1) (by omega)
      -- the search
      have search : ∀ (m k : Nat), k + m + 1 = y.length → (k = 0 ∨ (k : Rat) - 1 / 2 < p.2) →
          k_law34_EquatingShares_2 (⟨x⟩, d1) (⟨y⟩, d2) (⟨(nf (pc x y)).map ofP⟩, 0) x.sum y.sum (i : Int) (ofR p.2, 0) (k : Int) = some (r_law34_EquatingShares.enc true) := by
        have hyl := hy.2.1
        intro m
        induction m with
        | zero =>
          intro k hk a1
          refine t_law34_EquatingShares_2 _ _ _ _ _ _ _ _ ?_
          have ek : w64 ((k : Int) + 1) = ((k + 1 : Nat) : Int) := by rw [w64_id (by omega) (by omega)]; omega
          rw [ek, brn_dec, if_neg (by show ¬ ((k + 1 : Nat) : Int) < ((List.map dI_i64.enc y).length : Int); rw [lenI]; omega)]
          exact test k (by omega) a1 (.inl (by omega))
        | succ m ihm =>
          intro k hk a1
          refine t_law34_EquatingShares_2 _ _ _ _ _ _ _ _ ?_
          have ek : w64 ((k : Int) + 1) = ((k + 1 : Nat) : Int) := by rw [w64_id (by omega) (by omega)]; omega
          have m1 : (2 * (k : Int) + 1) * (p.2.den : Int) ≤ 15 * (p.2.den : Int) := Int.mul_le_mul_of_nonneg_right (by omega) (by omega)
          have m2 : 0 ≤ (2 * (k : Int) + 1) * (p.2.den : Int) := Int.mul_nonneg (by omega) (by omega)
          rw [ek, brn_dec, if_pos (by show ((k + 1 : Nat) : Int) < ((List.map dI_i64.enc y).length : Int); rw [lenI]; omega), brn_dec]
          dsimp only
          rw [oN, oD, w64_id (n := 2 * (k : Int)) (by omega) (by omega), w64_id (n := 2 * (k : Int) + 1) (by omega) (by omega), w64_id (n := (2 * (k : Int) + 1) * _) (by omega) (by omega), w64_id (n := p.2.num * 2) (by omega) (by omega)]
          have hg := gt_half p.2 k
          by_cases hc : (2 * (k : Int) + 1) * (p.2.den : Int) < p.2.num * 2
          · rw [if_pos hc]
            refine ihm (k + 1) (by omega) (.inr ?_)
            have := hg.1 hc
            have e1 : ((k + 1 : Nat) : Rat) = (k : Rat) + 1 := by rw [Rat.natCast_add]; rfl
            rw [e1]; grind
          · rw [if_neg hc]
            refine test k (by omega) a1 (.inr ?_)
            have : ¬ ((k : Rat) + 1 / 2 < p.2) := fun h => hc (hg.2 h)
            grind
      refine t_law34_EquatingShares_1 _ _ _ _ _ _ ?_
      rw [brn_dec, if_pos (by show (i : Int) ≤ ((List.map dI_i64.enc x).length : Int); rw [lenI]; omega), e1, callD_of hnew]
      show callD r_conversion_Eval (cw f_conversion_Eval [aC (nf (pc x y)), aR p.1] []) _ = _
      rw [callD_of hev, brn_f (by rfl), brn_f (by rfl)]
      exact search (y.length - 1) 0 (by have := hy.1; omega) (.inl rfl)
  exact loop (x.length + 1) 0 (by omega)
end Go.Proofs.Ythhedegaeeadhaa
