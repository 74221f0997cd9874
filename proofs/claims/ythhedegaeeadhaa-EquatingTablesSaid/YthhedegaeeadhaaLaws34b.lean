/- The statement on tables. -/
import Derived.Test.YthhedegaeeadhaaLaws34a
import Derived.Test.YthhedegaeeadhaaCurve
namespace Go.Proofs.Ythhedegaeeadhaa
open Go.Ab Go.Pure
set_option linter.unusedVariables false

/-- a converted mark -/
def cvt (l : List Pt) (most : Int) (i : Nat) : Int := cut most (rnd (cv l ((i : Int) : Rat)))

theorem c_isScore (n : Int) (h0 : 0 ≤ n) (h1 : n ≤ 200) : cw f_equating_isScore [I n] [] = some (r_equating_isScore.enc true) := by
  refine e_equating_isScore n ?_
  rw [brn_dec, if_pos h0, decide_eq_true h1]

theorem c_Table (l : List Pt) (n : Nat) (most : Int) (ha : Asc l) (hl : 2 ≤ l.length) (hl2 : l.length ≤ 5) (hb : PB 5 0 5 0 l) (hn : n ≤ 50) (h0 : 0 ≤ most) (h1 : most ≤ 200) :
    cw f_equating_Table [aC l, I (n : Int), I most] [] = some (r_equating_Table.enc ((List.range (n + 1)).map (cvt l most), 0)) := by
  have ew : w64 ((n : Int) + 1) = ((n + 1 : Nat) : Int) := by rw [w64_id (by omega) (by omega)]; omega
  have key : ∀ (k i : Nat) (m : List Int), i + k = n + 1 → m.length = n + 1 →
      k_equating_Table_1 ⟨l.map ofP⟩ (n : Int) most (List.map dI_i64.enc m) (i : Int) = some (r_equating_Table.enc (m.take i ++ ((List.range (n + 1)).map (cvt l most)).drop i, 0)) := by
    intro k
    induction k with
    | zero =>
      intro i m hi hm
      refine t_equating_Table_1 _ _ _ _ _ ?_
      rw [List.length_replicate, ew, Int.toNat_natCast, brn_dec, if_neg (by omega), chk_pos (by rw [lenI]; omega), List.take_of_length_le (by rw [lenI]; omega), List.take_of_length_le (by omega), List.drop_eq_nil_of_le (by simp; omega), List.append_nil]
    | succ k ih =>
      intro i m hi hm
      have e : w64 ((i : Int) + 1) = ((i + 1 : Nat) : Int) := by rw [w64_id (by omega) (by omega)]; omega
      refine t_equating_Table_1 _ _ _ _ _ ?_
      rw [List.length_replicate, ew, Int.toNat_natCast, brn_dec, if_pos (by omega), callD_of (c_Convert l (i : Int) most ha hl (by omega) hb (by omega) (by omega) h0 h1 (by decide) (by decide)), brn_f (by rfl), chk_pos (by omega), chk_pos (by omega), Int.toNat_natCast, Nat.zero_add, elemI (by omega), e]
      show k_equating_Table_1 ⟨l.map ofP⟩ (n : Int) most (List.set (List.map dI_i64.enc m) i (dI_i64.enc (cvt l most i))) ((i + 1 : Nat) : Int) = _
      rw [← List.map_set, ih (i + 1) (m.set i (cvt l most i)) (by omega) (by rw [List.length_set]; exact hm)]
      congr 3
      have hx : ((List.range (n + 1)).map (cvt l most)).drop i = cvt l most i :: ((List.range (n + 1)).map (cvt l most)).drop (i + 1) := by
        rw [List.drop_eq_getElem_cons (by simp; omega)]
        congr 1
        simp
      rw [hx, List.take_add_one, List.getElem?_set_self (by omega), List.take_set_of_le (Nat.le_refl i)]
      simp
  refine e_equating_Table _ _ _ ?_
  have h := key (n + 1) 0 (List.replicate (n + 1) 0) (by omega) (by simp)
  rw [List.take_zero, List.nil_append, List.drop_zero] at h
  rw [callD_of (c_isScore n (by omega) (by omega)), brn_nt, callD_of (c_isScore most h0 h1), brn_nt, chk_pos rfl, ew, chk_pos (by omega), Int.toNat_natCast, chk_pos (by omega), ← h, List.map_replicate]
  rfl

/-! ## sums by classes -/

/-- the sum of the first i numbers whose class is below k -/
def S (f : Nat → Int) (d : Nat → Int) : Nat → Int → Int
  | 0, _ => 0
  | i + 1, k => S f d i k + if f i < k then d i else 0

/-- the sum of the first i numbers -/
def T (d : Nat → Int) : Nat → Int
  | 0 => 0
  | i + 1 => T d i + d i

theorem S_le (f d : Nat → Int) (hd : ∀ i, 0 ≤ d i) : ∀ (i : Nat) (k : Int), 0 ≤ S f d i k ∧ S f d i k ≤ T d i
  | 0, _ => ⟨Int.le_refl _, Int.le_refl _⟩
  | i + 1, k => by
    have := S_le f d hd i k
    have := hd i
    simp only [S, T]
    split <;> omega

theorem S_all (f d : Nat → Int) (k : Int) : ∀ (i : Nat), (∀ c, c < i → f c < k) → S f d i k = T d i
  | 0, _ => rfl
  | i + 1, h => by
    simp only [S, T]
    rw [S_all f d k i (fun c hc => h c (by omega)), if_pos (h i (by omega))]

theorem S_stop (f d : Nat → Int) (k : Int) (i : Nat) (h : ∀ c, i ≤ c → k ≤ f c) : ∀ (n : Nat), S f d (i + n) k = S f d i k
  | 0 => rfl
  | n + 1 => by
    show S f d (i + n) k + (if f (i + n) < k then d (i + n) else 0) = _
    have := h (i + n) (by omega)
    rw [S_stop f d k i h n, if_neg (by omega)]
    omega

theorem S_mono (f d : Nat → Int) (hd : ∀ i, 0 ≤ d i) (k : Int) (i : Nat) : ∀ (n : Nat), S f d i k ≤ S f d (i + n) k
  | 0 => Int.le_refl _
  | n + 1 => by
    show _ ≤ S f d (i + n) k + (if f (i + n) < k then d (i + n) else 0)
    have := S_mono f d hd k i n
    have := hd (i + n)
    split <;> omega

theorem T_take (l : List Int) : ∀ (i : Nat), i ≤ l.length → T (fun j => l.getD j 0) i = (l.take i).sum
  | 0, _ => by simp [T]
  | i + 1, h => by
    simp only [T]
    rw [T_take l i (by omega), List.take_add_one, List.getElem?_eq_getElem (by omega), List.sum_append, List.getD_eq_getElem?_getD, List.getElem?_eq_getElem (by omega)]
    simp

theorem set_take : ∀ (m : List Int) (j k : Nat) (c : Int) (hj : j < m.length), ((m.set j (m[j] + c)).take k).sum = (m.take k).sum + if j < k then c else 0
  | [], _, _, _, hj => by simp at hj
  | a :: m, 0, 0, c, _ => by simp
  | a :: m, 0, k + 1, c, _ => by simp; omega
  | a :: m, j + 1, 0, c, _ => by simp
  | a :: m, j + 1, k + 1, c, hj => by
    have := set_take m j k c (by simpa using hj)
    simp only [List.set_cons_succ, List.take_succ_cons, List.sum_cons, List.getElem_cons_succ]
    rw [this]
    have : (j + 1 < k + 1) = (j < k) := by simp
    simp only [this]
    omega

theorem c_EConvert (x : List Int) (l : List Pt) (most : Int) (hx : DG x) (hx2 : x.length ≤ 10) (hx3 : ∀ c ∈ x, c ≤ 6) (ha : Asc l) (hl : 2 ≤ l.length) (hl2 : l.length ≤ 5) (hb : PB 5 0 5 0 l) (h0 : 0 ≤ most) (h1 : most ≤ 100) :
    ∃ m : List Int, cw f_equating_Convert [aD x, aC l, I most] [] = some (r_equating_Convert.enc (⟨m⟩, 0)) ∧ (m.length : Int) = most + 1 ∧ (∀ c ∈ m, 0 ≤ c ∧ c ≤ 60) ∧ ∀ k : Nat, (m.take k).sum = S (cvt l most) (fun j => x.getD j 0) x.length k := by
  have hx1 := hx.1
  have ew : w64 (most + 1) = (((most + 1).toNat : Nat) : Int) := by rw [w64_id (by omega) (by omega)]; omega
  have hc : ∀ i, 0 ≤ cvt l most i ∧ cvt l most i ≤ most := fun i => cut_bd h0
  have hd : ∀ i, 0 ≤ x.getD i 0 ∧ x.getD i 0 ≤ 6 := fun i => by
    rw [List.getD_eq_getElem?_getD]
    by_cases hi : i < x.length
    · rw [List.getElem?_eq_getElem hi]
      have := hx.at hi
      have := hx3 _ (List.getElem_mem hi)
      simp only [Option.getD_some]
      omega
    · rw [List.getElem?_eq_none (by omega)]; simp
  have hT : ∀ i, i ≤ 10 → 0 ≤ T (fun j => x.getD j 0) i ∧ T (fun j => x.getD j 0) i ≤ 6 * i := by
    intro i
    induction i with
    | zero => intro _; simp [T]
    | succ i ih => intro hi; have := ih (by omega); have := hd i; simp only [T]; omega
  have key : ∀ (k i : Nat) (m : List Int), i + k = x.length → m.length = (most + 1).toNat → (∀ c ∈ m, 0 ≤ c ∧ c ≤ T (fun j => x.getD j 0) i) → (∀ q : Nat, (m.take q).sum = S (cvt l most) (fun j => x.getD j 0) i q) →
      ∃ m' : List Int, k_equating_Convert_1 ⟨x⟩ most ((List.range x.length).map (cvt l most), 0) (List.map dI_i64.enc m) (i : Int) = some (r_equating_Convert.enc (⟨m'⟩, 0)) ∧ m'.length = (most + 1).toNat ∧ (∀ c ∈ m', 0 ≤ c ∧ c ≤ 60) ∧ ∀ q : Nat, (m'.take q).sum = S (cvt l most) (fun j => x.getD j 0) x.length q := by
    intro k
    induction k with
    | zero =>
      intro i m hi hm hcm hq
      refine ⟨m, t_equating_Convert_1 _ _ _ _ _ ?_, hm, fun c hc' => by have := hcm c hc'; have := hT i (by omega); omega, fun q => by rw [hq q, show i = x.length by omega]⟩
      rw [brn_dec, if_neg (by show ¬ (i : Int) < ((List.map dI_i64.enc x).length : Int); rw [lenI]; omega), List.length_replicate, ew, Int.toNat_natCast, chk_pos (by rw [lenI]; omega), List.take_of_length_le (by rw [lenI]; omega)]
    | succ k ih =>
      intro i m hi hm hcm hq
      have e : w64 ((i : Int) + 1) = ((i + 1 : Nat) : Int) := by rw [w64_id (by omega) (by omega)]; omega
      have hci := hc i
      have hj : (cvt l most i).toNat < m.length := by omega
      have hdi := hd i
      have hxi : x.getD i 0 = x[i] := by rw [List.getD_eq_getElem?_getD, List.getElem?_eq_getElem (by omega)]; rfl
      have hmj := hcm _ (List.getElem_mem hj)
      have hTi := hT i (by omega)
      obtain ⟨m', r1, r2, r3, r4⟩ := ih (i + 1) (m.set (cvt l most i).toNat (m[(cvt l most i).toNat] + x[i])) (by omega) (by rw [List.length_set]; exact hm) (by
        intro c hc'
        simp only [T]
        rcases List.mem_or_eq_of_mem_set hc' with h | h
        · have := hcm c h; omega
        · rw [h, ← hxi]; omega) (by
        intro q
        rw [set_take m _ q x[i] hj, hq q]
        simp only [S]
        rw [hxi]
        congr 1
        by_cases hlt : (cvt l most i).toNat < q
        · rw [if_pos hlt, if_pos (by omega)]
        · rw [if_neg hlt, if_neg (by omega)])
      refine ⟨m', t_equating_Convert_1 _ _ _ _ _ ?_, r2, r3, r4⟩
      rw [brn_dec, if_pos (by show (i : Int) < ((List.map dI_i64.enc x).length : Int); rw [lenI]; omega), chk_pos (by omega), Int.toNat_natCast]
      show elemD dI_i64 (List.map dI_i64.enc x) i _ = _
      rw [elemI (by omega), chk_pos (by omega)]
      show elemD dI_i64 (List.map dI_i64.enc ((List.range x.length).map (cvt l most))) i _ = _
      have hr : ((List.range x.length).map (cvt l most))[i]'(by simp; omega) = cvt l most i := by simp
      rw [elemI (by simp; omega), hr, chk_pos hci.1, List.length_replicate, ew, Int.toNat_natCast, chk_pos (by omega), Nat.zero_add, elemI hj, chk_pos hci.1, chk_pos (by omega), elemI hj, e, w64_id (by omega) (by omega), ← List.map_set]
      exact r1
  obtain ⟨m, r1, r2, r3, r4⟩ := key x.length 0 (List.replicate (most + 1).toNat 0) (by omega) (by simp) (by
    intro c hc'
    rw [(List.mem_replicate.1 hc').2]
    simp [T]) (by
    intro q
    rw [List.take_replicate]
    simp [S])
  refine ⟨m, e_equating_Convert _ _ _ ?_, by omega, r3, r4⟩
  have el : w64 (((List.map dI_i64.enc x).length : Int) - 1) = ((x.length - 1 : Nat) : Int) := by rw [lenI, w64_id (by omega) (by omega)]; omega
  have ht := c_Table l (x.length - 1) most ha hl hl2 hb (by omega) h0 (by omega)
  rw [show x.length - 1 + 1 = x.length by omega] at ht
  rw [callD_of (c_DValid hx), brn_nt]
  show callD r_equating_Table (cw f_equating_Table [aC l, I (w64 (((List.map dI_i64.enc x).length : Int) - 1)), I most] []) _ = _
  rw [el, callD_of ht, brn_f (by rfl), chk_pos rfl, ew, chk_pos (by omega), Int.toNat_natCast, chk_pos (by omega), ← r1, List.map_replicate]
  rfl

theorem law_Tables (t : List Int) (n : Int) (hn : (Lit.int .u8 n).wf = true) : cw f_law34_EquatingTables [.sl 1 (List.map dI_i64.enc t), .v (.int .u8 n)] [] = some (r_law34_EquatingTables.enc true) := by
  have hn' : 0 ≤ n ∧ n ≤ 255 := by
    have := hn
    simp only [Lit.wf, Bool.and_eq_true, decide_eq_true_eq] at this
    exact ⟨this.1, this.2⟩
  have k0 := Int.tmod_nonneg 50 hn'.1
  have k1 := Int.tmod_lt_of_pos n (show (0 : Int) < 50 by omega)
  have hwn : w64 n = n := w64_id (by omega) (by omega)
  refine e_law34_EquatingTables t n ?_
  rw [callD_of (c_Light t), callD_of c_sane]
  by_cases ht : (t.length : Int) ≤ 600
  case neg => rw [decide_eq_false ht]; rfl
  rw [decide_eq_true ht, brn_nt, callD_of (c_Roll t)]
  obtain ⟨x, d1, h1, hd1, x1, x2, x3⟩ := c_Distribution ⟨t, 0⟩ 8 false ⟨Int.le_refl _, by show t.length ≤ 600; omega⟩ (by omega) (by omega)
  obtain ⟨m, d2, h2, hd2, m1, m2, m3, m4⟩ := c_Curve d1 hd1
  have hx3 : ∀ c ∈ x, 0 ≤ c ∧ c ≤ 5 := fun c hc => by have := x3 c hc; simp only [Bool.false_eq_true, if_false] at this; omega
  have hx : DG x := ⟨x1, by omega, fun c hc => by have := hx3 c hc; omega⟩
  have ha := asc_of m3
  have hb : PB 5 0 5 0 (m.map ofI) := pb_int (fun p hp => by have := m4 p hp; constructor <;> (show _ ≤ 32; omega))
  have hl : 2 ≤ (m.map ofI).length := by rw [List.length_map]; exact m1
  have hl2 : (m.map ofI).length ≤ 5 := by rw [List.length_map]; exact m2
  generalize m.map ofI = l at *
  obtain ⟨z, z1, z2, z3, z4⟩ := c_EConvert x l (n.tmod 50) hx (by omega) (fun c hc => by have := hx3 c hc; omega) ha hl hl2 hb k0 (by omega)
  have hz : DG z := ⟨by omega, by omega, fun c hc => by have := z3 c hc; omega⟩
  have el : w64 (((List.map dI_i64.enc x).length : Int) - 1) = ((x.length - 1 : Nat) : Int) := by rw [lenI, w64_id (by omega) (by omega)]; omega
  have htab := c_Table l (x.length - 1) (n.tmod 50) ha hl hl2 hb (by omega) k0 (by omega)
  rw [show x.length - 1 + 1 = x.length by omega] at htab
  have hc : ∀ i, 0 ≤ cvt l (n.tmod 50) i ∧ cvt l (n.tmod 50) i ≤ n.tmod 50 := fun i => cut_bd k0
  have hmono : ∀ i j : Nat, i ≤ j → cvt l (n.tmod 50) i ≤ cvt l (n.tmod 50) j := fun i j hij => by
    refine cut_mono (rnd_mono ?_)
    by_cases he : i = j
    · rw [he]; exact Rat.le_refl
    · have : ((i : Int) : Rat) < ((j : Int) : Rat) := Rat.intCast_lt_intCast.2 (by omega)
      have := ev_mono ha hl this
      grind
  have hd : ∀ i, 0 ≤ x.getD i 0 := fun i => by
    rw [List.getD_eq_getElem?_getD]
    by_cases hi : i < x.length
    · rw [List.getElem?_eq_getElem hi]; exact (hx.at hi).1
    · rw [List.getElem?_eq_none (by omega)]; simp
  have hTx : ∀ i, i ≤ x.length → T (fun j => x.getD j 0) i = (x.take i).sum := fun i hi => T_take x i hi
  -- the number of candidates
  have hcount : z.sum = x.sum := by
    have e1 : z.sum = (z.take z.length).sum := by rw [List.take_length]
    rw [e1, z4 z.length, S_all _ _ _ _ (fun c _ => by have := hc c; omega), hTx _ (Nat.le_refl _), List.take_length]
  -- below and above
  have hlow : ∀ i, i < x.length → (z.take (cvt l (n.tmod 50) i).toNat).sum ≤ (x.take i).sum := fun i hi => by
    have hci := hc i
    rw [z4, show (((cvt l (n.tmod 50) i).toNat : Nat) : Int) = cvt l (n.tmod 50) i by omega]
    have e1 := S_stop (cvt l (n.tmod 50)) (fun j => x.getD j 0) (cvt l (n.tmod 50) i) i (fun c hc' => hmono i c hc') (x.length - i)
    rw [show i + (x.length - i) = x.length by omega] at e1
    rw [e1, ← hTx i (by omega)]
    exact (S_le _ _ hd i _).2
  have hhigh : ∀ i, i < x.length → (x.take (i + 1)).sum ≤ (z.take (cvt l (n.tmod 50) i + 1).toNat).sum := fun i hi => by
    have hci := hc i
    rw [z4, show (((cvt l (n.tmod 50) i + 1).toNat : Nat) : Int) = cvt l (n.tmod 50) i + 1 by omega, ← hTx (i + 1) (by omega)]
    rw [← S_all (cvt l (n.tmod 50)) (fun j => x.getD j 0) (cvt l (n.tmod 50) i + 1) (i + 1) (fun c hc' => by have := hmono c i (by omega); omega)]
    have := S_mono (cvt l (n.tmod 50)) (fun j => x.getD j 0) hd (cvt l (n.tmod 50) i + 1) (i + 1) (x.length - (i + 1))
    rw [show i + 1 + (x.length - (i + 1)) = x.length by omega] at this
    exact this
  have loop : ∀ (k i : Nat), i + k = x.length → k_law34_EquatingTables_1 n (⟨x⟩, d1) ((List.range x.length).map (cvt l (n.tmod 50)), 0) (⟨z⟩, 0) (i : Int) = some (r_law34_EquatingTables.enc true) := by
    have hlen : ((List.range x.length).map (cvt l (n.tmod 50))).length = x.length := by simp
    intro k
    induction k with
    | zero =>
      intro i hi
      refine t_law34_EquatingTables_1 _ _ _ _ _ ?_
      rw [brn_dec, if_neg (by show ¬ (i : Int) < ((List.map dI_i64.enc ((List.range x.length).map (cvt l (n.tmod 50)))).length : Int); rw [lenI, hlen]; omega), callD_of c_sane]
    | succ k ih =>
      intro i hi
      have e : w64 ((i : Int) + 1) = ((i + 1 : Nat) : Int) := by rw [w64_id (by omega) (by omega)]; omega
      have hci := hc i
      have hr : ((List.range x.length).map (cvt l (n.tmod 50)))[i]'(by rw [hlen]; omega) = cvt l (n.tmod 50) i := by simp
      have e2 : w64 (cvt l (n.tmod 50) i + 1) = cvt l (n.tmod 50) i + 1 := w64_id (by omega) (by omega)
      have b1 := c_rBelow hz (cvt l (n.tmod 50) i)
      have b2 := c_rBelow hx (i : Int)
      have b3 := c_rBelow hz (cvt l (n.tmod 50) i + 1)
      have b4 := c_rBelow hx ((i + 1 : Nat) : Int)
      rw [Int.toNat_natCast] at b2 b4
      have l1 := hlow i (by omega)
      have l2 := hhigh i (by omega)
      have get : ∀ (K : Int → Option (AV × Mem)), elemD dI_i64 (List.map dI_i64.enc ((List.range x.length).map (cvt l (n.tmod 50)))) i K = K (cvt l (n.tmod 50) i) := fun K => by
        rw [elemI (by rw [hlen]; omega), hr]
      refine t_law34_EquatingTables_1 _ _ _ _ _ ?_
      rw [brn_dec, if_pos (by show (i : Int) < ((List.map dI_i64.enc ((List.range x.length).map (cvt l (n.tmod 50)))).length : Int); rw [lenI, hlen]; omega), chk_pos (by omega), Int.toNat_natCast]
      dsimp only
      rw [get, brn_dec, if_neg (by omega), chk_pos (by omega), get, hwn, brn_dec, if_neg (by omega), brn_dec, e, ih (i + 1) (by omega)]
      by_cases hi0 : 0 < (i : Int)
      · obtain ⟨j, rfl⟩ : ∃ j, i = j + 1 := ⟨i - 1, by omega⟩
        have e3 : w64 (((j + 1 : Nat) : Int) - 1) = (j : Int) := by rw [w64_id (by omega) (by omega)]; omega
        have hr' : ((List.range x.length).map (cvt l (n.tmod 50)))[j]'(by rw [hlen]; omega) = cvt l (n.tmod 50) j := by simp
        have hm := hmono j (j + 1) (by omega)
        rw [if_pos hi0, chk_pos (by omega), get, e3, chk_pos (by omega), Int.toNat_natCast, elemI (by rw [hlen]; omega), hr', brn_dec, if_neg (by omega), chk_pos (by omega), get, callD_of b1, callD_of b2, brn_dec, if_neg (by omega), chk_pos (by omega), get, e2, callD_of b3, callD_of b4, brn_dec, if_neg (by omega)]
      · rw [if_neg hi0, chk_pos (by omega), get, callD_of b1, callD_of b2, brn_dec, if_neg (by omega), chk_pos (by omega), get, e2, callD_of b3, callD_of b4, brn_dec, if_neg (by omega)]
  rw [callD_of h1, callD_of h2, chk_pos (by omega), hwn]
  show callD r_equating_Table (cw f_equating_Table [aC l, I (w64 (((List.map dI_i64.enc x).length : Int) - 1)), I (n.tmod 50)] []) _ = _
  rw [el, callD_of htab, callD_of z1, brn_f (by rfl), brn_f (by rfl), brn_f (by
    show (((List.map dI_i64.enc ((List.range x.length).map (cvt l (n.tmod 50)))).length : Int) != ((List.map dI_i64.enc x).length : Int)) = false
    simp), callD_of (c_rCount hz), callD_of (c_rCount hx), brn_f (by rw [hcount]; simp), brn_f (by
    show (((List.map dI_i64.enc z).length : Int) != w64 (n.tmod 50 + 1)) = false
    rw [lenI, w64_id (by omega) (by omega), z2]; simp)]
  exact loop x.length 0 (by omega)
end Go.Proofs.Ythhedegaeeadhaa
