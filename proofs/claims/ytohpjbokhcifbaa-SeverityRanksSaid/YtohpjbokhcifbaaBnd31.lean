/- Bounds of severity: pairs from dice, the means' plain laws, the statement. -/
import Derived.Test.YtohpjbokhcifbaaSev31
namespace Go.Proofs.Ytohpjbokhcifbaa
open Go.Ab Go.Pure Go.PureS
set_option linter.unusedVariables false

/-! ## pairs out of dice -/

def JS (j : GJudged) : Prop := 1 ≤ j.Marker ∧ j.Marker ≤ 4 ∧ 0 ≤ j.Value ∧ j.Value ≤ 6 ∧ 0 ≤ j.Final ∧ j.Final ≤ 6

theorem JS.ok {j : GJudged} (h : JS j) : JOk j := by
  obtain ⟨h1, h2, h3, h4, h5, h6⟩ := h
  exact ⟨h1, by omega, h3, by omega, h5, by omega⟩

theorem k_pairs (n : Nat) : ∀ (k : Nat) (l : List GJudged) (d : GmarkDice), DOk d → (∀ j ∈ l, JS j) → k + l.length = n → n ≤ 500 →
    ∃ (l' : List GJudged) (d' : GmarkDice), k_law31_pairs_1 (List.map dGJudged.enc l) d (k : Int) = some (r_law31_pairs.enc (l', d')) ∧ (∀ j ∈ l', JS j) ∧ l'.length = n
  | 0, l, d, hd, hl, hn, _ => by
    refine ⟨l, d, ?_, hl, by omega⟩
    refine t_law31_pairs_1 _ _ _ ?_
    rw [brn_dec, if_neg (by omega), chk_pos rfl]
  | k + 1, l, d, hd, hl, hn, hn5 => by
    obtain ⟨r1, d1, e1, p1, q1, hd1⟩ := c_Next d 4 hd (by omega)
    obtain ⟨r2, d2, e2, p2, q2, hd2⟩ := c_Next d1 7 hd1 (by omega)
    obtain ⟨r3, d3, e3, p3, q3, hd3⟩ := c_Next d2 7 hd2 (by omega)
    have hj : JS ⟨1 + r1, r2, r3⟩ := ⟨by show 1 ≤ 1 + r1; omega, by show 1 + r1 ≤ 4; omega, p2, by show r2 ≤ 6; omega, p3, by show r3 ≤ 6; omega⟩
    obtain ⟨l', d', h1, h2, h3⟩ := k_pairs n k (l ++ [⟨1 + r1, r2, r3⟩]) d3 hd3 (fun j q => by
      rcases List.mem_append.1 q with q | q
      · exact hl j q
      · rw [List.mem_singleton.1 q]; exact hj) (by rw [List.length_append]; simp; omega) hn5
    refine ⟨l', d', ?_, h2, h3⟩
    refine t_law31_pairs_1 _ _ _ ?_
    rw [brn_dec, if_pos (by omega), callD_of e1, callD_of e2, callD_of e3, chk_pos rfl, chk_pos (by rw [List.length_map]; omega), chk_pos rfl, w64_id (n := 1 + r1) (by omega) (by omega), w64_id (n := ((k + 1 : Nat) : Int) - 1) (by omega) (by omega), show ((k + 1 : Nat) : Int) - 1 = (k : Int) by omega]
    rw [List.map_append] at h1
    exact h1

theorem c_pairs (d : GmarkDice) (hd : DOk d) : ∃ (l : List GJudged) (d' : GmarkDice), cw f_law31_pairs [.loc 1000 2 0 0, I 20] (mD d) = some (r_law31_pairs.enc (l, d')) ∧ (∀ j ∈ l, JS j) ∧ l.length ≤ 20 := by
  obtain ⟨r, d1, e1, p1, q1, hd1⟩ := c_Next d 21 hd (by omega)
  obtain ⟨l, d', h1, h2, h3⟩ := k_pairs r.toNat r.toNat [] d1 hd1 (by simp) (by simp) (by omega)
  refine ⟨l, d', e_law31_pairs d 20 ?_, h2, by omega⟩
  rw [show w64 (20 + 1) = 21 from rfl, callD_of e1]
  rw [show ((r.toNat : Nat) : Int) = r by omega] at h1
  exact h1

theorem rl_of {l : List GJudged} (h : ∀ j ∈ l, JS j) (hl : l.length ≤ 20) : RL l := ⟨by omega, fun j q => (h j q).ok⟩

/-! ## plain laws of the sums -/

theorem abF_eq (d : Int) : abF d = (d.natAbs : Int) := by unfold abF; split <;> omega

theorem idF_eq (d : Int) : idF d = d := rfl
theorem agF_eq (d : Int) : agF d = if d = 0 then 1 else 0 := rfl

theorem sm_laws (m : Int) : ∀ l : List GJudged, -(sm abF m l) ≤ sm idF m l ∧ sm idF m l ≤ sm abF m l ∧ 0 ≤ sm agF m l ∧ sm agF m l ≤ (ct m l : Int) ∧ (sm agF m l = (ct m l : Int) ↔ sm abF m l = 0)
  | [] => by simp [sm, ct]
  | j :: t => by
    obtain ⟨h1, h2, h3, h4, h5⟩ := sm_laws m t
    simp only [sm, ct]
    by_cases hm : j.Marker = m
    · simp only [if_pos hm, abF_eq, idF_eq, agF_eq]
      by_cases hd : j.Value - j.Final = 0
      · rw [if_pos hd]; omega
      · rw [if_neg hd]; omega
    · simp only [if_neg hm]; omega

/-- all pairs as of one marker -/
def nine (l : List GJudged) : List GJudged := l.map fun j => ⟨9, j.Value, j.Final⟩

theorem nine_ok {l : List GJudged} (h : RL l) : RL (nine l) := by
  refine ⟨by unfold nine; rw [List.length_map]; exact h.1, fun j q => ?_⟩
  obtain ⟨x, hx, rfl⟩ := List.mem_map.1 q
  obtain ⟨h1, h2, h3, h4, h5, h6⟩ := h.2 x hx
  exact ⟨by show (1 : Int) ≤ 9; omega, by show (9 : Int) ≤ 99; omega, h3, h4, h5, h6⟩

theorem ct_nine : ∀ l : List GJudged, ct 9 (nine l) = l.length
  | [] => rfl
  | j :: t => by
    have := ct_nine t
    show (if (9 : Int) = 9 then 1 else 0) + ct 9 (nine t) = t.length + 1
    rw [this, if_pos rfl]; omega

theorem sm_nine : ∀ l : List GJudged, (∀ j ∈ l, JS j) → sm idF 9 (nine l) = sm idF 1 l + sm idF 2 l + sm idF 3 l + sm idF 4 l
  | [], _ => rfl
  | j :: t, h => by
    have ih := sm_nine t (fun x q => h x (by simp [q]))
    obtain ⟨h1, h2, _⟩ := h j (by simp)
    show (if (9 : Int) = 9 then idF (j.Value - j.Final) else 0) + sm idF 9 (nine t) = _
    rw [if_pos rfl, ih]
    simp only [sm]
    rcases (show j.Marker = 1 ∨ j.Marker = 2 ∨ j.Marker = 3 ∨ j.Marker = 4 by omega) with e | e | e | e <;> rw [e] <;> simp <;> omega

theorem ct_all : ∀ l : List GJudged, (∀ j ∈ l, JS j) → l.length = ct 1 l + ct 2 l + ct 3 l + ct 4 l
  | [], _ => rfl
  | j :: t, h => by
    have ih := ct_all t (fun x q => h x (by simp [q]))
    obtain ⟨h1, h2, _⟩ := h j (by simp)
    simp only [ct, List.length_cons]
    rcases (show j.Marker = 1 ∨ j.Marker = 2 ∨ j.Marker = 3 ∨ j.Marker = 4 by omega) with e | e | e | e <;> rw [e] <;> simp <;> omega

theorem sm_of_ct0 (m : Int) : ∀ l : List GJudged, ct m l = 0 → sm idF m l = 0
  | [], _ => rfl
  | j :: t, h => by
    simp only [ct] at h
    simp only [sm]
    by_cases hm : j.Marker = m
    · rw [if_pos hm] at h; omega
    · rw [if_neg hm] at h ⊢; rw [sm_of_ct0 m t (by omega)]; rfl

theorem has_t {m : Int} {l : List GJudged} (h : ct m l ≠ 0) : has m l = true := decide_eq_true h

theorem mean_lt {a b c d : Int} {p q r s : Nat} (z1 : p = 0 → a = 0) (z2 : q = 0 → b = 0) (z3 : r = 0 → c = 0) (z4 : s = 0 → d = 0) (hp : 0 < p + q + r + s)
    (g1 : p ≠ 0 → (a + b + c + d) * (p : Int) < a * ((p + q + r + s : Nat) : Int)) (g2 : q ≠ 0 → (a + b + c + d) * (q : Int) < b * ((p + q + r + s : Nat) : Int))
    (g3 : r ≠ 0 → (a + b + c + d) * (r : Int) < c * ((p + q + r + s : Nat) : Int)) (g4 : s ≠ 0 → (a + b + c + d) * (s : Int) < d * ((p + q + r + s : Nat) : Int)) : False := by
  have e : ((p + q + r + s : Nat) : Int) = (p : Int) + q + r + s := by omega
  rw [e] at g1 g2 g3 g4
  have w : ∀ (u : Int) (v : Nat), (v = 0 → u = 0) → (v ≠ 0 → (a + b + c + d) * (v : Int) < u * ((p : Int) + q + r + s)) → (a + b + c + d) * (v : Int) ≤ u * ((p : Int) + q + r + s) ∧ (v ≠ 0 → (a + b + c + d) * (v : Int) < u * ((p : Int) + q + r + s)) := by
    intro u v z g
    refine ⟨?_, g⟩
    by_cases hv : v = 0
    · rw [z hv, hv]; simp
    · exact Int.le_of_lt (g hv)
  have w1 := w a p z1 g1
  have w2 := w b q z2 g2
  have w3 := w c r z3 g3
  have w4 := w d s z4 g4
  have tot : (a + b + c + d) * (p : Int) + (a + b + c + d) * (q : Int) + (a + b + c + d) * (r : Int) + (a + b + c + d) * (s : Int) = a * ((p : Int) + q + r + s) + b * ((p : Int) + q + r + s) + c * ((p : Int) + q + r + s) + d * ((p : Int) + q + r + s) := by grind
  by_cases h1 : p = 0
  · by_cases h2 : q = 0
    · by_cases h3 : r = 0
      · have := w4.2 (by omega); omega
      · have := w3.2 h3; omega
    · have := w2.2 h2; omega
  · have := w1.2 h1; omega

theorem mean_gt {a b c d : Int} {p q r s : Nat} (z1 : p = 0 → a = 0) (z2 : q = 0 → b = 0) (z3 : r = 0 → c = 0) (z4 : s = 0 → d = 0) (hp : 0 < p + q + r + s)
    (g1 : p ≠ 0 → a * ((p + q + r + s : Nat) : Int) < (a + b + c + d) * (p : Int)) (g2 : q ≠ 0 → b * ((p + q + r + s : Nat) : Int) < (a + b + c + d) * (q : Int))
    (g3 : r ≠ 0 → c * ((p + q + r + s : Nat) : Int) < (a + b + c + d) * (r : Int)) (g4 : s ≠ 0 → d * ((p + q + r + s : Nat) : Int) < (a + b + c + d) * (s : Int)) : False := by
  have e : ∀ (v : Nat) (u : Int), (-a + -b + -c + -d) * (v : Int) = -((a + b + c + d) * (v : Int)) ∧ -u * ((p + q + r + s : Nat) : Int) = -(u * ((p + q + r + s : Nat) : Int)) := by
    intro v u
    constructor <;> grind
  refine mean_lt (a := -a) (b := -b) (c := -c) (d := -d) (p := p) (q := q) (r := r) (s := s) (fun h => by rw [z1 h]; rfl) (fun h => by rw [z2 h]; rfl) (fun h => by rw [z3 h]; rfl) (fun h => by rw [z4 h]; rfl) hp ?_ ?_ ?_ ?_
  · intro h; rw [(e p a).1, (e p a).2]; have := g1 h; omega
  · intro h; rw [(e q b).1, (e q b).2]; have := g2 h; omega
  · intro h; rw [(e r c).1, (e r c).2]; have := g3 h; omega
  · intro h; rw [(e s d).1, (e s d).2]; have := g4 h; omega

/-- one of the markers lies no higher than all together, one no lower -/
theorem between {l : List GJudged} (h : ∀ j ∈ l, JS j) (h0 : l ≠ []) (hl : l.length ≤ 500) :
    (∃ m : Nat, 1 ≤ m ∧ m ≤ 4 ∧ has m l = true ∧ ¬ (mnR idF 9 (nine l) < mnR idF m l)) ∧ ∃ m : Nat, 1 ≤ m ∧ m ≤ 4 ∧ has m l = true ∧ ¬ (mnR idF m l < mnR idF 9 (nine l)) := by
  have hlen : l.length ≠ 0 := by intro e; exact h0 (List.length_eq_zero_iff.1 e)
  have hs := sm_nine l h
  have hc := ct_all l h
  have z1 := sm_of_ct0 1 l
  have z2 := sm_of_ct0 2 l
  have z3 := sm_of_ct0 3 l
  have z4 := sm_of_ct0 4 l
  have ew : mnR idF 9 (nine l) = mkRat (sm idF 1 l + sm idF 2 l + sm idF 3 l + sm idF 4 l) (ct 1 l + ct 2 l + ct 3 l + ct 4 l) := by
    unfold mnR; rw [ct_nine, if_neg hlen, hs, ← hc]
  have em : ∀ m : Int, ct m l ≠ 0 → mnR idF m l = mkRat (sm idF m l) (ct m l) := fun m q => by unfold mnR; rw [if_neg q]
  rw [ew]
  have hp : 0 < ct 1 l + ct 2 l + ct 3 l + ct 4 l := by omega
  have key : ∀ (m : Nat), 1 ≤ m → m ≤ 4 → ct m l ≠ 0 → (¬ (mkRat (sm idF 1 l + sm idF 2 l + sm idF 3 l + sm idF 4 l) (ct 1 l + ct 2 l + ct 3 l + ct 4 l) < mnR idF m l) ↔ sm idF m l * ((ct 1 l + ct 2 l + ct 3 l + ct 4 l : Nat) : Int) ≤ (sm idF 1 l + sm idF 2 l + sm idF 3 l + sm idF 4 l) * (ct m l : Int)) ∧
      (¬ (mnR idF m l < mkRat (sm idF 1 l + sm idF 2 l + sm idF 3 l + sm idF 4 l) (ct 1 l + ct 2 l + ct 3 l + ct 4 l)) ↔ (sm idF 1 l + sm idF 2 l + sm idF 3 l + sm idF 4 l) * (ct m l : Int) ≤ sm idF m l * ((ct 1 l + ct 2 l + ct 3 l + ct 4 l : Nat) : Int)) := by
    intro m _ _ hm
    rw [em m hm, mk_lt hp (by omega), mk_lt (by omega) hp, Int.not_lt, Int.not_lt]
    exact ⟨Iff.rfl, Iff.rfl⟩
  constructor
  · apply Classical.byContradiction
    intro hn
    have g : ∀ m : Nat, 1 ≤ m → m ≤ 4 → ct m l ≠ 0 → (sm idF 1 l + sm idF 2 l + sm idF 3 l + sm idF 4 l) * (ct m l : Int) < sm idF m l * ((ct 1 l + ct 2 l + ct 3 l + ct 4 l : Nat) : Int) := by
      intro m a b c
      apply Classical.byContradiction
      intro q
      exact hn ⟨m, a, b, has_t c, (key m a b c).1.2 (Int.not_lt.1 q)⟩
    have g1 := g 1 (by omega) (by omega)
    have g2 := g 2 (by omega) (by omega)
    have g3 := g 3 (by omega) (by omega)
    have g4 := g 4 (by omega) (by omega)
    exact mean_lt z1 z2 z3 z4 hp g1 g2 g3 g4
  · apply Classical.byContradiction
    intro hn
    have g : ∀ m : Nat, 1 ≤ m → m ≤ 4 → ct m l ≠ 0 → sm idF m l * ((ct 1 l + ct 2 l + ct 3 l + ct 4 l : Nat) : Int) < (sm idF 1 l + sm idF 2 l + sm idF 3 l + sm idF 4 l) * (ct m l : Int) := by
      intro m a b c
      apply Classical.byContradiction
      intro q
      exact hn ⟨m, a, b, has_t c, (key m a b c).2.2 (Int.not_lt.1 q)⟩
    have g1 := g 1 (by omega) (by omega)
    have g2 := g 2 (by omega) (by omega)
    have g3 := g 3 (by omega) (by omega)
    have g4 := g 4 (by omega) (by omega)
    exact mean_gt z1 z2 z3 z4 hp g1 g2 g3 g4

theorem bd_mn {f : Int → Int} (hf : Sm f) {l : List GJudged} (h : RL l) (m : Int) : Bd 15 9 (mnR f m l) := by
  have hb := sm_bd hf m l h.2
  have hc := ct_le m l
  have hl := h.1
  unfold mnR
  by_cases h0 : ct m l = 0
  · rw [if_pos h0]; exact ⟨by decide, by decide⟩
  · rw [if_neg h0]; exact bd_mk (by omega) (by show _ ≤ 32768; omega) (by show _ ≤ 512; omega)

/-- what the statement asks of one marker -/
theorem one_laws {l : List GJudged} (m : Int) (h0 : has m l = true) :
    ¬ (mnR abF m l < mnR idF m l) ∧ ¬ (mnR abF m l < -(mnR idF m l)) ∧ (mnR agF m l = 1 ↔ mnR abF m l = 0) ∧ ¬ (1 < mnR agF m l) ∧ ¬ (mnR agF m l < 0) := by
  have hc : ct m l ≠ 0 := of_decide_eq_true h0
  obtain ⟨h1, h2, h3, h4, h5⟩ := sm_laws m l
  unfold mnR
  simp only [if_neg hc]
  have hp : 0 < ct m l := by omega
  rw [mk_neg, mk_lt hp hp, mk_lt hp hp, mk_one hp, mk_zero hp, one_lt_mk hp, mk_lt_zero hp]
  have e1 : sm abF m l * (ct m l : Int) < sm idF m l * (ct m l : Int) ↔ sm abF m l < sm idF m l := Int.mul_lt_mul_right (by omega)
  have e2 : sm abF m l * (ct m l : Int) < -(sm idF m l) * (ct m l : Int) ↔ sm abF m l < -(sm idF m l) := Int.mul_lt_mul_right (by omega)
  rw [e1, e2]
  exact ⟨by omega, by omega, h5, by omega, by omega⟩

theorem negR (r : Rat) (h : -9223372036854775808 < r.num) (h2 : r.num < 9223372036854775808) : (⟨w64 (0 - (ofR r).Num), (ofR r).Den⟩ : GRatio) = ofR (-r) := by
  have : w64 (0 - (ofR r).Num) = -r.num := by rw [oN, w64_id (by omega) (by omega)]; omega
  rw [this]
  rfl

theorem one_of : (⟨1, 1⟩ : GRatio) = ofR 1 := rfl

theorem eq_one (a : Rat) : ((ofR a).Num == 1 && ((ofR a).Den == 1 && true)) = decide (a = 1) := eqR a 1
theorem eq_zero (a : Rat) : ((ofR a).Num == 0 && ((ofR a).Den == 1 && true)) = decide (a = 0) := eqR a 0

section
variable {l : List GJudged} {d : GmarkDice}

/-- the part of the loop's body behind the sizes: the same for both signs -/
theorem body {W b s a : Rat} {z : Rat} (hW : Bd 15 9 W) (hb : Bd 15 9 b) (hs : Bd 15 9 s) (ha : Bd 15 9 a) (hz : Bd 15 9 z)
    (q1 : ¬ (s < z)) (q2 : a = 1 ↔ s = 0) (q3 : ¬ (1 < a)) (q4 : ¬ (a < 0)) (x8 x9 : Bool) (K : Bool → Bool → Option (AV × Mem)) :
    (callD r_ref01_Less (cw f_ref01_Less [aR s, aR z] []) fun (r16 : Bool) =>
  brn r16 (some (B false, []))
  (brn (!((ofR a).Num == 1 && ((ofR a).Den == 1 && true)) == ((ofR s).Num == 0 && ((ofR s).Den == 1 && true))) (some (B false, []))
   (callD r_ref01_Less (cw f_ref01_Less [.agg (dGRatio.enc (⟨1, 1⟩)), aR a] []) fun (r17 : Bool) =>
    brn r17 (some (B false, []))
    (callD r_ref01_Less (cw f_ref01_Less [aR a, .agg (dGRatio.enc (⟨0, 1⟩))] []) fun (r18 : Bool) =>
     brn r18 (some (B false, []))
     (brn x8 (brn x9 (K true true)
       (callD r_ref01_Less (cw f_ref01_Less [aR b, aR W] []) fun (r19 : Bool) =>
        K true (!r19)))
      (callD r_ref01_Less (cw f_ref01_Less [aR W, aR b] []) fun (r20 : Bool) =>
       brn x9 (K (!r20) true)
       (callD r_ref01_Less (cw f_ref01_Less [aR b, aR W] []) fun (r21 : Bool) =>
        K (!r20) (!r21)))))))) = K (x8 || !decide (W < b)) (x9 || !decide (b < W)) := by
  have b1 : Bd 15 9 (1 : Rat) := ⟨by decide, by decide⟩
  have b0 : Bd 15 9 (0 : Rat) := ⟨by decide, by decide⟩
  have less : ∀ {x y : Rat}, Bd 15 9 x → Bd 15 9 y → cw f_ref01_Less [aR x, aR y] [] = some (r_ref01_Less.enc (decide (x < y))) := fun hx hy => c_rLess _ _ hx hy (by omega) (by omega) (by omega) (by omega)
  rw [one_of, zero_of, callD_of (less hs hz), decide_eq_false q1, brn_F, eq_one, eq_zero, show decide (a = 1) = decide (s = 0) from decide_eq_decide.2 q2,
    brn_f (by cases decide (s = 0) <;> rfl), callD_of (less b1 ha), decide_eq_false q3, brn_F, callD_of (less ha b0), decide_eq_false q4, brn_F]
  cases x8 <;> cases x9
  · rw [brn_F, callD_of (less hW hb), brn_F, callD_of (less hb hW)]; rfl
  · rw [brn_F, callD_of (less hW hb), brn_T]; rfl
  · rw [brn_T, brn_F, callD_of (less hb hW)]; rfl
  · rw [brn_T, brn_T]; rfl

theorem k_Bounds (hl : RL l) (W : Rat) (ok : Bool) (hW : Bd 15 9 W) : ∀ (k i : Nat), i + k = 5 → 1 ≤ i → ∀ (x8 x9 : Bool),
    (ok = true → x8 = true ∨ ∃ m : Nat, i ≤ m ∧ m ≤ 4 ∧ has m l = true ∧ ¬ (W < mnR idF m l)) → (ok = true → x9 = true ∨ ∃ m : Nat, i ≤ m ∧ m ≤ 4 ∧ has m l = true ∧ ¬ (mnR idF m l < W)) →
    k_law31_SeverityBounds_2 (l, d) (ofR W, ok) x8 x9 (i : Nat) = some (r_law31_SeverityBounds.enc true) := by
  intro k
  induction k with
  | zero =>
    intro i hi h1 x8 x9 h8 h9
    refine t_law31_SeverityBounds_2 _ _ _ _ _ ?_
    rw [brn_dec, if_neg (by omega)]
    cases ok with
    | false => rw [brn_nf, callD_of c_sane]
    | true =>
      have e8 : x8 = true := by
        rcases h8 rfl with h | ⟨m, p, q, _⟩
        · exact h
        · omega
      have e9 : x9 = true := by
        rcases h9 rfl with h | ⟨m, p, q, _⟩
        · exact h
        · omega
      rw [brn_nt, e8, brn_T, e9, brn_T, callD_of c_sane]
  | succ k ih =>
    intro i hi h1 x8 x9 h8 h9
    have et : List.take (List.map dGJudged.enc l).length (List.map dGJudged.enc l) = List.map dGJudged.enc l := List.take_length
    have nxt : w64 ((i : Nat) + 1) = ((i + 1 : Nat) : Int) := by rw [w64_id (by omega) (by omega)]; omega
    refine t_law31_SeverityBounds_2 _ _ _ _ _ ?_
    rw [brn_dec, if_pos (by omega), chk_pos (by omega), et, callD_of (c_Bias hl i), chk_pos (by omega), callD_of (c_Spread hl i), chk_pos (by omega), callD_of (c_Agreement hl i), brn_f (by cases has i l <;> rfl), brn_f (by cases has i l <;> rfl)]
    cases hh : has i l with
    | false =>
      rw [brn_nf, nxt]
      refine ih (i + 1) (by omega) (by omega) x8 x9 (fun q => ?_) (fun q => ?_)
      · rcases h8 q with h | ⟨m, p, p2, p3, p4⟩
        · exact .inl h
        · refine .inr ⟨m, ?_, p2, p3, p4⟩
          by_cases e : m = i
          · rw [e, hh] at p3; cases p3
          · omega
      · rcases h9 q with h | ⟨m, p, p2, p3, p4⟩
        · exact .inl h
        · refine .inr ⟨m, ?_, p2, p3, p4⟩
          by_cases e : m = i
          · rw [e, hh] at p3; cases p3
          · omega
    | true =>
      obtain ⟨q1, q1', q2, q3, q4⟩ := one_laws (i : Int) hh
      have bB := bd_mn sm_id hl (i : Int)
      have bS := bd_mn sm_ab hl (i : Int)
      have bA := bd_mn sm_ag hl (i : Int)
      have go : k_law31_SeverityBounds_2 (l, d) (ofR W, ok) (x8 || !decide (W < mnR idF i l)) (x9 || !decide (mnR idF i l < W)) ((i + 1 : Nat) : Int) = some (r_law31_SeverityBounds.enc true) := by
        refine ih (i + 1) (by omega) (by omega) _ _ (fun q => ?_) (fun q => ?_)
        · rcases h8 q with h | ⟨m, p, p2, p3, p4⟩
          · left; rw [h]; rfl
          · by_cases e : m = i
            · left; rw [e] at p4; rw [decide_eq_false p4]; simp
            · right; exact ⟨m, by omega, p2, p3, p4⟩
        · rcases h9 q with h | ⟨m, p, p2, p3, p4⟩
          · left; rw [h]; rfl
          · by_cases e : m = i
            · left; rw [e] at p4; rw [decide_eq_false p4]; simp
            · right; exact ⟨m, by omega, p2, p3, p4⟩
      rw [brn_nt, brn_dec]
      have hn : (mnR idF i l).num.natAbs ≤ 32768 := bB.1
      split
      · refine t_law31_SeverityBounds_1028 _ _ _ _ _ _ _ _ ?_
        rw [negR _ (by omega) (by omega), nxt]
        rw [body hW bB bS bA bB.neg q1' q2 q3 q4 x8 x9 (fun u v => k_law31_SeverityBounds_2 (l, d) (ofR W, ok) u v ((i + 1 : Nat) : Int))]
        exact go
      · refine t_law31_SeverityBounds_1028v1 _ _ _ _ _ _ _ _ ?_
        rw [nxt]
        rw [body hW bB bS bA bB q1 q2 q3 q4 x8 x9 (fun u v => k_law31_SeverityBounds_2 (l, d) (ofR W, ok) u v ((i + 1 : Nat) : Int))]
        exact go
end

theorem law_Bounds (t : List Int) : cw f_law31_SeverityBounds [.sl 1 (List.map dI_i64.enc t)] [] = some (r_law31_SeverityBounds.enc true) := by
  refine e_law31_SeverityBounds t ?_
  rw [callD_of (c_Light t)]
  by_cases ht : (t.length : Int) ≤ 600
  case neg => rw [decide_eq_false ht, brn_nf, callD_of c_sane]
  obtain ⟨l, d, hp, hj, hlen⟩ := c_pairs ⟨t, 0⟩ ⟨by show (0 : Int) ≤ 0; omega, by show t.length ≤ 600; omega⟩
  have hl := rl_of hj hlen
  rw [decide_eq_true ht, brn_nt, callD_of (c_Roll t), callD_of hp]
  refine range_ind l (fun i r => ∀ p : List GJudged, p ++ r = l → k_law31_SeverityBounds_1 (l, d) (List.map dGJudged.enc (nine p)) (i : Nat) = some (r_law31_SeverityBounds.enc true)) ?_ ?_ [] rfl
  · intro p e
    rw [List.append_nil] at e
    subst e
    refine t_law31_SeverityBounds_1 _ _ _ ?_
    have hok : has 9 (nine p) = decide (0 < ((List.map dGJudged.enc p).length : Int)) := by
      unfold has; rw [ct_nine, List.length_map, decide_eq_decide]; omega
    have el : (p, d).fst.length = p.length := rfl
    rw [List.length_map, brn_dec, if_neg (by omega), chk_pos (by omega), List.take_length, callD_of (c_Bias (nine_ok hl) 9), ← List.length_map (f := dGJudged.enc), ← hok, brn_f (by cases has 9 (nine p) <;> rfl)]
    have hne : has 9 (nine p) = true → p ≠ [] := by
      intro q e
      subst e
      exact absurd q (by decide)
    exact k_Bounds hl (mnR idF 9 (nine p)) (has 9 (nine p)) (bd_mn sm_id (nine_ok hl) 9) 4 1 rfl (by omega) false false
      (fun q => .inr (between hj (hne q) (by omega)).1) (fun q => .inr (between hj (hne q) (by omega)).2)
  · intro i x r hi hx hr ih p e
    have := ih (p ++ [x]) (by rw [List.append_assoc]; exact e)
    refine t_law31_SeverityBounds_1 _ _ _ ?_
    have hpl : p.length ≤ 20 := by rw [← e, List.length_append] at hlen; omega
    have el : (l, d).fst.length = l.length := rfl
    rw [List.length_map, brn_dec, if_pos (by omega), chk_pos (by omega), chk_pos (by omega), Int.toNat_natCast, Nat.zero_add, elemD_get hi, chk_pos rfl, chk_pos (by rw [List.length_map]; unfold nine; rw [List.length_map]; omega), chk_pos rfl, w64_id (by omega) (by omega), show ((i : Int) + 1) = ((i + 1 : Nat) : Int) by omega]
    unfold nine at this ⊢
    rw [List.map_append, List.map_append] at this
    have hx' : l[i] = x := hx
    rw [hx']
    exact this
end Go.Proofs.Ytohpjbokhcifbaa
