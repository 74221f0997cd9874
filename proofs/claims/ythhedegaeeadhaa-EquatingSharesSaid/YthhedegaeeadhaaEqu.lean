/- Equating: the percentile curve. -/
import Derived.Test.YthhedegaeeadhaaDist
import Derived.Test.YthhedegaeeadhaaConvI
import Derived.Test.YthhedegaeeadhaaPureP
import Derived.Test.YthhedegaeeadhaaPureC3
namespace Go.Proofs.Ythhedegaeeadhaa
open Go.Ab Go.Pure
set_option linter.unusedVariables false

theorem frac_lt (A B N M : Int) (hN : 0 < N) (hM : 0 < M) : (A : Rat) / (N : Rat) < (B : Rat) / (M : Rat) ↔ A * M < B * N := by
  have h1 : (0 : Rat) < (N : Rat) := Rat.intCast_lt_intCast.2 hN
  have h2 : (0 : Rat) < (M : Rat) := Rat.intCast_lt_intCast.2 hM
  rw [Rat.div_lt_iff h1]
  have e : (B : Rat) / (M : Rat) * (N : Rat) = ((B : Rat) * (N : Rat)) / (M : Rat) := by grind
  rw [e, Rat.lt_div_iff h2, ← Rat.intCast_mul, ← Rat.intCast_mul, Rat.intCast_lt_intCast]

theorem frac_le (A B N M : Int) (hN : 0 < N) (hM : 0 < M) : (A : Rat) / (N : Rat) ≤ (B : Rat) / (M : Rat) ↔ A * M ≤ B * N := by
  have := frac_lt B A M N hM hN
  constructor
  · intro h
    apply Int.not_lt.1
    intro hc
    have := this.2 hc
    grind
  · intro h
    apply Rat.not_lt.1
    intro hc
    have := this.1 hc
    omega

theorem ratNe {N : Int} (h : 0 < N) : (N : Rat) ≠ 0 := by
  intro hc
  have : (N : Rat) = ((0 : Int) : Rat) := hc
  have := Rat.intCast_inj.1 this
  omega

/-- a full distribution of few scores -/
def FD (x : List Int) : Prop := 1 ≤ x.length ∧ x.length ≤ 7 ∧ ∀ c ∈ x, 1 ≤ c ∧ c ≤ 6

theorem FD.dg {x : List Int} (h : FD x) : DG x := ⟨h.1, by have := h.2.1; omega, fun c hc => by have := h.2.2 c hc; omega⟩

theorem fd_sum : ∀ (l : List Int), (∀ c ∈ l, 1 ≤ c ∧ c ≤ 6) → (l.length : Int) ≤ l.sum ∧ l.sum ≤ 6 * l.length
  | [], _ => by simp
  | c :: l, h => by
    have := fd_sum l (fun x hx => h x (by simp [hx]))
    have := h c (by simp)
    simp only [List.sum_cons, List.length_cons]
    omega

theorem FD.sum {x : List Int} (h : FD x) : 1 ≤ x.sum ∧ x.sum ≤ 42 := by
  have := fd_sum x h.2.2
  have := h.1
  have := h.2.1
  omega

theorem FD.at {x : List Int} (h : FD x) {i : Nat} (hi : i < x.length) : 1 ≤ x[i] ∧ x[i] ≤ 6 := h.2.2 _ (List.getElem_mem hi)

theorem take_next {x : List Int} {i : Nat} (hi : i < x.length) : (x.take (i + 1)).sum = (x.take i).sum + x[i] := by
  rw [List.take_add_one, List.getElem?_eq_getElem hi, List.sum_append]; simp

theorem FD.take {x : List Int} (h : FD x) (i : Nat) : 0 ≤ (x.take i).sum ∧ (x.take i).sum ≤ x.sum := by
  have h1 := fd_sum (x.take i) (fun c hc => h.2.2 c (List.mem_of_mem_take hc))
  have h2 := fd_sum (x.drop i) (fun c hc => h.2.2 c (List.mem_of_mem_drop hc))
  have := take_drop_sum x i
  omega

/-- shares -/
def shr (x : List Int) (i : Nat) : Rat := ((x.take i).sum : Rat) / (x.sum : Rat)

theorem FD.sh {x : List Int} (h : FD x) : Sh (shr x) x.length := by
  have hs := h.sum
  have hne := ratNe (show 0 < x.sum by omega)
  refine ⟨?_, ?_, fun i hi => ?_, h.1⟩
  · unfold shr
    rw [List.take_zero]
    show ((0 : Int) : Rat) / _ = 0
    show (0 : Rat) / _ = 0
    rw [Rat.div_def]; grind
  · unfold shr
    rw [List.take_length]
    grind
  · unfold shr
    rw [frac_lt _ _ _ _ (by omega) (by omega), take_next hi]
    have := h.at hi
    exact Int.mul_lt_mul_of_pos_right (by omega) (by omega)

theorem shr_diff {x : List Int} (h : FD x) {i : Nat} (hi : i < x.length) : shr x (i + 1) - shr x i = (x[i] : Rat) / (x.sum : Rat) := by
  unfold shr
  rw [take_next hi, Rat.intCast_add]
  have hne := ratNe (show 0 < x.sum by have := h.sum; omega)
  grind

/-- the score at a share of whole numbers -/
theorem Qs_frac {x : List Int} (h : FD x) {i : Nat} (hi : i < x.length) (p w : Int) (hw : 0 < w) :
    Qs (shr x) i ((p : Rat) / (w : Rat)) = mkRat (2 * i - 1) 2 + mkRat (p * x.sum - (x.take i).sum * w) (w * x[i]).toNat := by
  have hs := h.sum
  have ha := h.at hi
  have hpos : 0 < w * x[i] := Int.mul_pos hw (by omega)
  have e1 : (((w * x[i]).toNat : Nat) : Rat) = (w : Rat) * (x[i] : Rat) := by
    rw [← Rat.intCast_mul]
    have : (((w * x[i]).toNat : Nat) : Int) = w * x[i] := by omega
    rw [← this]; rfl
  have e2 : ((2 * (i : Int) - 1 : Int) : Rat) = 2 * (i : Rat) - 1 := by
    rw [Rat.intCast_sub, Rat.intCast_mul]; rfl
  have e3 : ((p * x.sum - (x.take i).sum * w : Int) : Rat) = (p : Rat) * (x.sum : Rat) - ((x.take i).sum : Rat) * (w : Rat) := by
    rw [Rat.intCast_sub, Rat.intCast_mul, Rat.intCast_mul]
  have e4 : ((2 : Nat) : Rat) = 2 := rfl
  rw [Rat.mkRat_eq_div, Rat.mkRat_eq_div, e1, e2, e3, e4]
  unfold Qs
  rw [shr_diff h hi]
  unfold shr
  have n1 := ratNe (show 0 < x.sum by omega)
  have n2 := ratNe hw
  have n3 := ratNe (show 0 < x[i] by omega)
  generalize (x.sum : Rat) = N at *
  generalize (w : Rat) = W at *
  generalize (x[i] : Rat) = c at *
  generalize ((x.take i).sum : Rat) = X at *
  generalize (p : Rat) = P at *
  generalize (i : Rat) = I at *
  have n4 : c / N ≠ 0 := by
    intro hc
    have : c = c / N * N := by grind
    grind
  have f1 : (P / W - X / N) / (c / N) = (P * N - X * W) / (W * c) := by
    have g1 : (P / W - X / N) * (W * c) = (P * N - X * W) * (c / N) := by grind
    have g2 : W * c ≠ 0 := by
      intro hc
      rcases Rat.mul_eq_zero.1 hc with hc | hc
      · exact n2 hc
      · exact n3 hc
    grind
  rw [f1]
  grind

theorem Qs_bd {x : List Int} (h : FD x) {i : Nat} (hi : i < x.length) (p w : Int) (hw : 0 < w) (hw2 : w ≤ 42) (h1 : shr x i ≤ (p : Rat) / (w : Rat)) (h2 : (p : Rat) / (w : Rat) ≤ shr x (i + 1)) :
    Bd 12 9 (Qs (shr x) i ((p : Rat) / (w : Rat))) ∧ 0 ≤ p * x.sum - (x.take i).sum * w ∧ p * x.sum - (x.take i).sum * w ≤ w * x[i] ∧ 0 < w * x[i] ∧ w * x[i] ≤ 252 := by
  have hs := h.sum
  have ha := h.at hi
  have hl := h.2.1
  have hpos : 0 < w * x[i] := Int.mul_pos hw (by omega)
  have hle : w * x[i] ≤ 42 * 6 := Int.mul_le_mul hw2 ha.2 (by omega) (by omega)
  unfold shr at h1 h2
  rw [frac_le _ _ _ _ (by omega) hw] at h1
  rw [frac_le _ _ _ _ hw (by omega), take_next hi, Int.add_mul, Int.mul_comm x[i] w] at h2
  have k1 : 0 ≤ p * x.sum - (x.take i).sum * w := by omega
  have k2 : p * x.sum - (x.take i).sum * w ≤ w * x[i] := by omega
  refine ⟨?_, k1, k2, hpos, by omega⟩
  rw [Qs_frac h hi p w hw]
  have hD : (((w * x[i]).toNat : Nat) : Int) = w * x[i] := by omega
  generalize hE : (w * x[i]).toNat = D at *
  generalize hF : p * x.sum - (x.take i).sum * w = K at *
  refine bd_eq (N := (2 * i - 1) * D + 2 * K) (D := 2 * D) ?_ (by omega) ?_ ?_
  · have e1 : ((2 * D : Nat) : Rat) = 2 * (D : Rat) := by rw [Rat.natCast_mul]; rfl
    have e2 : (((2 * (i : Int) - 1) * D + 2 * K : Int) : Rat) = ((2 * (i : Int) - 1 : Int) : Rat) * (D : Rat) + 2 * (K : Rat) := by
      rw [Rat.intCast_add, Rat.intCast_mul, Rat.intCast_mul]; rfl
    have e4 : ((2 : Nat) : Rat) = 2 := rfl
    have n1 : (D : Rat) ≠ 0 := ratNe (N := (D : Int)) (by omega)
    rw [Rat.mkRat_eq_div, Rat.mkRat_eq_div, e1, e2, e4]
    generalize ((2 * (i : Int) - 1 : Int) : Rat) = A
    generalize (D : Rat) = B at *
    generalize (K : Rat) = C
    grind
  · have m1 : (2 * (i : Int) - 1) * (D : Int) ≤ 13 * D := Int.mul_le_mul_of_nonneg_right (by omega) (by omega)
    have m2 : (-1) * (D : Int) ≤ (2 * (i : Int) - 1) * (D : Int) := Int.mul_le_mul_of_nonneg_right (by omega) (by omega)
    show _ ≤ 4096
    omega
  · show _ ≤ 512
    omega

/-- a slope -/
theorem sl_bd {x y : List Int} (hx : FD x) (hy : FD y) {t : Rat} (h : IsS (shr x) (shr y) x.length y.length t) : Bd 8 8 t := by
  obtain ⟨i, j, hi, hj, rfl⟩ := h
  have a1 := hx.at hi
  have a2 := hy.at hj
  have s1 := hx.sum
  have s2 := hy.sum
  rw [shr_diff hx hi, shr_diff hy hj]
  have n1 := ratNe (show 0 < x.sum by omega)
  have n2 := ratNe (show 0 < y.sum by omega)
  have n3 := ratNe (show 0 < x[i] by omega)
  have n4 := ratNe (show 0 < y[j] by omega)
  have p1 : 0 < x.sum * y[j] := Int.mul_pos (by omega) (by omega)
  have p2 : x.sum * y[j] ≤ 42 * 6 := Int.mul_le_mul (by omega) (by omega) (by omega) (by omega)
  have p3 : 0 < x[i] * y.sum := Int.mul_pos (by omega) (by omega)
  have p4 : x[i] * y.sum ≤ 6 * 42 := Int.mul_le_mul (by omega) (by omega) (by omega) (by omega)
  have hD : (((x.sum * y[j]).toNat : Nat) : Int) = x.sum * y[j] := by omega
  refine bd_eq (N := x[i] * y.sum) (D := (x.sum * y[j]).toNat) ?_ (by omega) (by show _ ≤ 256; omega) (by show _ ≤ 256; omega)
  have e1 : (((x.sum * y[j]).toNat : Nat) : Rat) = (x.sum : Rat) * (y[j] : Rat) := by
    rw [← Rat.intCast_mul, ← hD]; rfl
  rw [e1, Rat.intCast_mul]
  generalize (x.sum : Rat) = N at *
  generalize (y.sum : Rat) = M at *
  generalize (x[i] : Rat) = c at *
  generalize (y[j] : Rat) = d at *
  have n5 : d / M ≠ 0 := by
    intro hc
    have : d = d / M * M := by grind
    grind
  have f1 : c / N / (d / M) * (d / M) = c / N := by grind
  have f2 : (c / N / (d / M)) * d = c / N * M := by
    have : (c / N / (d / M)) * d = (c / N / (d / M)) * (d / M) * M := by grind
    rw [this, f1]
  grind

/-! ## sizes of curves -/

/-- small curves: sizes of the places, of the values, of the slopes -/
structure Nice (nx dx ny dy : Nat) (l : List Pt) : Prop where
  asc : Asc l
  len : 2 ≤ l.length
  len2 : l.length ≤ 410
  pb : PB nx dx ny dy l
  sls : ∀ t, IsSl l t → Bd 8 8 t

theorem Nice.slOk {nx dx ny dy : Nat} {l : List Pt} (h : Nice nx dx ny dy l) (h1 : ny + dy + 1 + 2 * dx ≤ 60) (h2 : 2 * dy + nx + dx + 1 ≤ 60) : Each l SlOk := by
  intro i p q hp hq
  have bp := h.pb p (List.mem_of_getElem? hp)
  have bq := h.pb q (List.mem_of_getElem? hq)
  have b1 : Bd (ny + dy + 1) (2 * dy) (q.2 - p.2) := bq.2.sub bp.2 (by omega) (by omega) (by omega)
  have b2 : Bd (nx + dx + 1) (2 * dx) (q.1 - p.1) := bq.1.sub bp.1 (by omega) (by omega) (by omega)
  have hne : q.1 - p.1 ≠ 0 := by have := (asc_at h.asc hp hq).1; grind
  exact ⟨.mk bq.2 bp.2 (by omega) (by omega) (by omega), .mk bq.1 bp.1 (by omega) (by omega) (by omega), .mk hne b1 b2 (by omega) (by omega)⟩

theorem Nice.evOk {nx dx ny dy nr dr : Nat} {l : List Pt} (h : Nice nx dx ny dy l) {x : Rat} (hx : Bd nr dr x) (h1 : ny + dy + 1 + 2 * dx ≤ 60) (h2 : 2 * dy + nx + dx + 1 ≤ 60)
    (h3 : max (ny + (dr + dx + 8)) (max (nr + dx) (nx + dr) + 1 + 8 + dy) + 1 ≤ 60) (h4 : dr + dx + 8 + dy ≤ 60) : Each l fun p q => EvOk p q x := by
  intro i p q hp hq
  have bp := h.pb p (List.mem_of_getElem? hp)
  have b1 := h.sls _ ⟨i, p, q, hp, hq, rfl⟩
  have b2 : Bd (max (nr + dx) (nx + dr) + 1) (dr + dx) (x - p.1) := hx.sub bp.1 (by omega) (by omega) (by omega)
  have b3 : Bd (max (nr + dx) (nx + dr) + 1 + 8) (dr + dx + 8) ((x - p.1) * sl p q) := b2.mul b1 (by omega) (by omega)
  exact ⟨h.slOk h1 h2 i p q hp hq, .mk hx bp.1 (by omega) (by omega) (by omega), .mk b2 b1 (by omega) (by omega), .mk bp.2 b3 (by omega) (by omega) (by omega)⟩

theorem Nice.vals {nx dx ny dy : Nat} {l : List Pt} (h : Nice nx dx ny dy l) (h1 : nx ≤ 60) (h2 : dx ≤ 60) (h3 : ny ≤ 60) (h4 : dy ≤ 60) : AllV l := fun p hp => ⟨(h.pb p hp).1.mono h1 h2, (h.pb p hp).2.mono h3 h4⟩

theorem Nice.norm {nx dx ny dy : Nat} {l : List Pt} (h : Nice nx dx ny dy l) (hb : ∀ p ∈ bn l, Bd 12 9 p.1) (h1 : ny + dy + 1 + 2 * dx ≤ 60) (h2 : 2 * dy + nx + dx + 1 ≤ 60)
    (h3 : max (ny + (9 + dx + 8)) (max (13 + dx) (nx + 9) + 1 + 8 + dy) + 1 ≤ 60) (h4 : 9 + dx + 8 + dy ≤ 60) : NormOk l := by
  have one : Bd 0 0 (1 : Rat) := ⟨by decide, by decide⟩
  have hl : Bd 13 9 (lf (bn l)) := by
    cases hq : bn l with
    | nil => exact Bd.mono (n := 0) (d := 0) (r := 0) ⟨by decide, by decide⟩ (by omega) (by omega)
    | cons a r => exact (hb a (by rw [hq]; simp)).sub one (by omega) (by omega) (by omega)
  have hr : Bd 13 9 (rt (bn l)) := by
    cases hq : bn l with
    | nil => exact Bd.mono (n := 0) (d := 0) (r := 1) ⟨by decide, by decide⟩ (by omega) (by omega)
    | cons a r => exact (hb _ (by rw [hq]; exact List.getLast_mem _)).add one (by omega) (by omega) (by omega)
  exact ⟨h.asc, h.len, h.len2, h.vals (by omega) (by omega) (by omega) (by omega), h.slOk h1 h2, ⟨.mk hl (by omega) (by omega), h.evOk hl h1 h2 h3 h4⟩, ⟨.mk hr (by omega) (by omega), h.evOk hr h1 h2 h3 h4⟩,
    fun p hp => .mk (hb p hp) one (by omega) (by omega) (by omega)⟩

theorem half_bd : Bd 0 1 ((-1 : Rat) / 2) := ⟨by decide +kernel, by decide +kernel⟩

theorem pts_nice {x y : List Int} (hx : FD x) (hy : FD y) : Nice 12 9 12 9 (pts (shr x) (shr y) x.length y.length) := by
  have sx := hx.sh
  have sy := hy.sh
  have hl := pts_len sx sy
  refine ⟨pts_asc sx sy, hl.1, by have := hx.2.1; have := hy.2.1; omega, fun p hp => ?_, fun t ht => ?_⟩
  · rcases pts_is sx sy p hp with e | ⟨i, j, s, hi, hj, a1, a2, b1, b2, hs, e⟩
    · rw [e]; exact ⟨half_bd.mono (by omega) (by omega), half_bd.mono (by omega) (by omega)⟩
    · rw [e]
      have q1 := hx.sum
      have q2 := hy.sum
      rcases hs with hs | hs
      · have e2 : s = (((x.take (i + 1)).sum : Int) : Rat) / ((x.sum : Int) : Rat) := hs
        rw [e2] at a1 a2 b1 b2 ⊢
        exact ⟨(Qs_bd hx hi _ _ (by omega) (by omega) a1 a2).1, (Qs_bd hy hj _ _ (by omega) (by omega) b1 b2).1⟩
      · have e2 : s = (((y.take (j + 1)).sum : Int) : Rat) / ((y.sum : Int) : Rat) := hs
        rw [e2] at a1 a2 b1 b2 ⊢
        exact ⟨(Qs_bd hx hi _ _ (by omega) (by omega) a1 a2).1, (Qs_bd hy hj _ _ (by omega) (by omega) b1 b2).1⟩
  · obtain ⟨c, p, q, hp, hq, rfl⟩ := ht
    exact sl_bd hx hy (pts_sl sx sy c p q hp hq)

theorem pts_norm {x y : List Int} (hx : FD x) (hy : FD y) : NormOk (pts (shr x) (shr y) x.length y.length) := by
  have h := pts_nice hx hy
  exact h.norm (fun p hp => (h.pb p ((bn_sub _).subset hp)).1) (by omega) (by omega) (by omega) (by omega)

theorem nf_nice {x y : List Int} (hx : FD x) (hy : FD y) : Nice 13 9 21 17 (nf (pts (shr x) (shr y) x.length y.length)) := by
  have h := pts_nice hx hy
  have one : Bd 0 0 (1 : Rat) := ⟨by decide, by decide⟩
  refine ⟨asc_nf h.asc h.len, nf_len, ?_, fun p hp => ?_, fun t ht => ?_⟩
  · have := bn_len _ h.len; have := h.len2; unfold nf; simp; omega
  · rcases nf_pts h.asc h.len p hp with e | ⟨c, hc, t, ht, e⟩ | ⟨c, hc, t, ht, e⟩
    · have := h.pb p ((bn_sub _).subset e)
      exact ⟨this.1.mono (by omega) (by omega), this.2.mono (by omega) (by omega)⟩
    · have bc := h.pb c ((bn_sub _).subset hc)
      have bt := h.sls t ht
      rcases e with e | e
      · rw [e]; exact ⟨bc.1.sub one (by omega) (by omega) (by omega), bc.2.sub bt (by omega) (by omega) (by omega)⟩
      · rw [e]; exact ⟨bc.1.add one (by omega) (by omega) (by omega), bc.2.add bt (by omega) (by omega) (by omega)⟩
    · have bt := h.sls t ht
      have ec : c = (-1 / 2, -1 / 2) := by
        unfold pts at hc
        simp at hc
        exact hc.symm
      have b0 : Bd 1 1 ((0 : Rat) - -1 / 2) := ⟨by decide +kernel, by decide +kernel⟩
      have b1 : Bd 2 1 ((1 : Rat) - -1 / 2) := ⟨by decide +kernel, by decide +kernel⟩
      have c0 : Bd 9 9 (((0 : Rat) - -1 / 2) * t) := b0.mul bt (by omega) (by omega)
      have c1 : Bd 10 9 (((1 : Rat) - -1 / 2) * t) := b1.mul bt (by omega) (by omega)
      have d0 : Bd 12 10 (-1 / 2 + ((0 : Rat) - -1 / 2) * t) := half_bd.add c0 (by omega) (by omega) (by omega)
      have d1 : Bd 12 10 (-1 / 2 + ((1 : Rat) - -1 / 2) * t) := half_bd.add c1 (by omega) (by omega) (by omega)
      rcases e with e | e
      · rw [e, ec]; exact ⟨Bd.mono (n := 0) (d := 0) (r := 0) ⟨by decide, by decide⟩ (by omega) (by omega), d0.mono (by omega) (by omega)⟩
      · rw [e, ec]; exact ⟨Bd.mono (n := 0) (d := 0) (r := 1) ⟨by decide, by decide⟩ (by omega) (by omega), d1.mono (by omega) (by omega)⟩
  · obtain ⟨c, p, q, hp, hq, rfl⟩ := ht
    exact h.sls _ (nf_sl h.asc h.len hp hq)
end Go.Proofs.Ythhedegaeeadhaa
