/- Equating: the percentile curve. -/
import Derived.Test.YtapkemilafogjaaDist
import Derived.Test.YtapkemilafogjaaConvI
import Derived.Test.YtapkemilafogjaaPureJ
namespace Go.Proofs.Ytapkemilafogjaa
open Go.Ab Go.Pure
set_option linter.unusedVariables false

theorem frac_lt (A B N M : Int) (hN : 0 < N) (hM : 0 < M) : (A : Rat) / (N : Rat) < (B : Rat) / (M : Rat) ↔ A * M < B * N := by
  have h1 : (0 : Rat) < (N : Rat) := Rat.intCast_lt_intCast.2 hN
  have h2 : (0 : Rat) < (M : Rat) := Rat.intCast_lt_intCast.2 hM
  rw [Rat.div_lt_iff h1]
  have e : (B : Rat) / (M : Rat) * (N : Rat) = ((B : Rat) * (N : Rat)) / (M : Rat) := by grind
  rw [e, Rat.lt_div_iff h2, ← Rat.intCast_mul, ← Rat.intCast_mul, Rat.intCast_lt_intCast]

theorem frac_le (A B N M : Int) (hN : 0 < N) (hM : 0 < M) : (A : Rat) / (N : Rat) ≤ (B : Rat) / (M : Rat) ↔ A * M ≤ B * N := by
  have := frac_lt B A M N hM hN
  constructor
  · intro h
    apply Int.not_lt.1
    intro hc
    have := this.2 hc
    grind
  · intro h
    apply Rat.not_lt.1
    intro hc
    have := this.1 hc
    omega

theorem ratNe {N : Int} (h : 0 < N) : (N : Rat) ≠ 0 := by
  intro hc
  have : (N : Rat) = ((0 : Int) : Rat) := hc
  have := Rat.intCast_inj.1 this
  omega

/-- a full distribution of few scores -/
def FD (x : List Int) : Prop := 1 ≤ x.length ∧ x.length ≤ 7 ∧ ∀ c ∈ x, 1 ≤ c ∧ c ≤ 6

theorem FD.dg {x : List Int} (h : FD x) : DG x := ⟨h.1, by have := h.2.1; omega, fun c hc => by have := h.2.2 c hc; omega⟩

theorem fd_sum : ∀ (l : List Int), (∀ c ∈ l, 1 ≤ c ∧ c ≤ 6) → (l.length : Int) ≤ l.sum ∧ l.sum ≤ 6 * l.length
  | [], _ => by simp
  | c :: l, h => by
    have := fd_sum l (fun x hx => h x (by simp [hx]))
    have := h c (by simp)
    simp only [List.sum_cons, List.length_cons]
    omega

theorem FD.sum {x : List Int} (h : FD x) : 1 ≤ x.sum ∧ x.sum ≤ 42 := by
  have := fd_sum x h.2.2
  have := h.1
  have := h.2.1
  omega

theorem FD.at {x : List Int} (h : FD x) {i : Nat} (hi : i < x.length) : 1 ≤ x[i] ∧ x[i] ≤ 6 := h.2.2 _ (List.getElem_mem hi)

theorem take_next {x : List Int} {i : Nat} (hi : i < x.length) : (x.take (i + 1)).sum = (x.take i).sum + x[i] := by
  rw [List.take_add_one, List.getElem?_eq_getElem hi, List.sum_append]; simp

theorem FD.take {x : List Int} (h : FD x) (i : Nat) : 0 ≤ (x.take i).sum ∧ (x.take i).sum ≤ x.sum := by
  have h1 := fd_sum (x.take i) (fun c hc => h.2.2 c (List.mem_of_mem_take hc))
  have h2 := fd_sum (x.drop i) (fun c hc => h.2.2 c (List.mem_of_mem_drop hc))
  have := take_drop_sum x i
  omega

/-- shares -/
def shr (x : List Int) (i : Nat) : Rat := ((x.take i).sum : Rat) / (x.sum : Rat)

theorem FD.sh {x : List Int} (h : FD x) : Sh (shr x) x.length := by
  have hs := h.sum
  have hne := ratNe (show 0 < x.sum by omega)
  refine ⟨?_, ?_, fun i hi => ?_, h.1⟩
  · unfold shr
    rw [List.take_zero]
    show ((0 : Int) : Rat) / _ = 0
    show (0 : Rat) / _ = 0
    rw [Rat.div_def]; grind
  · unfold shr
    rw [List.take_length]
    grind
  · unfold shr
    rw [frac_lt _ _ _ _ (by omega) (by omega), take_next hi]
    have := h.at hi
    exact Int.mul_lt_mul_of_pos_right (by omega) (by omega)

theorem shr_diff {x : List Int} (h : FD x) {i : Nat} (hi : i < x.length) : shr x (i + 1) - shr x i = (x[i] : Rat) / (x.sum : Rat) := by
  unfold shr
  rw [take_next hi, Rat.intCast_add]
  have hne := ratNe (show 0 < x.sum by have := h.sum; omega)
  grind

/-- the score at a share of whole numbers -/
theorem Qs_frac {x : List Int} (h : FD x) {i : Nat} (hi : i < x.length) (p w : Int) (hw : 0 < w) :
    Qs (shr x) i ((p : Rat) / (w : Rat)) = mkRat (2 * i - 1) 2 + mkRat (p * x.sum - (x.take i).sum * w) (w * x[i]).toNat := by
  have hs := h.sum
  have ha := h.at hi
  have hpos : 0 < w * x[i] := Int.mul_pos hw (by omega)
  have e1 : (((w * x[i]).toNat : Nat) : Rat) = (w : Rat) * (x[i] : Rat) := by
    rw [← Rat.intCast_mul]
    have : (((w * x[i]).toNat : Nat) : Int) = w * x[i] := by omega
    rw [← this]; rfl
  have e2 : ((2 * (i : Int) - 1 : Int) : Rat) = 2 * (i : Rat) - 1 := by
    rw [Rat.intCast_sub, Rat.intCast_mul]; rfl
  have e3 : ((p * x.sum - (x.take i).sum * w : Int) : Rat) = (p : Rat) * (x.sum : Rat) - ((x.take i).sum : Rat) * (w : Rat) := by
    rw [Rat.intCast_sub, Rat.intCast_mul, Rat.intCast_mul]
  have e4 : ((2 : Nat) : Rat) = 2 := rfl
  rw [Rat.mkRat_eq_div, Rat.mkRat_eq_div, e1, e2, e3, e4]
  unfold Qs
  rw [shr_diff h hi]
  unfold shr
  have n1 := ratNe (show 0 < x.sum by omega)
  have n2 := ratNe hw
  have n3 := ratNe (show 0 < x[i] by omega)
  generalize (x.sum : Rat) = N at *
  generalize (w : Rat) = W at *
  generalize (x[i] : Rat) = c at *
  generalize ((x.take i).sum : Rat) = X at *
  generalize (p : Rat) = P at *
  generalize (i : Rat) = I at *
  have n4 : c / N ≠ 0 := by
    intro hc
    have : c = c / N * N := by grind
    grind
  have f1 : (P / W - X / N) / (c / N) = (P * N - X * W) / (W * c) := by
    have g1 : (P / W - X / N) * (W * c) = (P * N - X * W) * (c / N) := by grind
    have g2 : W * c ≠ 0 := by
      intro hc
      rcases Rat.mul_eq_zero.1 hc with hc | hc
      · exact n2 hc
      · exact n3 hc
    grind
  rw [f1]
  grind

theorem Qs_bd {x : List Int} (h : FD x) {i : Nat} (hi : i < x.length) (p w : Int) (hw : 0 < w) (hw2 : w ≤ 42) (h1 : shr x i ≤ (p : Rat) / (w : Rat)) (h2 : (p : Rat) / (w : Rat) ≤ shr x (i + 1)) :
    Bd 12 9 (Qs (shr x) i ((p : Rat) / (w : Rat))) ∧ 0 ≤ p * x.sum - (x.take i).sum * w ∧ p * x.sum - (x.take i).sum * w ≤ w * x[i] ∧ 0 < w * x[i] ∧ w * x[i] ≤ 252 := by
  have hs := h.sum
  have ha := h.at hi
  have hl := h.2.1
  have hpos : 0 < w * x[i] := Int.mul_pos hw (by omega)
  have hle : w * x[i] ≤ 42 * 6 := Int.mul_le_mul hw2 ha.2 (by omega) (by omega)
  unfold shr at h1 h2
  rw [frac_le _ _ _ _ (by omega) hw] at h1
  rw [frac_le _ _ _ _ hw (by omega), take_next hi, Int.add_mul, Int.mul_comm x[i] w] at h2
  have k1 : 0 ≤ p * x.sum - (x.take i).sum * w := by omega
  have k2 : p * x.sum - (x.take i).sum * w ≤ w * x[i] := by omega
  refine ⟨?_, k1, k2, hpos, by omega⟩
  rw [Qs_frac h hi p w hw]
  have hD : (((w * x[i]).toNat : Nat) : Int) = w * x[i] := by omega
  generalize hE : (w * x[i]).toNat = D at *
  generalize hF : p * x.sum - (x.take i).sum * w = K at *
  refine bd_eq (N := (2 * i - 1) * D + 2 * K) (D := 2 * D) ?_ (by omega) ?_ ?_
  · have e1 : ((2 * D : Nat) : Rat) = 2 * (D : Rat) := by rw [Rat.natCast_mul]; rfl
    have e2 : (((2 * (i : Int) - 1) * D + 2 * K : Int) : Rat) = ((2 * (i : Int) - 1 : Int) : Rat) * (D : Rat) + 2 * (K : Rat) := by
      rw [Rat.intCast_add, Rat.intCast_mul, Rat.intCast_mul]; rfl
    have e4 : ((2 : Nat) : Rat) = 2 := rfl
    have n1 : (D : Rat) ≠ 0 := ratNe (N := (D : Int)) (by omega)
    rw [Rat.mkRat_eq_div, Rat.mkRat_eq_div, e1, e2, e4]
    generalize ((2 * (i : Int) - 1 : Int) : Rat) = A
    generalize (D : Rat) = B at *
    generalize (K : Rat) = C
    grind
  · have m1 : (2 * (i : Int) - 1) * (D : Int) ≤ 13 * D := Int.mul_le_mul_of_nonneg_right (by omega) (by omega)
    have m2 : (-1) * (D : Int) ≤ (2 * (i : Int) - 1) * (D : Int) := Int.mul_le_mul_of_nonneg_right (by omega) (by omega)
    show _ ≤ 4096
    omega
  · show _ ≤ 512
    omega

/-- a slope -/
theorem sl_bd {x y : List Int} (hx : FD x) (hy : FD y) {t : Rat} (h : IsS (shr x) (shr y) x.length y.length t) : Bd 8 8 t := by
  obtain ⟨i, j, hi, hj, rfl⟩ := h
  have a1 := hx.at hi
  have a2 := hy.at hj
  have s1 := hx.sum
  have s2 := hy.sum
  rw [shr_diff hx hi, shr_diff hy hj]
  have n1 := ratNe (show 0 < x.sum by omega)
  have n2 := ratNe (show 0 < y.sum by omega)
  have n3 := ratNe (show 0 < x[i] by omega)
  have n4 := ratNe (show 0 < y[j] by omega)
  have p1 : 0 < x.sum * y[j] := Int.mul_pos (by omega) (by omega)
  have p2 : x.sum * y[j] ≤ 42 * 6 := Int.mul_le_mul (by omega) (by omega) (by omega) (by omega)
  have p3 : 0 < x[i] * y.sum := Int.mul_pos (by omega) (by omega)
  have p4 : x[i] * y.sum ≤ 6 * 42 := Int.mul_le_mul (by omega) (by omega) (by omega) (by omega)
  have hD : (((x.sum * y[j]).toNat : Nat) : Int) = x.sum * y[j] := by omega
  refine bd_eq (N := x[i] * y.sum) (D := (x.sum * y[j]).toNat) ?_ (by omega) (by show _ ≤ 256; omega) (by show _ ≤ 256; omega)
  have e1 : (((x.sum * y[j]).toNat : Nat) : Rat) = (x.sum : Rat) * (y[j] : Rat) := by
    rw [← Rat.intCast_mul, ← hD]; rfl
  rw [e1, Rat.intCast_mul]
  generalize (x.sum : Rat) = N at *
  generalize (y.sum : Rat) = M at *
  generalize (x[i] : Rat) = c at *
  generalize (y[j] : Rat) = d at *
  have n5 : d / M ≠ 0 := by
    intro hc
    have : d = d / M * M := by grind
    grind
  have f1 : c / N / (d / M) * (d / M) = c / N := by grind
  have f2 : (c / N / (d / M)) * d = c / N * M := by
    have : (c / N / (d / M)) * d = (c / N / (d / M)) * (d / M) * M := by grind
    rw [this, f1]
  grind

/-! ## sizes of curves -/

/-- small curves: sizes of the places, of the values, of the slopes -/
structure Nice (nx dx ny dy : Nat) (l : List Pt) : Prop where
  asc : Asc l
  len : 2 ≤ l.length
  len2 : l.length ≤ 410
  pb : PB nx dx ny dy l
  sls : ∀ t, IsSl l t → Bd 8 8 t

theorem Nice.slOk {nx dx ny dy : Nat} {l : List Pt} (h : Nice nx dx ny dy l) (h1 : ny + dy + 1 + 2 * dx ≤ 60) (h2 : 2 * dy + nx + dx + 1 ≤ 60) : Each l SlOk := by
  intro i p q hp hq
  have bp := h.pb p (List.mem_of_getElem? hp)
  have bq := h.pb q (List.mem_of_getElem? hq)
  have b1 : Bd (ny + dy + 1) (2 * dy) (q.2 - p.2) := bq.2.sub bp.2 (by omega) (by omega) (by omega)
  have b2 : Bd (nx + dx + 1) (2 * dx) (q.1 - p.1) := bq.1.sub bp.1 (by omega) (by omega) (by omega)
  have hne : q.1 - p.1 ≠ 0 := by have := (asc_at h.asc hp hq).1; grind
  exact ⟨.mk bq.2 bp.2 (by omega) (by omega) (by omega), .mk bq.1 bp.1 (by omega) (by omega) (by omega), .mk hne b1 b2 (by omega) (by omega)⟩

theorem Nice.evOk {nx dx ny dy nr dr : Nat} {l : List Pt} (h : Nice nx dx ny dy l) {x : Rat} (hx : Bd nr dr x) (h1 : ny + dy + 1 + 2 * dx ≤ 60) (h2 : 2 * dy + nx + dx + 1 ≤ 60)
    (h3 : max (ny + (dr + dx + 8)) (max (nr + dx) (nx + dr) + 1 + 8 + dy) + 1 ≤ 60) (h4 : dr + dx + 8 + dy ≤ 60) : Each l fun p q => EvOk p q x := by
  intro i p q hp hq
  have bp := h.pb p (List.mem_of_getElem? hp)
  have b1 := h.sls _ ⟨i, p, q, hp, hq, rfl⟩
  have b2 : Bd (max (nr + dx) (nx + dr) + 1) (dr + dx) (x - p.1) := hx.sub bp.1 (by omega) (by omega) (by omega)
  have b3 : Bd (max (nr + dx) (nx + dr) + 1 + 8) (dr + dx + 8) ((x - p.1) * sl p q) := b2.mul b1 (by omega) (by omega)
  exact ⟨h.slOk h1 h2 i p q hp hq, .mk hx bp.1 (by omega) (by omega) (by omega), .mk b2 b1 (by omega) (by omega), .mk bp.2 b3 (by omega) (by omega) (by omega)⟩

theorem Nice.vals {nx dx ny dy : Nat} {l : List Pt} (h : Nice nx dx ny dy l) (h1 : nx ≤ 60) (h2 : dx ≤ 60) (h3 : ny ≤ 60) (h4 : dy ≤ 60) : AllV l := fun p hp => ⟨(h.pb p hp).1.mono h1 h2, (h.pb p hp).2.mono h3 h4⟩

theorem Nice.norm {nx dx ny dy : Nat} {l : List Pt} (h : Nice nx dx ny dy l) (hb : ∀ p ∈ bn l, Bd 12 9 p.1) (h1 : ny + dy + 1 + 2 * dx ≤ 60) (h2 : 2 * dy + nx + dx + 1 ≤ 60)
    (h3 : max (ny + (9 + dx + 8)) (max (13 + dx) (nx + 9) + 1 + 8 + dy) + 1 ≤ 60) (h4 : 9 + dx + 8 + dy ≤ 60) : NormOk l := by
  have one : Bd 0 0 (1 : Rat) := ⟨by decide, by decide⟩
  have hl : Bd 13 9 (lf (bn l)) := by
    cases hq : bn l with
    | nil => exact Bd.mono (n := 0) (d := 0) (r := 0) ⟨by decide, by decide⟩ (by omega) (by omega)
    | cons a r => exact (hb a (by rw [hq]; simp)).sub one (by omega) (by omega) (by omega)
  have hr : Bd 13 9 (rt (bn l)) := by
    cases hq : bn l with
    | nil => exact Bd.mono (n := 0) (d := 0) (r := 1) ⟨by decide, by decide⟩ (by omega) (by omega)
    | cons a r => exact (hb _ (by rw [hq]; exact List.getLast_mem _)).add one (by omega) (by omega) (by omega)
  exact ⟨h.asc, h.len, h.len2, h.vals (by omega) (by omega) (by omega) (by omega), h.slOk h1 h2, ⟨.mk hl (by omega) (by omega), h.evOk hl h1 h2 h3 h4⟩, ⟨.mk hr (by omega) (by omega), h.evOk hr h1 h2 h3 h4⟩,
    fun p hp => .mk (hb p hp) one (by omega) (by omega) (by omega)⟩

theorem half_bd : Bd 0 1 ((-1 : Rat) / 2) := ⟨by decide +kernel, by decide +kernel⟩

theorem pts_nice {x y : List Int} (hx : FD x) (hy : FD y) : Nice 12 9 12 9 (pts (shr x) (shr y) x.length y.length) := by
  have sx := hx.sh
  have sy := hy.sh
  have hl := pts_len sx sy
  refine ⟨pts_asc sx sy, hl.1, by have := hx.2.1; have := hy.2.1; omega, fun p hp => ?_, fun t ht => ?_⟩
  · rcases pts_is sx sy p hp with e | ⟨i, j, s, hi, hj, a1, a2, b1, b2, hs, e⟩
    · rw [e]; exact ⟨half_bd.mono (by omega) (by omega), half_bd.mono (by omega) (by omega)⟩
    · rw [e]
      have q1 := hx.sum
      have q2 := hy.sum
      rcases hs with hs | hs
      · have e2 : s = (((x.take (i + 1)).sum : Int) : Rat) / ((x.sum : Int) : Rat) := hs
        rw [e2] at a1 a2 b1 b2 ⊢
        exact ⟨(Qs_bd hx hi _ _ (by omega) (by omega) a1 a2).1, (Qs_bd hy hj _ _ (by omega) (by omega) b1 b2).1⟩
      · have e2 : s = (((y.take (j + 1)).sum : Int) : Rat) / ((y.sum : Int) : Rat) := hs
        rw [e2] at a1 a2 b1 b2 ⊢
        exact ⟨(Qs_bd hx hi _ _ (by omega) (by omega) a1 a2).1, (Qs_bd hy hj _ _ (by omega) (by omega) b1 b2).1⟩
  · obtain ⟨c, p, q, hp, hq, rfl⟩ := ht
    exact sl_bd hx hy (pts_sl sx sy c p q hp hq)

theorem pts_norm {x y : List Int} (hx : FD x) (hy : FD y) : NormOk (pts (shr x) (shr y) x.length y.length) := by
  have h := pts_nice hx hy
  exact h.norm (fun p hp => (h.pb p ((bn_sub _).subset hp)).1) (by omega) (by omega) (by omega) (by omega)

theorem nf_nice {x y : List Int} (hx : FD x) (hy : FD y) : Nice 13 9 21 17 (nf (pts (shr x) (shr y) x.length y.length)) := by
  have h := pts_nice hx hy
  have one : Bd 0 0 (1 : Rat) := ⟨by decide, by decide⟩
  refine ⟨asc_nf h.asc h.len, nf_len, ?_, fun p hp => ?_, fun t ht => ?_⟩
  · have := bn_len _ h.len; have := h.len2; unfold nf; simp; omega
  · rcases nf_pts h.asc h.len p hp with e | ⟨c, hc, t, ht, e⟩ | ⟨c, hc, t, ht, e⟩
    · have := h.pb p ((bn_sub _).subset e)
      exact ⟨this.1.mono (by omega) (by omega), this.2.mono (by omega) (by omega)⟩
    · have bc := h.pb c ((bn_sub _).subset hc)
      have bt := h.sls t ht
      rcases e with e | e
      · rw [e]; exact ⟨bc.1.sub one (by omega) (by omega) (by omega), bc.2.sub bt (by omega) (by omega) (by omega)⟩
      · rw [e]; exact ⟨bc.1.add one (by omega) (by omega) (by omega), bc.2.add bt (by omega) (by omega) (by omega)⟩
    · have bt := h.sls t ht
      have ec : c = (-1 / 2, -1 / 2) := by
        unfold pts at hc
        simp at hc
        exact hc.symm
      have b0 : Bd 1 1 ((0 : Rat) - -1 / 2) := ⟨by decide +kernel, by decide +kernel⟩
      have b1 : Bd 2 1 ((1 : Rat) - -1 / 2) := ⟨by decide +kernel, by decide +kernel⟩
      have c0 : Bd 9 9 (((0 : Rat) - -1 / 2) * t) := b0.mul bt (by omega) (by omega)
      have c1 : Bd 10 9 (((1 : Rat) - -1 / 2) * t) := b1.mul bt (by omega) (by omega)
      have d0 : Bd 12 10 (-1 / 2 + ((0 : Rat) - -1 / 2) * t) := half_bd.add c0 (by omega) (by omega) (by omega)
      have d1 : Bd 12 10 (-1 / 2 + ((1 : Rat) - -1 / 2) * t) := half_bd.add c1 (by omega) (by omega) (by omega)
      rcases e with e | e
      · rw [e, ec]; exact ⟨Bd.mono (n := 0) (d := 0) (r := 0) ⟨by decide, by decide⟩ (by omega) (by omega), d0.mono (by omega) (by omega)⟩
      · rw [e, ec]; exact ⟨Bd.mono (n := 0) (d := 0) (r := 1) ⟨by decide, by decide⟩ (by omega) (by omega), d1.mono (by omega) (by omega)⟩
  · obtain ⟨c, p, q, hp, hq, rfl⟩ := ht
    exact h.sls _ (nf_sl h.asc h.len hp hq)
end Go.Proofs.Ytapkemilafogjaa

namespace Go.Proofs.Ytapkemilafogjaa
open Go.Ab Go.Pure
set_option linter.unusedVariables false

/-- the numbers below each score -/
def bel (x : List Int) : List Int := (List.range (x.length + 1)).map fun i => (x.take i).sum

theorem bel_len (x : List Int) : (bel x).length = x.length + 1 := by simp [bel]
theorem bel_at (x : List Int) {i : Nat} (hi : i < (bel x).length) : (bel x)[i] = (x.take i).sum := by simp [bel]

theorem k_sums {x : List Int} (h : FD x) : ∀ (k i : Nat), i + k = x.length → k_equating_sums_1 ⟨x⟩ (List.map dI_i64.enc ((List.range (i + 1)).map fun i => (x.take i).sum)) (i : Int) = some (r_equating_sums.enc (bel x)) := by
  have hl := h.2.1
  intro k
  induction k with
  | zero =>
    intro i hi
    refine t_equating_sums_1 _ _ _ ?_
    rw [brn_dec, if_neg (by show ¬ (i : Int) < ((List.map dI_i64.enc x).length : Int); rw [lenI]; omega), chk_pos rfl, show i = x.length by omega]
    rfl
  | succ k ih =>
    intro i hi
    have e : w64 ((i : Int) + 1) = ((i + 1 : Nat) : Int) := by rw [w64_id (by omega) (by omega)]; omega
    have ht := h.take i
    have ha := h.at (show i < x.length by omega)
    have hs := h.sum
    refine t_equating_sums_1 _ _ _ ?_
    rw [brn_dec, if_pos (by show (i : Int) < ((List.map dI_i64.enc x).length : Int); rw [lenI]; omega), chk_pos (by omega), Int.toNat_natCast]
    show elemD dI_i64 (List.map dI_i64.enc x) i _ = _
    rw [elemI (by omega), chk_pos (by omega), chk_pos (by rw [lenI]; simp; omega), Nat.zero_add, elemI (i := i) (by simp)]
    have eg : ((List.range (i + 1)).map fun i => (x.take i).sum)[i]'(by simp) = (x.take i).sum := by simp
    rw [eg, chk_pos rfl, chk_pos (by rw [lenI]; simp; omega), chk_pos rfl, e, w64_id (by omega) (by omega), ← take_next (show i < x.length by omega), ← ih (i + 1) (by omega)]
    congr 1
    rw [List.range_succ (n := i + 1), List.map_append, List.map_append]
    rfl

theorem c_sums {x : List Int} (h : FD x) : cw f_equating_sums [aD x] [] = some (r_equating_sums.enc (bel x)) := by
  refine e_equating_sums _ ?_
  rw [chk_pos rfl]
  exact k_sums h x.length 0 (by omega)

theorem c_number {x : List Int} (h : FD x) {i : Nat} (hi : i < x.length) (p w : Int) (hw : 0 < w) (hw2 : w ≤ 42) (hp0 : 0 ≤ p) (hp2 : p ≤ 42) (h1 : shr x i ≤ (p : Rat) / (w : Rat)) (h2 : (p : Rat) / (w : Rat) ≤ shr x (i + 1)) :
    cw f_equating_number [.sl 1 (List.map dI_i64.enc (bel x)), I (i : Int), I p, I w] [] = some (r_equating_number.enc (ofR (Qs (shr x) i ((p : Rat) / (w : Rat))), 0)) := by
  have hl := h.2.1
  have hs := h.sum
  have ha := h.at hi
  have ht := h.take i
  obtain ⟨q1, q2, q3, q4, q5⟩ := Qs_bd h hi p w hw hw2 h1 h2
  have m1 : p * x.sum ≤ 42 * 42 := Int.mul_le_mul hp2 hs.2 (by omega) (by omega)
  have m2 : 0 ≤ p * x.sum := Int.mul_nonneg hp0 (by omega)
  have m3 : (x.take i).sum * w ≤ 42 * 42 := Int.mul_le_mul (by omega) hw2 (by omega) (by omega)
  have m4 : 0 ≤ (x.take i).sum * w := Int.mul_nonneg ht.1 (by omega)
  have hlen := bel_len x
  have hD : w * x[i] = (((w * x[i]).toNat : Nat) : Int) := by omega
  have n1 : cw f_ratio_New [I (2 * (i : Int) - 1), I 2] [] = some (r_ratio_New.enc (ofR (mkRat (2 * i - 1) 2), 0)) := c_New (2 * i - 1) 2 (by omega) (by omega) (by omega)
  have n2 := c_New (p * x.sum - (x.take i).sum * w) (w * x[i]).toNat (by omega) (by omega) (by omega)
  rw [← hD] at n2
  have b1 : Bd 4 1 (mkRat (2 * (i : Int) - 1) 2) := bd_mk (by omega) (by show _ ≤ 16; omega) (by show _ ≤ 2; omega)
  have b2 : Bd 8 8 (mkRat (p * x.sum - (x.take i).sum * w) (w * x[i]).toNat) := bd_mk (by omega) (by show _ ≤ 256; omega) (by show _ ≤ 256; omega)
  refine e_equating_number _ _ _ _ ?_
  have e0 : w64 (((List.map dI_i64.enc (bel x)).length : Int) - 1) = ((x.length : Nat) : Int) := by rw [lenI, hlen, w64_id (by omega) (by omega)]; omega
  have e1 : w64 ((i : Int) + 1) = ((i + 1 : Nat) : Int) := by rw [w64_id (by omega) (by omega)]; omega
  have e2 : w64 (w64 (2 * (i : Int)) - 1) = 2 * i - 1 := by rw [w64_id (n := 2 * (i : Int)) (by omega) (by omega), w64_id (by omega) (by omega)]
  rw [e0, chk_pos (by omega), Int.toNat_natCast, elemI (by omega), bel_at, List.take_length, e2, callD_of n1, brn_f (by rfl), chk_pos (by omega), Int.toNat_natCast, elemI (by omega), bel_at, e1, chk_pos (by omega), Int.toNat_natCast, elemI (by omega), bel_at,
    chk_pos (by omega), elemI (by omega), bel_at, take_next hi]
  have e3 : w64 ((x.take i).sum + x[i] - (x.take i).sum) = x[i] := by rw [w64_id (by omega) (by omega)]; omega
  rw [e3, w64_id (n := p * x.sum) (by omega) (by omega), w64_id (n := (x.take i).sum * w) (by omega) (by omega), w64_id (n := p * x.sum - (x.take i).sum * w) (by omega) (by omega), w64_id (n := w * x[i]) (by omega) (by omega),
    callD_of n2, brn_f (by rfl), callD_of (c_Add _ _ b1 b2 (by omega) (by omega) (by omega)), ← Qs_frac h hi p w hw]

theorem c_Contains0 {x : List Int} (h : FD x) : cw f_slices_Contains_int_int [.sl 1 (List.map dI_i64.enc x), I 0] [] = some (r_slices_Contains_int_int.enc false) := by
  have hl := h.2.1
  have key : ∀ (k i : Nat), i + k = x.length → k_slices_Index_int_int_1 x 0 (i : Int) = some (r_slices_Index_int_int.enc (-1)) := by
    intro k
    induction k with
    | zero =>
      intro i hi
      refine t_slices_Index_int_int_1 _ _ _ ?_
      rw [brn_dec, if_neg (by rw [lenI]; omega)]
    | succ k ih =>
      intro i hi
      have e : w64 ((i : Int) + 1) = ((i + 1 : Nat) : Int) := by rw [w64_id (by omega) (by omega)]; omega
      have ha := h.at (show i < x.length by omega)
      refine t_slices_Index_int_int_1 _ _ _ ?_
      rw [brn_dec, if_pos (by rw [lenI]; omega), chk_pos (by omega), Int.toNat_natCast, elemI (by omega), brn_f (beq_false_of_ne (by omega)), e]
      exact ih (i + 1) (by omega)
  refine e_slices_Contains_int_int _ _ ?_
  rw [callD_of (e_slices_Index_int_int x 0 (key x.length 0 (by omega)))]
  rfl

section
variable {x y : List Int} (hx : FD x) (hy : FD y)

theorem lt_shr {x y : List Int} (hx : FD x) (hy : FD y) (i j : Nat) : shr y j < shr x i ↔ (y.take j).sum * x.sum < (x.take i).sum * y.sum := by
  have := hx.sum
  have := hy.sum
  exact frac_lt _ _ _ _ (by omega) (by omega)

theorem le_shr {x y : List Int} (hx : FD x) (hy : FD y) (i j : Nat) : shr x i ≤ shr y j ↔ (x.take i).sum * y.sum ≤ (y.take j).sum * x.sum := by
  have := hx.sum
  have := hy.sum
  exact frac_le _ _ _ _ (by omega) (by omega)

noncomputable abbrev rP (P : List Pt) : Option (AV × Mem) := some (r_equating_Percentile.enc (⟨(nf P).map ofP⟩, 0))

theorem k_P1026 {x y : List Int} (N M : Int) (P : List Pt) (hP : NormOk P) (i j : Int) : k_equating_Percentile_1026 ⟨x⟩ ⟨y⟩ (bel x) (bel y) N M j (ptsE P) i = rP P := by
  refine t_equating_Percentile_1026 _ _ _ _ _ _ _ _ _ ?_
  rw [chk_pos (by omega), List.take_length]
  show callD r_conversion_Normal (cw f_conversion_Normal [aC P] []) _ = _
  rw [callD_of (g_Normal P hP), chk_pos (by omega), chk_pos (by omega), chk_pos (by omega)]

/-- both ways round the loop -/
def Loop (x y : List Int) (P F : List Pt) (i j : Nat) : Prop :=
  k_equating_Percentile_1 ⟨x⟩ ⟨y⟩ (bel x) (bel y) x.sum y.sum (ptsE F) (i : Int) (j : Int) = rP P ∧
  k_equating_Percentile_1v1 ⟨x⟩ ⟨y⟩ (bel x) (bel y) x.sum y.sum (j : Int) (ptsE F) (i : Int) = rP P

theorem k_P1024 {x y : List Int} (hx : FD x) (hy : FD y) (P F : List Pt) (i i' j : Nat) (hi : i + 1 ≤ x.length) (hj : j + 1 ≤ y.length) (hl : Loop x y P F i' (nj (shr x) (shr y) i j)) :
    k_equating_Percentile_1024 ⟨x⟩ ⟨y⟩ (bel x) (bel y) x.sum y.sum (j : Int) (ptsE F) (i' : Int) ((x.take (i + 1)).sum * y.sum) ((y.take (j + 1)).sum * x.sum) = rP P ∧
    k_equating_Percentile_1024v1 ⟨x⟩ ⟨y⟩ (bel x) (bel y) x.sum y.sum (j : Int) (ptsE F) (i' : Int) ((x.take (i + 1)).sum * y.sum) ((y.take (j + 1)).sum * x.sum) = rP P := by
  have hl2 := hy.2.1
  have e : w64 ((j : Int) + 1) = ((j + 1 : Nat) : Int) := by rw [w64_id (by omega) (by omega)]; omega
  have hc := le_shr hy hx (j + 1) (i + 1)
  unfold nj at hl
  constructor
  · refine t_equating_Percentile_1024 _ _ _ _ _ _ _ _ _ _ _ ?_
    rw [brn_dec, e]
    by_cases h : (y.take (j + 1)).sum * x.sum ≤ (x.take (i + 1)).sum * y.sum
    · rw [if_pos h]; rw [if_pos (hc.2 h)] at hl; exact hl.1
    · rw [if_neg h]; rw [if_neg (fun h' => h (hc.1 h'))] at hl; exact hl.2
  · refine t_equating_Percentile_1024v1 _ _ _ _ _ _ _ _ _ _ _ ?_
    rw [brn_dec, e]
    by_cases h : (y.take (j + 1)).sum * x.sum ≤ (x.take (i + 1)).sum * y.sum
    · rw [if_pos h]; rw [if_pos (hc.2 h)] at hl; exact hl.1
    · rw [if_neg h]; rw [if_neg (fun h' => h (hc.1 h'))] at hl; exact hl.2

theorem k_Percentile {x y : List Int} (hx : FD x) (hy : FD y) (P : List Pt) (hP : NormOk P) :
    ∀ (k i j : Nat) (s : Rat) (F : List Pt), At (shr x) (shr y) x.length y.length i j s → (x.length - i) + (y.length - j) ≤ k → F.length ≤ 20 + i + j → P = F ++ pw (shr x) (shr y) x.length y.length k i j → Loop x y P F i j := by
  have sx := hx.sh
  have sy := hy.sh
  have lx := hx.2.1
  have ly := hy.2.1
  have ux := hx.sum
  have uy := hy.sum
  have blx := bel_len x
  have bly := bel_len y
  intro k
  induction k with
  | zero =>
    intro i j s F h hk hF hPe
    have e : P = F := by rw [hPe]; simp [pw]
    subst e
    have him := h.im
    have hjm := h.jm
    constructor
    · refine t_equating_Percentile_1 _ _ _ _ _ _ _ _ _ ?_
      rw [brn_dec, if_neg (by show ¬ (i : Int) < ((List.map dI_i64.enc x).length : Int); rw [lenI]; omega)]
      exact k_P1026 _ _ P hP _ _
    · refine t_equating_Percentile_1v1 _ _ _ _ _ _ _ _ _ ?_
      rw [brn_dec, if_neg (by show ¬ (i : Int) < ((List.map dI_i64.enc x).length : Int); rw [lenI]; omega)]
      exact k_P1026 _ _ P hP _ _
  | succ k ih =>
    intro i j s F h hk hF hPe
    have him := h.im
    have hjm := h.jm
    by_cases hi : i < x.length
    · have hj : j < y.length := (h.both sx sy).1 hi
      obtain ⟨h1, h2, h3, h4, h5⟩ := h.next sx sy hi hj
      have hless := less_steps (a := shr x) (b := shr y) i j
      have him' := h1.im
      have hjm' := h1.jm
      rw [pw_step k hi hj] at hPe
      have hrec := ih (ni (shr x) (shr y) i j) (nj (shr x) (shr y) i j) (nx (shr x) (shr y) i j) (F ++ [(Qs (shr x) i (nx (shr x) (shr y) i j), Qs (shr y) j (nx (shr x) (shr y) i j))]) h1 (by omega) (by simp; omega) (by rw [hPe]; simp)
      have tx := hx.take (i + 1)
      have ty := hy.take (j + 1)
      have m1 : (x.take (i + 1)).sum * y.sum ≤ 42 * 42 := Int.mul_le_mul (by omega) uy.2 (by omega) (by omega)
      have m2 : 0 ≤ (x.take (i + 1)).sum * y.sum := Int.mul_nonneg tx.1 (by omega)
      have m3 : (y.take (j + 1)).sum * x.sum ≤ 42 * 42 := Int.mul_le_mul (by omega) ux.2 (by omega) (by omega)
      have m4 : 0 ≤ (y.take (j + 1)).sum * x.sum := Int.mul_nonneg ty.1 (by omega)
      have ei : w64 ((i : Int) + 1) = ((i + 1 : Nat) : Int) := by rw [w64_id (by omega) (by omega)]; omega
      have ej : w64 ((j : Int) + 1) = ((j + 1 : Nat) : Int) := by rw [w64_id (by omega) (by omega)]; omega
      have hc := le_shr hx hy (i + 1) (j + 1)
      have hF' : ptsE F ++ [dGPoint.enc (ofP (Qs (shr x) i (nx (shr x) (shr y) i j), Qs (shr y) j (nx (shr x) (shr y) i j)))] = ptsE (F ++ [(Qs (shr x) i (nx (shr x) (shr y) i j), Qs (shr y) j (nx (shr x) (shr y) i j))]) := by
        simp only [ptsE, List.map_append, List.map_cons, List.map_nil]
      have ani := h.ai
      have bnj := h.bj
      -- the tail behind the two numbers
      have tail : ∀ (A B : Option (AV × Mem)),
          (shr x (i + 1) ≤ shr y (j + 1) → A = k_equating_Percentile_1024 ⟨x⟩ ⟨y⟩ (bel x) (bel y) x.sum y.sum (j : Int) (ptsE (F ++ [(Qs (shr x) i (nx (shr x) (shr y) i j), Qs (shr y) j (nx (shr x) (shr y) i j))])) (w64 ((i : Int) + 1)) ((x.take (i + 1)).sum * y.sum) ((y.take (j + 1)).sum * x.sum)) →
          (¬ shr x (i + 1) ≤ shr y (j + 1) → B = k_equating_Percentile_1024v1 ⟨x⟩ ⟨y⟩ (bel x) (bel y) x.sum y.sum (j : Int) (ptsE (F ++ [(Qs (shr x) i (nx (shr x) (shr y) i j), Qs (shr y) j (nx (shr x) (shr y) i j))])) (i : Int) ((x.take (i + 1)).sum * y.sum) ((y.take (j + 1)).sum * x.sum)) →
          brn (decide ((x.take (i + 1)).sum * y.sum ≤ (y.take (j + 1)).sum * x.sum)) A B = rP P := by
        intro A B hA hB
        rw [brn_dec]
        by_cases hle : shr x (i + 1) ≤ shr y (j + 1)
        · rw [if_pos (hc.1 hle), hA hle, ei]
          have : ni (shr x) (shr y) i j = i + 1 := by unfold ni; rw [if_pos hle]
          rw [this] at hrec
          exact (k_P1024 hx hy P _ i (i + 1) j (by omega) (by omega) hrec).1
        · rw [if_neg (fun h' => hle (hc.2 h')), hB hle]
          have : ni (shr x) (shr y) i j = i := by unfold ni; rw [if_neg hle]
          rw [this] at hrec
          exact (k_P1024 hx hy P _ i i j (by omega) (by omega) hrec).2
      -- the two numbers
      have f1015 : shr y (j + 1) < shr x (i + 1) → k_equating_Percentile_1015 ⟨x⟩ ⟨y⟩ (bel x) (bel y) x.sum y.sum (j : Int) (ptsE F) (i : Int) ((x.take (i + 1)).sum * y.sum) ((y.take (j + 1)).sum * x.sum) (y.take (j + 1)).sum = rP P := by
        intro hlt
        have enx : nx (shr x) (shr y) i j = (((y.take (j + 1)).sum : Int) : Rat) / ((y.sum : Int) : Rat) := by unfold nx; rw [if_pos hlt]; rfl
        have c1 := c_number hx hi (y.take (j + 1)).sum y.sum (by omega) (by omega) (by omega) (by omega) (by rw [← enx]; grind) (by rw [← enx]; exact h3)
        have c2 := c_number hy hj (y.take (j + 1)).sum y.sum (by omega) (by omega) (by omega) (by omega) (by rw [← enx]; grind) (by rw [← enx]; exact h4)
        rw [← enx] at c1 c2
        refine t_equating_Percentile_1015 _ _ _ _ _ _ _ _ _ _ _ _ ?_
        rw [chk_pos (by omega), List.take_length, callD_of c1, brn_f (by rfl), chk_pos (by omega), List.take_length, callD_of c2, brn_f (by rfl), chk_pos rfl, chk_pos (by rw [lenP]; omega), chk_pos rfl]
        refine tail _ _ (fun _ => ?_) (fun _ => ?_) <;> rw [← hF'] <;> rfl
      have f1015v : ¬ shr y (j + 1) < shr x (i + 1) → k_equating_Percentile_1015v1 ⟨x⟩ ⟨y⟩ (bel x) (bel y) x.sum y.sum (j : Int) (ptsE F) (i : Int) ((x.take (i + 1)).sum * y.sum) ((y.take (j + 1)).sum * x.sum) (x.take (i + 1)).sum = rP P := by
        intro hlt
        have enx : nx (shr x) (shr y) i j = (((x.take (i + 1)).sum : Int) : Rat) / ((x.sum : Int) : Rat) := by unfold nx; rw [if_neg hlt]; rfl
        have c1 := c_number hx hi (x.take (i + 1)).sum x.sum (by omega) (by omega) (by omega) (by omega) (by rw [← enx]; grind) (by rw [← enx]; exact h3)
        have c2 := c_number hy hj (x.take (i + 1)).sum x.sum (by omega) (by omega) (by omega) (by omega) (by rw [← enx]; grind) (by rw [← enx]; exact h4)
        rw [← enx] at c1 c2
        refine t_equating_Percentile_1015v1 _ _ _ _ _ _ _ _ _ _ _ _ ?_
        rw [chk_pos (by omega), List.take_length, callD_of c1, brn_f (by rfl), chk_pos (by omega), List.take_length, callD_of c2, brn_f (by rfl), chk_pos rfl, chk_pos (by rw [lenP]; omega), chk_pos rfl]
        refine tail _ _ (fun _ => ?_) (fun _ => ?_) <;> rw [← hF'] <;> rfl
      have hcl := lt_shr hx hy (i + 1) (j + 1)
      constructor
      · refine t_equating_Percentile_1 _ _ _ _ _ _ _ _ _ ?_
        rw [brn_dec, if_pos (by show (i : Int) < ((List.map dI_i64.enc x).length : Int); rw [lenI]; omega), brn_dec, if_pos (by show (j : Int) < ((List.map dI_i64.enc y).length : Int); rw [lenI]; omega), ei, ej, lenI, lenI, chk_pos (by omega), chk_pos (by omega), Int.toNat_natCast, Nat.zero_add, elemI (by omega), bel_at, chk_pos (by omega), chk_pos (by omega), Int.toNat_natCast, Nat.zero_add, elemI (by omega), bel_at,
          chk_pos (by omega), chk_pos (by omega), elemI (by omega), bel_at, brn_dec, w64_id (n := (y.take (j + 1)).sum * x.sum) (by omega) (by omega), w64_id (n := (x.take (i + 1)).sum * y.sum) (by omega) (by omega)]
        by_cases hlt : shr y (j + 1) < shr x (i + 1)
        · rw [if_pos (hcl.1 hlt), chk_pos (by omega), chk_pos (by omega), elemI (by omega), bel_at]
          exact f1015 hlt
        · rw [if_neg (fun h' => hlt (hcl.2 h'))]
          exact f1015v hlt
      · refine t_equating_Percentile_1v1 _ _ _ _ _ _ _ _ _ ?_
        rw [brn_dec, if_pos (by show (i : Int) < ((List.map dI_i64.enc x).length : Int); rw [lenI]; omega), brn_dec, if_pos (by show (j : Int) < ((List.map dI_i64.enc y).length : Int); rw [lenI]; omega), ei, ej, lenI, lenI, chk_pos (by omega), chk_pos (by omega), Int.toNat_natCast, Nat.zero_add, elemI (by omega), bel_at, chk_pos (by omega), chk_pos (by omega), Int.toNat_natCast, Nat.zero_add, elemI (by omega), bel_at,
          chk_pos (by omega), chk_pos (by omega), elemI (by omega), bel_at, brn_dec, w64_id (n := (y.take (j + 1)).sum * x.sum) (by omega) (by omega), w64_id (n := (x.take (i + 1)).sum * y.sum) (by omega) (by omega)]
        by_cases hlt : shr y (j + 1) < shr x (i + 1)
        · rw [if_pos (hcl.1 hlt), chk_pos (by omega), chk_pos (by omega), elemI (by omega), bel_at]
          exact f1015 hlt
        · rw [if_neg (fun h' => hlt (hcl.2 h'))]
          exact f1015v hlt
    · have e : P = F := by
        rw [hPe]
        have : pw (shr x) (shr y) x.length y.length (k + 1) i j = [] := by unfold pw; rw [if_neg (fun h' => hi h'.1)]
        rw [this, List.append_nil]
      subst e
      constructor
      · refine t_equating_Percentile_1 _ _ _ _ _ _ _ _ _ ?_
        rw [brn_dec, if_neg (by show ¬ (i : Int) < ((List.map dI_i64.enc x).length : Int); rw [lenI]; omega)]
        exact k_P1026 _ _ P hP _ _
      · refine t_equating_Percentile_1v1 _ _ _ _ _ _ _ _ _ ?_
        rw [brn_dec, if_neg (by show ¬ (i : Int) < ((List.map dI_i64.enc x).length : Int); rw [lenI]; omega)]
        exact k_P1026 _ _ P hP _ _
end

/-- the points of the percentile curve -/
def pc (x y : List Int) : List Pt := pts (shr x) (shr y) x.length y.length

theorem c_Percentile {x y : List Int} (hx : FD x) (hy : FD y) : cw f_equating_Percentile [aD x, aD y] [] = some (r_equating_Percentile.enc (⟨(nf (pc x y)).map ofP⟩, 0)) := by
  have lx := hx.2.1
  have ly := hy.2.1
  have blx := bel_len x
  have bly := bel_len y
  refine e_equating_Percentile _ _ ?_
  have e1 : w64 (((List.map dI_i64.enc (bel x)).length : Int) - 1) = ((x.length : Nat) : Int) := by rw [lenI, blx, w64_id (by omega) (by omega)]; omega
  have e2 : w64 (((List.map dI_i64.enc (bel y)).length : Int) - 1) = ((y.length : Nat) : Int) := by rw [lenI, bly, w64_id (by omega) (by omega)]; omega
  rw [callD_of (c_DValid hx.dg), brn_nt, callD_of (c_DValid hy.dg), brn_nt, callD_of (c_Contains0 hx), brn_F, callD_of (c_Contains0 hy), brn_F, callD_of (c_sums hx), callD_of (c_sums hy), e1, e2, lenI, lenI, chk_pos (by omega), chk_pos (by omega), Int.toNat_natCast, Nat.zero_add, elemI (by omega), bel_at, List.take_length,
    chk_pos (by omega), chk_pos (by omega), Int.toNat_natCast, Nat.zero_add, elemI (by omega), bel_at, List.take_length, chk_pos rfl]
  have hh : ofR (-1 / 2 : Rat) = ⟨-1, 2⟩ := by
    have h1 : (-1 / 2 : Rat).num = -1 := by decide +kernel
    have h2 : (-1 / 2 : Rat).den = 2 := by decide +kernel
    unfold ofR
    rw [h1, h2]
    rfl
  have key := (k_Percentile hx hy (pc x y) (pts_norm hx hy) (x.length + y.length) 0 0 0 [(-1 / 2, -1 / 2)] (at0 hx.sh hy.sh) (by omega) (by simp) rfl).1
  unfold rP at key
  rw [← key]
  have e3 : ptsE [((-1 / 2 : Rat), (-1 / 2 : Rat))] = [dGPoint.enc ⟨⟨-1, 2⟩, ⟨-1, 2⟩⟩] := by
    show [dGPoint.enc (ofP (-1 / 2, -1 / 2))] = _
    unfold ofP
    rw [hh]
  rw [e3]
  rfl
end Go.Proofs.Ytapkemilafogjaa

namespace Go.Proofs.Ytapkemilafogjaa
open Go.Ab Go.Pure
set_option linter.unusedVariables false

/-- a line, with sizes -/
structure LineOk (s t : Rat) : Prop where
  pos : 0 < s
  bs : Bd 25 25 s
  bt : Bd 27 25 t
  bst : Bd 28 25 (s + t)

def lp (s t : Rat) : List Pt := [((0 : Rat), t), ((1 : Rat), s + t)]

theorem one_bd : Bd 0 0 (1 : Rat) := ⟨by decide, by decide⟩
theorem zero_bd : Bd 0 0 (0 : Rat) := ⟨by decide, by decide⟩

theorem lp_asc {s t : Rat} (h : 0 < s) : Asc (lp s t) := by
  unfold lp Asc
  rw [List.pairwise_cons]
  refine ⟨fun q hq => ?_, List.pairwise_singleton _ _⟩
  rw [List.mem_singleton.1 hq]
  exact ⟨by show (0 : Rat) < 1; decide, by show t < s + t; grind⟩

theorem sl_lp (s t : Rat) : sl ((0 : Rat), t) ((1 : Rat), s + t) = s := by
  unfold sl
  show (s + t - t) / (1 - 0) = s
  grind

theorem cv_lp (s t x : Rat) : cv (lp s t) x = t + x * s := by
  unfold lp
  rw [cv_two, sl_lp]
  unfold ln
  show t + (x - 0) * s = _
  grind

theorem each_two {p q : Pt} {P : Pt → Pt → Prop} (h : P p q) : Each [p, q] P := by
  intro i a b ha hb
  match i, ha, hb with
  | 0, ha, hb => simp at ha hb; rw [← ha, ← hb]; exact h
  | i + 1, ha, hb => simp at hb

theorem LineOk.vals {s t : Rat} (h : LineOk s t) : AllV (lp s t) := by
  intro p hp
  unfold lp at hp
  simp at hp
  rcases hp with hp | hp
  · rw [hp]; exact ⟨.mk zero_bd (by omega) (by omega), .mk h.bt (by omega) (by omega)⟩
  · rw [hp]; exact ⟨.mk one_bd (by omega) (by omega), .mk h.bst (by omega) (by omega)⟩

theorem LineOk.sls {s t : Rat} (h : LineOk s t) : SlOk ((0 : Rat), t) ((1 : Rat), s + t) := by
  refine ⟨.mk h.bst h.bt (by omega) (by omega) (by omega), .mk one_bd zero_bd (by omega) (by omega) (by omega), ?_⟩
  have e1 : s + t - t = s := by grind
  have e2 : (1 : Rat) - 0 = 1 := by grind
  show DivOk (s + t - t) (1 - 0)
  rw [e1, e2]
  exact .mk (by decide) h.bs one_bd (by omega) (by omega)

theorem LineOk.ev {s t : Rat} (h : LineOk s t) {x : Rat} {nr dr n d : Nat} (hx : Bd nr dr x) (hxs : Bd n d (x * s)) (h1 : nr + 25 ≤ 60) (h2 : dr + 25 ≤ 60) (h3 : 27 + d + 1 ≤ 60) (h4 : n + 25 + 1 ≤ 60) : Each (lp s t) fun p q => EvOk p q x := by
  refine each_two ⟨h.sls, .mk hx zero_bd (by omega) (by omega) (by omega), ?_, ?_⟩
  · have e : x - 0 = x := by grind
    show MulOk (x - 0) (sl ((0 : Rat), t) ((1 : Rat), s + t))
    rw [e, sl_lp]
    exact .mk hx h.bs (by omega) (by omega)
  · have e : x - 0 = x := by grind
    show AddOk t ((x - 0) * sl ((0 : Rat), t) ((1 : Rat), s + t))
    rw [e, sl_lp]
    exact .mk h.bt hxs (by omega) (by omega) (by omega)

theorem LineOk.eval {s t : Rat} (h : LineOk s t) {x : Rat} {nr dr n d : Nat} (hx : Bd nr dr x) (hxs : Bd n d (x * s)) (h1 : nr + 25 ≤ 60) (h2 : dr + 25 ≤ 60) (h3 : 27 + d + 1 ≤ 60) (h4 : n + 25 + 1 ≤ 60) :
    cw f_conversion_Eval [aC (lp s t), aR x] [] = some (r_conversion_Eval.enc (ofR (t + x * s), 0)) := by
  have := g_Eval (lp s t) x (lp_asc h.pos) (by simp [lp]) (by simp [lp]) h.vals (.mk hx (by omega) (by omega)) (h.ev hx hxs h1 h2 h3 h4)
  rwa [cv_lp] at this

theorem bn_two (p q : Pt) : bn [p, q] = [] := rfl

theorem LineOk.norm {s t : Rat} (h : LineOk s t) : NormOk (lp s t) := by
  refine ⟨lp_asc h.pos, by simp [lp], by simp [lp], h.vals, each_two h.sls, ⟨.mk zero_bd (by omega) (by omega), ?_⟩, ⟨.mk one_bd (by omega) (by omega), ?_⟩, fun p hp => by cases hp⟩
  · refine h.ev (x := 0) (n := 0) (d := 0) zero_bd ?_ (by omega) (by omega) (by omega) (by omega)
    have : (0 : Rat) * s = 0 := by grind
    rw [this]; exact zero_bd
  · refine h.ev (x := 1) (n := 25) (d := 25) one_bd ?_ (by omega) (by omega) (by omega) (by omega)
    have : (1 : Rat) * s = s := by grind
    rw [this]; exact h.bs

theorem sl_xl {s t : Rat} (h : 0 < s) : sl (t, (0 : Rat)) (s + t, (1 : Rat)) = s⁻¹ := by
  unfold sl
  show ((1 : Rat) - 0) / (s + t - t) = s⁻¹
  have e1 : s + t - t = s := by grind
  rw [e1, Rat.div_def]; grind

theorem LineOk.normX {s t : Rat} (h : LineOk s t) : NormOk (ex (lp s t)) := by
  have he : ex (lp s t) = [(t, (0 : Rat)), (s + t, (1 : Rat))] := rfl
  have hv : AllV (ex (lp s t)) := by
    intro p hp
    rw [he] at hp
    simp at hp
    rcases hp with hp | hp
    · rw [hp]; exact ⟨.mk h.bt (by omega) (by omega), .mk zero_bd (by omega) (by omega)⟩
    · rw [hp]; exact ⟨.mk h.bst (by omega) (by omega), .mk one_bd (by omega) (by omega)⟩
  have hne : s ≠ 0 := by have := h.pos; grind
  have hs : SlOk (t, (0 : Rat)) (s + t, (1 : Rat)) := by
    refine ⟨.mk one_bd zero_bd (by omega) (by omega) (by omega), .mk h.bst h.bt (by omega) (by omega) (by omega), ?_⟩
    have e1 : s + t - t = s := by grind
    have e2 : (1 : Rat) - 0 = 1 := by grind
    show DivOk (1 - 0) (s + t - t)
    rw [e1, e2]
    exact .mk hne one_bd h.bs (by omega) (by omega)
  have hev : ∀ (x : Rat), Bd 0 0 x → EvOk (t, (0 : Rat)) (s + t, (1 : Rat)) x := by
    intro x hx
    have b1 : Bd 28 25 (x - t) := hx.sub h.bt (by omega) (by omega) (by omega)
    have b2 : Bd 53 50 ((x - t) * s⁻¹) := b1.mul h.bs.inv (by omega) (by omega)
    refine ⟨hs, .mk hx h.bt (by omega) (by omega) (by omega), ?_, ?_⟩
    · show MulOk (x - t) (sl (t, (0 : Rat)) (s + t, (1 : Rat)))
      rw [sl_xl h.pos]
      exact .mk b1 h.bs.inv (by omega) (by omega)
    · show AddOk 0 ((x - t) * sl (t, (0 : Rat)) (s + t, (1 : Rat)))
      rw [sl_xl h.pos]
      exact .mk zero_bd b2 (by omega) (by omega) (by omega)
  exact ⟨ex_asc (lp_asc h.pos), by rw [he]; simp, by rw [he]; simp, hv, each_two hs, ⟨.mk zero_bd (by omega) (by omega), each_two (hev 0 zero_bd)⟩, ⟨.mk one_bd (by omega) (by omega), each_two (hev 1 one_bd)⟩, fun p hp => by rw [he, bn_two] at hp; cases hp⟩

theorem nf_lp (s t : Rat) : nf (lp s t) = lp s t := by
  have h0 : cv (lp s t) 0 = t := by rw [cv_lp]; grind
  have h1 : cv (lp s t) 1 = s + t := by rw [cv_lp]; grind
  show [((0 : Rat), cv (lp s t) 0), ((1 : Rat), cv (lp s t) 1)] = lp s t
  rw [h0, h1]; rfl

/-- the inverse of a line is the other line -/
theorem nf_ex_lp {s t s' t' : Rat} (h : 0 < s) (hs : s' = s⁻¹) (ht : t' = -t * s⁻¹) : nf (ex (lp s t)) = lp s' t' := by
  have hp : 0 < s' := by rw [hs]; exact Rat.inv_pos.2 h
  rw [← nf_lp s' t']
  refine canon (ex_asc (lp_asc h)) (by rw [ex_len]; simp [lp]) (lp_asc hp) (by simp [lp]) (fun x => ?_)
  have e1 : cv (lp s t) (cv (lp s' t') x) = x := by
    rw [cv_lp, cv_lp, hs, ht]
    have : s ≠ 0 := by grind
    grind
  have := ex_back (lp_asc (t := t) h) (by simp [lp]) (cv (lp s' t') x)
  rw [e1] at this
  exact this

/-! ## means and deviations -/

theorem fd_sc : ∀ (l : List Int) (i : Nat), (∀ c ∈ l, 1 ≤ c ∧ c ≤ 6) → i + l.length ≤ 7 → 0 ≤ sc i l ∧ sc i l ≤ 6 * l.sum
  | [], i, _, _ => by simp [sc]
  | c :: l, i, h, hi => by
    simp only [List.length_cons] at hi
    have h1 := fd_sc l (i + 1) (fun x hx => h x (by simp [hx])) (by omega)
    have h2 := h c (by simp)
    have h3 : (i : Int) * c ≤ 6 * c := Int.mul_le_mul_of_nonneg_right (by omega) (by omega)
    have h4 : 0 ≤ (i : Int) * c := Int.mul_nonneg (by omega) (by omega)
    simp only [sc, List.sum_cons]
    omega

theorem fd_dv (n S : Int) (hn : 0 ≤ n ∧ n ≤ 42) (hS : 0 ≤ S ∧ S ≤ 252) : ∀ (l : List Int) (i : Nat), (∀ c ∈ l, 1 ≤ c ∧ c ≤ 6) → i + l.length ≤ 7 → 0 ≤ dv n S i l ∧ dv n S i l ≤ 252 * l.sum
  | [], i, _, _ => by simp [dv]
  | c :: l, i, h, hi => by
    simp only [List.length_cons] at hi
    have h1 := fd_dv n S hn hS l (i + 1) (fun x hx => h x (by simp [hx])) (by omega)
    have h2 := h c (by simp)
    have m1 : (i : Int) * n ≤ 6 * n := Int.mul_le_mul_of_nonneg_right (by omega) hn.1
    have m2 : 0 ≤ (i : Int) * n := Int.mul_nonneg (by omega) hn.1
    have h3 : ((((i : Int) * n - S).natAbs : Nat) : Int) ≤ 252 := by omega
    have h4 : c * ((((i : Int) * n - S).natAbs : Nat) : Int) ≤ c * 252 := Int.mul_le_mul_of_nonneg_left h3 (by omega)
    have h5 : 0 ≤ c * ((((i : Int) * n - S).natAbs : Nat) : Int) := Int.mul_nonneg (by omega) (by omega)
    simp only [dv, List.sum_cons]
    omega

theorem FD.scB {x : List Int} (h : FD x) : 0 ≤ sc 0 x ∧ sc 0 x ≤ 252 := by
  have := fd_sc x 0 h.2.2 (by have := h.2.1; omega)
  have := h.sum
  omega

/-- the sum of the distances -/
def dd (x : List Int) : Int := dv x.sum (sc 0 x) 0 x

theorem FD.ddB {x : List Int} (h : FD x) : 0 ≤ dd x ∧ dd x ≤ 10584 := by
  have s := h.sum
  have := fd_dv x.sum (sc 0 x) (by omega) h.scB x 0 h.2.2 (by have := h.2.1; omega)
  unfold dd
  omega

theorem FD.sqB {x : List Int} (h : FD x) : 1 ≤ x.sum * x.sum ∧ x.sum * x.sum ≤ 1764 := by
  have s := h.sum
  have h1 : 0 < x.sum * x.sum := Int.mul_pos (by omega) (by omega)
  have h2 : x.sum * x.sum ≤ 42 * 42 := Int.mul_le_mul s.2 s.2 (by omega) (by omega)
  omega

theorem mn_eq {x : List Int} (h : FD x) : mn x = (sc 0 x : Rat) / (x.sum : Rat) := by
  have s := h.sum
  unfold mn
  rw [Rat.mkRat_eq_div]
  have : ((x.sum.toNat : Nat) : Rat) = (((x.sum.toNat : Nat) : Int) : Rat) := rfl
  rw [this, show ((x.sum.toNat : Nat) : Int) = x.sum by omega]

theorem dvn_eq {x : List Int} (h : FD x) : dvn x = (dd x : Rat) / ((x.sum : Rat) * (x.sum : Rat)) := by
  have s := h.sqB
  unfold dvn dd
  rw [Rat.mkRat_eq_div]
  have : (((x.sum * x.sum).toNat : Nat) : Rat) = ((((x.sum * x.sum).toNat : Nat) : Int) : Rat) := rfl
  rw [this, show (((x.sum * x.sum).toNat : Nat) : Int) = x.sum * x.sum by omega, Rat.intCast_mul]

theorem mn_bd {x : List Int} (h : FD x) : Bd 8 6 (mn x) := by
  have s := h.sum
  have := h.scB
  exact bd_mk (by omega) (by show _ ≤ 256; omega) (by show _ ≤ 64; omega)

theorem dvn_bd {x : List Int} (h : FD x) : Bd 14 11 (dvn x) := by
  have s := h.sqB
  have := h.ddB
  unfold dd at this
  exact bd_mk (by omega) (by show _ ≤ 16384; omega) (by show _ ≤ 2048; omega)

theorem c_bothM {x y : List Int} (hx : FD x) (hy : FD y) : cw f_equating_both [aD x, aD y, .fn f_distribution_Mean []] [] = some (r_equating_both.enc (ofR (mn x), ofR (mn y), 0)) := by
  have sx := hx.sum
  have sy := hy.sum
  refine e_equating_both_Mean _ _ ?_
  rw [callD_of (c_DValid hx.dg), brn_nt, callD_of (c_DValid hy.dg), brn_nt, callD_of (c_DCount hx.dg), brn_f (beq_false_of_ne (by omega)), callD_of (c_DCount hy.dg), brn_f (beq_false_of_ne (by omega)), callD_of (c_DMean hx.dg (by omega)), brn_f (by rfl), callD_of (c_DMean hy.dg (by omega)), brn_f (by rfl)]

theorem c_bothD {x y : List Int} (hx : FD x) (hy : FD y) : cw f_equating_both [aD x, aD y, .fn f_distribution_Deviation []] [] = some (r_equating_both.enc (ofR (dvn x), ofR (dvn y), 0)) := by
  have sx := hx.sum
  have sy := hy.sum
  refine e_equating_both_Deviation _ _ ?_
  rw [callD_of (c_DValid hx.dg), brn_nt, callD_of (c_DValid hy.dg), brn_nt, callD_of (c_DCount hx.dg), brn_f (beq_false_of_ne (by omega)), callD_of (c_DCount hy.dg), brn_f (beq_false_of_ne (by omega)), callD_of (c_DDev hx.dg (by omega)), brn_f (by rfl), callD_of (c_DDev hy.dg (by omega)), brn_f (by rfl)]

theorem c_through {s mx my : Rat} (h1 : MulOk s mx) (h2 : AddOk my (s * mx)) (h : LineOk s (my - s * mx)) : cw f_equating_through [aR s, aR mx, aR my] [] = some (r_equating_through.enc (⟨(lp s (my - s * mx)).map ofP⟩, 0)) := by
  refine e_equating_through _ _ _ ?_
  rw [callD_of (g_Mul h1), brn_f (by rfl), callD_of (g_Sub h2), brn_f (by rfl), callD_of (g_Line (.mk h.bs h.bt (by omega) (by omega) (by omega)) (.mk h.bs (by omega) (by omega)) (.mk h.bt (by omega) (by omega)) h.pos)]
  rfl

/-- the line of the means -/
theorem lineM {x y : List Int} (hx : FD x) (hy : FD y) : LineOk 1 (mn y - 1 * mn x) := by
  have e : (1 : Rat) * mn x = mn x := by grind
  rw [e]
  have b1 := mn_bd hx
  have b2 := mn_bd hy
  have b3 : Bd 15 12 (mn y - mn x) := b2.sub b1 (by omega) (by omega) (by omega)
  exact ⟨by decide, one_bd.mono (by omega) (by omega), b3.mono (by omega) (by omega), (one_bd.add b3 (N := 16) (D := 12) (by omega) (by omega) (by omega)).mono (by omega) (by omega)⟩

theorem c_EMean {x y : List Int} (hx : FD x) (hy : FD y) : cw f_equating_Mean [aD x, aD y] [] = some (r_equating_Mean.enc (⟨(lp 1 (mn y - 1 * mn x)).map ofP⟩, 0)) := by
  have b1 := mn_bd hx
  have b2 := mn_bd hy
  have e : (1 : Rat) * mn x = mn x := by grind
  have hl := lineM hx hy
  have ht := c_through (s := 1) (mx := mn x) (my := mn y) (.mk one_bd b1 (by omega) (by omega)) (by rw [e]; exact .mk b2 b1 (by omega) (by omega) (by omega)) hl
  refine e_equating_Mean _ _ ?_
  rw [callD_of (c_bothM hx hy), brn_f (by rfl)]
  show callD r_equating_through (cw f_equating_through [aR 1, aR (mn x), aR (mn y)] []) _ = _
  rw [callD_of ht]

/-- the line of the deviations -/
def ls (x y : List Int) : Rat := dvn y / dvn x
def lt (x y : List Int) : Rat := mn y - ls x y * mn x

theorem dd_pos {x : List Int} (h : FD x) (h0 : dvn x ≠ 0) : 0 < dd x := by
  have hd := h.ddB
  by_cases hz : dd x = 0
  · exfalso
    apply h0
    rw [dvn_eq h, hz]
    show ((0 : Int) : Rat) / _ = 0
    show (0 : Rat) / _ = 0
    rw [Rat.div_def]; grind
  · omega

theorem lineL {x y : List Int} (hx : FD x) (hy : FD y) (h0 : dvn x ≠ 0) (h1 : dvn y ≠ 0) : LineOk (ls x y) (lt x y) ∧ MulOk (ls x y) (mn x) ∧ AddOk (mn y) (ls x y * mn x) ∧ Bd 28 25 ((mn x + dvn x) * ls x y) ∧ Bd 27 25 (mn x * ls x y) := by
  have dx := dd_pos hx h0
  have dy := dd_pos hy h1
  have bdx := hx.ddB
  have bdy := hy.ddB
  have sx := hx.sum
  have sy := hy.sum
  have cx := hx.scB
  have cy := hy.scB
  have qx := hx.sqB
  have qy := hy.sqB
  have bs : Bd 25 25 (ls x y) := by
    unfold ls
    rw [Rat.div_def]
    exact (dvn_bd hy).mul (dvn_bd hx).inv (by omega) (by omega)
  -- the common denominator
  have hK0 : 0 < dd x * (y.sum * y.sum) := Int.mul_pos dx (by omega)
  have hK1 : dd x * (y.sum * y.sum) ≤ 10584 * 1764 := Int.mul_le_mul bdx.2 qy.2 (by omega) (by omega)
  have n1 := ratNe dx
  have n2 := ratNe dy
  have n3 := ratNe (show 0 < x.sum by omega)
  have n4 := ratNe (show 0 < y.sum by omega)
  have eK : (((dd x * (y.sum * y.sum)).toNat : Nat) : Rat) = (dd x : Rat) * ((y.sum : Rat) * (y.sum : Rat)) := by
    have : (((dd x * (y.sum * y.sum)).toNat : Nat) : Rat) = ((((dd x * (y.sum * y.sum)).toNat : Nat) : Int) : Rat) := rfl
    rw [this, show (((dd x * (y.sum * y.sum)).toNat : Nat) : Int) = dd x * (y.sum * y.sum) by omega, Rat.intCast_mul, Rat.intCast_mul]
  have es : ls x y * ((dd x : Rat) * ((y.sum : Rat) * (y.sum : Rat))) = (dd y : Rat) * ((x.sum : Rat) * (x.sum : Rat)) := by
    unfold ls
    rw [dvn_eq hx, dvn_eq hy]
    generalize (dd x : Rat) = A at *
    generalize (dd y : Rat) = B at *
    generalize (x.sum : Rat) = N at *
    generalize (y.sum : Rat) = M at *
    have h3 : N * N ≠ 0 := by intro hc; rcases Rat.mul_eq_zero.1 hc with h | h <;> exact n3 h
    have h4 : M * M ≠ 0 := by intro hc; rcases Rat.mul_eq_zero.1 hc with h | h <;> exact n4 h
    have h5 : A / (N * N) ≠ 0 := by
      intro hc
      have : A = A / (N * N) * (N * N) := by grind
      grind
    have h6 : B / (M * M) / (A / (N * N)) * (A / (N * N)) = B / (M * M) := by grind
    have h7 : B / (M * M) / (A / (N * N)) * A = B / (M * M) * (N * N) := by
      have : B / (M * M) / (A / (N * N)) * A = B / (M * M) / (A / (N * N)) * (A / (N * N)) * (N * N) := by grind
      rw [this, h6]
    have h8 : B / (M * M) / (A / (N * N)) * (A * (M * M)) = B / (M * M) / (A / (N * N)) * A * (M * M) := by grind
    rw [h8, h7]
    grind
  have em : mn x * (x.sum : Rat) = (sc 0 x : Rat) := by rw [mn_eq hx]; grind
  have en : mn y * (y.sum : Rat) = (sc 0 y : Rat) := by rw [mn_eq hy]; grind
  have ed : dvn x * ((x.sum : Rat) * (x.sum : Rat)) = (dd x : Rat) := by
    rw [dvn_eq hx]
    have h3 : (x.sum : Rat) * (x.sum : Rat) ≠ 0 := by intro hc; rcases Rat.mul_eq_zero.1 hc with h | h <;> exact n3 h
    grind
  have ems : mn x * ls x y * ((dd x : Rat) * ((y.sum : Rat) * (y.sum : Rat))) = (dd y : Rat) * (x.sum : Rat) * (sc 0 x : Rat) := by
    have : mn x * ls x y * ((dd x : Rat) * ((y.sum : Rat) * (y.sum : Rat))) = mn x * (ls x y * ((dd x : Rat) * ((y.sum : Rat) * (y.sum : Rat)))) := by grind
    rw [this, es]
    have : mn x * ((dd y : Rat) * ((x.sum : Rat) * (x.sum : Rat))) = (dd y : Rat) * (x.sum : Rat) * (mn x * (x.sum : Rat)) := by grind
    rw [this, em]
  -- sizes
  have p1 : dd y * x.sum ≤ 10584 * 42 := Int.mul_le_mul bdy.2 sx.2 (by omega) (by omega)
  have p1' : 0 ≤ dd y * x.sum := Int.mul_nonneg (by omega) (by omega)
  have p2 : dd y * x.sum * sc 0 x ≤ (10584 * 42) * 252 := Int.mul_le_mul p1 cx.2 (by omega) (by omega)
  have p3 : 0 ≤ dd y * x.sum * sc 0 x := Int.mul_nonneg p1' (by omega)
  have p4 : sc 0 y * y.sum ≤ 252 * 42 := Int.mul_le_mul cy.2 sy.2 (by omega) (by omega)
  have p4' : 0 ≤ sc 0 y * y.sum := Int.mul_nonneg (by omega) (by omega)
  have p5 : sc 0 y * y.sum * dd x ≤ (252 * 42) * 10584 := Int.mul_le_mul p4 bdx.2 (by omega) (by omega)
  have p6 : 0 ≤ sc 0 y * y.sum * dd x := Int.mul_nonneg p4' (by omega)
  have p7 : dd y * (x.sum * x.sum) ≤ 10584 * 1764 := Int.mul_le_mul bdy.2 qx.2 (by omega) (by omega)
  have p8 : 0 ≤ dd y * (x.sum * x.sum) := Int.mul_nonneg (by omega) (by omega)
  have p9 : dd y * dd x ≤ 10584 * 10584 := Int.mul_le_mul bdy.2 bdx.2 (by omega) (by omega)
  have p9' : 0 ≤ dd y * dd x := Int.mul_nonneg (by omega) (by omega)
  have et : lt x y * ((dd x : Rat) * ((y.sum : Rat) * (y.sum : Rat))) = ((sc 0 y * y.sum * dd x - dd y * x.sum * sc 0 x : Int) : Rat) := by
    rw [Rat.intCast_sub, Rat.intCast_mul, Rat.intCast_mul, Rat.intCast_mul, Rat.intCast_mul]
    unfold lt
    have : (mn y - ls x y * mn x) * ((dd x : Rat) * ((y.sum : Rat) * (y.sum : Rat))) = (mn y * (y.sum : Rat)) * (y.sum : Rat) * (dd x : Rat) - mn x * ls x y * ((dd x : Rat) * ((y.sum : Rat) * (y.sum : Rat))) := by grind
    rw [this, en, ems]
  have bt : Bd 27 25 (lt x y) := bd_eq (N := sc 0 y * y.sum * dd x - dd y * x.sum * sc 0 x) (D := (dd x * (y.sum * y.sum)).toNat) (by rw [eK]; exact et) (by omega) (by show _ ≤ 134217728; omega) (by show _ ≤ 33554432; omega)
  have bst : Bd 28 25 (ls x y + lt x y) := bd_eq (N := dd y * (x.sum * x.sum) + (sc 0 y * y.sum * dd x - dd y * x.sum * sc 0 x)) (D := (dd x * (y.sum * y.sum)).toNat) (by
    rw [eK, Rat.add_mul, et, es, Rat.intCast_add, Rat.intCast_mul (dd y), Rat.intCast_mul x.sum]) (by omega) (by show _ ≤ 268435456; omega) (by show _ ≤ 33554432; omega)
  have bms : Bd 27 25 (mn x * ls x y) := bd_eq (N := dd y * x.sum * sc 0 x) (D := (dd x * (y.sum * y.sum)).toNat) (by
    rw [eK, ems, Rat.intCast_mul, Rat.intCast_mul]) (by omega) (by show _ ≤ 134217728; omega) (by show _ ≤ 33554432; omega)
  have bfs : Bd 28 25 ((mn x + dvn x) * ls x y) := bd_eq (N := dd y * x.sum * sc 0 x + dd y * dd x) (D := (dd x * (y.sum * y.sum)).toNat) (by
    rw [eK, Rat.intCast_add, Rat.intCast_mul, Rat.intCast_mul, Rat.intCast_mul]
    have : (mn x + dvn x) * ls x y * ((dd x : Rat) * ((y.sum : Rat) * (y.sum : Rat))) = mn x * ls x y * ((dd x : Rat) * ((y.sum : Rat) * (y.sum : Rat))) + dvn x * (ls x y * ((dd x : Rat) * ((y.sum : Rat) * (y.sum : Rat)))) := by grind
    rw [this, ems, es]
    have : dvn x * ((dd y : Rat) * ((x.sum : Rat) * (x.sum : Rat))) = (dd y : Rat) * (dvn x * ((x.sum : Rat) * (x.sum : Rat))) := by grind
    rw [this, ed]) (by omega) (by show _ ≤ 268435456; omega) (by show _ ≤ 33554432; omega)
  have hpos : 0 < ls x y := by
    unfold ls
    rw [Rat.div_def]
    have g : ∀ z : List Int, FD z → 0 < dd z → 0 < dvn z := fun z hz hdz => by
      rw [dvn_eq hz, Rat.div_def]
      refine Rat.mul_pos (Rat.intCast_lt_intCast.2 hdz) (Rat.inv_pos.2 ?_)
      have hzs := hz.sum
      have h0z : ((0 : Int) : Rat) < (z.sum : Rat) := Rat.intCast_lt_intCast.2 (by omega)
      exact Rat.mul_pos h0z h0z
    exact Rat.mul_pos (g y hy dy) (Rat.inv_pos.2 (g x hx dx))
  refine ⟨⟨hpos, bs, bt, bst⟩, .mk bs (mn_bd hx) (by omega) (by omega), ?_, bfs, bms⟩
  have : ls x y * mn x = mn x * ls x y := by grind
  rw [this]
  exact .mk (mn_bd hy) bms (by omega) (by omega) (by omega)

theorem num0 (r : Rat) : (r.num == 0) = decide (r = 0) := by
  by_cases h : r = 0
  · subst h; rfl
  · rw [decide_eq_false h]
    exact beq_false_of_ne (fun h' => h (Rat.num_eq_zero.1 h'))

theorem c_Linear0 {x y : List Int} (hx : FD x) (hy : FD y) (h : dvn x = 0 ∨ dvn y = 0) : cw f_equating_Linear [aD x, aD y] [] = some (r_equating_Linear.enc (⟨[]⟩, 10)) := by
  refine e_equating_Linear _ _ ?_
  rw [callD_of (c_bothD hx hy), brn_f (by rfl)]
  show brn ((ofR (dvn x)).Num == 0) _ (brn ((ofR (dvn y)).Num == 0) _ _) = _
  rw [oN, oN, num0, num0]
  by_cases h0 : dvn x = 0
  · rw [decide_eq_true h0, brn_T]
  · rw [decide_eq_false h0, brn_F, decide_eq_true (by rcases h with h | h; exact absurd h h0; exact h), brn_T]

theorem c_Linear {x y : List Int} (hx : FD x) (hy : FD y) (h0 : dvn x ≠ 0) (h1 : dvn y ≠ 0) : cw f_equating_Linear [aD x, aD y] [] = some (r_equating_Linear.enc (⟨(lp (ls x y) (lt x y)).map ofP⟩, 0)) := by
  obtain ⟨hl, hm, ha, -, -⟩ := lineL hx hy h0 h1
  refine e_equating_Linear _ _ ?_
  rw [callD_of (c_bothD hx hy), brn_f (by rfl)]
  show brn ((ofR (dvn x)).Num == 0) _ (brn ((ofR (dvn y)).Num == 0) _ _) = _
  rw [oN, oN, num0, num0, decide_eq_false h0, decide_eq_false h1, brn_F, brn_F, callD_of (c_bothM hx hy), brn_f (by rfl), callD_of (c_Div (dvn y) (dvn x) (dvn_bd hy) (dvn_bd hx) h0 (by omega) (by omega)), brn_f (by rfl)]
  show callD r_equating_through (cw f_equating_through [aR (ls x y), aR (mn x), aR (mn y)] []) _ = _
  rw [callD_of (c_through hm ha hl)]
  rfl
end Go.Proofs.Ytapkemilafogjaa
