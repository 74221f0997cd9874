/- One operation: the abstract step is right. -/
import Derived.Test.YtohpjbokhcifbaaAbCall
namespace Go.Ab
open Go.RowKit

section
variable {P : Program} {S : Nat → Prop} {κ : Kap} {D : Nat → Prop} {w : World} {L : Nat → Option Ent}

theorem aPure_sound {o : Oper} {E : Operand → AV} {r : Res} {ρ : Operand → Value} (hs : ∀ cs b, o.op ≠ .select cs b) (hE : ∀ x ∈ o.op.operands, VRel S κ D w (E x) (ρ x)) (h : aPure P o E = some r) :
    ∃ y, (execOp ρ o).run P w = .ok (.value y) w ∧ VRel S κ D w r.val y ∧ r.set = [] ∧ r.kill = none ∧ r.frz = [] := by
  unfold aPure at h
  split at h
  case isFalse => cases h
  rename_i hall
  have hcongr : execOp ρ o = execOp (fun x => ((E x).toVal).getD undef) o := execOp_congr o hs (fun x hx => by
    have h1 := List.all_eq_true.1 hall x (by simpa using hx)
    obtain ⟨y, hy⟩ := Option.isSome_iff_exists.1 h1
    simp only [hy, Option.getD_some]
    exact toVal_sound hy (hE x hx))
  split at h
  case h_2 => cases h
  rename_i x hx
  split at h
  case h_2 => cases h
  rename_i av hav
  injection h with h
  subst h
  refine ⟨x, ?_, .c (ofVal_sound hav), rfl, rfl, rfl⟩
  rw [hcongr]
  exact pureRun_sound P _ _ hx w

/-- a value of a type out of its cells -/
def IsOf (P : Program) (t : TypeId) (xs : List Value) (x : Value) : Prop := (isAggB P t = some true ∧ x = .agg xs.toArray) ∨ (isAggB P t = some false ∧ xs = [x])

def aggD : TypeDesc → Bool
  | .struct _ => true
  | .array _ _ => true
  | _ => false

theorem isAggB_of {t : TypeId} {td : TypeDesc} (h : P.underlying t = some td) : isAggB P t = some (aggD td) := by
  unfold isAggB
  rw [h]
  cases td <;> rfl

theorem eqV_agg {k : Nat} {t : TypeId} {xs ys : List Value} {r : Bool} (h : eqV P k t xs ys = some r) :
    isAggB P t = some true ∨ (isAggB P t = some false ∧ (∃ x, xs = [x]) ∧ ∃ y, ys = [y]) := by
  cases k with
  | zero => simp [eqV] at h
  | succ k =>
    unfold eqV at h
    split at h
    · rename_i hu
      split at h
      · exact .inr ⟨isAggB_of hu, ⟨_, rfl⟩, _, rfl⟩
      · cases h
    · rename_i hu
      split at h
      · exact .inr ⟨isAggB_of hu, ⟨_, rfl⟩, _, rfl⟩
      · cases h
    · rename_i hu
      split at h
      · exact .inr ⟨isAggB_of hu, ⟨_, rfl⟩, _, rfl⟩
      · cases h
    · rename_i hu; exact .inl (isAggB_of hu)
    · rename_i hu; exact .inl (isAggB_of hu)
    · cases h

theorem part_of {t : TypeId} {arr : Array Value} {off n : Nat} (w : World) (hn : szB P t = some n) (h : isAggB P t = some true ∨ (isAggB P t = some false ∧ ∃ x, (arr.toList.drop off).take n = [x])) :
    ∃ y, (part t arr off).run P w = .ok y w ∧ IsOf P t ((arr.toList.drop off).take n) y := by
  rcases h with h | ⟨h, x, hx⟩
  · refine ⟨.agg (arr.extract off (off + n)), ?_, .inl ⟨h, ?_⟩⟩
    · simp only [part, Sem.run_bind, isAgg_run h, Result.andThen_ok, if_true, sizeOf_run hn, Sem.run_pure]
    · congr 1
      apply Array.toList_inj.1
      rw [Array.toList_extract]
      simp [List.extract]
  · have hget : arr[off]? = some x := by
      have h0 : ((arr.toList.drop off).take n)[0]? = some x := by rw [hx]; rfl
      rw [List.getElem?_take] at h0
      split at h0
      · rw [List.getElem?_drop] at h0
        simpa using h0
      · cases h0
    refine ⟨x, ?_, .inr ⟨h, hx⟩⟩
    simp only [part, Sem.run_bind, isAgg_run h, Result.andThen_ok, Bool.false_eq_true, if_false, hget, Sem.run_pure]

theorem eqAnd_some {a b : Option Bool} {r : Bool} (h : eqAnd a b = some r) : ∃ x y, a = some x ∧ b = some y ∧ r = (x && y) := by
  cases a <;> cases b <;> simp [eqAnd] at h
  exact ⟨_, _, rfl, rfl, h.symm⟩

theorem eqV_sound : ∀ (k : Nat) (t : TypeId) (xs ys : List Value) (r : Bool), eqV P k t xs ys = some r → ∀ (d : Nat) (x y : Value) (w : World), IsOf P t xs x → IsOf P t ys y → (Op.equalIn (d + k) t x y).run P w = .ok r w := by
  intro k
  induction k with
  | zero => intro t xs ys r h; simp [eqV] at h
  | succ k ih =>
    intro t xs ys r h d x y w hx hy
    have step : ∀ (u : TypeId) (xs ys : List Value) (n off : Nat) (r1 : Bool) (w : World), szB P u = some n → eqV P k u ((xs.drop off).take n) ((ys.drop off).take n) = some r1 →
        ∃ a b, (part u xs.toArray off).run P w = .ok a w ∧ (part u ys.toArray off).run P w = .ok b w ∧ (Op.equalIn (d + k) u a b).run P w = .ok r1 w := by
      intro u xs ys n off r1 w hn he
      have hs := eqV_agg he
      obtain ⟨a, ha, ia⟩ := part_of (arr := xs.toArray) (off := off) w hn (hs.imp id (fun q => ⟨q.1, q.2.1⟩))
      obtain ⟨b, hb, ib⟩ := part_of (arr := ys.toArray) (off := off) w hn (hs.imp id (fun q => ⟨q.1, q.2.2⟩))
      exact ⟨a, b, ha, hb, ih u _ _ r1 he d a b w ia ib⟩
    have one : ∀ {td : TypeDesc} {a b : Value}, P.underlying t = some td → aggD td = false → xs = [a] → ys = [b] → x = a ∧ y = b := by
      intro td a b hu hf h1 h2
      have hagg := isAggB_of hu
      rw [hf] at hagg
      rcases hx with ⟨q, _⟩ | ⟨_, q⟩
      · rw [hagg] at q; cases q
      · rcases hy with ⟨q', _⟩ | ⟨_, q'⟩
        · rw [hagg] at q'; cases q'
        · rw [h1] at q; rw [h2] at q'
          injection q with q; injection q' with q'
          exact ⟨q.symm, q'.symm⟩
    have two : ∀ {td : TypeDesc}, P.underlying t = some td → aggD td = true → x = .agg xs.toArray ∧ y = .agg ys.toArray := by
      intro td hu hf
      have hagg := isAggB_of hu
      rw [hf] at hagg
      rcases hx with ⟨_, q⟩ | ⟨q, _⟩
      · rcases hy with ⟨_, q'⟩ | ⟨q', _⟩
        · exact ⟨q, q'⟩
        · rw [hagg] at q'; cases q'
      · rw [hagg] at q; cases q
    unfold eqV at h
    split at h
    · rename_i hu
      split at h
      · injection h with h
        obtain ⟨rfl, rfl⟩ := one hu rfl rfl rfl
        rw [← h]
        exact run_equalIn_bool' w (d + k) t _ _ hu
      · cases h
    · rename_i q hu
      split at h
      · split at h
        · rename_i hq
          subst hq
          injection h with h
          obtain ⟨rfl, rfl⟩ := one hu rfl rfl rfl
          rw [← h]
          exact run_equalIn_int w (d + k) t _ _ _ _ hu
        · cases h
      · cases h
    · rename_i hu
      split at h
      · injection h with h
        obtain ⟨rfl, rfl⟩ := one hu rfl rfl rfl
        rw [← h, beq_toListBytes]
        exact run_equalIn_string w (d + k) t _ _ hu
      · cases h
    · rename_i fs hu
      split at h
      · cases h
      rename_i hst
      obtain ⟨rfl, rfl⟩ := two hu rfl
      have hfs : P.fieldsOf t = fs := by simp [Program.fieldsOf, hu]
      rw [show d + (k + 1) = (d + k) + 1 from rfl, run_equalIn_struct w (d + k) t _ _ (by rw [hfs]; exact hu) (by simpa using hst), hfs]
      generalize fs.toList = l at h
      clear hu hfs
      induction l generalizing r w with
      | nil =>
        simp only [eqFs] at h
        injection h with h
        subst h
        simp [Op.eqFields]
      | cons f l ihl =>
        simp only [eqFs] at h
        simp only [Op.eqFields]
        split at h
        · rename_i hn
          rw [if_pos hn]
          split at h
          · rename_i n hsz
            obtain ⟨r1, r2, e1, e2, rfl⟩ := eqAnd_some h
            obtain ⟨a, b, p1, p2, p3⟩ := step f.type xs ys n f.offset r1 w hsz e1
            simp only [Sem.run_bind, p1, p2, p3, Result.andThen_ok]
            cases r1 with
            | false => simp
            | true => simpa using ihl r2 w e2
          · cases h
        · rename_i hn
          rw [if_neg hn]
          exact ihl r w h
    · rename_i n e hu
      split at h
      case h_2 => cases h
      rename_i c hc
      obtain ⟨rfl, rfl⟩ := two hu rfl
      obtain ⟨i, hi⟩ : ∃ i, P.info? e = some i := by
        cases hq : P.info? e with
        | none => simp [szB, hq] at hc
        | some i => exact ⟨i, rfl⟩
      have hcell : P.cellsOf e = c := by
        simp only [szB] at hc
        simp only [Program.cellsOf]
        rw [hc]; rfl
      rw [show d + (k + 1) = (d + k) + 1 from rfl, run_equalIn_array w (d + k) _ _ hu hi, hcell]
      generalize List.range n = l at h
      clear hu
      induction l generalizing r w with
      | nil =>
        simp only [eqIs] at h
        injection h with h
        subst h
        simp [Op.eqItems]
      | cons j l ihl =>
        simp only [eqIs] at h
        simp only [Op.eqItems]
        obtain ⟨r1, r2, e1, e2, rfl⟩ := eqAnd_some h
        obtain ⟨a, b, p1, p2, p3⟩ := step e xs ys c (j * c) r1 w hc e1
        simp only [Sem.run_bind, p1, p2, p3, Result.andThen_ok]
        cases r1 with
        | false => simp
        | true => simpa using ihl r2 w e2
    · cases h

theorem scals_sound {cs : List AV} {l : List Value} {v : Value} (h : mapO AV.scal cs = some l) (hr : VRel S κ D w (.agg cs) v) : v = .agg l.toArray := by
  have : (AV.agg cs).toVal = some (.agg l.toArray) := by simp [AV.toVal, h]
  exact toVal_sound this hr

theorem aEq_sound {o : Oper} {op : BinOp} {t u : TypeId} {x y : Operand} {cs ds : List AV} {r : Res} {ρ : Operand → Value} (ho : o.op = .binOp op t x y u) (h : aEq P op t cs ds = some r)
    (hx : VRel S κ D w (.agg cs) (ρ x)) (hy : VRel S κ D w (.agg ds) (ρ y)) : ∃ b, (execOp ρ o).run P w = .ok (.value (.bool b)) w ∧ r = { val := .v (.bool b) } := by
  unfold aEq at h
  split at h
  case h_2 => cases h
  rename_i xs ys h1 h2
  split at h
  · cases h
  rename_i hg
  have ex := scals_sound h1 hx
  have ey := scals_sound h2 hy
  have hg' : P.eqGuardType P.depth t = false := by simpa using hg
  split at h
  · rename_i b ha he
    injection h with h
    refine ⟨b, ?_, h.symm⟩
    have := eqV_sound (P := P) 20 t xs ys b he 9980 _ _ w (.inl ⟨ha, rfl⟩) (.inl ⟨ha, rfl⟩)
    simp only [execOp, ho, ex, ey, Sem.run_bind, run_eqGuard_agg w .eql t x y _ _ hg', Result.andThen_ok, run_eql_struct]
    rw [show (10000 : Nat) = 9980 + 20 from rfl, this]
    simp
  · rename_i b ha he
    injection h with h
    refine ⟨!b, ?_, h.symm⟩
    have := eqV_sound (P := P) 20 t xs ys b he 9980 _ _ w (.inl ⟨ha, rfl⟩) (.inl ⟨ha, rfl⟩)
    simp only [execOp, ho, ex, ey, Sem.run_bind, run_eqGuard_agg w .neq t x y _ _ hg', Result.andThen_ok, run_neq_struct]
    rw [show (10000 : Nat) = 9980 + 20 from rfl, this]
    simp
  · cases h

theorem part_sound {t : TypeId} {cs : List AV} {arr : Array Value} {off : Nat} {av : AV} (hl : arr.size = cs.length) (h1 : ∀ x ∈ arr, x.oneCell' = true)
    (hr : ∀ (j : Nat) (c : AV) (x : Value), cs[j]? = some c → arr[j]? = some x → VRel S κ D w c x) (h : readAt P t (cs.drop off) = some av) :
    ∃ y, (part t arr off).run P w = .ok y w ∧ VRel S κ D w av y := by
  unfold readAt at h
  cases hb : isAggB P t with
  | none => simp [hb] at h
  | some b =>
    cases b with
    | false =>
      simp only [hb] at h
      rw [List.getElem?_drop, Nat.add_zero] at h
      have hlt : off < arr.size := by have := (List.getElem?_eq_some_iff.1 h).1; omega
      exact ⟨arr[off], by simp [part, isAgg_run hb, hlt], hr off av _ h (Array.getElem?_eq_getElem hlt)⟩
    | true =>
      simp only [hb] at h
      cases hs : szB P t with
      | none => simp [hs] at h
      | some n =>
        simp only [hs] at h
        split at h
        case isFalse => cases h
        rename_i hle
        injection h with h
        subst h
        simp at hle
        refine ⟨.agg (arr.extract off (off + n)), by simp [part, isAgg_run hb, sizeOf_run hs], .agg _ _ ?_ ?_ ?_⟩
        · simp; omega
        · intro x hx
          obtain ⟨j, hj⟩ := Array.mem_iff_getElem?.1 hx
          rw [Array.getElem?_extract] at hj
          split at hj
          · exact h1 x (Array.mem_of_getElem? hj)
          · cases hj
        · intro j c x hj hx
          rw [Array.getElem?_extract] at hx
          rw [List.getElem?_take] at hj
          split at hj
          case isFalse => cases hj
          rw [List.getElem?_drop] at hj
          split at hx
          · exact hr _ c x hj hx
          · cases hx

def Dis (D : Nat → Prop) (r : Res) : Prop := ∀ b ∈ r.frz, D b ∧ b ∉ ids r.set ∧ r.kill ≠ some b

theorem aop_sound {C : Cfg} {M : List Nat} {call : Calling} (hcall : CallOK P call) {o : Oper} {E : Operand → AV} {r : Res} {a : Act} {K : Act → World → Prop} {Q : Exit → Act → World → Prop}
    (hS : ∀ g, S g → g < w.heap.size) (hDL : ∀ b, D b ↔ (L b).isSome = true) (hinj : ∀ b b' g c c', D b → D b' → κ b = some (g, c) → κ b' = some (g, c') → b = b')
    (hL : ∀ b ent, L b = some ent → EntAt S κ D w (κ b) ent) (hE : ∀ x ∈ o.op.operands, VRel S κ D w (E x) (a.eval x)) (h : aop P C M call o E L = some r)
    (hK : ∀ y w' S' κ', EffAt S κ D w S' κ' r y w' → Dis D r → K (a.put o.dst y) w') : o.wp P a w K Q := by
  have hdn : ∀ d, (L d).isNone = true → ¬ D d := fun d h hd => by
    have := (hDL d).1 hd
    rw [Option.isNone_iff_eq_none] at h
    rw [h] at this
    cases this
  -- an operation that gives a value and leaves the world
  have still : (∃ y, (execOp a.eval o).run P w = .ok (.value y) w ∧ VRel S κ D w r.val y ∧ r.set = [] ∧ r.kill = none ∧ r.frz = []) → o.wp P a w K Q := by
    rintro ⟨y, h1, h2, h3, h4, h5⟩
    unfold Oper.wp
    rw [h1]
    exact hK y w S κ (EffAt.still hS h2 h3 h4 h5) (by intro b hb; rw [h5] at hb; cases hb)
  have valued : ∀ y w' S' κ', (execOp a.eval o).run P w = .ok (.value y) w' → EffAt S κ D w S' κ' r y w' → r.frz = [] → o.wp P a w K Q := by
    intro y w' S' κ' h1 h2 h3
    unfold Oper.wp
    rw [h1]
    exact hK y w' S' κ' h2 (by intro b hb; rw [h3] at hb; cases hb)
  have nosel : ∀ op, o.op = op → (∀ cs b, op ≠ .select cs b) → ∀ cs b, o.op ≠ .select cs b := fun op e hn cs b => by rw [e]; exact hn cs b
  unfold aop at h
  split at h
  · rename_i x ho
    injection h with h
    subst h
    exact still ⟨a.eval x, by simp [execOp, ho], hE x (by simp [ho, Op.operands]), rfl, rfl, rfl⟩
  · rename_i x ho
    injection h with h
    subst h
    exact still ⟨a.eval x, by simp [execOp, ho], hE x (by simp [ho, Op.operands]), rfl, rfl, rfl⟩
  · rename_i c x y ho
    split at h
    case h_2 => cases h
    rename_i t hc
    injection h with h
    subst h
    have h1 := hE c (by simp [ho, Op.operands])
    rw [hc] at h1
    refine still ⟨if t then a.eval x else a.eval y, by simp [execOp, ho, h1.v_inv, asBool], ?_, rfl, rfl, rfl⟩
    cases t
    · exact hE y (by simp [ho, Op.operands])
    · exact hE x (by simp [ho, Op.operands])
  · rename_i t ho
    split at h
    case h_2 => cases h
    rename_i d zero n hd hz hn
    split at h
    case isFalse => cases h
    rename_i hc
    obtain ⟨h1, h2, h3⟩ := hc
    obtain ⟨i, z, hi, hzz, rfl⟩ := zeroB_sound hz
    split at h
    · obtain ⟨q, w', κ', e1, e2⟩ := arr_sound (P := P) (t := t) (d := d) (r := r) hS (hdn d h3) h2 h
      refine valued q w' S κ' ?_ e2 (aArr_frz h)
      simp only [execOp, ho, Instr.alloc, Sem.run_bind, zeroValue_run hi hzz, Result.andThen_ok]
      simp only [Instr.box, Sem.run_bind] at e1
      rw [e1]; simp
    injection h with h
    have hbox : ∃ q w' κ', (Instr.box t z).run P w = .ok q w' ∧ EffAt S κ D w S κ' r q w' := by
      have hcl : (AV.agg (z.cells.toList.map .v)).cells = z.cells.toList.map .v := rfl
      have hrel : VRel S κ D w (AV.agg (z.cells.toList.map .v)) (.agg z.cells) := by
        obtain ⟨c1, c2, c3⟩ := zero_cells (S := S) (w := w) h2
        exact .c (.agg _ _ c1 c2 c3)
      obtain ⟨q, w', κ', e1, e2⟩ := box_sound (P := P) (t := t) (d := d) (r := r) hS (hdn d h3) (by rw [hcl]; exact h2) (by rw [← h, hcl, h1]) hrel
      refine ⟨q, w', κ', ?_, e2⟩
      have : (Instr.box t z).run P w = (Instr.box t (.agg z.cells)).run P w := by simp [Instr.box, newVar, Value.cells]
      rw [this]; exact e1
    obtain ⟨q, w', κ', e1, e2⟩ := hbox
    refine valued q w' S κ' ?_ e2 (by rw [← h])
    simp only [execOp, ho, Instr.alloc, Sem.run_bind, zeroValue_run hi hzz, Result.andThen_ok]
    simp only [Instr.box, Sem.run_bind] at e1
    rw [e1]; simp
  · rename_i t x ho
    split at h
    case h_2 => cases h
    rename_i d hd
    split at h
    case isFalse => cases h
    rename_i hc
    injection h with h
    obtain ⟨q, w', κ', e1, e2⟩ := box_sound (P := P) (t := t) (d := d) (r := r) hS (hdn d hc.2) hc.1 h.symm (hE x (by simp [ho, Op.operands]))
    exact valued q w' S κ' (by simp [execOp, ho, e1]) e2 (by rw [← h])
  · rename_i t ps ho
    obtain ⟨y, e1, e2, e3, e4, e5⟩ := aBuild_sound (ρ := a.eval) h (fun p hp => hE p.2 (by
      simp only [ho, Op.operands]
      simp
      exact ⟨p.1, by simpa using hp⟩))
    refine still ⟨y, ?_, e2, e3, e4, e5⟩
    simp only [execOp, ho]
    simp only [partsOf] at e1
    simp [e1]
  · rename_i t len ps ho
    have hps : ∀ p ∈ ps, VRel S κ D w (E p.2) (a.eval p.2) := fun p hp => hE p.2 (by
      simp only [ho, Op.operands]
      simp
      exact ⟨p.1, by simpa using hp⟩)
    split at h
    case h_2 => cases h
    rename_i d hd
    split at h
    · split at h
      case isFalse => cases h
      rename_i hc
      obtain ⟨y, w', κ', e1, e2⟩ := aBuildSlice_sound (E := fun x => nrmP P t (E x)) (ρ := a.eval) hS (hdn d hc) h (fun p hp => nrmP_rel (hps p hp))
      refine valued y w' S κ' ?_ e2 ?_
      · simp only [execOp, ho]
        simp only [partsOf] at e1
        simp [e1]
      · unfold aBuildSlice at h
        repeat' (split at h)
        all_goals first | (injection h with h; subst h; rfl) | cases h
    · obtain ⟨y, w', S', e1, e2⟩ := aLit_sound (E := fun x => nrmP P t (E x)) (ρ := a.eval) hS h (fun p hp => nrmP_rel (hps p hp))
      refine valued y w' S' κ ?_ e2 ?_
      · simp only [execOp, ho]
        simp only [partsOf] at e1
        simp [e1]
      · unfold aLit at h
        repeat' (split at h)
        all_goals first | (injection h with h; subst h; rfl) | cases h
  · rename_i t x ho
    obtain ⟨y, e1, e2, e3, e4, e5⟩ := aLoad_sound h (hE x (by simp [ho, Op.operands])) hL
    exact still ⟨y, by simp [execOp, ho, e1], e2, e3, e4, e5⟩
  · rename_i t x y ho
    obtain ⟨w', e1, e2⟩ := aStore_sound hS h (nrmS_rel (hE y (by simp [ho, Op.operands]))) (hE x (by simp [ho, Op.operands])) hL
    unfold Oper.wp
    have : (execOp a.eval o).run P w = .ok .skip w' := by simp [execOp, ho, e1]
    rw [this]
    refine hK undef w' S κ (e2 undef) ?_
    have hf : r.frz = [] := by
      unfold aStore at h
      repeat' (split at h)
      all_goals first | (injection h with h; subst h; rfl) | cases h
    intro b hb
    rw [hf] at hb
    cases hb
  · rename_i x ho
    split at h
    · rename_i cs hx
      injection h with h
      subst h
      have h1 := hE x (by simp [ho, Op.operands])
      rw [hx] at h1
      have hf := h1.fp_inv
      refine still ⟨a.eval x, ?_, h1, rfl, rfl, rfl⟩
      simp only [execOp, ho]
      generalize a.eval x = q at hf
      cases hf with
      | fp _ ad u hS' hc hr => rfl
    · rename_i b z i oo hx
      injection h with h
      subst h
      have h1 := hE x (by simp [ho, Op.operands])
      rw [hx] at h1
      obtain ⟨g, c, _, _, he⟩ := h1.loc_inv
      refine still ⟨a.eval x, ?_, h1, rfl, rfl, rfl⟩
      simp only [execOp, ho, he]
      rfl
    · cases h
  · rename_i x i ho
    split at h
    case h_2 => cases h
    rename_i vs hx
    split at h
    case h_2 => cases h
    rename_i av hv
    injection h with h
    subst h
    have h1 := hE x (by simp [ho, Op.operands])
    rw [hx] at h1
    obtain ⟨arr, he, hl, hr⟩ := h1.tup_inv
    have hlt : i < arr.size := by have := (List.getElem?_eq_some_iff.1 hv).1; omega
    refine still ⟨arr[i], ?_, hr i av _ hv (Array.getElem?_eq_getElem hlt), rfl, rfl, rfl⟩
    simp [execOp, ho, he, Instr.extract, hlt]
  · rename_i s x f ho
    obtain ⟨y, e1, e2, e3, e4, e5⟩ := aField_sound h (hE x (by simp [ho, Op.operands]))
    exact still ⟨y, by simp [execOp, ho, e1], e2, e3, e4, e5⟩
  · rename_i s x f ho
    split at h
    case h_2 => cases h
    rename_i cs fs hx hu
    split at h
    case h_2 => cases h
    rename_i fd hfd
    split at h
    case h_2 => cases h
    rename_i av hav
    injection h with h
    subst h
    have h1 := hE x (by simp [ho, Op.operands])
    rw [hx] at h1
    obtain ⟨arr, he, hl, h11, hr⟩ := h1.agg_inv
    obtain ⟨y, e1, e2⟩ := part_sound (P := P) (w := w) hl h11 hr hav
    refine still ⟨y, ?_, e2, rfl, rfl, rfl⟩
    simp [execOp, ho, he, Instr.field, run_underlying hu, hfd, asAgg, e1]
  · rename_i t x ix ho
    obtain ⟨y, e1, e2, e3, e4, e5⟩ := aIndex_sound h (hE x (by simp [ho, Op.operands])) (hE ix (by simp [ho, Op.operands]))
    exact still ⟨y, by simp [execOp, ho, e1], e2, e3, e4, e5⟩
  · rename_i t x ix ho
    split at h
    · rename_i cs k n len e hx hix hu
      split at h
      case h_2 => cases h
      rename_i sz hs
      split at h
      case isFalse => cases h
      rename_i hn
      split at h
      case h_2 => cases h
      rename_i av hav
      injection h with h
      subst h
      have h1 := hE x (by simp [ho, Op.operands])
      have h2 := hE ix (by simp [ho, Op.operands])
      rw [hx] at h1
      rw [hix] at h2
      obtain ⟨arr, he, hl, h11, hr⟩ := h1.agg_inv
      obtain ⟨y, e1, e2⟩ := part_sound (P := P) (w := w) hl h11 hr hav
      refine still ⟨y, ?_, e2, rfl, rfl, rfl⟩
      simp [execOp, ho, he, h2.v_inv, Instr.index, asIntOf, run_underlying hu, hn, sizeOf_run hs, e1]
    · exact still (aPure_sound (nosel _ ho (by simp)) hE h)
  · rename_i t x lo hi ho
    split at h
    · exact still (aPure_sound (nosel _ ho (by simp)) hE h)
    · rename_i av hne
      have opt : ∀ q : Option Operand, (∀ y, q = some y → y ∈ o.op.operands) → (q.map E = none ∧ q.map a.eval = none) ∨ ∃ b y, q.map E = some b ∧ q.map a.eval = some y ∧ VRel S κ D w b y := by
        intro q hq
        cases q with
        | none => exact .inl ⟨rfl, rfl⟩
        | some y => exact .inr ⟨_, _, rfl, rfl, hE y (hq y rfl)⟩
      obtain ⟨y, e1, e2, e3, e4, e5⟩ := aSlice_sound h (hE x (by simp [ho, Op.operands])) (opt lo (fun y hy => by simp [ho, Op.operands, hy])) (opt hi (fun y hy => by simp [ho, Op.operands, hy]))
      exact still ⟨y, by simp [execOp, ho, e1], e2, e3, e4, e5⟩
  · rename_i f first cap ho
    split at h
    case isFalse => cases h
    rename_i hf
    injection h with h
    subst h
    have hf0 : first = #[] := Array.eq_empty_of_size_eq_zero hf
    subst hf0
    refine still ⟨.func (.func f) #[] (cap.map a.eval), by simp [execOp, ho, Instr.makeFunc], .fn f _ _ (by simp) ?_, rfl, rfl, rfl⟩
    intro j c x hj hx
    simp at hj hx
    obtain ⟨q, hq, rfl⟩ := hj
    obtain ⟨q', hq', rfl⟩ := hx
    rw [hq] at hq'
    injection hq' with hq'
    subst hq'
    exact hE q (by simp [ho, Op.operands]; exact Array.mem_of_getElem? hq)
  · rename_i t l c ho
    split at h
    case h_2 => cases h
    rename_i d hd
    split at h
    case isFalse => cases h
    rename_i hc
    obtain ⟨y, w', κ', e1, e2⟩ := aMake_sound hS (hdn d hc) h (hE l (by simp [ho, Op.operands])) (hE c (by simp [ho, Op.operands]))
    refine valued y w' S κ' (by simp [execOp, ho, e1]) e2 ?_
    unfold aMake at h
    repeat' (split at h)
    all_goals first | (injection h with h; subst h; rfl) | cases h
  · rename_i args argTypes ho
    split at h
    case h_2 => cases h
    rename_i d s x t t' hd ha ht
    split at h
    case isFalse => cases h
    rename_i hc
    obtain ⟨rfl, hdd⟩ := hc
    have ha' : args = #[s, x] := by rw [← Array.toArray_toList (xs := args), ha]
    have ht' : argTypes = #[t, t] := by rw [← Array.toArray_toList (xs := argTypes), ht]
    subst ha'
    subst ht'
    obtain ⟨y, w', κ', e1, e2⟩ := aAppend_sound (ty := o.type) hS (hdn d hdd) h (hE s (by simp [ho, Op.operands, Call.operands])) (hE x (by simp [ho, Op.operands, Call.operands])) hL
    refine valued y w' S κ' ?_ e2 ?_
    · simp [execOp, ho, resolve, invoke, builtin, e1]
    · unfold aAppend at h
      repeat' (split at h)
      all_goals first | (injection h with h; subst h; rfl) | cases h
  · rename_i args argTypes ho
    split at h
    case h_2 => cases h
    rename_i s x t tr ha ht
    have ha' : args = #[s, x] := by rw [← Array.toArray_toList (xs := args), ha]
    subst ha'
    obtain ⟨y, w', e1, e2⟩ := aCopy_sound (P := P) (ty := o.type) (ts := argTypes) hS (by rw [← Array.getElem?_toList, ht]; rfl) h (hE s (by simp [ho, Op.operands, Call.operands])) (hE x (by simp [ho, Op.operands, Call.operands])) hL
    refine valued y w' S κ ?_ e2 ?_
    · simp [execOp, ho, resolve, invoke, builtin, e1]
    · unfold aCopy at h
      repeat' (split at h)
      all_goals first | (injection h with h; subst h; rfl) | cases h
  · rename_i args argTypes ho
    split at h
    case h_2 => cases h
    rename_i s t tr ha ht
    have ha' : args = #[s] := by rw [← Array.toArray_toList (xs := args), ha]
    subst ha'
    obtain ⟨y, w', e1, e2⟩ := aClear_sound (P := P) (ty := o.type) (ts := argTypes) hS (by rw [← Array.getElem?_toList, ht]; rfl) h (hE s (by simp [ho, Op.operands, Call.operands])) hL
    refine valued y w' S κ ?_ e2 ?_
    · simp [execOp, ho, resolve, invoke, builtin, e1]
    · unfold aClear at h
      repeat' (split at h)
      all_goals first | (injection h with h; subst h; rfl) | cases h
  · rename_i args argTypes ho
    split at h
    case h_2 => cases h
    rename_i s t ha ht
    split at h
    · exact still (aPure_sound (nosel _ ho (by simp)) hE h)
    · rename_i av e hu hne
      have ha' : args = #[s] := by rw [← Array.toArray_toList (xs := args), ha]
      have ht' : argTypes = #[t] := by rw [← Array.toArray_toList (xs := argTypes), ht]
      subst ha'
      subst ht'
      have h1 := hE s (by simp [ho, Op.operands, Call.operands])
      have hlen : ∃ A n c, a.eval s = .slice A n c ∧ r = { val := .v (.int .i64 n) } := by
        unfold aLen at h
        split at h
        · rename_i z es hh
          injection h with h
          rw [hh] at h1
          have := h1.sl_inv
          generalize a.eval s = q at this
          cases this with
          | sl _ _ A len cap u hlen => exact ⟨A, len, cap, rfl, by rw [← h, hlen]⟩
        · rename_i b z off n hh
          injection h with h
          rw [hh] at h1
          generalize a.eval s = q at h1
          cases h1 with
          | c h => cases h
          | row0 => exact ⟨none, 0, 0, rfl, by rw [← h]⟩
          | row _ _ _ _ g c off' cap => exact ⟨_, n, cap, rfl, by rw [← h]⟩
        · cases h
      obtain ⟨A, n, c, he, hr⟩ := hlen
      subst hr
      exact still ⟨.int .i64 n, by simp [execOp, ho, resolve, invoke, builtin, Builtin.len_, he, run_underlying hu, goInt], .c (.v _), rfl, rfl, rfl⟩
    · cases h
  · rename_i g args argTypes ho
    split at h
    case h_2 => cases h
    rename_i f cap hg
    split at h
    · exact still (aPure_sound (nosel _ ho (by simp)) hE h)
    · rename_i hb
      have h1 := hE g (by simp [ho, Op.operands, Call.operands])
      rw [hg] at h1
      obtain ⟨caps, he, hcl, hcr⟩ := h1.fn_inv
      have hvals : ∀ (j : Nat) (av : AV) (x : Value), (args.toList.map E ++ cap)[j]? = some av → (args.map a.eval ++ caps)[j]? = some x → VRel S κ D w av x := by
        intro j av x hj hx
        rw [List.getElem?_append] at hj
        rw [Array.getElem?_append] at hx
        simp only [List.length_map, Array.length_toList] at hj
        simp only [Array.size_map] at hx
        split at hj
        · rename_i hlt
          rw [if_pos hlt] at hx
          simp at hj hx
          obtain ⟨q, hq, rfl⟩ := hj
          obtain ⟨q', hq', rfl⟩ := hx
          rw [hq] at hq'
          injection hq' with hq'
          subst hq'
          exact hE q (by simp [ho, Op.operands, Call.operands]; exact .inr (Array.mem_of_getElem? hq))
        · rename_i hlt
          rw [if_neg hlt] at hx
          exact hcr _ av x hj hx
      have hvals' : ∀ (j : Nat) (av : AV) (x : Value), (nrmA P argTypes.toList (args.toList.map E) ++ cap)[j]? = some av → (args.map a.eval ++ caps)[j]? = some x → VRel S κ D w av x := by
        intro j av x hj hx
        rw [List.getElem?_append] at hj
        split at hj
        · rename_i hlt
          obtain ⟨a0, ha0, hc⟩ := nrmA_get P _ _ j av hj
          have h0 : (args.toList.map E ++ cap)[j]? = some a0 := by
            rw [List.getElem?_append, if_pos (by rw [nrmA_length] at hlt; exact hlt)]
            exact ha0
          rcases hc with rfl | ⟨t', rfl⟩
          · exact hvals j _ x h0 hx
          · exact nrm_rel (hvals j _ x h0 hx)
        · rename_i hlt
          refine hvals j av x ?_ hx
          rw [List.getElem?_append, if_neg (by rw [nrmA_length] at hlt; exact hlt)]
          rw [nrmA_length] at hj
          exact hj
      have done : ∀ d : Option Nat, (∀ d', d = some d' → ¬ D d') → aCall C call L d f (nrmA P argTypes.toList (args.toList.map E) ++ cap) = some r → o.wp P a w K Q := by
        intro d hd hc
        obtain ⟨hb', hcalls⟩ := aCall_sound hcall hS hDL hinj hd hL hc (vals := args.map a.eval ++ caps) (by simp [hcl, nrmA_length]) hvals'
        unfold enters at hb'
        split at hb'
        case h_2 => cases hb'
        rename_i fn hfn
        simp only [Bool.and_eq_true, Bool.not_eq_true'] at hb'
        have hbody : ¬ fn.body = none := by cases hq : fn.body <;> simp_all
        have hname : ¬ fn.name = "runtime.NumGoroutine" := by simpa using hb'.2
        have hrun : (execOp a.eval o).run P w = .ok (.enter f (args.map a.eval ++ caps)) w := by
          simp [execOp, ho, resolve, he, Deferred.ofValue, invoke, callFunc, hfn, hbody, hname]
        unfold Oper.wp
        rw [hrun]
        simp only [Oper.upon]
        refine hcalls.mono ?_
        rintro e w' ⟨x, S', κ', rfl, h2, h3⟩
        exact hK x w' S' κ' h2 h3
      split at h
      · rename_i d hd
        split at h
        case isFalse => cases h
        rename_i hdd
        exact done (some d) (fun d' hd' => by injection hd' with hd'; subst hd'; exact hdn d hdd) h
      · exact done none (fun d' hd' => by cases hd') h
  · rename_i op t x y u ho
    split at h
    · rename_i cs ds hx hy
      have h1 := hE x (by simp [ho, Op.operands])
      have h2 := hE y (by simp [ho, Op.operands])
      rw [hx] at h1
      rw [hy] at h2
      obtain ⟨b, e1, e2⟩ := aEq_sound (o := o) (ρ := a.eval) ho h h1 h2
      subst e2
      exact still ⟨.bool b, e1, .c (.v _), rfl, rfl, rfl⟩
    · exact still (aPure_sound (fun cs b e => by simp_all) hE h)
  · cases h
  · rename_i hsel _
    exact still (aPure_sound (fun cs b e => by simp_all) hE h)
end
end Go.Ab
