/- One operation keeps the whole state. -/
import Derived.Test.YtohpjbokhcifbaaAbStep
namespace Go.Ab
open Go.RowKit

/-- the numbers that an operation writes: blocks that are there, or its own slot's -/
structure Shape (o : Oper) (L : Nat → Option Ent) (r : Res) : Prop where
  kill : ∀ b, r.kill = some b → b ∉ ids r.set ∧ b < 1000
  set : ∀ b ∈ ids r.set, (L b).isSome = true ∨ o.dst = some b
  frz : ∀ b ∈ r.frz, b < 1000

theorem Shape.none {o : Oper} {L : Nat → Option Ent} {r : Res} (h1 : r.set = []) (h2 : r.kill = none) (h3 : r.frz = []) : Shape o L r :=
  ⟨(fun b h => by rw [h2] at h; cases h), (fun b h => by simp [ids, h1] at h), (fun b h => by rw [h3] at h; cases h)⟩

theorem Shape.one {o : Oper} {L : Nat → Option Ent} {r : Res} {d : Nat} {e : Ent} (h1 : r.set = [(d, e)]) (hd : (L d).isSome = true ∨ o.dst = some d) (h2 : ∀ b, r.kill = some b → b ≠ d ∧ b < 1000) (h3 : r.frz = []) : Shape o L r :=
  ⟨fun b h => ⟨(fun hm => by simp [ids, h1] at hm; exact (h2 b h).1 hm), (h2 b h).2⟩, (fun b h => by simp [ids, h1] at h; subst h; exact hd), (fun b h => by rw [h3] at h; cases h)⟩

theorem passArgs_bk {L : Nat → Option Ent} {wr : List Nat} : ∀ (args : List AV) (k : Nat) (as : List AV) (ms : Mem) (bk : List (Nat × Nat)) (fz : List Nat), passArgs L wr k args = some (as, ms, bk, fz) → ∀ p ∈ bk, (L p.1).isSome = true := by
  intro args
  induction args with
  | nil =>
    intro k as ms bk fz h p hp
    simp [passArgs] at h
    obtain ⟨_, _, rfl, _⟩ := h
    cases hp
  | cons a r ih =>
    intro k as ms bk fz h p hp
    simp only [passArgs] at h
    cases hr : passArgs L wr (k + 1) r with
    | none => simp [hr] at h
    | some q =>
      obtain ⟨as0, ms0, bk0, fz0⟩ := q
      simp only [hr] at h
      have i := ih (k + 1) as0 ms0 bk0 fz0 hr
      split at h
      · split at h
        · rename_i b z
          cases hl : L b with
          | none => simp [hl] at h
          | some ent =>
            simp only [hl] at h
            split at h
            case isFalse => cases h
            simp only [Option.some.injEq, Prod.mk.injEq] at h
            obtain ⟨_, _, rfl, _⟩ := h
            rcases List.mem_cons.1 hp with rfl | hp
            · simp [hl]
            · exact i p hp
        · rename_i b z off n
          cases hl : L b with
          | none => simp [hl] at h
          | some ent =>
            simp only [hl] at h
            split at h
            case isFalse => cases h
            simp only [Option.some.injEq, Prod.mk.injEq] at h
            obtain ⟨_, _, rfl, _⟩ := h
            rcases List.mem_cons.1 hp with rfl | hp
            · simp [hl]
            · exact i p hp
        · rename_i b
          cases hl : L b with
          | none => simp [hl] at h
          | some ent =>
            simp only [hl] at h
            split at h
            case isFalse => cases h
            simp only [Option.some.injEq, Prod.mk.injEq] at h
            obtain ⟨_, _, rfl, _⟩ := h
            rcases List.mem_cons.1 hp with rfl | hp
            · simp [hl]
            · exact i p hp
        · cases h
      · cases hs : snap L 5 a with
        | none => simp [hs] at h
        | some a' =>
          simp only [hs, Option.some.injEq, Prod.mk.injEq] at h
          obtain ⟨_, _, rfl, _⟩ := h
          exact i p hp

theorem aCall_shape {C : Cfg} {call : Calling} {o : Oper} {L : Nat → Option Ent} {f : FuncId} {args : List AV} {r : Res} (h : aCall C call L o.dst f args = some r) : Shape o L r := by
  unfold aCall at h
  split at h
  · cases h
  · rename_i as ms bk fz hp
    split at h
    case isFalse => cases h
    split at h
    · cases h
    · split at h
      · cases h
      · rename_i back hback
        obtain ⟨b1, b2⟩ := backOf_mem hback
        have hb : ∀ b ∈ ids back, (L b).isSome = true := by
          intro b hb
          rw [b1] at hb
          obtain ⟨p, hp', rfl⟩ := List.mem_map.1 hb
          exact passArgs_bk args 0 as ms bk fz hp p hp'
        split at h
        case isFalse => cases h
        rename_i hall
        have hfz := fun b hb => of_decide_eq_true (List.all_eq_true.1 hall b hb)
        unfold finCall at h
        split at h
        · rename_i z e es d hd
          injection h with h
          subst h
          refine ⟨(fun b hk => by cases hk), fun b hm => ?_, hfz⟩
          simp only [ids, List.map_cons, List.mem_cons] at hm
          rcases hm with rfl | hm
          · exact .inr (by assumption)
          · exact .inl (hb b hm)
        · rename_i z e es d hd
          injection h with h
          subst h
          refine ⟨(fun b hk => by cases hk), fun b hm => ?_, hfz⟩
          simp only [ids, List.map_cons, List.mem_cons] at hm
          rcases hm with rfl | hm
          · exact .inr (by assumption)
          · exact .inl (hb b hm)
        · rename_i e es d hd
          injection h with h
          subst h
          refine ⟨(fun b hk => by cases hk), fun b hm => ?_, hfz⟩
          simp only [ids, List.map_cons, List.mem_cons] at hm
          rcases hm with rfl | hm
          · exact .inr (by assumption)
          · exact .inl (hb b hm)
        · cases h
        · cases h
        · cases h
        · split at h
          · injection h with h
            subst h
            exact ⟨(fun b hk => by cases hk), fun b hm => .inl (hb b hm), hfz⟩
          · cases h
        · split at h
          · injection h with h
            subst h
            exact ⟨(fun b hk => by cases hk), fun b hm => .inl (hb b hm), hfz⟩
          · cases h
        · cases h
        · injection h with h
          subst h
          exact ⟨(fun b hk => by cases hk), fun b hm => .inl (hb b hm), hfz⟩

theorem aPure_shape {P : Program} {o : Oper} {E : Operand → AV} {L : Nat → Option Ent} {r : Res} (h : aPure P o E = some r) : Shape o L r := by
  unfold aPure at h
  repeat' (split at h)
  all_goals first | (injection h with h; subst h; exact Shape.none rfl rfl rfl) | cases h

theorem aMSet_shape {P : Program} {o : Oper} {L : Nat → Option Ent} {t : TypeId} {m k x : AV} {r : Res} (h : aMSet P L t m k x = some r) : Shape o L r := by
  unfold aMSet at h
  split at h
  case h_2 => cases h
  split at h
  case h_2 => cases h
  split at h
  case h_2 => cases h
  rename_i ent hl
  split at h
  case isFalse => cases h
  rename_i hc
  split at h
  case h_2 => cases h
  split at h
  case isFalse => cases h
  split at h
  case h_2 => cases h
  injection h with h
  subst h
  refine ⟨(fun b hk => by cases hk), (fun b hm => by simp [ids] at hm; subst hm; exact .inl (by simp [hl])), fun b hb => ?_⟩
  have := List.all_eq_true.1 hc.2.2.2 b hb
  simp only [Bool.and_eq_true, decide_eq_true_eq] at this
  exact this.1

theorem aop_shape {P : Program} {C : Cfg} {M : List Nat} {call : Calling} {o : Oper} {E : Operand → AV} {L : Nat → Option Ent} {r : Res} (h : aop P C M call o E L = some r) : Shape o L r := by
  unfold aop at h
  split at h
  all_goals try (first
    | exact aPure_shape h
    | (injection h with h; subst h; exact Shape.none rfl rfl rfl)
    | cases h)
  · repeat' (split at h)
    all_goals first | (injection h with h; subst h; exact Shape.none rfl rfl rfl) | cases h
  · split at h
    case h_2 => cases h
    rename_i d zero n hd hz hn
    split at h
    case isFalse => cases h
    split at h
    · unfold aArr at h
      repeat' (split at h)
      all_goals first | (injection h with h; subst h; exact Shape.one rfl (.inr hd) (fun b hk => by cases hk) rfl) | cases h
    injection h with h
    subst h
    exact Shape.one rfl (.inr hd) (fun b hk => by cases hk) rfl
  · split at h
    case h_2 => cases h
    rename_i d hd
    split at h
    case isFalse => cases h
    injection h with h
    subst h
    exact Shape.one rfl (.inr hd) (fun b hk => by cases hk) rfl
  · unfold aBuild at h
    repeat' (split at h)
    all_goals first | (injection h with h; subst h; exact Shape.none rfl rfl rfl) | cases h
  · split at h
    case h_2 => cases h
    rename_i d hd
    split at h
    · split at h
      case isFalse => cases h
      unfold aBuildSlice at h
      repeat' (split at h)
      all_goals first | (injection h with h; subst h; exact Shape.one rfl (.inr hd) (fun b hk => by cases hk) rfl) | cases h
    · unfold aLit at h
      repeat' (split at h)
      all_goals first | (injection h with h; subst h; exact Shape.none rfl rfl rfl) | cases h
  · unfold aLoad at h
    repeat' (split at h)
    all_goals first | (injection h with h; subst h; exact Shape.none rfl rfl rfl) | cases h
  · unfold aStore at h
    split at h
    case h_2 => cases h
    split at h
    case h_2 => cases h
    rename_i ent n hl hs
    split at h
    case isFalse => cases h
    split at h
    case h_2 => cases h
    split at h
    case isFalse => cases h
    injection h with h
    subst h
    exact Shape.one rfl (.inl (by simp [hl])) (fun b hk => by cases hk) rfl
  · repeat' (split at h)
    all_goals first | (injection h with h; subst h; exact Shape.none rfl rfl rfl) | cases h
  · repeat' (split at h)
    all_goals first | (injection h with h; subst h; exact Shape.none rfl rfl rfl) | cases h
  · unfold aField at h
    repeat' (split at h)
    all_goals first | (injection h with h; subst h; exact Shape.none rfl rfl rfl) | cases h
  · repeat' (split at h)
    all_goals first | (injection h with h; subst h; exact Shape.none rfl rfl rfl) | cases h
  · unfold aIndex at h
    repeat' (split at h)
    all_goals first | (injection h with h; subst h; exact Shape.none rfl rfl rfl) | cases h
  · repeat' (split at h)
    all_goals first | exact aPure_shape h | (injection h with h; subst h; exact Shape.none rfl rfl rfl) | cases h
  · split at h
    · exact aPure_shape h
    · unfold aSlice at h
      repeat' (split at h)
      all_goals first | (injection h with h; subst h; exact Shape.none rfl rfl rfl) | cases h
  · split at h
    · injection h with h
      subst h
      exact Shape.none rfl rfl rfl
    · cases h
  · split at h
    case h_2 => cases h
    rename_i d hd
    split at h
    case isFalse => cases h
    unfold aMake at h
    repeat' (split at h)
    all_goals first | (injection h with h; subst h; exact Shape.one rfl (.inr hd) (fun b hk => by cases hk) rfl) | cases h
  · split at h
    case h_2 => cases h
    rename_i d s x t t' hd ha ht
    split at h
    case isFalse => cases h
    unfold aAppend at h
    repeat' (split at h)
    all_goals try (cases h; done)
    · injection h with h
      subst h
      exact Shape.one rfl (.inr hd) (fun b hk => by cases hk) rfl
    · rename_i hc
      injection h with h
      subst h
      refine Shape.one rfl (.inr hd) (fun b hk => ?_) rfl
      injection hk with hk
      subst hk
      exact ⟨hc.2.1, hc.1⟩
  · split at h
    case h_2 => cases h
    unfold aCopy at h
    split at h
    case h_2 => cases h
    split at h
    case h_2 => cases h
    split at h
    case h_2 => cases h
    rename_i ent new hl hsrc
    split at h
    case isFalse => cases h
    injection h with h
    subst h
    exact Shape.one rfl (.inl (by simp [hl])) (fun b hk => by cases hk) rfl
  · split at h
    case h_2 => cases h
    unfold aClear at h
    split at h
    case h_2 => cases h
    split at h
    case h_2 => cases h
    split at h
    case h_2 => cases h
    rename_i ent hl
    split at h
    case isFalse => cases h
    injection h with h
    subst h
    exact Shape.one rfl (.inl (by simp [hl])) (fun b hk => by cases hk) rfl
  · split at h
    case h_2 => cases h
    split at h
    · exact aPure_shape h
    · unfold aLen at h
      repeat' (split at h)
      all_goals first | (injection h with h; subst h; exact Shape.none rfl rfl rfl) | cases h
    · unfold aMLen at h
      repeat' (split at h)
      all_goals first | (injection h with h; subst h; exact Shape.none rfl rfl rfl) | cases h
    · cases h
  · split at h
    case h_2 => cases h
    unfold aMDel at h
    split at h
    case h_2 => cases h
    split at h
    case h_2 => cases h
    split at h
    case h_2 => cases h
    rename_i ent hl
    split at h
    case isFalse => cases h
    split at h
    case h_2 => cases h
    injection h with h
    subst h
    exact Shape.one rfl (.inl (by simp [hl])) (fun b hk => by cases hk) rfl
  · split at h
    case h_2 => cases h
    rename_i d hd
    split at h
    case isFalse => cases h
    unfold aMkMap at h
    split at h
    · injection h with h
      subst h
      exact Shape.one rfl (.inr hd) (fun b hk => by cases hk) rfl
    · cases h
  · unfold aMLook at h
    repeat' (split at h)
    all_goals first | (injection h with h; subst h; exact Shape.none rfl rfl rfl) | cases h
  · exact aMSet_shape h
  · exact aMSet_shape h
  · split at h
    case h_2 => cases h
    split at h
    · exact aPure_shape h
    · split at h
      · rename_i d hd
        split at h
        case isFalse => cases h
        rw [← hd] at h
        exact aCall_shape h
      · rename_i hd
        rw [← hd] at h
        exact aCall_shape h
  · split at h
    · unfold aEq at h
      repeat' (split at h)
      all_goals first | (injection h with h; subst h; exact Shape.none rfl rfl rfl) | cases h
    · exact aPure_shape h
end Go.Ab
