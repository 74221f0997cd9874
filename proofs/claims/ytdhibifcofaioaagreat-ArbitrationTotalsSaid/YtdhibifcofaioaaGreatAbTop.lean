/- From what a call comes to in the abstract interpreter to what the model's call does. -/
import Derived.Test.YtdhibifcofaioaaGreatAbDict
namespace Go.Ab
open Go.RowKit

/-- a slice of integers that came in -/
def IsInts (k : IntKind) (w : World) (a : Option Addr) (len cap : Nat) (zs : List Int) : Prop :=
  (a = none ∧ len = 0 ∧ cap = 0 ∧ zs = []) ∨
  ∃ x, a = some x ∧ len ≤ cap ∧ cap ≤ maxLen ∧ zs.length = cap ∧ (∀ i, i < zs.length → w.cell? (x.add i) = some (.int k (zs.getD i 0))) ∧ ∀ n ∈ zs, (Lit.int k n).wf = true

theorem block_lt {w : World} {a : Addr} {v : Value} (h : w.cell? a = some v) : a.block < w.heap.size := by
  by_cases hb : a.block < w.heap.size
  · exact hb
  · have : w.heap[a.block]? = none := Array.getElem?_eq_none (by omega)
    unfold World.cell? at h
    rw [this] at h
    simp at h

theorem ints_rel {k : IntKind} {w : World} {a : Option Addr} {len cap : Nat} {zs : List Int} {κ : Kap} {D : Nat → Prop} (h : IsInts k w a len cap zs) :
    VRel (fun g => g < w.heap.size) κ D w (.sl 1 ((zs.take len).map fun n => [.v (.int k n)])) (.slice a len cap) := by
  rcases h with ⟨rfl, rfl, rfl, rfl⟩ | ⟨x, rfl, hl, hm, hz, hc, _⟩
  · exact .c (CRel.nil_sl 1)
  · refine .c (.sl 1 _ (some x) len cap (fun i _ => .int k (zs.getD i 0)) (by simp; omega) hl (fun cs hcs => by obtain ⟨n, _, rfl⟩ := List.mem_map.1 hcs; rfl) ?_ ?_)
    · cases len with
      | zero => left; simp
      | succ len =>
        right
        have hb : x.block < w.heap.size := by
          have := block_lt (a := x.add 0) (hc 0 (by omega))
          rwa [block_add] at this
        refine ⟨x, rfl, hb, ?_⟩
        intro i j cs c hi hj
        simp only [List.getElem?_map, List.getElem?_take, Option.map_eq_some_iff] at hi
        obtain ⟨n, hn, rfl⟩ := hi
        split at hn
        · have hi' : i < zs.length := (List.getElem?_eq_some_iff.1 hn).1
          cases j with
          | zero => exact ⟨by simpa using hc i hi', rfl⟩
          | succ j => simp at hj
        · cases hn
    · intro i j cs c hi hj
      simp only [List.getElem?_map, List.getElem?_take, Option.map_eq_some_iff] at hi
      obtain ⟨n, hn, rfl⟩ := hi
      split at hn
      · cases j with
        | zero =>
          simp at hj
          subst hj
          have : zs.getD i 0 = n := by rw [List.getD_eq_getElem?_getD, hn]; rfl
          rw [this]
          exact .v _
        | succ j => simp at hj
      · cases hn

/-- a call that hands nothing over to be written and answers a plain value -/
theorem calls_of_callw {P : Program} {C : Cfg} {F : AnnF} {f : FuncId} {args : List AV} {x : Value} {ms : Mem} (h : callw P C F f args [] = some (.v x, ms)) (w : World) (vals : Array Value) (hl : vals.size = args.length)
    (hr : ∀ (k : Nat) (a : AV) (y : Value), args[k]? = some a → vals[k]? = some y → VRel (fun g => g < w.heap.size) (fun _ => none) (fun _ => False) w a y) :
    Calls P f vals w fun e w' => e = .returned x ∧ Below w.heap.size w w' := by
  obtain ⟨_, h2⟩ := callw_ok f args [] (.v x) ms h
  have h3 := h2 w (fun g => g < w.heap.size) (fun _ => none) vals hl (fun g hg => hg) (fun k a y ha hy => (hr k a y ha hy).mono (fun _ h => h) (fun _ _ => rfl) (fun _ h => h.elim) (fun _ h => h.elim))
    (fun b ent hb => by simp [look] at hb) (fun b b' g c c' hb => by simp [Dm, look] at hb)
  refine h3.mono ?_
  rintro e w' ⟨y, S', rfl, hos, htape, hout, hsz, hold, hsup, _, _, _, hres⟩
  have hy : y = x := by
    have : CRel S' w' (.v x) y := hres
    cases this
    rfl
  subst hy
  exact ⟨rfl, hos, htape, hout, hsz, fun g hg => hold g hg (fun b c hb => by simp [Dm, look] at hb)⟩
end Go.Ab
