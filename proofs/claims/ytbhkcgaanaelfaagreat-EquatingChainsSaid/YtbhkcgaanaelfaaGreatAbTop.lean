/- From what a call comes to in the abstract interpreter to what the model's call does. -/
import Derived.Test.YtbhkcgaanaelfaaGreatAbDict
namespace Go.Ab
open Go.RowKit
theorem zuA {P:Program} {C:Cfg} {F:AnnF} {f:FuncId} {args:List AV} {x:Value} {ms:Mem} (h:callw P C F f args []=some (.v x,ms)) (w:World) (vals:Array Value) (hl:vals.size=args.length)
  (hr:∀ (k:Nat) (a:AV) (y:Value),args[k]?=some a→vals[k]?=some y→VRel (fun g=>g < w.heap.size) (fun _=>none) (fun _=>False) w a y) :
  Calls P f vals w fun e w'=>e=.returned x∧Below w.heap.size w w':=by
 obtain ⟨_,h2⟩:=callw_ok f args [] (.v x) ms h
 have h3:=h2 w (fun g=>g < w.heap.size) (fun _=>none) vals hl (fun g hg=>hg) (fun k a y ha hy=>(hr k a y ha hy).mono (fun _ h=>h) (fun _ _=>rfl) (fun _ h=>h.elim) (fun _ h=>h.elim))
  (fun b ent hb=>by simp [look] at hb) (fun b b' g c c' hb=>by simp [Dm,look] at hb)
 refine h3.mono ?_
 rintro e w' ⟨y,S',rfl,hos,htape,hout,hsz,hold,hsup,_,_,_,hres⟩
 have hy:y=x:=by
  have:CRel S' w' (.v x) y:=hres
  cases this
  rfl
 subst hy
 exact ⟨rfl,hos,htape,hout,hsz,fun g hg=>hold g hg (fun b c hb=>by simp [Dm,look] at hb)⟩
end Go.Ab
