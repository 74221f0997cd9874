/- Loops and branches of printed trees. -/
import Derived.Test.YtbhkcgaanaelfaaGreatAll
import Derived.Test.YtbhkcgaanaelfaaGreatAbTop
namespace Go.Proofs.YtbhkcgaanaelfaaGreat
open Go.Ab
set_option linter.unusedSimpArgs false
noncomputable def dec (p:Prop):Bool:=@decide p (Classical.propDecidable p)
theorem zbD {p:Prop} (h:p):dec p=true:=by unfold dec; simp [h]
theorem zbB {p:Prop} (h:¬p):dec p=false:=by unfold dec; simp [h]
theorem dec_iff {p q:Prop} (h:p↔q):dec p=dec q:=by rw [propext h]
theorem dec_bool {b:Bool} {p:Prop} (h:b=true↔p):b=dec p:=by
 by_cases hp:p
 · rw [zbD hp]; exact h.2 hp
 · rw [zbB hp]; cases b with
   | true=>exact absurd (h.1 rfl) hp
   | false=>rfl
theorem zrx {β:Type} (b:Bool) (t e:Option β):brn b t e=if b=true then t else e:=by cases b <;> rfl
variable {α β:Type}
end Go.Proofs.YtbhkcgaanaelfaaGreat
