/- Closed calls that the kernel works out: the interpreter without contracts from elsewhere. -/
import Derived.Test.YticojpmhlhfhlaaGreatBas
namespace Go.Proofs.YticojpmhlhfhlaaGreat
open Go.Ab
def acl (P:Program) (C:Cfg) (A:AnnF):Nat→zbs
 | 0,_,_,_=>none
 | n+1,f,args,ms=>match P.funcs[f]? with
   | none=>none
   | some fn=>match fn.body with
     | none=>none
     | some c=>if fn.ntmps≤1000∧args.length≤fn.ntmps∧enters P f=true then
       (match aeval P C (A f) fn.ntmps (acl P C A n) (iter n) c { t:=argTab 0 args,m:=ms } with
       | some (.exit _,_)=>none
       | some (_,st)=>match zmF P (A f).frz fn st,zgm st.m ms with
         | some r,some ms'=>some (r,ms')
         | _,_=>none
       | none=>none) else none
theorem acl_le {P:Program} {C:Cfg} {A:AnnF} (ho:∀ f a m,C.orc f a m=none):∀ n,LeC (acl P C A n) (acall P C A n):=by
 intro n
 induction n with
 | zero=>intro f args ms r h; simp [acl] at h
 | succ n ih =>
   intro f args ms r h
   simp only [acl] at h
   simp only [acall,zGP (ho f args ms)]
   cases hf:P.funcs[f]? with
   | none=>simp [hf] at h
   | some fn =>
     simp only [hf] at h ⊢
     cases hb:fn.body with
     | none=>simp [hb] at h
     | some c =>
       simp only [hb] at h ⊢
       split at h
       case isFalse=>cases h
       rename_i hc
       rw [if_pos hc]
       cases hev:aeval P C (A f) fn.ntmps (acl P C A n) (iter n) c { t:=argTab 0 args,m:=ms } with
       | none=>simp [hev] at h
       | some q =>
         rw [zk6 ih (zhn (Nat.le_refl n)) c _ q hev]
         rw [hev] at h
         exact h
theorem cw_of (n:Nat) {f:FuncId} {args:List AV} {ms:Mem} {r:AV×Mem} (h:acl zP zC zA n f args ms=some r):cw f args ms=some r:=
 zw9 n _ _ _ _ (acl_le (fun _ _ _=>rfl) n _ _ _ _ h)
theorem zuK:cw zkl [] []=some (zvy true):=cw_of 200 (by kernel_rfl)
end Go.Proofs.YticojpmhlhfhlaaGreat
