/- Fractions: core's Rat, with sizes in bits; no program in sight. -/
import Derived.Test.YticojpmhlhfhlaaGreatAll
import Derived.Test.YticojpmhlhfhlaaGreatAbTop
import Derived.Lib.Mul64
namespace Go.Pure
theorem add_steps (a b:Rat) (g:Nat) (hg:g=a.den.gcd b.den) (s:Int) (hs:s=a.num*((b.den / g:Nat):Int)+b.num*((a.den / g:Nat):Int)) (c:Nat) (hc:c=s.natAbs.gcd g) :
  (a+b).num=s / (c:Int)∧(a+b).den=(a.den / g)*(b.den / c):=by
 have hcg:c ∣ g:=hc▸Nat.gcd_dvd_right _ _
 have hgb:g ∣ b.den:=hg▸Nat.gcd_dvd_right _ _
 show (Rat.add a b).num=_∧(Rat.add a b).den=_
 delta Rat.add
 dsimp only
 split
 · rename_i h1
   have hg1:g=1:=by rw [hg]; exact h1
   have hc1:c=1:=by rw [hg1] at hcg; exact Nat.dvd_one.1 hcg
   subst hc1
   rw [hs,hg1]
   simp
 · simp only [Rat.maybeNormalize_eq,Int.divExact_eq_ediv,← hg,← hs,← hc]
   exact ⟨trivial,Nat.mul_div_assoc _ (Nat.dvd_trans hcg hgb)⟩
theorem mul_steps (a b:Rat):(a*b).num=a.num.tdiv (a.num.natAbs.gcd b.den:Nat)*b.num.tdiv (b.num.natAbs.gcd a.den:Nat) ∧
  (a*b).den=(a.den / b.num.natAbs.gcd a.den)*(b.den / a.num.natAbs.gcd b.den):=by
 show (Rat.mul a b).num=_∧(Rat.mul a b).den=_
 delta Rat.mul
 simp only [Int.divExact_eq_tdiv,Nat.divExact_eq_div]
 trivial
def Bd (n d:Nat) (r:Rat):Prop:=r.num.natAbs≤2 ^ n∧r.den≤2 ^ d
theorem Bd.mono {n d n' d':Nat} {r:Rat} (h:Bd n d r) (h1:n≤n') (h2:d≤d'):Bd n' d' r:=
 ⟨Nat.le_trans h.1 (Nat.pow_le_pow_right (by omega) h1),Nat.le_trans h.2 (Nat.pow_le_pow_right (by omega) h2)⟩
theorem zrc {x y n m N:Nat} (hx:x≤2 ^ n) (hy:y≤2 ^ m) (h:n+m≤N):x*y≤2 ^ N:=
 Nat.le_trans (Nat.mul_le_mul hx hy) (by rw [← Nat.pow_add]; exact Nat.pow_le_pow_right (by omega) h)
theorem zxG (s:Int) (c:Nat):(s / (c:Int)).natAbs≤s.natAbs:=by
 by_cases h:c=0
 · subst h; simp
 · have:=Int.natAbs_ediv_le_natAbs s c
   exact this
theorem sum_le (a b:Rat) {n d n' d' N:Nat} (ha:Bd n d a) (hb:Bd n' d' b) (h1:n+d'+1≤N) (h2:n'+d+1≤N) (g:Nat) :
  a.num.natAbs*(b.den / g)≤2 ^ (N - 1)∧b.num.natAbs*(a.den / g)≤2 ^ (N - 1)∧(a.num*((b.den / g:Nat):Int)+b.num*((a.den / g:Nat):Int)).natAbs≤2 ^ N:=by
 have e1:a.num.natAbs*(b.den / g)≤2 ^ (N - 1):=zrc ha.1 (Nat.le_trans (Nat.div_le_self _ _) hb.2) (by omega)
 have e2:b.num.natAbs*(a.den / g)≤2 ^ (N - 1):=zrc hb.1 (Nat.le_trans (Nat.div_le_self _ _) ha.2) (by omega)
 refine ⟨e1,e2,?_⟩
 have e3:=Int.natAbs_add_le (a.num*((b.den / g:Nat):Int)) (b.num*((a.den / g:Nat):Int))
 rw [Int.natAbs_mul,Int.natAbs_mul,Int.natAbs_natCast,Int.natAbs_natCast] at e3
 have e4:2 ^ N=2 ^ (N - 1)+2 ^ (N - 1):=by
  have:N=(N - 1)+1:=by omega
  conv=>lhs; rw [this,Nat.pow_succ]
  omega
 omega
theorem Bd.add {a b:Rat} {n d n' d' N D:Nat} (ha:Bd n d a) (hb:Bd n' d' b) (h1:n+d'+1≤N) (h2:n'+d+1≤N) (h3:d+d'≤D):Bd N D (a+b):=by
 obtain ⟨e1,e2⟩:=add_steps a b _ rfl _ rfl _ rfl
 refine ⟨?_,?_⟩
 · rw [e1]
   exact Nat.le_trans (zxG _ _) (sum_le a b ha hb h1 h2 _).2.2
 · rw [e2]
   exact zrc (Nat.le_trans (Nat.div_le_self _ _) ha.2) (Nat.le_trans (Nat.div_le_self _ _) hb.2) h3
theorem Bd.neg {a:Rat} {n d:Nat} (h:Bd n d a):Bd n d (-a):=⟨by show (-a.num).natAbs≤_; rw [Int.natAbs_neg]; exact h.1,h.2⟩
theorem Bd.sub {a b:Rat} {n d n' d' N D:Nat} (ha:Bd n d a) (hb:Bd n' d' b) (h1:n+d'+1≤N) (h2:n'+d+1≤N) (h3:d+d'≤D):Bd N D (a - b):=by
 rw [Rat.sub_eq_add_neg]; exact ha.add hb.neg h1 h2 h3
theorem Bd.mul {a b:Rat} {n d n' d' N D:Nat} (ha:Bd n d a) (hb:Bd n' d' b) (h1:n+n'≤N) (h3:d+d'≤D):Bd N D (a*b):=by
 obtain ⟨e1,e2⟩:=mul_steps a b
 refine ⟨?_,?_⟩
 · rw [e1,Int.natAbs_mul,Int.natAbs_tdiv,Int.natAbs_tdiv]
   exact zrc (Nat.le_trans (Nat.div_le_self _ _) ha.1) (Nat.le_trans (Nat.div_le_self _ _) hb.1) h1
 · rw [e2]
   exact zrc (Nat.le_trans (Nat.div_le_self _ _) ha.2) (Nat.le_trans (Nat.div_le_self _ _) hb.2) h3
theorem Bd.inv {a:Rat} {n d:Nat} (h:Bd n d a):Bd d n a⁻¹:=by
 refine ⟨?_,?_⟩
 · rw [Rat.num_inv,Int.natAbs_mul,Int.natAbs_natCast]
   have h1:a.num.sign.natAbs≤1:=by
    rw [Int.natAbs_sign]
    split <;> omega
   exact Nat.le_trans (Nat.mul_le_mul h1 h.2) (by omega)
 · rw [Rat.den_inv]
   split
   · exact Nat.one_le_two_pow
   · exact h.1
end Go.Pure
namespace Go.Proofs.YticojpmhlhfhlaaGreat
open Go.Ab
theorem brn_t {β:Type} {c:Bool} (h:c=true) (x y:Option β):brn c x y=x:=by subst h; rfl
theorem brn_f {β:Type} {c:Bool} (h:c=false) (x y:Option β):brn c x y=y:=by subst h; rfl
noncomputable abbrev U (n:Nat):AV:=.v (.int .u64 (n:Int))
theorem wuN {n:Nat} (h:n < 18446744073709551616):wu64 (n:Int)=n:=zd7 (by omega) (by omega)
theorem k_gcd:∀ (b a:Nat),zo5 (a:Int) (b:Int)=some (zol.enc ((Nat.gcd a b:Nat):Int)):=by
 intro b
 induction b using Nat.strongRecOn with
 | _ b ih =>
   intro a
   refine zHU _ _ ?_
   by_cases hb:b=0
   · subst hb
     rw [brn_f (by rfl),Nat.gcd_zero_right]
     rfl
   · rw [brn_t (by simp; omega),zac (by omega)]
     have:(a:Int).tmod (b:Int)=((a % b:Nat):Int):=rfl
     rw [this,ih (a % b) (Nat.mod_lt _ (by omega)) b,Nat.gcd_comm b (a % b),← Nat.gcd_rec,Nat.gcd_comm]
theorem c_gcd (a b:Nat):cw zst [U a,U b] []=some (zol.enc ((Nat.gcd a b:Nat):Int)):=zJT _ _ (k_gcd b a)
theorem zsv (n:Int) (h1:-9223372036854775808≤n) (h2:n < 9223372036854775808):cw zfl [I n] []=some (zdr.enc (n.natAbs:Int)):=by
 refine zB8 _ ?_
 rw [zau]
 by_cases h:n < 0
 · rw [if_pos h]
   have:wu64 (0 - wu64 n)=(n.natAbs:Int):=by
    simp only [wu64,IntKind.wrap,IntKind.bits,IntKind.signed,show ((2:Int) ^ 64)=18446744073709551616 from rfl,Bool.false_and,Bool.false_eq_true,if_false]
    omega
   rw [this]
   rfl
 · rw [if_neg h,zd7 (by omega) (by omega),show n=(n.natAbs:Int) from by omega]
   simp
   rfl
theorem c_Mul64 (x y:Nat) (hx:x < 18446744073709551616) (hy:y < 18446744073709551616) :
  cw zvm [U x,U y] []=some (zmU.enc (((x*y / 18446744073709551616:Nat):Int),((x*y % 18446744073709551616:Nat):Int))):=by
 refine zIc _ _ ?_
 have h32:((2:Int) ^ Min.min (Int.toNat 32) 64)=((4294967296:Nat):Int):=by decide
 have hdiv:∀ n:Nat,(n:Int).fdiv ((4294967296:Nat):Int)=((n / 4294967296:Nat):Int):=fun n=>by
  rw [Int.fdiv_eq_ediv_of_nonneg _ (by omega)]; rfl
 have hmask:∀ n:Nat,n < 18446744073709551616→((((n:Int) % Int.ofNat (2 ^ 64)).toNat &&& ((4294967295:Int) % Int.ofNat (2 ^ 64)).toNat:Nat):Int)=((n % 4294967296:Nat):Int):=fun n hn=>by
  have e1:((n:Int) % Int.ofNat (2 ^ 64)).toNat=n:=by
   have:(Int.ofNat (2 ^ 64):Int)=18446744073709551616:=by decide
   rw [this]; omega
  have e2:((4294967295:Int) % Int.ofNat (2 ^ 64)).toNat=2 ^ 32 - 1:=by decide
  rw [e1,e2,Nat.and_two_pow_sub_one_eq_mod]
 obtain ⟨m1,m2,m3,m4⟩:=Go.Lib.mul64_hi x y hx hy
 have hlo:wu64 ((x:Int)*(y:Int))=((x*y % 18446744073709551616:Nat):Int):=by
  have e:(x:Int)*(y:Int)=((x*y:Nat):Int):=by simp
  rw [e]
  generalize x*y=m
  simp only [wu64,IntKind.wrap,IntKind.bits,IntKind.signed,show ((2:Int) ^ 64)=18446744073709551616 from rfl,Bool.false_and,Bool.false_eq_true,if_false]
  omega
 have hx0:x % 4294967296 < 4294967296:=Nat.mod_lt _ (by omega)
 have hy0:y % 4294967296 < 4294967296:=Nat.mod_lt _ (by omega)
 have p1:=Go.Lib.half_mul_le (a:=x / 4294967296) (b:=y % 4294967296) (by omega) (by omega)
 have p2:=Go.Lib.half_mul_le (a:=x % 4294967296) (b:=y / 4294967296) (by omega) (by omega)
 have p3:=Go.Lib.half_mul_le (a:=x / 4294967296) (b:=y / 4294967296) (by omega) (by omega)
 have hM:∀ a b:Nat,((a:Int)*(b:Int))=((a*b:Nat):Int):=fun a b=>by push_cast; rfl
 have hA:∀ a b:Nat,((a:Int)+(b:Int))=((a+b:Nat):Int):=fun a b=>by push_cast; rfl
 rw [zac (by decide),zac (by decide),zac (by decide),zac (by decide),zac (by decide),hlo,h32]
 rw [hdiv x,hdiv y,hmask x hx,hmask y hy,wuN (n:=x % 4294967296) (by omega),wuN (n:=y % 4294967296) (by omega)]
 generalize hx1:x / 4294967296=x1 at *
 generalize hy1:y / 4294967296=y1 at *
 generalize x % 4294967296=x0 at *
 generalize y % 4294967296=y0 at *
 rw [hM x0 y0,wuN m1,hdiv,hM x1 y0,wuN (n:=x1*y0) (by omega),hA,wuN m2,hmask _ m2,hM x0 y1,wuN (n:=x0*y1) (by omega),wuN (n:=_ % 4294967296) (by omega),hA,wuN m3,hdiv,hdiv,hM x1 y1,wuN (n:=x1*y1) (by omega),hA,wuN (by omega),hA,wuN (by omega),m4]
 rfl
def W (n:Nat):GratioWide:=⟨((n / 18446744073709551616:Nat):Int),((n % 18446744073709551616:Nat):Int)⟩
theorem c_product (x y:Nat) (hx:x < 18446744073709551616) (hy:y < 18446744073709551616) :
  cw zqS [U x,U y] []=some (zre.enc (W (x*y))):=by
 refine zFc _ _ ?_
 rw [zaL (c_Mul64 x y hx hy)]
 rfl
def cmpZ (a b:Int):Int:=if a < b then -1 else if b < a then 1 else 0
theorem c_isNaNu (a:Int):cw ziS [.v (.int .u64 a)] []=some (zeI.enc false):=zAM a (by simp; rfl)
theorem c_cmpu (a b:Int):cw zgW [.v (.int .u64 a),.v (.int .u64 b)] []=some (zg5.enc (cmpZ a b)):=by
 refine zym a b ?_
 rw [zaL (c_isNaNu a),zaL (c_isNaNu b),brn_f rfl,brn_f rfl,zau,zau]
 unfold cmpZ
 split
 · rfl
 · split <;> rfl
theorem zxZ {a b:Int} (h:a < b):cmpZ a b=-1:=if_pos h
theorem zxO {a b:Int} (h:b < a):cmpZ a b=1:=by unfold cmpZ; rw [if_neg (by omega),if_pos h]
theorem cmpZ_eq {a b:Int} (h:a=b):cmpZ a b=0:=by unfold cmpZ; rw [if_neg (by omega),if_neg (by omega)]
theorem zE0 (a b:Nat):cw zeT [.agg (za9 (W a)),.agg (za9 (W b))] []=some (zeR.enc (cmpZ a b)):=by
 refine zyo _ _ ?_
 have ha:(W a).hi=((a / 18446744073709551616:Nat):Int):=rfl
 have hb:(W b).hi=((b / 18446744073709551616:Nat):Int):=rfl
 have la:(W a).lo=((a % 18446744073709551616:Nat):Int):=rfl
 have lb:(W b).lo=((b % 18446744073709551616:Nat):Int):=rfl
 rw [zaL (c_cmpu _ _)]
 rcases Nat.lt_trichotomy (a / 18446744073709551616) (b / 18446744073709551616) with h | h | h
 · have e:cmpZ (W a).hi (W b).hi=-1:=zxZ (by rw [ha,hb]; omega)
   rw [e,brn_t (by rfl),zxZ (by omega)]
   rfl
 · have e:cmpZ (W a).hi (W b).hi=0:=cmpZ_eq (by rw [ha,hb,h])
   rw [e,brn_f (by rfl),zaL (c_cmpu _ _)]
   rcases Nat.lt_trichotomy a b with h' | h' | h'
   · rw [zxZ (by rw [la,lb]; omega),zxZ (by omega)]
     rfl
   · rw [cmpZ_eq (by rw [la,lb,h']),cmpZ_eq (by omega)]
     rfl
   · rw [zxO (by rw [la,lb]; omega),zxO (by omega)]
     rfl
 · have e:cmpZ (W a).hi (W b).hi=1:=zxO (by rw [ha,hb]; omega)
   rw [e,brn_t (by rfl),zxO (by omega)]
   rfl
theorem c_Div64s (a d:Nat) (ha:a < 18446744073709551616) (hd:0 < d):cw zki [U 0,U a,U d] []=some (zhJ.enc (((a / d:Nat):Int),((a % d:Nat):Int))):=by
 refine zAl (a:Int) (d:Int) ?_
 have h1:(a:Int).tdiv (d:Int)=((a / d:Nat):Int):=rfl
 have h2:(a:Int).tmod (d:Int)=((a % d:Nat):Int):=rfl
 have h3:a / d≤a:=Nat.div_le_self a d
 rw [brn_f (by simp; omega),zau,if_neg (by omega),zac (by omega),zac (by omega),h1,h2,wuN (by omega)]
 rfl
theorem c_modS (a d:Nat) (ha:a < 18446744073709551616) (hd:0 < d):cw zkB [.agg (za9 (W a)),U d] []=some (zfQ.enc ((a % d:Nat):Int)):=by
 refine zEe _ _ ?_
 have hW:W a=⟨((0:Nat):Int),(a:Int)⟩:=by unfold W; rw [Nat.div_eq_of_lt ha,Nat.mod_eq_of_lt ha]
 have hR:cw zvh [U 0,U a,U d] []=some (zve.enc ((a % d:Nat):Int)):=by
  refine zJj _ _ _ ?_
  have h0:((0:Nat):Int).tmod (d:Int)=((0:Nat):Int):=by simp
  rw [zac (by omega),h0,zaL (c_Div64s a d ha hd)]
  rfl
 rw [hW,zaL hR]
 rfl
theorem c_overS (a d:Nat) (ha:a < 18446744073709551616) (hd:0 < d):cw zjE [.agg (za9 (W a)),U d] []=some (zff.enc (W (a / d))):=by
 refine zBJ _ _ ?_
 have hW:W a=⟨((0:Nat):Int),(a:Int)⟩:=by unfold W; rw [Nat.div_eq_of_lt ha,Nat.mod_eq_of_lt ha]
 have h3:a / d≤a:=Nat.div_le_self a d
 have hW2:W (a / d)=⟨((0:Nat):Int),((a / d:Nat):Int)⟩:=by unfold W; rw [Nat.div_eq_of_lt (by omega),Nat.mod_eq_of_lt (by omega)]
 have h0:((0:Nat):Int).tmod (d:Int)=((0:Nat):Int):=by simp
 have h1:((0:Nat):Int).tdiv (d:Int)=((0:Nat):Int):=by simp
 rw [hW,hW2,zac (by omega),zac (by omega),h0,h1,zaL (c_Div64s a d ha hd),wuN (by omega)]
 rfl
def sgn (s:Bool) (n:Nat):Int:=if s then -(n:Int) else n
theorem c_fitted (s:Bool) (n d:Nat) (hn:n≤1152921504606846976) (hd:d≤1152921504606846976) :
  cw znA [B s,.agg (za9 (W n)),.agg (za9 (W d))] []=some (zni.enc (⟨sgn s n,d⟩,0)):=by
 refine zFQ _ _ _ ?_
 have hW:W n=⟨((0:Nat):Int),(n:Int)⟩:=by unfold W; rw [Nat.div_eq_of_lt (by omega),Nat.mod_eq_of_lt (by omega)]
 have hW2:W d=⟨((0:Nat):Int),(d:Int)⟩:=by unfold W; rw [Nat.div_eq_of_lt (by omega),Nat.mod_eq_of_lt (by omega)]
 rw [hW,hW2,brn_f (by rfl),brn_f (by rfl),zau,if_neg (by show ¬ (1152921504606846976:Int) < (n:Int); omega),zau,if_neg (by show ¬ (1152921504606846976:Int) < (d:Int); omega)]
 have e1:w64 (n:Int)=n:=w64_id (by omega) (by omega)
 have e2:w64 (d:Int)=d:=w64_id (by omega) (by omega)
 have e3:w64 (0 - (n:Int))=-(n:Int):=by rw [w64_id (by omega) (by omega)]; omega
 cases s with
 | true=>rw [brn_t rfl,e1,e2,e3]; rfl
 | false=>rw [brn_f rfl,e1,e2]; rfl
theorem zwm (n:Int) (f:Nat) (h1:-9223372036854775808≤n) (h2:n < 9223372036854775808) (hf:f < 18446744073709551616) :
  cw zgn [I n,U f] []=some (zgl.enc ⟨decide (n < 0),W (n.natAbs*f)⟩):=by
 refine zxs _ _ ?_
 rw [zaL (zsv n h1 h2),zaL (c_product n.natAbs f (by omega) hf)]
 rfl
end Go.Proofs.YticojpmhlhfhlaaGreat
namespace Go.Proofs.YticojpmhlhfhlaaGreat
open Go.Ab Go.Pure
theorem brn_nt {β:Type} (x y:Option β):brn (!true) x y=y:=rfl
theorem brn_nf {β:Type} (x y:Option β):brn (!false) x y=x:=rfl
theorem brn_T {β:Type} (x y:Option β):brn true x y=x:=rfl
theorem brn_F {β:Type} (x y:Option β):brn false x y=y:=rfl
def ofR (r:Rat):GRatio:=⟨r.num,(r.den:Int)⟩
theorem oN (r:Rat):(ofR r).Num=r.num:=rfl
theorem oD (r:Rat):(ofR r).Den=(r.den:Int):=rfl
noncomputable abbrev aR (r:Rat):AV:=.agg (zae (ofR r))
theorem p60 {n:Nat} (h:n≤60):(2:Nat) ^ n≤1152921504606846976:=Nat.le_trans (Nat.pow_le_pow_right (by omega) h) (by decide)
theorem c_Valid (r:Rat) {n d:Nat} (h:Bd n d r) (hn:n≤60) (hd:d≤60):cw zo6 [aR r] []=some (zoQ.enc true):=by
 have h1:=Nat.le_trans h.1 (p60 hn)
 have h2:=Nat.le_trans h.2 (p60 hd)
 have h3:=r.den_pos
 have eN:(ofR r).Num=r.num:=rfl
 have eD:(ofR r).Den=(r.den:Int):=rfl
 refine zHy _ ?_
 rw [eN,eD,zau,if_neg (by omega),zau,if_neg (by omega),zau,if_neg (by omega),zau,if_neg (by omega),zaL (zsv r.num (by omega) (by omega)),wuN (by omega),zaL (c_gcd _ _)]
 have:Nat.gcd r.num.natAbs r.den=1:=r.reduced
 rw [this]
 rfl
theorem tdivN (a b:Nat):(a:Int).tdiv (b:Int)=((a / b:Nat):Int):=rfl
theorem sgn_natAbs (s:Bool) (n:Nat):(sgn s n).natAbs=n:=by cases s <;> simp [sgn]
theorem sgn_of (n:Int):n=sgn (decide (n < 0)) n.natAbs:=by
 by_cases h:n < 0
 · rw [decide_eq_true h]; simp only [sgn,if_true]; omega
 · rw [decide_eq_false h]; simp only [sgn,Bool.false_eq_true,if_false]; omega
theorem sgn_mul (s:Bool) (n m:Nat):sgn s (n*m)=sgn s n*m:=by cases s <;> simp [sgn,Int.neg_mul]
theorem sgn_div (s:Bool) (n c:Nat) (h:c ∣ n):sgn s (n / c)=sgn s n / (c:Int):=by
 cases s
 · simp [sgn]
 · simp only [sgn,if_true]
   rw [Int.neg_ediv_of_dvd (Int.natCast_dvd_natCast.2 h)]
   rfl
theorem c_Compare (a b:Rat) {n d n' d':Nat} (ha:Bd n d a) (hb:Bd n' d' b) (h1:n≤60) (h2:d≤60) (h3:n'≤60) (h4:d'≤60) :
  cw zq3 [aR a,aR b] []=some (zrz.enc (cmpZ (a.num*b.den) (b.num*a.den))):=by
 have ha1:=Nat.le_trans ha.1 (p60 h1)
 have ha2:=Nat.le_trans ha.2 (p60 h2)
 have hb1:=Nat.le_trans hb.1 (p60 h3)
 have hb2:=Nat.le_trans hb.2 (p60 h4)
 have pa:=a.den_pos
 have pb:=b.den_pos
 refine zEC _ _ ?_
 rw [zaL (c_Valid a ha (by omega) (by omega)),brn_nt,zaL (c_Valid b hb (by omega) (by omega)),brn_nt,oN,oN,oD,oD,wuN (by omega),wuN (by omega),
  zaL (zwm a.num b.den (by omega) (by omega) (by omega)),zaL (zwm b.num a.den (by omega) (by omega) (by omega))]
 have e1:a.num*(b.den:Int)=sgn (decide (a.num < 0)) (a.num.natAbs*b.den):=by rw [sgn_mul,← sgn_of]
 have e2:b.num*(a.den:Int)=sgn (decide (b.num < 0)) (b.num.natAbs*a.den):=by rw [sgn_mul,← sgn_of]
 have n1:a.num < 0→0 < a.num.natAbs*b.den:=fun h=>Nat.mul_pos (by omega) pb
 have n2:b.num < 0→0 < b.num.natAbs*a.den:=fun h=>Nat.mul_pos (by omega) pa
 rw [e1,e2]
 generalize a.num.natAbs*b.den=A at *
 generalize b.num.natAbs*a.den=B at *
 by_cases q1:a.num < 0
 · have n1:=n1 q1
   rw [decide_eq_true q1,brn_T]
   by_cases q2:b.num < 0
   · have n2:=n2 q2
     rw [decide_eq_true q2,brn_T,zaL (zE0 B A)]
     have:cmpZ (B:Int) A=cmpZ (sgn true A) (sgn true B):=by
      simp only [cmpZ,sgn,if_true]
      split <;> split <;> first | rfl | omega | (split <;> first | rfl | omega)
     rw [this]
     rfl
   · rw [decide_eq_false q2,brn_F,brn_T]
     have:cmpZ (sgn true A) (sgn false B)=-1:=zxZ (by simp only [sgn,if_true,Bool.false_eq_true,if_false]; omega)
     rw [this]
     rfl
 · rw [decide_eq_false q1,brn_F,brn_F]
   by_cases q2:b.num < 0
   · have n2:=n2 q2
     rw [decide_eq_true q2,brn_T]
     have:cmpZ (sgn false A) (sgn true B)=1:=zxO (by simp only [sgn,if_true,Bool.false_eq_true,if_false]; omega)
     rw [this]
     rfl
   · rw [decide_eq_false q2,brn_F,zaL (zE0 A B)]
     rfl
end Go.Proofs.YticojpmhlhfhlaaGreat
namespace Go.Proofs.YticojpmhlhfhlaaGreat
open Go.Ab Go.Pure
def WR (n:Nat):Gref01Wide:=⟨((n / 18446744073709551616:Nat):Int),((n % 18446744073709551616:Nat):Int)⟩
theorem zk2 {n:Nat} (h:n < 18446744073709551616):WR n=⟨((0:Nat):Int),(n:Int)⟩:=by unfold WR; rw [Nat.div_eq_of_lt h,Nat.mod_eq_of_lt h]
theorem c_Size (n:Int) (h1:-9223372036854775808≤n) (h2:n < 9223372036854775808):cw zrx [I n] []=some (zro.enc (n.natAbs:Int)):=by
 refine zJg _ ?_
 rw [zau]
 by_cases h:n < 0
 · rw [if_pos h,w64_id (show _≤n+1 by omega) (by omega),w64_id (by omega) (by omega),zd7 (show 0≤0 - (n+1) by omega) (by omega),zd7 (by omega) (by omega)]
   have:(0 - (n+1)+1:Int)=n.natAbs:=by omega
   rw [this]
   rfl
 · rw [if_neg h,zd7 (by omega) (by omega)]
   have:n=(n.natAbs:Int):=by omega
   rw [← this]
   rfl
theorem zyF (a b:Nat) (ha:a < 18446744073709551616) (hb:b < 18446744073709551616) (h0:0 < b) :
  cw zjY [.agg (zaY (WR a)),.agg (zaY (WR b))] []=some (zjT.enc (WR (a / b),WR (a % b))):=by
 have h3:a / b≤a:=Nat.div_le_self a b
 have h4:a % b < b:=Nat.mod_lt _ h0
 have h1:(a:Int).tdiv (b:Int)=((a / b:Nat):Int):=rfl
 have h2:(a:Int).tmod (b:Int)=((a % b:Nat):Int):=rfl
 rw [zk2 ha,zk2 hb,zk2 (n:=a / b) (by omega),zk2 (n:=a % b) (by omega)]
 refine zGf _ _ ?_
 rw [brn_t (by rfl),brn_t (by rfl),zac (by show (b:Int)≠0; omega),zac (by show (b:Int)≠0; omega)]
 show some (AV.tup [.agg (zaY ⟨0,wu64 ((a:Int).tdiv (b:Int))⟩),.agg (zaY ⟨0,(a:Int).tmod (b:Int)⟩)],([]:Mem))=_
 rw [h1,h2,wuN (by omega)]
 rfl
theorem k_rDivisor:∀ (b a:Nat),a < 18446744073709551616→b < 18446744073709551616→zgU (WR a) (WR b)=some (zqm.enc (WR (Nat.gcd a b))):=by
 intro b
 induction b using Nat.strongRecOn with
 | _ b ih =>
   intro a ha hb
   refine zCl _ _ ?_
   by_cases h0:b=0
   · subst h0
     rw [brn_f (by rfl),Nat.gcd_zero_right]
     rfl
   · have hne:¬ ((b:Int)=0):=by omega
     have hm:=Nat.mod_lt a (show 0 < b by omega)
     rw [brn_t (by rw [zk2 hb]; show (!(((0:Nat):Int) == 0 && ((b:Int) == 0 && true)))=true; rw [beq_false_of_ne hne]; rfl),zaL (zyF a b ha hb (by omega))]
     show zgU (WR b) (WR (a % b))=_
     rw [ih (a % b) hm b hb (by omega),Nat.gcd_comm b (a % b),← Nat.gcd_rec,Nat.gcd_comm]
end Go.Proofs.YticojpmhlhfhlaaGreat
namespace Go.Proofs.YticojpmhlhfhlaaGreat
open Go.Ab Go.Pure
set_option linter.unusedVariables false
theorem bd_mk {N:Int} {D n d:Nat} (h0:0 < D) (h1:N.natAbs≤2 ^ n) (h2:D≤2 ^ d):Bd n d (mkRat N D):=by
 have hne:D≠0:=by omega
 constructor
 · rw [Rat.num_mkRat,if_neg hne]
   exact Nat.le_trans (zxG _ _) h1
 · rw [Rat.den_mkRat,if_neg hne]
   exact Nat.le_trans (Nat.div_le_self _ _) h2
def AddOk (a b:Rat):Prop:=∃ n d n' d':Nat,Bd n d a∧Bd n' d' b∧n+d'+1≤60∧n'+d+1≤60∧d+d'≤60
def MulOk (a b:Rat):Prop:=∃ n d n' d':Nat,Bd n d a∧Bd n' d' b∧n+n'≤60∧d+d'≤60
def DivOk (a b:Rat):Prop:=b≠0∧∃ n d n' d':Nat,Bd n d a∧Bd n' d' b∧n+d'≤60∧d+n'≤60
def VOk (a:Rat):Prop:=Bd 60 60 a
theorem AddOk.mk {a b:Rat} {n d n' d':Nat} (ha:Bd n d a) (hb:Bd n' d' b) (h1:n+d'+1≤60) (h2:n'+d+1≤60) (h3:d+d'≤60):AddOk a b:=⟨n,d,n',d',ha,hb,h1,h2,h3⟩
theorem MulOk.mk {a b:Rat} {n d n' d':Nat} (ha:Bd n d a) (hb:Bd n' d' b) (h1:n+n'≤60) (h3:d+d'≤60):MulOk a b:=⟨n,d,n',d',ha,hb,h1,h3⟩
theorem DivOk.mk {a b:Rat} {n d n' d':Nat} (h0:b≠0) (ha:Bd n d a) (hb:Bd n' d' b) (h1:n+d'≤60) (h3:d+n'≤60):DivOk a b:=⟨h0,n,d,n',d',ha,hb,h1,h3⟩
theorem VOk.mk {a:Rat} {n d:Nat} (ha:Bd n d a) (h1:n≤60) (h2:d≤60):VOk a:=ha.mono h1 h2
end Go.Proofs.YticojpmhlhfhlaaGreat
namespace Go.Proofs.YticojpmhlhfhlaaGreat
open Go.Ab Go.Pure
set_option linter.unusedVariables false
theorem c_New (N:Int) (D:Nat) (h0:0 < D) (hN:N.natAbs≤1152921504606846976) (hD:D≤1152921504606846976):cw zhl [I N,I (D:Int)] []=some (zeQ.enc (ofR (mkRat N D),0)):=by
 generalize hg:D.gcd N.natAbs=g
 have hg0:0 < g:=hg▸Nat.gcd_pos_of_pos_left _ h0
 have hgN:g ∣ N.natAbs:=hg▸Nat.gcd_dvd_right _ _
 have l1:N.natAbs / g≤N.natAbs:=Nat.div_le_self _ _
 have l2:D / g≤D:=Nat.div_le_self _ _
 have hne:D≠0:=by omega
 have hmod:(N.natAbs % D).gcd D=g:=by rw [← hg,← Nat.gcd_rec]
 have hres:(⟨sgn (decide (N < 0)) (N.natAbs / g),((D / g:Nat):Int)⟩:GRatio)=ofR (mkRat N D):=by
  unfold ofR
  rw [Rat.num_mkRat,Rat.den_mkRat,if_neg hne,if_neg hne,hg,sgn_div _ _ _ hgN,← sgn_of]
 have hW:(⟨0,((D / g:Nat):Int)⟩:GratioWide)=W (D / g):=by unfold W; rw [Nat.div_eq_of_lt (show D / g < 18446744073709551616 by omega),Nat.mod_eq_of_lt (show D / g < 18446744073709551616 by omega)]; rfl
 have hWN:(⟨0,(N.natAbs:Int)⟩:GratioWide)=W N.natAbs:=by unfold W; rw [Nat.div_eq_of_lt (by omega),Nat.mod_eq_of_lt (by omega)]; rfl
 have hr:cw zqP [.agg (zib ⟨decide (N < 0),W N.natAbs⟩),U D] []=some (zqG.enc (ofR (mkRat N D),0)):=by
  refine zEn _ _ ?_
  show callD zfQ (cw zkB [.agg (za9 (W N.natAbs)),U D] []) _=_
  rw [zaL (c_modS N.natAbs D (by omega) h0),zaL (c_gcd _ _),hmod]
  show callD zff (cw zjE [.agg (za9 (W N.natAbs)),U g] []) _=_
  rw [zaL (c_overS N.natAbs g (by omega) hg0),zac (by omega),tdivN,wuN (by omega),hW]
  show callD zni (cw znA [B (decide (N < 0)),.agg (za9 (W (N.natAbs / g))),.agg (za9 (W (D / g)))] []) _=_
  rw [zaL (c_fitted _ (N.natAbs / g) (D / g) (by omega) (by omega)),hres]
  rfl
 refine zKb _ _ ?_
 have hb:((D:Int) == 0)=false:=beq_false_of_ne (by omega)
 have hs:(!decide (N < 0) == decide ((D:Int) < 0))=decide (N < 0):=by
  rw [decide_eq_false (show ¬ (D:Int) < 0 by omega)]
  cases decide (N < 0) <;> rfl
 rw [brn_f hb,zaL (zsv N (by omega) (by omega)),zaL (zsv (D:Int) (by omega) (by omega)),Int.natAbs_natCast,hs,hWN,zaL hr]
 rfl
end Go.Proofs.YticojpmhlhfhlaaGreat
namespace Go.Proofs.YticojpmhlhfhlaaGreat
open Go.Ab Go.Pure
set_option linter.unusedVariables false
theorem c_rReduce (s:Bool) (n D:Nat) (h0:0 < D) (hN:n≤1152921504606846976) (hD:D≤1152921504606846976) :
  cw znf [B s,.agg (zaY (WR n)),.agg (zaY (WR D))] []=some (znE.enc (ofR (mkRat (sgn s n) D),0)):=by
 generalize hg:n.gcd D=g
 have hg0:0 < g:=hg▸Nat.gcd_pos_of_pos_right _ h0
 have hgN:g ∣ n:=hg▸Nat.gcd_dvd_left _ _
 have l1:n / g≤n:=Nat.div_le_self _ _
 have l2:D / g≤D:=Nat.div_le_self _ _
 have l3:g≤D:=hg▸Nat.gcd_le_right _ h0
 have hne:D≠0:=by omega
 have hres:ofR (mkRat (sgn s n) D)=⟨sgn s (n / g),((D / g:Nat):Int)⟩:=by
  unfold ofR
  rw [Rat.num_mkRat,Rat.den_mkRat,if_neg hne,if_neg hne,sgn_natAbs,Nat.gcd_comm,hg,sgn_div _ _ _ hgN]
 have hd:=zFH _ _ (k_rDivisor D n (by omega) (by omega))
 rw [hg] at hd
 refine zGk _ _ _ ?_
 rw [zaL hd,zaL (zyF n g (by omega) (by omega) hg0),zaL (zyF D g (by omega) (by omega) hg0),zk2 (n:=n / g) (by omega),zk2 (n:=D / g) (by omega),hres]
 clear hres
 generalize n / g=q1 at *
 generalize D / g=q2 at *
 have e1:w64 (q1:Int)=(q1:Int):=w64_id (by omega) (by omega)
 have e2:w64 (q2:Int)=(q2:Int):=w64_id (by omega) (by omega)
 have e3:w64 (0 - (q1:Int))=-(q1:Int):=by rw [w64_id (by omega) (by omega)]; omega
 rw [zau,if_neg (by show ¬ (0:Int) < ((0:Nat):Int); omega),zau,if_neg (by show ¬ (0:Int) < ((0:Nat):Int); omega),zau,if_neg (by show ¬ (1152921504606846976:Int) < (q1:Int); omega),zau,if_neg (by show ¬ (1152921504606846976:Int) < (q2:Int); omega)]
 dsimp only
 rw [e1,e2,e3]
 cases s with
 | true=>rw [brn_T]; rfl
 | false=>rw [brn_F]; rfl
theorem c_rNew (N:Int) (D:Nat) (h0:0 < D) (hN:N.natAbs≤1152921504606846976) (hD:D≤1152921504606846976):cw zoD [I N,I (D:Int)] []=some (zji.enc (ofR (mkRat N D),0)):=by
 have hb:((D:Int) == 0)=false:=beq_false_of_ne (by omega)
 have hs:(!decide (N < 0) == decide ((D:Int) < 0))=decide (N < 0):=by
  rw [decide_eq_false (show ¬ (D:Int) < 0 by omega)]
  cases decide (N < 0) <;> rfl
 have hr:=c_rReduce (decide (N < 0)) N.natAbs D h0 hN hD
 rw [zk2 (by omega),zk2 (by omega),← sgn_of] at hr
 refine zJ2 _ _ ?_
 rw [brn_f hb,zaL (c_Size N (by omega) (by omega)),zaL (c_Size (D:Int) (by omega) (by omega)),Int.natAbs_natCast,hs]
 show callD znE (cw znf [B (decide (N < 0)),.agg (zaY ⟨((0:Nat):Int),(N.natAbs:Int)⟩),.agg (zaY ⟨((0:Nat):Int),(D:Int)⟩)] []) _=_
 rw [zaL hr]
 rfl
end Go.Proofs.YticojpmhlhfhlaaGreat
