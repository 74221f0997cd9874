/- The length of a word in bits. -/
import Derived.Test.YtbhkcgaanaelfaaGreatAll
import Derived.Test.YtbhkcgaanaelfaaGreatAbTop
import Derived.Lib.Mul64
namespace Go.Proofs.YtbhkcgaanaelfaaGreat
open Go.Ab
set_option linter.unusedSimpArgs false
def blen (n:Nat):Nat:=if n=0 then 0 else Nat.log2 n+1
theorem zjg (n k:Nat):blen n≤k↔n < 2 ^ k:=by
 unfold blen
 by_cases h:n=0
 · subst h; simp; exact Nat.pos_of_ne_zero (by simp)
 · rw [if_neg h,← Nat.log2_lt h]; omega
theorem blen_spec {n:Nat} (h:n≠0):2 ^ (blen n - 1)≤n∧n < 2 ^ blen n:=by
 refine ⟨?_,(zjg n _).1 (Nat.le_refl _)⟩
 have h1:¬ blen n≤blen n - 1:=by
  have:blen n≠0:=by unfold blen; rw [if_neg h]; omega
  omega
 rw [zjg] at h1
 omega
theorem zmZ (n k:Nat) (h:2 ^ k≤n):blen n=blen (n / 2 ^ k)+k:=by
 have hp:0 < 2 ^ k:=Nat.pos_of_ne_zero (by simp)
 have key:∀ j,blen n≤j+k↔blen (n / 2 ^ k)≤j:=fun j=>by
  rw [zjg,zjg,Nat.div_lt_iff_lt_mul hp,Nat.pow_add]
 have h2:¬ blen n≤k:=by rw [zjg]; omega
 have a:=(key (blen (n / 2 ^ k))).2 (Nat.le_refl _)
 have b:=(key (blen n - k)).1 (by omega)
 omega
theorem tab_ok:∀ x:Nat,x < 256→∀ y,(some (I (w64 ((y:Int)+w64 (strAt zdQ (x:Int)))),([]:Mem)):Option (AV×Mem))=some (I (w64 ((y:Int)+w64 ((blen x:Nat):Int))),[]):=by
 have h:∀ x:Fin 256,strAt zdQ ((x.val:Nat):Int)=((blen x.val:Nat):Int):=by decide +kernel
 intro x hx y
 rw [h ⟨x,hx⟩]
theorem u8_id {x:Nat} (h:x < 256):IntKind.u8.wrap (x:Int)=(x:Int):=by
 simp only [IntKind.wrap,IntKind.bits,IntKind.signed,show ((2:Int) ^ 8)=256 from rfl,Bool.false_and]
 simp only [Bool.false_eq_true,if_false]
 omega
theorem fd (a:Nat) (k:Int) (m:Nat) (h:Min.min (Int.toNat k) 64=m):(a:Int).fdiv (2 ^ Min.min (Int.toNat k) 64)=((a / 2 ^ m:Nat):Int):=by
 rw [h,show ((2:Int) ^ m)=((2 ^ m:Nat):Int) by rw [Int.natCast_pow]; rfl,Int.fdiv_eq_ediv_of_nonneg _ (Int.natCast_nonneg _)]
 rfl
theorem k_1010 (x:Nat) (y:Nat) (hx:x < 256) (hy:y≤64):zhm x y=some (zer ((y+blen x:Nat):Int))∧zgo x y=some (zer ((y+blen x:Nat):Int)):=by
 have hb:blen x≤8:=(zjg x 8).2 hx
 have hr:(some (I (w64 ((y:Int)+w64 (strAt zdQ (x:Int)))),([]:Mem)):Option (AV×Mem))=some (zer ((y+blen x:Nat):Int)):=by
  rw [tab_ok x hx,w64_id (n:=((blen x:Nat):Int)) (by omega) (by omega),w64_id (by omega) (by omega),← Int.natCast_add]
  rfl
 have hsz:(zdQ.size:Int)=256:=by decide +kernel
 constructor
 · refine zr1 _ _ ?_
   rw [u8_id hx,zaf (by omega),zaf (by rw [hsz]; omega)]
   exact hr
 · refine zqy _ _ ?_
   rw [u8_id hx,zaf (by omega),zaf (by rw [hsz]; omega)]
   exact hr
theorem k_1007 (x:Nat) (y:Nat) (hx:x < 65536) (hy:y≤48):zhj x y=some (zer ((y+blen x:Nat):Int))∧zgq x y=some (zer ((y+blen x:Nat):Int)):=by
 have big:¬ x < 256→w64 ((y:Int)+8)=((y+8:Nat):Int)∧x / 2 ^ 8 < 256∧y+8+blen (x / 2 ^ 8)=y+blen x:=by
  intro h
  refine ⟨by rw [w64_id (by omega) (by omega)]; omega,by omega,?_⟩
  have:=zmZ x 8 (by omega)
  omega
 constructor
 · refine zrJ _ _ ?_
   by_cases h:x < 256
   · rw [zag,if_neg (by omega)]
     exact (k_1010 x y h (by omega)).2
   · obtain ⟨h1,h2,h3⟩:=big h
     rw [zag,if_pos (by omega),zaf (by omega),fd x 8 8 rfl,h1,← h3]
     exact (k_1010 _ _ h2 (by omega)).1
 · refine zqw _ _ ?_
   by_cases h:x < 256
   · rw [zag,if_neg (by omega)]
     exact (k_1010 x y h (by omega)).2
   · obtain ⟨h1,h2,h3⟩:=big h
     rw [zag,if_pos (by omega),zaf (by omega),fd x 8 8 rfl,h1,← h3]
     exact (k_1010 _ _ h2 (by omega)).1
theorem c_Len64 (x:Nat) (hx:x < 18446744073709551616):cw zjy [.v (.int .u64 (x:Int))] []=some (zer ((blen x:Nat):Int)):=by
 refine zxz _ ?_
 by_cases h32:x < 4294967296
 · rw [zag,if_neg (by omega)]
   refine zqu _ ?_
   by_cases h16:x < 65536
   · rw [zag,if_neg (by omega)]
     have:=(k_1007 x 0 h16 (by omega)).2
     rw [Nat.zero_add] at this
     exact this
   · rw [zag,if_pos (by omega),zaf (by omega),fd x 16 16 rfl,show w64 (0+16)=((16:Nat):Int) from rfl]
     have h3:=zmZ x 16 (by omega)
     have:=(k_1007 (x / 2 ^ 16) 16 (by omega) (by omega)).1
     rw [show 16+blen (x / 2 ^ 16)=blen x by omega] at this
     exact this
 · rw [zag,if_pos (by omega),zaf (by omega)]
   refine zrX _ ?_
   have h2:=zmZ x 32 (by omega)
   rw [fd x 32 32 rfl]
   by_cases h16:x / 2 ^ 32 < 65536
   · rw [zag,if_neg (by omega)]
     have:=(k_1007 (x / 2 ^ 32) 32 h16 (by omega)).2
     rw [show 32+blen (x / 2 ^ 32)=blen x by omega] at this
     exact this
   · have h3:=zmZ (x / 2 ^ 32) 16 (by omega)
     rw [zag,if_pos (by omega),zaf (by omega),fd (x / 2 ^ 32) 16 16 rfl,show w64 (32+16)=((48:Nat):Int) from rfl]
     have:=(k_1007 (x / 2 ^ 32 / 2 ^ 16) 48 (by omega) (by omega)).1
     rw [show 48+blen (x / 2 ^ 32 / 2 ^ 16)=blen x by omega] at this
     exact this
theorem zsP (x:Nat) (hx:x < 18446744073709551616):cw zhD [.v (.int .u64 (x:Int))] []=some (zhn ((64 - blen x:Nat):Int)):=by
 have hb:blen x≤64:=(zjg x 64).2 (by omega)
 refine zo1 _ ?_
 rw [c_Len64 x hx,znt,w64_id (by omega) (by omega),show (64:Int) - ((blen x:Nat):Int)=((64 - blen x:Nat):Int) by omega]
 rfl
end Go.Proofs.YtbhkcgaanaelfaaGreat
namespace Go.PureDiv
section
variable {B y1 y0 u d:Nat}
theorem q_lt (hu:u < y1*B+y0) (hd:d < B):(u*B+d) / (y1*B+y0) < B:=by
 have hy:0 < y1*B+y0:=by omega
 rw [Nat.div_lt_iff_lt_mul hy]
 have:(u+1)*B≤(y1*B+y0)*B:=Nat.mul_le_mul_right B hu
 rw [Nat.add_mul,Nat.one_mul] at this
 rw [Nat.mul_comm B]
 omega
theorem zq1 {q r:Nat} (hu:u < y1*B+y0) (hd:d < B) (hq:q*y1+r=u) (h:B≤q∨B*r+d < q*y0):(u*B+d) / (y1*B+y0) < q:=by
 rcases h with h | h
 · exact Nat.lt_of_lt_of_le (q_lt hu hd) h
 · have hy:0 < y1*B+y0:=by omega
   rw [Nat.div_lt_iff_lt_mul hy,← hq]
   have e1:q*(y1*B+y0)=q*y1*B+q*y0:=by rw [Nat.mul_add,Nat.mul_assoc]
   have e2:(q*y1+r)*B=q*y1*B+B*r:=by rw [Nat.add_mul,Nat.mul_comm r]
   rw [e1,e2]
   omega
theorem znV {q r:Nat} (hq:q*y1+r=u) (hy:0 < y1*B+y0) (h:q*y0≤B*r+d):q≤(u*B+d) / (y1*B+y0):=by
 rw [Nat.le_div_iff_mul_le hy,← hq]
 have e1:q*(y1*B+y0)=q*y1*B+q*y0:=by rw [Nat.mul_add,Nat.mul_assoc]
 have e2:(q*y1+r)*B=q*y1*B+B*r:=by rw [Nat.add_mul,Nat.mul_comm r]
 rw [e1,e2]
 omega
theorem guess_ge {q r:Nat} (h1:0 < y1) (hB:0 < B) (hd:d < B) (hq:q*y1+r=u) (hr:r < y1):(u*B+d) / (y1*B+y0)≤q:=by
 have h2:(u*B+d) / (y1*B+y0)≤(u*B+d) / (B*y1):=by
  refine Nat.div_le_div_left ?_ (Nat.mul_pos hB h1)
  rw [Nat.mul_comm]
  omega
 have h3:(u*B+d) / B=u:=by
  rw [Nat.add_comm,Nat.add_mul_div_right _ _ hB,Nat.div_eq_of_lt hd,Nat.zero_add]
 rw [← Nat.div_div_eq_div_mul,h3] at h2
 have h4:u / y1=q:=by
  rw [← hq,Nat.add_comm,Nat.add_mul_div_right _ _ h1,Nat.div_eq_of_lt hr,Nat.zero_add]
 omega
theorem at_break {q r:Nat} (hu:u < y1*B+y0) (h0:y0 < B) (hq:q*y1+r=u) (hr:B≤r):q≤(u*B+d) / (y1*B+y0):=by
 refine znV hq (by omega) ?_
 have h1:q*y1 < B*y1:=by rw [Nat.mul_comm B]; omega
 have hqB:q < B:=Nat.lt_of_mul_lt_mul_right h1
 have h2:q*y0≤B*B:=Nat.mul_le_mul (Nat.le_of_lt hqB) (Nat.le_of_lt h0)
 have h3:B*B≤B*r:=Nat.mul_le_mul_left B hr
 omega
end
theorem ztU (n1 d1 d0 y B:Nat) (hy:0 < y) :
  ((n1*B+d1)*B+d0) / y=((n1*B+d1) / y)*B+((n1*B+d1) % y*B+d0) / y∧((n1*B+d1)*B+d0) % y=((n1*B+d1) % y*B+d0) % y:=by
 have e:=Nat.div_add_mod (n1*B+d1) y
 generalize n1*B+d1=m at *
 generalize hq:m / y=q at *
 generalize hr:m % y=r at *
 have e2:m*B+d0=(q*B)*y+(r*B+d0):=by
  rw [← e,Nat.add_mul]
  have:y*q*B=q*B*y:=by rw [Nat.mul_comm y q,Nat.mul_assoc,Nat.mul_assoc,Nat.mul_comm y B]
  omega
 rw [e2]
 constructor
 · rw [Nat.add_comm (q*B*y),Nat.add_mul_div_right _ _ hy,Nat.add_comm]
 · rw [Nat.add_comm (q*B*y),Nat.add_mul_mod_self_right]
theorem shifted (n y s:Nat):(n*2 ^ s) / (y*2 ^ s)=n / y∧(n*2 ^ s) % (y*2 ^ s) / 2 ^ s=n % y:=by
 have hp:0 < 2 ^ s:=Nat.pos_of_ne_zero (by simp)
 constructor
 · exact Nat.mul_div_mul_right n y hp
 · rw [Nat.mul_mod_mul_right,Nat.mul_div_cancel _ hp]
theorem zyT (hi lo s:Nat) (hs:s≤64):(hi*2 ^ 64+lo)*2 ^ s=(hi*2 ^ s+lo / 2 ^ (64 - s))*2 ^ 64+lo*2 ^ s % 2 ^ 64:=by
 have hpp:(2:Nat) ^ 64=2 ^ (64 - s)*2 ^ s:=by rw [← Nat.pow_add,Nat.sub_add_cancel hs]
 have e1:lo*2 ^ s / 2 ^ 64=lo / 2 ^ (64 - s):=by
  rw [hpp,Nat.mul_div_mul_right _ _ (Nat.pos_of_ne_zero (by simp))]
 have e2:=Nat.div_add_mod (lo*2 ^ s) (2 ^ 64)
 rw [e1] at e2
 have e3:(hi*2 ^ 64+lo)*2 ^ s=hi*2 ^ s*2 ^ 64+lo*2 ^ s:=by
  rw [Nat.add_mul,Nat.mul_assoc,Nat.mul_comm (2 ^ 64),← Nat.mul_assoc]
 have e4:(hi*2 ^ s+lo / 2 ^ (64 - s))*2 ^ 64=hi*2 ^ s*2 ^ 64+lo / 2 ^ (64 - s)*2 ^ 64:=Nat.add_mul _ _ _
 rw [e3,e4,Nat.mul_comm (lo / 2 ^ (64 - s)),Nat.add_assoc,e2]
theorem bit_step (a i:Nat):a / 2 ^ i=2*(a / 2 ^ (i+1))+a / 2 ^ i % 2:=by
 have h:a / 2 ^ (i+1)=a / 2 ^ i / 2:=by rw [Nat.pow_succ,Nat.div_div_eq_div_mul]
 rw [h]
 omega
theorem round {m b q r t:Nat} (hb:0 < b) (hq:q=m / b) (hr:r=m % b) (ht:t < 2) :
  (b≤2*r+t→(2*m+t) / b=2*q+1∧(2*m+t) % b=2*r+t - b)∧(2*r+t < b→(2*m+t) / b=2*q∧(2*m+t) % b=2*r+t):=by
 have e:=Nat.div_add_mod m b
 have hlt:=Nat.mod_lt m hb
 subst hq
 subst hr
 generalize m / b=q at *
 generalize m % b=r at *
 constructor
 · intro h
   have e2:2*m+t=(2*r+t - b)+(2*q+1)*b:=by
    rw [← e,Nat.add_mul,Nat.mul_assoc 2 q b,Nat.mul_comm q b]
    omega
   rw [e2,Nat.add_mul_div_right _ _ hb,Nat.add_mul_mod_self_right,Nat.div_eq_of_lt (by omega),Nat.mod_eq_of_lt (by omega)]
   omega
 · intro h
   have e2:2*m+t=(2*r+t)+(2*q)*b:=by
    rw [← e,Nat.mul_assoc 2 q b,Nat.mul_comm q b]
    omega
   rw [e2,Nat.add_mul_div_right _ _ hb,Nat.add_mul_mod_self_right,Nat.div_eq_of_lt h,Nat.mod_eq_of_lt h]
   omega
end Go.PureDiv
namespace Go.Proofs.YtbhkcgaanaelfaaGreat
open Go.Ab Go.PureDiv
set_option linter.unusedSimpArgs false
set_option maxRecDepth 20000
theorem wu_mod (n:Int):wu64 n=n % 18446744073709551616:=by
 simp only [wu64,IntKind.wrap,IntKind.bits,IntKind.signed,show ((2:Int) ^ 64)=18446744073709551616 from rfl,Bool.false_and]
 simp only [Bool.false_eq_true,if_false]
theorem wuN' {n:Nat} (h:n < 18446744073709551616):wu64 (n:Int)=(n:Int):=zc9 (by omega) (by omega)
theorem mask32 (n:Nat) (hn:n < 18446744073709551616):wu64 ((((n:Int) % Int.ofNat (2 ^ 64)).toNat &&& ((4294967295:Int) % Int.ofNat (2 ^ 64)).toNat:Nat):Int)=((n % 4294967296:Nat):Int):=by
 have e1:((n:Int) % Int.ofNat (2 ^ 64)).toNat=n:=by
  show ((n:Int) % (18446744073709551616:Int)).toNat=n
  omega
 have e2:((4294967295:Int) % Int.ofNat (2 ^ 64)).toNat=2 ^ 32 - 1:=by decide
 rw [e1,e2,Nat.and_two_pow_sub_one_eq_mod]
 exact wuN' (by omega)
structure DS (hi lo y s:Nat):Prop where
 s63:s≤63
 Y1:9223372036854775808≤y*2 ^ s
 Y2:y*2 ^ s < 18446744073709551616
 hh:hi < y
 lo:lo < 18446744073709551616
section
variable {hi lo y s:Nat}
theorem eS (h:DS hi lo y s):Min.min (wu64 (s:Int)).toNat 64=s:=by
 have:=h.s63
 rw [wuN' (by omega),Int.toNat_natCast]
 omega
theorem p2 (s:Nat):((2:Int) ^ s)=((2 ^ s:Nat):Int):=by rw [Int.natCast_pow]; rfl
theorem eY (h:DS hi lo y s):wu64 ((y:Int)*2 ^ Min.min (wu64 (s:Int)).toNat 64)=((y*2 ^ s:Nat):Int):=by
 rw [eS h,p2,← Int.natCast_mul]
 exact wuN' h.Y2
theorem eN (h:DS hi lo y s):wu64 ((lo:Int)*2 ^ Min.min (wu64 (s:Int)).toNat 64)=((lo*2 ^ s % 18446744073709551616:Nat):Int):=by
 rw [eS h,p2,← Int.natCast_mul,wu_mod]
 rfl
theorem eU (h:DS hi lo y s):wu64 ((((wu64 ((hi:Int)*2 ^ Min.min (wu64 (s:Int)).toNat 64) % Int.ofNat (2 ^ 64)).toNat ||| ((lo:Int).fdiv (2 ^ Min.min (wu64 (64 - wu64 (s:Int))).toNat 64) % Int.ofNat (2 ^ 64)).toNat:Nat)):Int)=((hi*2 ^ s+lo / 2 ^ (64 - s):Nat):Int) ∧
  hi*2 ^ s+lo / 2 ^ (64 - s) < y*2 ^ s:=by
 have h63:=h.s63
 have hlo:=h.lo
 have hY:=h.Y2
 have h1:(hi+1)*2 ^ s≤y*2 ^ s:=Nat.mul_le_mul_right _ h.hh
 rw [Nat.add_mul,Nat.one_mul] at h1
 have h2:lo / 2 ^ (64 - s) < 2 ^ s:=by
  rw [Nat.div_lt_iff_lt_mul (Nat.pos_of_ne_zero (by simp)),← Nat.pow_add,show s+(64 - s)=64 by omega]
  exact hlo
 have e1:wu64 ((hi:Int)*2 ^ Min.min (wu64 (s:Int)).toNat 64)=((hi*2 ^ s:Nat):Int):=by
  rw [eS h,p2,← Int.natCast_mul]
  exact wuN' (Nat.lt_of_le_of_lt (Nat.le_trans (Nat.le_add_right _ _) h1) hY)
 have e2:Min.min (wu64 (64 - wu64 (s:Int))).toNat 64=64 - s:=by
  rw [wuN' (show s < 18446744073709551616 by omega),zc9 (by omega) (by omega)]
  omega
 have e3:(lo:Int).fdiv (2 ^ Min.min (wu64 (64 - wu64 (s:Int))).toNat 64)=((lo / 2 ^ (64 - s):Nat):Int):=by
  rw [e2,p2,Int.fdiv_eq_ediv_of_nonneg _ (Int.natCast_nonneg _)]
  rfl
 have m:∀ n:Nat,n < 18446744073709551616→((n:Int) % Int.ofNat (2 ^ 64)).toNat=n:=fun n hn=>by
  show ((n:Int) % (18446744073709551616:Int)).toNat=n
  omega
 have h3:hi*2 ^ s+lo / 2 ^ (64 - s) < y*2 ^ s:=Nat.lt_of_lt_of_le (Nat.add_lt_add_left h2 _) h1
 have h4:hi*2 ^ s < 18446744073709551616:=Nat.lt_of_le_of_lt (Nat.le_trans (Nat.le_add_right _ _) h1) hY
 have h5:lo / 2 ^ (64 - s) < 18446744073709551616:=Nat.lt_of_le_of_lt (Nat.div_le_self _ _) hlo
 refine ⟨?_,h3⟩
 rw [e1,e3,m _ h4,m _ h5,Nat.mul_comm hi,← Nat.two_pow_add_eq_or_of_lt h2,Nat.mul_comm _ hi,wuN' (Nat.lt_trans h3 hY)]
theorem rest_w {a b c R:Nat} (h:a+b=c+R) (hR:R < 18446744073709551616):wu64 (wu64 (wu64 (a:Int)+(b:Int)) - wu64 (c:Int))=(R:Int):=by
 simp only [wu_mod]
 omega
theorem digit {Y u d B:Nat} (hB:B=4294967296) (hY1:9223372036854775808≤Y) (hY2:Y < 18446744073709551616) (hu:u < Y) (hd:d < B) (F:Int→Int→Option (AV×Mem)) (G:Int→Int→Option (AV×Mem)) (y:AV×Mem)
  (hF:∀ q r:Nat,q*(Y / B)+r=u→r < B→q≤8589934592→1≤q→(
   (B≤r+Y / B→q - 1=(u*B+d) / Y→F q r=some y) ∧
   (r+Y / B < B→G q r=some y→F q r=some y)))
  (hG:∀ q r:Nat,q*(Y / B)+r=u→r < B→r+Y / B < B→q≤8589934592→1≤q→(
   ((B≤q - 1∨B*(r+Y / B)+d < (q - 1)*(Y % B))→F ((q - 1:Nat):Int) ((r+Y / B:Nat):Int)=some y→G q r=some y) ∧
   (q - 1 < B→(q - 1)*(Y % B)≤B*(r+Y / B)+d→q - 1=(u*B+d) / Y→G q r=some y))) :
  ∀ (f q r:Nat),q*(Y / B)+r=u→r < B→(u*B+d) / Y < q→q≤(u*B+d) / Y+f→F q r=some y:=by
 have hYe:Y / B*B+Y % B=Y:=by rw [Nat.mul_comm]; exact Nat.div_add_mod Y B
 have hy0:Y % B < B:=Nat.mod_lt _ (by omega)
 have hyp:0 < Y / B*B+Y % B:=by omega
 have hu':u < Y / B*B+Y % B:=by omega
 have hy1:2147483648≤Y / B:=by subst hB; omega
 have hqb:∀ q r:Nat,q*(Y / B)+r=u→q≤8589934592:=by
  intro q r h
  have h1:q*2147483648≤q*(Y / B):=Nat.mul_le_mul_left q hy1
  omega
 intro f
 induction f with
 | zero=>intro q r _ _ h1 h2; omega
 | succ f ih =>
   intro q r hq hr hQ hf
   have hq1:1≤q:=Nat.succ_le_of_lt (Nat.lt_of_le_of_lt (Nat.zero_le _) hQ)
   have hnext:(q - 1)*(Y / B)+(r+Y / B)=u:=by
    have:q*(Y / B)=(q - 1)*(Y / B)+Y / B:=by
     rw [← Nat.succ_mul]
     congr 1
     omega
    omega
   obtain ⟨a,b⟩:=hF q r hq hr (hqb q r hq) hq1
   by_cases hbr:B≤r+Y / B
   · refine a hbr ?_
     have:=at_break (d:=d) hu' hy0 hnext hbr
     rw [hYe] at this
     omega
   · refine b (by omega) ?_
     obtain ⟨c,e⟩:=hG q r hq hr (by omega) (hqb q r hq) hq1
     by_cases ht:B≤q - 1∨B*(r+Y / B)+d < (q - 1)*(Y % B)
     · refine c ht (ih (q - 1) (r+Y / B) hnext (by omega) ?_ (by omega))
       have:=zq1 hu' hd hnext ht
       rw [hYe] at this
       exact this
     · have ht1:q - 1 < B:=by omega
       have ht2:(q - 1)*(Y % B)≤B*(r+Y / B)+d:=by
        rcases Nat.lt_or_ge (B*(r+Y / B)+d) ((q - 1)*(Y % B)) with w | w
        · exact absurd (Or.inr w) ht
        · exact w
       have:=znV (d:=d) hnext hyp ht2
       rw [hYe] at this
       exact e ht1 ht2 (by omega)
theorem fdS (h:DS hi lo y s) (R:Nat):(R:Int).fdiv (2 ^ Min.min (wu64 (s:Int)).toNat 64)=((R / 2 ^ s:Nat):Int):=by
 rw [eS h,p2,Int.fdiv_eq_ediv_of_nonneg _ (Int.natCast_nonneg _)]
 rfl
theorem mul_w (a b:Nat):(a:Int)*(b:Int)=((a*b:Nat):Int):=(Int.natCast_mul a b).symm
theorem fin2 (h:DS hi lo y s) (q1 v q n:Nat) (hq1:q1 < 4294967296) (hqB:q < 4294967296)
  (hq:q=(v*4294967296+n % 4294967296) / (y*2 ^ s)) :
  (chk ((0:Int)≤wu64 (s:Int)) <| (some (AV.tup [.v (.int .u64 (wu64 (wu64 ((q1:Int)*4294967296)+(q:Int)))),.v (.int .u64 ((wu64 (wu64 (wu64 ((v:Int)*4294967296)+((n % 4294967296:Nat):Int)) - wu64 ((q:Int)*((y*2 ^ s:Nat):Int)))).fdiv (2 ^ Min.min (wu64 (s:Int)).toNat 64)))],[]):Option (AV×Mem))) =
   some (zdt (((q1*4294967296+(v*4294967296+n % 4294967296) / (y*2 ^ s):Nat):Int),(((v*4294967296+n % 4294967296) % (y*2 ^ s) / 2 ^ s:Nat):Int))):=by
 have h63:=h.s63
 have hY2:=h.Y2
 have e:=Nat.div_add_mod (v*4294967296+n % 4294967296) (y*2 ^ s)
 have hR:(v*4294967296+n % 4294967296) % (y*2 ^ s) < y*2 ^ s:=Nat.mod_lt _ (by have:=h.Y1; omega)
 rw [← hq] at e ⊢
 rw [Nat.mul_comm] at e
 generalize (v*4294967296+n % 4294967296) % (y*2 ^ s)=R at *
 have c1:(q1:Int)*4294967296=((q1*4294967296:Nat):Int):=mul_w _ _
 have c2:(v:Int)*4294967296=((v*4294967296:Nat):Int):=mul_w _ _
 have hr:=rest_w (a:=v*4294967296) (b:=n % 4294967296) (c:=q*(y*2 ^ s)) (R:=R) e.symm (Nat.lt_trans hR hY2)
 rw [zaf (by rw [wuN' (by omega)]; omega),c1,c2,mul_w q,hr,fdS h,wuN' (show q1*4294967296 < 18446744073709551616 by omega),← Int.natCast_add,wuN' (by omega)]
 rfl
theorem fd32 (a:Nat):(a:Int).fdiv (2 ^ Min.min (Int.toNat 32) 64)=((a / 4294967296:Nat):Int):=fd a 32 32 rfl
theorem pred_w {q:Nat} (h:1≤q) (h2:q≤8589934592):wu64 ((q:Int) - 1)=((q - 1:Nat):Int):=by rw [zc9 (by omega) (by omega)]; omega
theorem sum_w {a b:Nat} (h:a+b < 18446744073709551616):wu64 ((a:Int)+(b:Int))=((a+b:Nat):Int):=by rw [← Int.natCast_add,wuN' h]
theorem B_w {r:Nat} (h:r < 4294967296):wu64 ((4294967296:Int)*(r:Int))=((4294967296*r:Nat):Int):=by
 rw [show (4294967296:Int)*(r:Int)=((4294967296*r:Nat):Int) from mul_w 4294967296 r,wuN' (by omega)]
theorem q_w {q z:Nat} (h:q < 4294967296) (h2:z < 4294967296):wu64 ((q:Int)*(z:Int))=((q*z:Nat):Int):=by
 have:q*z≤4294967295*4294967295:=Nat.mul_le_mul (by omega) (by omega)
 rw [mul_w,wuN' (by omega)]
theorem y1_lt (h:DS hi lo y s):y*2 ^ s / 4294967296 < 4294967296:=by have:=h.Y2; omega
theorem dig2 (h:DS hi lo y s) (q1 v n:Nat) (hn:n=lo*2 ^ s % 18446744073709551616) (hq1:q1 < 4294967296) (hv:v < y*2 ^ s) :
  zd6 lo y s q1 ((v % (y*2 ^ s / 4294967296):Nat):Int) v ((v / (y*2 ^ s / 4294967296):Nat):Int) =
   some (zdt (((q1*4294967296+(v*4294967296+n % 4294967296) / (y*2 ^ s):Nat):Int),(((v*4294967296+n % 4294967296) % (y*2 ^ s) / 2 ^ s:Nat):Int))):=by
 have hY1:=h.Y1
 have hY2:=h.Y2
 have h63:=h.s63
 have hyl:=y1_lt h
 have hnl:n < 18446744073709551616:=by rw [hn]; exact Nat.mod_lt _ (by omega)
 have hQB:(v*4294967296+n % 4294967296) / (y*2 ^ s) < 4294967296:=by
  have e:=Nat.div_add_mod (y*2 ^ s) 4294967296
  rw [Nat.mul_comm] at e
  have:=q_lt (B:=4294967296) (y1:=y*2 ^ s / 4294967296) (y0:=y*2 ^ s % 4294967296) (u:=v) (d:=n % 4294967296) (by omega) (by omega)
  rw [e] at this
  exact this
 have eN':=eN h
 rw [← hn] at eN'
 have nn:∀ a b:Nat,(4294967296:Int)*(a:Int)=((4294967296*a:Nat):Int):=fun a b=>mul_w 4294967296 a
 have search:=digit (Y:=y*2 ^ s) (u:=v) (d:=n % 4294967296) (B:=4294967296) rfl hY1 hY2 hv (by omega) (fun q r=>zdU lo y s q1 v r q) (fun q r=>zjj lo y s q1 v r q)
  (zdt (((q1*4294967296+(v*4294967296+n % 4294967296) / (y*2 ^ s):Nat):Int),(((v*4294967296+n % 4294967296) % (y*2 ^ s) / 2 ^ s:Nat):Int))) ?_ ?_
 · refine zsF _ _ _ _ _ _ _ ?_
   have hdm:=Nat.div_add_mod v (y*2 ^ s / 4294967296)
   rw [Nat.mul_comm] at hdm
   have hrl:v % (y*2 ^ s / 4294967296) < y*2 ^ s / 4294967296:=Nat.mod_lt _ (by omega)
   generalize v / (y*2 ^ s / 4294967296)=q at hdm ⊢
   generalize v % (y*2 ^ s / 4294967296)=r at hdm hrl ⊢
   have go:=search q q r hdm (by omega)
   have hYe:y*2 ^ s / 4294967296*4294967296+y*2 ^ s % 4294967296=y*2 ^ s:=by have:=Nat.div_add_mod (y*2 ^ s) 4294967296; rw [Nat.mul_comm] at this; exact this
   rw [eY h,eN',mask32 _ hY2,mask32 _ hnl]
   by_cases hb:4294967296≤q
   · rw [zag,if_pos (by omega)]
     exact go (Nat.lt_of_lt_of_le hQB hb) (Nat.le_add_left _ _)
   · rw [zag,if_neg (by omega),nn r 0,wuN' (show 4294967296*r < 18446744073709551616 by omega),← Int.natCast_add,wuN' (by omega),mul_w]
     have hq0:q*(y*2 ^ s % 4294967296) < 18446744073709551616:=by
      have:q*(y*2 ^ s % 4294967296)≤4294967295*4294967295:=Nat.mul_le_mul (by omega) (by omega)
      omega
     rw [wuN' hq0]
     by_cases ht:4294967296*r+n % 4294967296 < q*(y*2 ^ s % 4294967296)
     · rw [zag,if_pos (by omega)]
       have:=zq1 (B:=4294967296) (y1:=y*2 ^ s / 4294967296) (y0:=y*2 ^ s % 4294967296) (u:=v) (d:=n % 4294967296) (by omega) (by omega) hdm (.inr ht)
       rw [hYe] at this
       exact go this (Nat.le_add_left _ _)
     · have h1:=znV (B:=4294967296) (y1:=y*2 ^ s / 4294967296) (y0:=y*2 ^ s % 4294967296) (u:=v) (d:=n % 4294967296) hdm (by omega) (by omega)
       rw [hYe] at h1
       have h2:(v*4294967296+n % 4294967296) / (y*2 ^ s)≤q:=by
        have:=guess_ge (B:=4294967296) (y1:=y*2 ^ s / 4294967296) (y0:=y*2 ^ s % 4294967296) (u:=v) (d:=n % 4294967296) (by omega) (by omega) (by omega) hdm hrl
        rw [hYe] at this
        exact this
       rw [zag,if_neg (by omega)]
       exact fin2 h q1 v q n hq1 (by omega) (Nat.le_antisymm h1 h2)
 · intro q r hq hr hqb hq1'
   constructor
   · intro hbr hQ
     refine zlD _ _ _ _ _ _ _ ?_
     rw [eY h,eN',mask32 _ hnl,fd32,sum_w (by omega),zag,if_pos (by omega),pred_w hq1' hqb]
     exact fin2 h q1 v (q - 1) n hq1 (by omega) hQ
   · intro hbr hG
     refine zlD _ _ _ _ _ _ _ ?_
     rw [eY h,eN',mask32 _ hnl,fd32,sum_w (by omega),zag,if_neg (by omega)]
     exact hG
 · intro q r hq hr hrl hqb hq1'
   constructor
   · intro ht hF
     refine zmg _ _ _ _ _ _ _ ?_
     rw [eY h,eN',mask32 _ hnl,mask32 _ hY2,fd32,sum_w (by omega),pred_w hq1' hqb,zag]
     by_cases hb:4294967296≤q - 1
     · rw [if_pos (by omega)]
       exact hF
     · have ht':=ht.resolve_left hb
       rw [if_neg (by omega),B_w (by omega),sum_w (by omega),q_w (by omega) (by omega),zag,if_pos (by omega)]
       exact hF
   · intro hb ht hQ
     refine zmg _ _ _ _ _ _ _ ?_
     rw [eY h,eN',mask32 _ hnl,mask32 _ hY2,fd32,sum_w (by omega),pred_w hq1' hqb,zag,if_neg (by omega),B_w (by omega),sum_w (by omega),q_w (by omega) (by omega),zag,if_neg (by omega)]
     exact fin2 h q1 v (q - 1) n hq1 (by omega) hQ
theorem tdiv_n (a b:Nat):(a:Int).tdiv (b:Int)=((a / b:Nat):Int):=rfl
theorem sub_w {a b:Nat} (h:b≤a) (h2:a < 18446744073709551616):wu64 ((a:Int) - (b:Int))=((a - b:Nat):Int):=by rw [zc9 (by omega) (by omega)]; omega
theorem split_w {v z:Nat} (hz:0 < z) (hv:v < 18446744073709551616):wu64 ((v:Int).tdiv (z:Int))=((v / z:Nat):Int)∧wu64 ((v:Int) - wu64 (((v / z:Nat):Int)*(z:Int)))=((v % z:Nat):Int):=by
 have e:=Nat.div_add_mod v z
 rw [Nat.mul_comm] at e
 have l:v / z≤v:=Nat.div_le_self _ _
 have hm:v / z*z≤v:=by rw [← Nat.le_div_iff_mul_le hz]; exact Nat.le_refl _
 refine ⟨by rw [tdiv_n,wuN' (by omega)],?_⟩
 rw [mul_w,wuN' (by omega),sub_w hm hv]
 congr 1
 omega
def ans (u n y s:Nat):Int×Int:=
 ((((u*4294967296+n / 4294967296) / (y*2 ^ s)*4294967296+((u*4294967296+n / 4294967296) % (y*2 ^ s)*4294967296+n % 4294967296) / (y*2 ^ s):Nat):Int),
  ((((u*4294967296+n / 4294967296) % (y*2 ^ s)*4294967296+n % 4294967296) % (y*2 ^ s) / 2 ^ s:Nat):Int))
theorem tail0 (h:DS hi lo y s) (u n q v:Nat) (hn:n=lo*2 ^ s % 18446744073709551616) (hqB:q < 4294967296) (e:q*(y*2 ^ s)+v=u*4294967296+n / 4294967296) (hR:v < y*2 ^ s) :
  (chk ((((y*2 ^ s / 4294967296:Nat):Int))≠0) <| zd6 lo y s (q:Int)
   (wu64 (wu64 (wu64 (wu64 ((u:Int)*4294967296)+((n / 4294967296:Nat):Int)) - wu64 ((q:Int)*((y*2 ^ s:Nat):Int))) - wu64 (wu64 ((wu64 (wu64 (wu64 ((u:Int)*4294967296)+((n / 4294967296:Nat):Int)) - wu64 ((q:Int)*((y*2 ^ s:Nat):Int)))).tdiv ((y*2 ^ s / 4294967296:Nat):Int))*((y*2 ^ s / 4294967296:Nat):Int))))
   (wu64 (wu64 (wu64 ((u:Int)*4294967296)+((n / 4294967296:Nat):Int)) - wu64 ((q:Int)*((y*2 ^ s:Nat):Int))))
   (wu64 ((wu64 (wu64 (wu64 ((u:Int)*4294967296)+((n / 4294967296:Nat):Int)) - wu64 ((q:Int)*((y*2 ^ s:Nat):Int)))).tdiv ((y*2 ^ s / 4294967296:Nat):Int))))=some (zdt (((q*4294967296+(v*4294967296+n % 4294967296) / (y*2 ^ s):Nat):Int),(((v*4294967296+n % 4294967296) % (y*2 ^ s) / 2 ^ s:Nat):Int))):=by
 have hY1:=h.Y1
 have hY2:=h.Y2
 have hr:=rest_w (a:=u*4294967296) (b:=n / 4294967296) (c:=q*(y*2 ^ s)) (R:=v) e.symm (Nat.lt_trans hR hY2)
 have c1:(u:Int)*4294967296=((u*4294967296:Nat):Int):=mul_w _ _
 obtain ⟨s1,s2⟩:=split_w (v:=v) (z:=y*2 ^ s / 4294967296) (by omega) (by omega)
 rw [c1,mul_w q,hr,s1,s2,zaf (by omega)]
 exact dig2 h q v n hn hqB hR
theorem tail1 (h:DS hi lo y s) (u n q:Nat) (hn:n=lo*2 ^ s % 18446744073709551616) (hqB:q < 4294967296) (hq:q=(u*4294967296+n / 4294967296) / (y*2 ^ s)) :
  (chk ((((y*2 ^ s / 4294967296:Nat):Int))≠0) <| zd6 lo y s (q:Int)
   (wu64 (wu64 (wu64 (wu64 ((u:Int)*4294967296)+((n / 4294967296:Nat):Int)) - wu64 ((q:Int)*((y*2 ^ s:Nat):Int))) - wu64 (wu64 ((wu64 (wu64 (wu64 ((u:Int)*4294967296)+((n / 4294967296:Nat):Int)) - wu64 ((q:Int)*((y*2 ^ s:Nat):Int)))).tdiv ((y*2 ^ s / 4294967296:Nat):Int))*((y*2 ^ s / 4294967296:Nat):Int))))
   (wu64 (wu64 (wu64 ((u:Int)*4294967296)+((n / 4294967296:Nat):Int)) - wu64 ((q:Int)*((y*2 ^ s:Nat):Int))))
   (wu64 ((wu64 (wu64 (wu64 ((u:Int)*4294967296)+((n / 4294967296:Nat):Int)) - wu64 ((q:Int)*((y*2 ^ s:Nat):Int)))).tdiv ((y*2 ^ s / 4294967296:Nat):Int))))=some (zdt (ans u n y s)):=by
 have hY1:=h.Y1
 have e:=Nat.div_add_mod (u*4294967296+n / 4294967296) (y*2 ^ s)
 rw [Nat.mul_comm,← hq] at e
 have:=tail0 h u n q _ hn hqB e (Nat.mod_lt _ (by omega))
 unfold ans
 rw [← hq]
 exact this
theorem dig1 (h:DS hi lo y s) (u n:Nat) (hu:u=hi*2 ^ s+lo / 2 ^ (64 - s)) (hn:n=lo*2 ^ s % 18446744073709551616):zkI hi lo y s=some (zdt (ans u n y s)):=by
 have hY1:=h.Y1
 have hY2:=h.Y2
 have h63:=h.s63
 have hyl:=y1_lt h
 have hnl:n < 18446744073709551616:=by rw [hn]; exact Nat.mod_lt _ (by omega)
 obtain ⟨eU',hu'⟩:=eU h
 rw [← hu] at eU' hu'
 have hYe:y*2 ^ s / 4294967296*4294967296+y*2 ^ s % 4294967296=y*2 ^ s:=by have:=Nat.div_add_mod (y*2 ^ s) 4294967296; rw [Nat.mul_comm] at this; exact this
 have hQB:(u*4294967296+n / 4294967296) / (y*2 ^ s) < 4294967296:=by
  have:=q_lt (B:=4294967296) (y1:=y*2 ^ s / 4294967296) (y0:=y*2 ^ s % 4294967296) (u:=u) (d:=n / 4294967296) (by omega) (by omega)
  rw [hYe] at this
  exact this
 have eN':=eN h
 rw [← hn] at eN'
 have search:=digit (Y:=y*2 ^ s) (u:=u) (d:=n / 4294967296) (B:=4294967296) rfl hY1 hY2 hu' (by omega) (fun q r=>zdT hi lo y s q r) (fun q r=>zjt hi lo y s q r)
  (zdt (ans u n y s)) ?_ ?_
 · refine zs8 _ _ _ _ ?_
   obtain ⟨s1,s2⟩:=split_w (v:=u) (z:=y*2 ^ s / 4294967296) (by omega) (by omega)
   rw [eY h,eN',eU',fd32,fd32,s1,s2,mask32 _ hY2]
   have hdm:=Nat.div_add_mod u (y*2 ^ s / 4294967296)
   rw [Nat.mul_comm] at hdm
   have hrl:u % (y*2 ^ s / 4294967296) < y*2 ^ s / 4294967296:=Nat.mod_lt _ (by omega)
   generalize u / (y*2 ^ s / 4294967296)=q at hdm ⊢
   generalize u % (y*2 ^ s / 4294967296)=r at hdm hrl ⊢
   have go:=search q q r hdm (by omega)
   by_cases hb:4294967296≤q
   · rw [zag,if_pos (by omega)]
     exact go (Nat.lt_of_lt_of_le hQB hb) (Nat.le_add_left _ _)
   · rw [zag,if_neg (by omega),B_w (by omega),sum_w (by omega),q_w (by omega) (by omega)]
     by_cases ht:4294967296*r+n / 4294967296 < q*(y*2 ^ s % 4294967296)
     · rw [zag,if_pos (by omega)]
       have:=zq1 (B:=4294967296) (y1:=y*2 ^ s / 4294967296) (y0:=y*2 ^ s % 4294967296) (u:=u) (d:=n / 4294967296) (by omega) (by omega) hdm (.inr ht)
       rw [hYe] at this
       exact go this (Nat.le_add_left _ _)
     · have h1:=znV (B:=4294967296) (y1:=y*2 ^ s / 4294967296) (y0:=y*2 ^ s % 4294967296) (u:=u) (d:=n / 4294967296) hdm (by omega) (by omega)
       have h2:=guess_ge (B:=4294967296) (y1:=y*2 ^ s / 4294967296) (y0:=y*2 ^ s % 4294967296) (u:=u) (d:=n / 4294967296) (by omega) (by omega) (by omega) hdm hrl
       rw [hYe] at h1 h2
       rw [zag,if_neg (by omega)]
       exact tail1 h u n q hn (by omega) (Nat.le_antisymm h1 h2)
 · intro q r hq hr hqb hq1'
   constructor
   · intro hbr hQ
     refine zlH _ _ _ _ _ _ ?_
     rw [eY h,eN',eU',fd32,fd32,sum_w (by omega),zag,if_pos (by omega),pred_w hq1' hqb]
     exact tail1 h u n (q - 1) hn (by omega) hQ
   · intro hbr hG
     refine zlH _ _ _ _ _ _ ?_
     rw [eY h,eN',eU',fd32,fd32,sum_w (by omega),zag,if_neg (by omega)]
     exact hG
 · intro q r hq hr hrl hqb hq1'
   constructor
   · intro ht hF
     refine zl9 _ _ _ _ _ _ ?_
     rw [eY h,eN',eU',mask32 _ hY2,fd32,fd32,sum_w (by omega),pred_w hq1' hqb,zag]
     by_cases hb:4294967296≤q - 1
     · rw [if_pos (by omega)]
       exact hF
     · have ht':=ht.resolve_left hb
       rw [if_neg (by omega),B_w (by omega),sum_w (by omega),q_w (by omega) (by omega),zag,if_pos (by omega)]
       exact hF
   · intro hb ht hQ
     refine zl9 _ _ _ _ _ _ ?_
     rw [eY h,eN',eU',mask32 _ hY2,fd32,fd32,sum_w (by omega),pred_w hq1' hqb,zag,if_neg (by omega),B_w (by omega),sum_w (by omega),q_w (by omega) (by omega),zag,if_neg (by omega)]
     exact tail1 h u n (q - 1) hn (by omega) hQ
theorem ans_eq (hy:0 < y*2 ^ s) (hs:s≤64):ans (hi*2 ^ s+lo / 2 ^ (64 - s)) (lo*2 ^ s % 18446744073709551616) y s=((((hi*18446744073709551616+lo) / y:Nat):Int),(((hi*18446744073709551616+lo) % y:Nat):Int)):=by
 have e1:=zyT hi lo s hs
 obtain ⟨e2,e3⟩:=shifted (hi*2 ^ 64+lo) y s
 rw [show (2:Nat) ^ 64=18446744073709551616 from rfl] at e1 e2 e3
 have key:∀ (u n:Nat),(hi*18446744073709551616+lo)*2 ^ s=u*18446744073709551616+n→ans u n y s=((((hi*18446744073709551616+lo) / y:Nat):Int),(((hi*18446744073709551616+lo) % y:Nat):Int)):=by
  intro u n e
  obtain ⟨t1,t2⟩:=ztU u (n / 4294967296) (n % 4294967296) (y*2 ^ s) 4294967296 hy
  have e4:(u*4294967296+n / 4294967296)*4294967296+n % 4294967296=(hi*18446744073709551616+lo)*2 ^ s:=by rw [e]; omega
  rw [e4,e2] at t1
  rw [e4] at t2
  unfold ans
  rw [← t1,← t2,e3]
 exact key _ _ e1
theorem shift_of {y:Nat} (h0:y≠0) (hy:y < 18446744073709551616):9223372036854775808≤y*2 ^ (64 - blen y)∧y*2 ^ (64 - blen y) < 18446744073709551616∧64 - blen y≤63:=by
 obtain ⟨h1,h2⟩:=blen_spec h0
 have hb:blen y≤64:=(zjg y 64).2 (by omega)
 have hb1:1≤blen y:=by unfold blen; rw [if_neg h0]; omega
 have e1:2 ^ (blen y - 1)*2 ^ (64 - blen y)=9223372036854775808:=by rw [← Nat.pow_add,show blen y - 1+(64 - blen y)=63 by omega]
 have e2:2 ^ blen y*2 ^ (64 - blen y)=18446744073709551616:=by rw [← Nat.pow_add,show blen y+(64 - blen y)=64 by omega]
 refine ⟨?_,?_,by omega⟩
 · rw [← e1]; exact Nat.mul_le_mul_right _ h1
 · rw [← e2]; exact Nat.mul_lt_mul_of_pos_right h2 (Nat.pos_of_ne_zero (by simp))
theorem c_Div64 (hi lo y:Nat) (h1:hi < y) (hy:y < 18446744073709551616) (hlo:lo < 18446744073709551616) :
  cw zjx [.v (.int .u64 (hi:Int)),.v (.int .u64 (lo:Int)),.v (.int .u64 (y:Int))] []=some (zdt ((((hi*18446744073709551616+lo) / y:Nat):Int),(((hi*18446744073709551616+lo) % y:Nat):Int))):=by
 have hb1:((y:Int) == 0)=false:=beq_false_of_ne (by omega)
 refine zum _ _ _ ?_
 rw [hb1,zax,zag,if_neg (by omega)]
 by_cases h0:hi=0
 · subst h0
   have l:lo / y≤lo:=Nat.div_le_self _ _
   have hb:((((0:Nat):Int)) == 0)=true:=rfl
   rw [hb,zaC,zaf (by omega),zaf (by omega),tdiv_n,wuN' (by omega),Nat.zero_mul,Nat.zero_add]
   rfl
 · have hb:((hi:Int) == 0)=false:=beq_false_of_ne (by omega)
   obtain ⟨d1,d2,d3⟩:=shift_of (y:=y) (by omega) hy
   have hD:DS hi lo y (64 - blen y):=⟨d3,d1,d2,h1,hlo⟩
   rw [hb,zax,zsP y hy,zmX]
   have w1:wu64 ((64 - blen y:Nat):Int)=((64 - blen y:Nat):Int):=wuN' (by omega)
   have c1:(0:Int)≤wu64 ((64 - blen y:Nat):Int):=by rw [w1]; omega
   have c2:(0:Int)≤wu64 (64 - wu64 ((64 - blen y:Nat):Int)):=by rw [w1,zc9 (by omega) (by omega)]; omega
   rw [zaf c1,zaf (by omega),zaf c1,zaf c2,zaf c1,zaf (by omega),eY hD,fd32,zaf (by omega),dig1 hD _ _ rfl rfl,ans_eq (by omega) (by omega)]
theorem c_Rem64 (hi lo y:Nat) (h0:0 < y) (hy:y < 18446744073709551616) (hlo:lo < 18446744073709551616) :
  cw zlq [.v (.int .u64 (hi:Int)),.v (.int .u64 (lo:Int)),.v (.int .u64 (y:Int))] []=some (zly (((hi*18446744073709551616+lo) % y:Nat):Int)):=by
 refine zxk _ _ _ ?_
 have e:(hi:Int).tmod (y:Int)=((hi % y:Nat):Int):=rfl
 have e2:(hi % y*18446744073709551616+lo) % y=(hi*18446744073709551616+lo) % y:=by
  have:=Nat.div_add_mod hi y
  have e3:hi*18446744073709551616+lo=(hi % y*18446744073709551616+lo)+(hi / y*18446744073709551616)*y:=by
   have e4:hi*18446744073709551616=(y*(hi / y)+hi % y)*18446744073709551616:=by rw [this]
   rw [e4,Nat.add_mul,Nat.mul_comm y,Nat.mul_right_comm]
   omega
  rw [e3,Nat.add_mul_mod_self_right]
 rw [zaf (by omega),e,c_Div64 (hi % y) lo y (Nat.mod_lt _ h0) hy hlo,znz,e2]
 rfl
end
end Go.Proofs.YtbhkcgaanaelfaaGreat
namespace Go.Proofs.YtbhkcgaanaelfaaGreat
open Go.Ab Go.PureDiv
set_option linter.unusedSimpArgs false
set_option maxRecDepth 20000
def wd (n:Nat):Gref01Wide:=⟨((n / 18446744073709551616:Nat):Int),((n % 18446744073709551616:Nat):Int)⟩
theorem u64_id {n:Nat} (h:n < 18446744073709551616):((n:Int) % Int.ofNat (2 ^ 64)).toNat=n:=by
 show ((n:Int) % (18446744073709551616:Int)).toNat=n
 omega
theorem c_Twice (n:Nat) (hn:n < 340282366920938463463374607431768211456):cw zeM [.agg (zah (wd n))] []=some (zkD (wd (2*n % 340282366920938463463374607431768211456))):=by
 refine zwr _ ?_
 rw [zaf (by omega),zaf (by omega),zaf (by omega)]
 show some (zkD _)=_
 congr 2
 unfold wd
 have e0:(2:Int) ^ Min.min (Int.toNat 1) 64=2:=rfl
 have h1:n / 18446744073709551616 < 18446744073709551616:=by omega
 have h2:n % 18446744073709551616 < 18446744073709551616:=by omega
 have h3:2*n / 18446744073709551616=2*(n / 18446744073709551616)+n % 18446744073709551616 / 9223372036854775808:=by omega
 simp only [e0]
 rw [fd _ 63 63 rfl,wu_mod (((n / 18446744073709551616:Nat):Int)*2),wu_mod (((n % 18446744073709551616:Nat):Int)*2)]
 have a1:((n / 18446744073709551616:Nat):Int)*2 % 18446744073709551616=((n / 18446744073709551616*2 % 18446744073709551616:Nat):Int):=rfl
 have a2:((n % 18446744073709551616:Nat):Int)*2 % 18446744073709551616=((n % 18446744073709551616*2 % 18446744073709551616:Nat):Int):=rfl
 rw [a1,a2,u64_id (by omega),u64_id (by omega)]
 have hb:n % 18446744073709551616 / 2 ^ 63 < 2 ^ 1:=by
  have:(2:Nat) ^ 63=9223372036854775808:=rfl
  omega
 have hm:n / 18446744073709551616*2 % 18446744073709551616=2 ^ 1*(n / 18446744073709551616 % 9223372036854775808):=by omega
 rw [hm,← Nat.two_pow_add_eq_or_of_lt hb]
 have e63:(2:Nat) ^ 63=9223372036854775808:=rfl
 rw [wuN' (by omega)]
 congr 1 <;> omega
theorem c_Minus (a b:Nat) (ha:a < 340282366920938463463374607431768211456) (hb:b < 340282366920938463463374607431768211456) :
  cw zif [.agg (zah (wd a)),.agg (zah (wd b))] []=some (zh8 (wd ((a+340282366920938463463374607431768211456 - b) % 340282366920938463463374607431768211456))):=by
 refine zvA _ _ ?_
 have t0:Int.toNat 0=0:=rfl
 have t1:Int.toNat 1=1:=rfl
 have p64:(2:Nat) ^ 64=18446744073709551616:=rfl
 simp only [wd,Int.toNat_natCast,t0,t1,p64]
 by_cases h:a % 18446744073709551616 < b % 18446744073709551616+0
 · rw [if_pos h]
   have c0:((Int.ofNat 1) == 0)=false:=rfl
   have c1:((Int.ofNat 1) == 1)=true:=rfl
   rw [c0,c1,zax,zaC]
   show some (zh8 _)=_
   congr 2
   have e1:(a / 18446744073709551616+18446744073709551616 - b / 18446744073709551616 - 1) % 18446744073709551616=(a+340282366920938463463374607431768211456 - b) % 340282366920938463463374607431768211456 / 18446744073709551616:=by omega
   have e2:(a % 18446744073709551616+18446744073709551616 - b % 18446744073709551616 - 0) % 18446744073709551616=(a+340282366920938463463374607431768211456 - b) % 340282366920938463463374607431768211456 % 18446744073709551616:=by omega
   rw [e1,e2]
   rfl
 · rw [if_neg h]
   have c0:((Int.ofNat 0) == 0)=true:=rfl
   rw [c0,zaC]
   show some (zh8 _)=_
   congr 2
   have e1:(a / 18446744073709551616+18446744073709551616 - b / 18446744073709551616 - 0) % 18446744073709551616=(a+340282366920938463463374607431768211456 - b) % 340282366920938463463374607431768211456 / 18446744073709551616:=by omega
   have e2:(a % 18446744073709551616+18446744073709551616 - b % 18446744073709551616 - 0) % 18446744073709551616=(a+340282366920938463463374607431768211456 - b) % 340282366920938463463374607431768211456 % 18446744073709551616:=by omega
   rw [e1,e2]
   rfl
def ord3 (a b:Nat):Int:=if a < b then -1 else if a=b then 0 else 1
theorem c_Order (a b:Nat):cw zgB [.agg (zah (wd a)),.agg (zah (wd b))] []=some (zmu (ord3 a b)):=by
 refine zvC _ _ ?_
 have lH:(wd a).Hi < (wd b).Hi↔a / 18446744073709551616 < b / 18446744073709551616:=Int.ofNat_lt
 have lL:(wd a).Lo < (wd b).Lo↔a % 18446744073709551616 < b % 18446744073709551616:=Int.ofNat_lt
 have hh:∀ x y:Nat,(((x:Int)) == (y:Int))=decide (x=y):=by
  intro x y
  by_cases h:x=y
  · subst h; simp
  · rw [beq_false_of_ne (by omega)]; simp [h]
 have bH:((wd a).Hi == (wd b).Hi)=decide (a / 18446744073709551616=b / 18446744073709551616):=hh _ _
 have bL:((wd a).Lo == (wd b).Lo)=decide (a % 18446744073709551616=b % 18446744073709551616):=hh _ _
 rw [bH,bL,Bool.and_true]
 unfold ord3
 rw [zag]
 rcases Nat.lt_trichotomy (a / 18446744073709551616) (b / 18446744073709551616) with h | h | h
 · rw [if_pos (lH.2 h),if_pos (by omega)]
   rfl
 · rw [if_neg (fun c=>by have:=lH.1 c; omega),decide_eq_true h,zaC,Bool.true_and,zag]
   rcases Nat.lt_trichotomy (a % 18446744073709551616) (b % 18446744073709551616) with g | g | g
   · rw [if_pos (lL.2 g),if_pos (by omega)]
     rfl
   · rw [if_neg (fun c=>by have:=lL.1 c; omega),decide_eq_true g,zaC,if_neg (by omega),if_pos (by omega)]
     rfl
   · rw [if_neg (fun c=>by have:=lL.1 c; omega),decide_eq_false (by omega:¬ a % 18446744073709551616=b % 18446744073709551616),zax,if_neg (by omega),if_neg (by omega)]
     rfl
 · rw [if_neg (fun c=>by have:=lH.1 c; omega),decide_eq_false (by omega:¬ a / 18446744073709551616=b / 18446744073709551616),zax,Bool.false_and,zax,if_neg (by omega),if_neg (by omega)]
   rfl
theorem or_bit (n t:Nat) (h2:n % 2=0) (ht:t < 2):(⟨(wd n).Hi,wu64 ((((wd n).Lo % Int.ofNat (2 ^ 64)).toNat ||| ((t:Int) % Int.ofNat (2 ^ 64)).toNat:Nat):Int)⟩:Gref01Wide)=wd (n+t):=by
 unfold wd
 simp only
 rw [u64_id (by omega),u64_id (by omega)]
 have hm:n % 18446744073709551616=2 ^ 1*(n % 18446744073709551616 / 2):=by omega
 rw [hm,← Nat.two_pow_add_eq_or_of_lt (by omega:t < 2 ^ 1),wuN' (by omega)]
 congr 1 <;> omega
theorem bit_and (X:Nat) (hX:X < 18446744073709551616) (e:Int) (k:Nat) (hk:Min.min e.toNat 64=k):wu64 (((((X:Int).fdiv (2 ^ Min.min e.toNat 64)) % Int.ofNat (2 ^ 64)).toNat &&& ((1:Int) % Int.ofNat (2 ^ 64)).toNat:Nat):Int)=((X / 2 ^ k % 2:Nat):Int):=by
 rw [fd _ _ k hk]
 have h1:X / 2 ^ k≤X:=Nat.div_le_self _ _
 rw [u64_id (by omega),show ((1:Int) % Int.ofNat (2 ^ 64)).toNat=2 ^ 1 - 1 from rfl,Nat.and_two_pow_sub_one_eq_mod,wuN' (by omega)]
noncomputable def rnd (a0 a1 x0 x1:Gref01Wide) (x2 T:Int):Option (AV×Mem):=
 chk ((0:Int)≤63)<|
 callD zd3 (cw zeM [AV.agg (zah x1)] []) fun (r3:Gref01Wide) =>
 callD zd3 (cw zeM [AV.agg (zah x0)] []) fun (r4:Gref01Wide) =>
 brn (x1.Hi.fdiv (2 ^ Min.min (Int.toNat 63) 64) == 1) (zcM a0 a1 x2 r4 (⟨r3.Hi,wu64 (↑((r3.Lo % Int.ofNat (2 ^ 64)).toNat ||| (T % Int.ofNat (2 ^ 64)).toNat):Int)⟩))
 (callD zfB (cw zgB [AV.agg (zah (⟨r3.Hi,wu64 (↑((r3.Lo % Int.ofNat (2 ^ 64)).toNat ||| (T % Int.ofNat (2 ^ 64)).toNat):Int)⟩)),AV.agg (zah a1)] []) fun (r7:Int) =>
  brn (decide (0≤r7)) (zcM a0 a1 x2 r4 (⟨r3.Hi,wu64 (↑((r3.Lo % Int.ofNat (2 ^ 64)).toNat ||| (T % Int.ofNat (2 ^ 64)).toNat):Int)⟩))
  (zcG a0 a1 r4 (⟨r3.Hi,wu64 (↑((r3.Lo % Int.ofNat (2 ^ 64)).toNat ||| (T % Int.ofNat (2 ^ 64)).toNat):Int)⟩) (w64 (x2 - 1))))
theorem t1010 {a0 a1 x0 x1:Gref01Wide} {x2:Int} {y:AV×Mem} (h:rnd a0 a1 x0 x1 x2 (wu64 (↑((a0.Hi.fdiv (2 ^ Min.min (wu64 (w64 (x2 - 64))).toNat 64) % Int.ofNat (2 ^ 64)).toNat &&& (1 % Int.ofNat (2 ^ 64)).toNat):Int))=some y):ziC a0 a1 x0 x1 x2=some y:=
 zqv a0 a1 x0 x1 x2 h
theorem t1010v1 {a0 a1 x0 x1:Gref01Wide} {x2:Int} {y:AV×Mem} (h:rnd a0 a1 x0 x1 x2 (wu64 (↑((a0.Lo.fdiv (2 ^ Min.min (wu64 (x2.tmod 64)).toNat 64) % Int.ofNat (2 ^ 64)).toNat &&& (1 % Int.ofNat (2 ^ 64)).toNat):Int))=some y):zhx a0 a1 x0 x1 x2=some y:=
 zo2 a0 a1 x0 x1 x2 h
theorem rnd_ok {a b m t:Nat} {i:Int} {y:AV×Mem} (hb:0 < b) (hb2:b < 340282366920938463463374607431768211456) (ht:t < 2) (hm:2*m+t < 340282366920938463463374607431768211456)
  (ih:zcG (wd a) (wd b) (wd ((2*m+t) / b)) (wd ((2*m+t) % b)) (w64 (i - 1))=some y):rnd (wd a) (wd b) (wd (m / b)) (wd (m % b)) i (t:Int)=some y:=by
 obtain ⟨r1,r2⟩:=round (t:=t) hb rfl (rfl:m % b=m % b) ht
 have hr:=Nat.mod_lt m hb
 have hq:(2*m+t) / b≤2*m+t:=Nat.div_le_self _ _
 have hq0:m / b≤m:=Nat.div_le_self _ _
 generalize m % b=r at *
 generalize hqq:m / b=q at *
 unfold rnd
 rw [zaf (by omega),c_Twice r (by omega),zmJ,c_Twice q (by omega),zmJ]
 have eq2:2*q % 340282366920938463463374607431768211456=2*q:=Nat.mod_eq_of_lt (by omega)
 rw [or_bit (2*r % 340282366920938463463374607431768211456) t (by omega) ht,eq2]
 have big:b≤2*r+t→zcM (wd a) (wd b) i (wd (2*q)) (wd (2*r % 340282366920938463463374607431768211456+t))=some y:=by
  intro h
  obtain ⟨e1,e2⟩:=r1 h
  refine zqr _ _ _ _ _ ?_
  rw [c_Minus _ _ (by omega) hb2,zjP]
  have o:=or_bit (2*q) 1 (by omega) (by omega)
  have e3:(2*r % 340282366920938463463374607431768211456+t+340282366920938463463374607431768211456 - b) % 340282366920938463463374607431768211456=2*r+t - b:=by omega
  rw [e3]
  rw [e1,e2] at ih
  rw [show (1:Int)=((1:Nat):Int) from rfl,o]
  exact ih
 have hH:(wd r).Hi.fdiv (2 ^ Min.min (Int.toNat 63) 64)=((r / 18446744073709551616 / 2 ^ 63:Nat):Int):=fd _ 63 63 rfl
 have e63:(2:Nat) ^ 63=9223372036854775808:=rfl
 rw [hH,e63]
 by_cases ho:r / 18446744073709551616 / 9223372036854775808=1
 · rw [ho,show (((1:Nat):Int) == 1)=true from rfl,zaC]
   exact big (by omega)
 · rw [beq_false_of_ne (by omega),zax,c_Order,zmM]
   have e4:2*r % 340282366920938463463374607431768211456=2*r:=Nat.mod_eq_of_lt (by omega)
   by_cases hg:b≤2*r+t
   · rw [decide_eq_true (by unfold ord3; rw [if_neg (by omega)]; split <;> omega),zaC]
     exact big hg
   · obtain ⟨e1,e2⟩:=r2 (by omega)
     rw [decide_eq_false (by unfold ord3; rw [if_pos (by omega)]; omega),zax,e4]
     rw [e1,e2] at ih
     exact ih
theorem low_bit (a i:Nat) (hi:i < 64):a % 18446744073709551616 / 2 ^ i % 2=a / 2 ^ i % 2:=by
 have h:=Nat.testBit_mod_two_pow a 64 i
 rw [decide_eq_true hi,Bool.true_and] at h
 rw [← Nat.toNat_testBit,← Nat.toNat_testBit]
 exact congrArg Bool.toNat h
theorem high_bit (a i:Nat) (hi:64≤i):a / 18446744073709551616 / 2 ^ (i - 64) % 2=a / 2 ^ i % 2:=by
 rw [show (18446744073709551616:Nat)=2 ^ 64 from rfl,Nat.div_div_eq_div_mul,← Nat.pow_add,show 64+(i - 64)=i by omega]
theorem k_rDivide {a b:Nat} (hb:0 < b) (ha:a < 340282366920938463463374607431768211456) (hb2:b < 340282366920938463463374607431768211456):∀ i:Nat,i≤128 →
  zcG (wd a) (wd b) (wd (a / 2 ^ i / b)) (wd (a / 2 ^ i % b)) ((i:Int) - 1)=some (zf4 (wd (a / b),wd (a % b))):=by
 intro i
 induction i with
 | zero =>
   intro _
   refine zna _ _ _ _ _ ?_
   rw [decide_eq_false (by omega),zax,Nat.pow_zero,Nat.div_one]
   rfl
 | succ i ih =>
   intro hi
   have ih:=ih (by omega)
   have ei:((i+1:Nat):Int) - 1=(i:Int):=by omega
   rw [ei]
   have bs:=bit_step a i
   have hd:a / 2 ^ i≤a:=Nat.div_le_self _ _
   have key:rnd (wd a) (wd b) (wd (a / 2 ^ (i+1) / b)) (wd (a / 2 ^ (i+1) % b)) (i:Int) ((a / 2 ^ i % 2:Nat):Int)=some (zf4 (wd (a / b),wd (a % b))):=by
    refine rnd_ok hb hb2 (by omega) (by omega) ?_
    rw [← bs,w64_id (by omega) (by omega)]
    exact ih
   refine zna _ _ _ _ _ ?_
   have etm:(i:Int).tmod 64=((i % 64:Nat):Int):=rfl
   rw [decide_eq_true (by omega),zaC,zaf (by omega),etm,wuN' (by omega),zaf (by omega)]
   by_cases h:64≤i
   · have ew:wu64 (w64 ((i:Int) - 64))=((i - 64:Nat):Int):=by rw [w64_id (by omega) (by omega),zc9 (by omega) (by omega)]; omega
     rw [decide_eq_true (by omega),zaC,ew,zaf (by omega)]
     refine t1010 ?_
     have e:=bit_and (a / 18446744073709551616) (by omega) (wu64 (w64 ((i:Int) - 64))) (i - 64) (by rw [ew,Int.toNat_natCast]; omega)
     rw [high_bit a i h] at e
     have e':wu64 (↑(((wd a).Hi.fdiv (2 ^ Min.min (wu64 (w64 ((i:Int) - 64))).toNat 64) % Int.ofNat (2 ^ 64)).toNat &&& (1 % Int.ofNat (2 ^ 64)).toNat):Int)=((a / 2 ^ i % 2:Nat):Int):=e
     rw [e']
     exact key
   · rw [decide_eq_false (by omega),zax]
     refine t1010v1 ?_
     have ew:wu64 ((i:Int).tmod 64)=((i:Nat):Int):=by rw [etm,wuN' (by omega)]; omega
     have e:=bit_and (a % 18446744073709551616) (by omega) (wu64 ((i:Int).tmod 64)) i (by rw [ew,Int.toNat_natCast]; omega)
     rw [low_bit a i (by omega)] at e
     have e':wu64 (↑(((wd a).Lo.fdiv (2 ^ Min.min (wu64 ((i:Int).tmod 64)).toNat 64) % Int.ofNat (2 ^ 64)).toNat &&& (1 % Int.ofNat (2 ^ 64)).toNat):Int)=((a / 2 ^ i % 2:Nat):Int):=e
     rw [e']
     exact key
theorem zqV (a b:Nat) (hb:0 < b) (ha:a < 340282366920938463463374607431768211456) (hb2:b < 340282366920938463463374607431768211456) :
  cw zhB [.agg (zah (wd a)),.agg (zah (wd b))] []=some (zf4 (wd (a / b),wd (a % b))):=by
 refine zuv _ _ ?_
 have hk:zcG (wd a) (wd b) ⟨0,0⟩ ⟨0,0⟩ 127=some (zf4 (wd (a / b),wd (a % b))):=by
  have h:=k_rDivide hb ha hb2 128 (by omega)
  have e0:a / 2 ^ 128=0:=Nat.div_eq_of_lt ha
  rw [e0,Nat.zero_div,Nat.zero_mod] at h
  exact h
 by_cases h1:a / 18446744073709551616=0
 · have b1:((wd a).Hi == 0)=true:=by show (((a / 18446744073709551616:Nat):Int) == 0)=true; rw [h1]; rfl
   rw [b1,zaC]
   by_cases h2:b / 18446744073709551616=0
   · have b2:((wd b).Hi == 0)=true:=by show (((b / 18446744073709551616:Nat):Int) == 0)=true; rw [h2]; rfl
     have ea:a % 18446744073709551616=a:=by omega
     have eb:b % 18446744073709551616=b:=by omega
     have la:(wd a).Lo=(a:Int):=by show ((a % 18446744073709551616:Nat):Int)=_; rw [ea]
     have lb:(wd b).Lo=(b:Int):=by show ((b % 18446744073709551616:Nat):Int)=_; rw [eb]
     have hq:a / b≤a:=Nat.div_le_self _ _
     have hr:=Nat.mod_lt a hb
     rw [b2,zaC,la,lb,zaf (by omega),zaf (by omega)]
     have t1:(a:Int).tdiv (b:Int)=((a / b:Nat):Int):=rfl
     have t2:(a:Int).tmod (b:Int)=((a % b:Nat):Int):=rfl
     rw [t1,t2,wuN' (by omega)]
     have w:∀ n:Nat,n < 18446744073709551616→(⟨0,(n:Int)⟩:Gref01Wide)=wd n:=by
      intro n hn
      unfold wd
      rw [Nat.div_eq_of_lt hn,Nat.mod_eq_of_lt hn]
      rfl
     rw [w _ (by omega),w _ (by omega)]
     rfl
   · have b2:((wd b).Hi == 0)=false:=beq_false_of_ne (by show ((b / 18446744073709551616:Nat):Int)≠0; omega)
     rw [b2,zax]
     exact hk
 · have b1:((wd a).Hi == 0)=false:=beq_false_of_ne (by show ((a / 18446744073709551616:Nat):Int)≠0; omega)
   rw [b1,zax]
   exact hk
end Go.Proofs.YtbhkcgaanaelfaaGreat
namespace Go.Proofs.YtbhkcgaanaelfaaGreat
open Go.Ab Go.PureDiv
set_option linter.unusedSimpArgs false
set_option maxRecDepth 20000
theorem wd_zero (b:Nat):((wd b).Hi == 0 && ((wd b).Lo == 0 && true))=decide (b=0):=by
 show ((((b / 18446744073709551616:Nat):Int) == 0) && ((((b % 18446744073709551616:Nat):Int) == 0) && true))=decide (b=0)
 by_cases h:b=0
 · subst h; rfl
 · rw [decide_eq_false h]
   by_cases h1:b / 18446744073709551616=0
   · rw [beq_false_of_ne (by omega:((b % 18446744073709551616:Nat):Int)≠0)]
     simp
   · rw [beq_false_of_ne (by omega:((b / 18446744073709551616:Nat):Int)≠0)]
     rfl
theorem k_rDivisor:∀ (N b a:Nat),b≤N→a < 340282366920938463463374607431768211456→b < 340282366920938463463374607431768211456→zhd (wd a) (wd b)=some (ziW (wd (Nat.gcd a b))):=by
 intro N
 induction N with
 | zero =>
   intro b a hN _ _
   refine zmK _ _ ?_
   rw [wd_zero,decide_eq_true (by omega),Bool.not_true,zax,show b=0 by omega,Nat.gcd_zero_right]
   rfl
 | succ N ih =>
   intro b a hN ha hb
   refine zmK _ _ ?_
   rw [wd_zero]
   by_cases h:b=0
   · rw [decide_eq_true h,Bool.not_true,zax,h,Nat.gcd_zero_right]
     rfl
   · have hr:=Nat.mod_lt a (by omega:0 < b)
     rw [decide_eq_false h,Bool.not_false,zaC,zqV a b (by omega) ha hb,zjh,ih (a % b) b (by omega) hb (by omega),Nat.gcd_comm a b,Nat.gcd_rec b a,Nat.gcd_comm]
theorem ztw (a b:Nat) (ha:a < 340282366920938463463374607431768211456) (hb:b < 340282366920938463463374607431768211456) :
  cw zi1 [.agg (zah (wd a)),.agg (zah (wd b))] []=some (ziW (wd (Nat.gcd a b))):=
 ztg _ _ (k_rDivisor b b a (Nat.le_refl _) ha hb)
def redR (s:Bool) (n d:Nat):GRatio×Int:=
 if n / Nat.gcd n d≤1152921504606846976∧d / Nat.gcd n d≤1152921504606846976 then
  (if s then (⟨-((n / Nat.gcd n d:Nat):Int),((d / Nat.gcd n d:Nat):Int)⟩,0) else (⟨((n / Nat.gcd n d:Nat):Int),((d / Nat.gcd n d:Nat):Int)⟩,0))
 else (⟨0,0⟩,6)
theorem znZ (s:Bool) (n d:Nat) (hd:0 < d) (hn:n < 340282366920938463463374607431768211456) (hd2:d < 340282366920938463463374607431768211456) :
  cw zf8 [B s,.agg (zah (wd n)),.agg (zah (wd d))] []=some (zlQ (redR s n d)):=by
 have hg:0 < Nat.gcd n d:=Nat.gcd_pos_of_pos_right _ hd
 have hg2:Nat.gcd n d≤d:=Nat.le_of_dvd hd (Nat.gcd_dvd_right n d)
 refine zut _ _ _ ?_
 rw [ztw n d hn hd2,zlG,zqV n _ hg hn (by omega),zjh,zqV d _ hg hd2 (by omega),zjh]
 unfold redR
 generalize n / Nat.gcd n d=x
 generalize d / Nat.gcd n d=y
 have lH:∀ m:Nat,(0 < (wd m).Hi)↔0 < m / 18446744073709551616:=fun m=>by
  show (0:Int) < ((m / 18446744073709551616:Nat):Int)↔_
  omega
 have lL:∀ m:Nat,((1152921504606846976:Int) < (wd m).Lo)↔1152921504606846976 < m % 18446744073709551616:=fun m=>by
  show (1152921504606846976:Int) < ((m % 18446744073709551616:Nat):Int)↔_
  omega
 have lo:∀ m:Nat,m≤1152921504606846976→(wd m).Lo=(m:Int):=fun m h=>by
  show ((m % 18446744073709551616:Nat):Int)=(m:Int)
  omega
 simp only [zag]
 by_cases h1:0 < x / 18446744073709551616
 · rw [if_pos ((lH x).2 h1),if_neg (by omega)]
   rfl
 rw [if_neg (fun c=>h1 ((lH x).1 c))]
 by_cases h2:0 < y / 18446744073709551616
 · rw [if_pos ((lH y).2 h2),if_neg (by omega)]
   rfl
 rw [if_neg (fun c=>h2 ((lH y).1 c))]
 by_cases h3:1152921504606846976 < x % 18446744073709551616
 · rw [if_pos ((lL x).2 h3),if_neg (by omega)]
   rfl
 rw [if_neg (fun c=>h3 ((lL x).1 c))]
 by_cases h4:1152921504606846976 < y % 18446744073709551616
 · rw [if_pos ((lL y).2 h4),if_neg (by omega)]
   rfl
 rw [if_neg (fun c=>h4 ((lL y).1 c)),if_pos (by omega),lo x (by omega),lo y (by omega),w64_id (n:=(x:Int)) (by omega) (by omega),w64_id (n:=(y:Int)) (by omega) (by omega)]
 cases s
 · rw [zax]
   rfl
 · rw [zaC,w64_id (by omega) (by omega),Int.zero_sub]
   rfl
end Go.Proofs.YtbhkcgaanaelfaaGreat
namespace Go.Proofs.YtbhkcgaanaelfaaGreat
open Go.Ab Go.PureDiv
set_option linter.unusedSimpArgs false
set_option maxRecDepth 20000
def wp (n:Nat):GratioWide:=⟨((n / 18446744073709551616:Nat):Int),((n % 18446744073709551616:Nat):Int)⟩
theorem zta (n g:Nat) (h0:0 < g) (hg:g < 18446744073709551616) :
  cw zhR [.agg (zas (wp n)),.v (.int .u64 (g:Int))] []=some (zkN ((n % g:Nat):Int)):=by
 refine zsJ _ _ ?_
 have h:=c_Rem64 (n / 18446744073709551616) (n % 18446744073709551616) g h0 hg (by omega)
 have e:n / 18446744073709551616*18446744073709551616+n % 18446744073709551616=n:=by omega
 rw [e] at h
 have h':cw zlq [AV.v (.int .u64 (wp n).hi),AV.v (.int .u64 (wp n).lo),AV.v (.int .u64 (g:Int))] []=some (zly ((n % g:Nat):Int)):=h
 rw [h',zs6]
 rfl
theorem zsp (n g:Nat) (h0:0 < g) (hg:g < 18446744073709551616) (hn:n < 340282366920938463463374607431768211456) :
  cw zhe [.agg (zas (wp n)),.v (.int .u64 (g:Int))] []=some (zhf (wp (n / g))):=by
 refine zrS _ _ ?_
 have hm:=Nat.mod_lt (n / 18446744073709551616) h0
 have hq:n / 18446744073709551616 / g≤n / 18446744073709551616:=Nat.div_le_self _ _
 have h:=c_Div64 (n / 18446744073709551616 % g) (n % 18446744073709551616) g hm hg (by omega)
 have t:=(ztU 0 (n / 18446744073709551616) (n % 18446744073709551616) g 18446744073709551616 h0).1
 have l:(n / 18446744073709551616 % g*18446744073709551616+n % 18446744073709551616) / (0*18446744073709551616+g) < 18446744073709551616:=q_lt (by omega) (by omega)
 rw [Nat.zero_mul,Nat.zero_add] at t l
 have e:n / 18446744073709551616*18446744073709551616+n % 18446744073709551616=n:=by omega
 rw [e] at t
 have h':cw zjx [AV.v (.int .u64 ((wp n).hi.tmod (g:Int))),AV.v (.int .u64 (wp n).lo),AV.v (.int .u64 (g:Int))] []=some (zdt ((((n / 18446744073709551616 % g*18446744073709551616+n % 18446744073709551616) / g:Nat):Int),(((n / 18446744073709551616 % g*18446744073709551616+n % 18446744073709551616) % g:Nat):Int))):=h
 rw [zaf (by omega),zaf (by omega),h',znz]
 have e2:(wp n).hi.tdiv (g:Int)=((n / 18446744073709551616 / g:Nat):Int):=rfl
 rw [e2,wuN' (by omega)]
 show some (zhf _)=_
 congr 2
 have key:∀ w z:Nat,z < 18446744073709551616→(⟨(w:Int),(z:Int)⟩:GratioWide)=wp (w*18446744073709551616+z):=by
  intro w z hz
  have e3:(w*18446744073709551616+z) / 18446744073709551616=w:=by omega
  have e4:(w*18446744073709551616+z) % 18446744073709551616=z:=by omega
  unfold wp
  rw [e3,e4]
 rw [t]
 exact key _ _ l
def fitS (s:Bool) (x y:Nat):GRatio×Int:=
 if x≤1152921504606846976∧y≤1152921504606846976 then
  (if s then (⟨-(x:Int),(y:Int)⟩,0) else (⟨(x:Int),(y:Int)⟩,0))
 else (⟨0,0⟩,6)
theorem redR_fit (s:Bool) (n d:Nat):redR s n d=fitS s (n / Nat.gcd n d) (d / Nat.gcd n d):=rfl
theorem c_fits (s:Bool) (x y:Nat):cw zhs [B s,.agg (zas (wp x)),.agg (zas (wp y))] []=some (zlJ (fitS s x y)):=by
 refine zuM _ _ _ ?_
 unfold fitS
 have lH:∀ m:Nat,((wp m).hi != 0)=decide (m / 18446744073709551616≠0):=fun m=>by
  show (((m / 18446744073709551616:Nat):Int) != 0)=_
  by_cases h:m / 18446744073709551616=0
  · rw [h]; rfl
  · rw [decide_eq_true h,bne,beq_false_of_ne (by omega:((m / 18446744073709551616:Nat):Int)≠0)]; rfl
 have lL:∀ m:Nat,((1152921504606846976:Int) < (wp m).lo)↔1152921504606846976 < m % 18446744073709551616:=fun m=>by
  show (1152921504606846976:Int) < ((m % 18446744073709551616:Nat):Int)↔_
  omega
 have lo:∀ m:Nat,m≤1152921504606846976→(wp m).lo=(m:Int):=fun m h=>by
  show ((m % 18446744073709551616:Nat):Int)=(m:Int)
  omega
 rw [lH,lH]
 simp only [zag]
 by_cases h1:x / 18446744073709551616≠0
 · rw [if_pos h1,if_neg (by omega)]
   rfl
 rw [if_neg h1]
 by_cases h2:y / 18446744073709551616≠0
 · rw [if_pos h2,if_neg (by omega)]
   rfl
 rw [if_neg h2]
 by_cases h3:1152921504606846976 < x % 18446744073709551616
 · rw [if_pos ((lL x).2 h3),if_neg (by omega)]
   rfl
 rw [if_neg (fun c=>h3 ((lL x).1 c))]
 by_cases h4:1152921504606846976 < y % 18446744073709551616
 · rw [if_pos ((lL y).2 h4),if_neg (by omega)]
   rfl
 rw [if_neg (fun c=>h4 ((lL y).1 c)),if_pos (by omega),lo x (by omega),lo y (by omega),w64_id (n:=(x:Int)) (by omega) (by omega),w64_id (n:=(y:Int)) (by omega) (by omega)]
 cases s
 · rw [zax]
   rfl
 · rw [zaC,w64_id (by omega) (by omega),Int.zero_sub]
   rfl
end Go.Proofs.YtbhkcgaanaelfaaGreat
namespace Go.Proofs.YtbhkcgaanaelfaaGreat
open Go.Ab
theorem brn_t {β:Type} {c:Bool} (h:c=true) (x y:Option β):brn c x y=x:=by subst h; rfl
theorem brn_f {β:Type} {c:Bool} (h:c=false) (x y:Option β):brn c x y=y:=by subst h; rfl
noncomputable abbrev U (n:Nat):AV:=.v (.int .u64 (n:Int))
theorem wuN {n:Nat} (h:n < 18446744073709551616):wu64 (n:Int)=n:=zc9 (by omega) (by omega)
theorem k_gcd:∀ (b a:Nat),zkx (a:Int) (b:Int)=some (zdV.enc ((Nat.gcd a b:Nat):Int)):=by
 intro b
 induction b using Nat.strongRecOn with
 | _ b ih =>
   intro a
   refine zvE _ _ ?_
   by_cases hb:b=0
   · subst hb
     rw [brn_f (by rfl),Nat.gcd_zero_right]
     rfl
   · rw [brn_t (by simp; omega),zaf (by omega)]
     have:(a:Int).tmod (b:Int)=((a % b:Nat):Int):=rfl
     rw [this,ih (a % b) (Nat.mod_lt _ (by omega)) b,Nat.gcd_comm b (a % b),← Nat.gcd_rec,Nat.gcd_comm]
theorem c_gcd (a b:Nat):cw zek [U a,U b] []=some (zdV.enc ((Nat.gcd a b:Nat):Int)):=zyx _ _ (k_gcd b a)
theorem zg2 (n:Int) (h1:-9223372036854775808≤n) (h2:n < 9223372036854775808):cw zbU [I n] []=some (zcu.enc (n.natAbs:Int)):=by
 refine zr8 _ ?_
 rw [zag]
 by_cases h:n < 0
 · rw [if_pos h]
   have:wu64 (0 - wu64 n)=(n.natAbs:Int):=by
    simp only [wu64,IntKind.wrap,IntKind.bits,IntKind.signed,show ((2:Int) ^ 64)=18446744073709551616 from rfl,Bool.false_and,Bool.false_eq_true,if_false]
    omega
   rw [this]
   rfl
 · rw [if_neg h,zc9 (by omega) (by omega),show n=(n.natAbs:Int) from by omega]
   simp
   rfl
theorem c_Mul64 (x y:Nat) (hx:x < 18446744073709551616) (hy:y < 18446744073709551616) :
  cw zje [U x,U y] []=some (zhq.enc (((x*y / 18446744073709551616:Nat):Int),((x*y % 18446744073709551616:Nat):Int))):=by
 refine zxH _ _ ?_
 have h32:((2:Int) ^ Min.min (Int.toNat 32) 64)=((4294967296:Nat):Int):=by decide
 have hdiv:∀ n:Nat,(n:Int).fdiv ((4294967296:Nat):Int)=((n / 4294967296:Nat):Int):=fun n=>by
  rw [Int.fdiv_eq_ediv_of_nonneg _ (by omega)]; rfl
 have hmask:∀ n:Nat,n < 18446744073709551616→((((n:Int) % Int.ofNat (2 ^ 64)).toNat &&& ((4294967295:Int) % Int.ofNat (2 ^ 64)).toNat:Nat):Int)=((n % 4294967296:Nat):Int):=fun n hn=>by
  have e1:((n:Int) % Int.ofNat (2 ^ 64)).toNat=n:=by
   have:(Int.ofNat (2 ^ 64):Int)=18446744073709551616:=by decide
   rw [this]; omega
  have e2:((4294967295:Int) % Int.ofNat (2 ^ 64)).toNat=2 ^ 32 - 1:=by decide
  rw [e1,e2,Nat.and_two_pow_sub_one_eq_mod]
 obtain ⟨m1,m2,m3,m4⟩:=Go.Lib.mul64_hi x y hx hy
 have hlo:wu64 ((x:Int)*(y:Int))=((x*y % 18446744073709551616:Nat):Int):=by
  have e:(x:Int)*(y:Int)=((x*y:Nat):Int):=by simp
  rw [e]
  generalize x*y=m
  simp only [wu64,IntKind.wrap,IntKind.bits,IntKind.signed,show ((2:Int) ^ 64)=18446744073709551616 from rfl,Bool.false_and,Bool.false_eq_true,if_false]
  omega
 have hx0:x % 4294967296 < 4294967296:=Nat.mod_lt _ (by omega)
 have hy0:y % 4294967296 < 4294967296:=Nat.mod_lt _ (by omega)
 have p1:=Go.Lib.half_mul_le (a:=x / 4294967296) (b:=y % 4294967296) (by omega) (by omega)
 have p2:=Go.Lib.half_mul_le (a:=x % 4294967296) (b:=y / 4294967296) (by omega) (by omega)
 have p3:=Go.Lib.half_mul_le (a:=x / 4294967296) (b:=y / 4294967296) (by omega) (by omega)
 have hM:∀ a b:Nat,((a:Int)*(b:Int))=((a*b:Nat):Int):=fun a b=>by push_cast; rfl
 have hA:∀ a b:Nat,((a:Int)+(b:Int))=((a+b:Nat):Int):=fun a b=>by push_cast; rfl
 rw [zaf (by decide),zaf (by decide),zaf (by decide),zaf (by decide),zaf (by decide),hlo,h32]
 rw [hdiv x,hdiv y,hmask x hx,hmask y hy,wuN (n:=x % 4294967296) (by omega),wuN (n:=y % 4294967296) (by omega)]
 generalize hx1:x / 4294967296=x1 at *
 generalize hy1:y / 4294967296=y1 at *
 generalize x % 4294967296=x0 at *
 generalize y % 4294967296=y0 at *
 rw [hM x0 y0,wuN m1,hdiv,hM x1 y0,wuN (n:=x1*y0) (by omega),hA,wuN m2,hmask _ m2,hM x0 y1,wuN (n:=x0*y1) (by omega),wuN (n:=_ % 4294967296) (by omega),hA,wuN m3,hdiv,hdiv,hM x1 y1,wuN (n:=x1*y1) (by omega),hA,wuN (by omega),hA,wuN (by omega),m4]
 rfl
def W (n:Nat):GratioWide:=⟨((n / 18446744073709551616:Nat):Int),((n % 18446744073709551616:Nat):Int)⟩
theorem znW (x y:Nat) (hx:x < 18446744073709551616) (hy:y < 18446744073709551616) :
  cw zfz [U x,U y] []=some (zfs.enc (W (x*y))):=by
 refine ztP _ _ ?_
 rw [zau (c_Mul64 x y hx hy)]
 rfl
def cmpZ (a b:Int):Int:=if a < b then -1 else if b < a then 1 else 0
theorem c_isNaNu (a:Int):cw zgL [.v (.int .u64 a)] []=some (zgQ.enc false):=zq0 a (by simp; rfl)
theorem c_cmpu (a b:Int):cw zfR [.v (.int .u64 a),.v (.int .u64 b)] []=some (zfU.enc (cmpZ a b)):=by
 refine zpy a b ?_
 rw [zau (c_isNaNu a),zau (c_isNaNu b),brn_f rfl,brn_f rfl,zag,zag]
 unfold cmpZ
 split
 · rfl
 · split <;> rfl
theorem zlN {a b:Int} (h:a < b):cmpZ a b=-1:=if_pos h
theorem zm6 {a b:Int} (h:b < a):cmpZ a b=1:=by unfold cmpZ; rw [if_neg (by omega),if_pos h]
theorem zrs {a b:Int} (h:a=b):cmpZ a b=0:=by unfold cmpZ; rw [if_neg (by omega),if_neg (by omega)]
theorem zyK {a b:Int} (h:b≤a):0≤cmpZ a b:=by
 unfold cmpZ
 rw [if_neg (by omega)]
 split <;> omega
theorem zmU (a b:Nat):cw zdF [.agg (zas (W a)),.agg (zas (W b))] []=some (zdH.enc (cmpZ a b)):=by
 refine zo9 _ _ ?_
 have ha:(W a).hi=((a / 18446744073709551616:Nat):Int):=rfl
 have hb:(W b).hi=((b / 18446744073709551616:Nat):Int):=rfl
 have la:(W a).lo=((a % 18446744073709551616:Nat):Int):=rfl
 have lb:(W b).lo=((b % 18446744073709551616:Nat):Int):=rfl
 rw [zau (c_cmpu _ _)]
 rcases Nat.lt_trichotomy (a / 18446744073709551616) (b / 18446744073709551616) with h | h | h
 · have e:cmpZ (W a).hi (W b).hi=-1:=zlN (by rw [ha,hb]; omega)
   rw [e,brn_t (by rfl),zlN (by omega)]
   rfl
 · have e:cmpZ (W a).hi (W b).hi=0:=zrs (by rw [ha,hb,h])
   rw [e,brn_f (by rfl),zau (c_cmpu _ _)]
   rcases Nat.lt_trichotomy a b with h' | h' | h'
   · rw [zlN (by rw [la,lb]; omega),zlN (by omega)]
     rfl
   · rw [zrs (by rw [la,lb,h']),zrs (by omega)]
     rfl
   · rw [zm6 (by rw [la,lb]; omega),zm6 (by omega)]
     rfl
 · have e:cmpZ (W a).hi (W b).hi=1:=zm6 (by rw [ha,hb]; omega)
   rw [e,brn_t (by rfl),zm6 (by omega)]
   rfl
def sgn (s:Bool) (n:Nat):Int:=if s then -(n:Int) else n
theorem ziO (n:Int) (f:Nat) (h1:-9223372036854775808≤n) (h2:n < 9223372036854775808) (hf:f < 18446744073709551616) :
  cw zdp [I n,U f] []=some (zdn.enc ⟨decide (n < 0),W (n.natAbs*f)⟩):=by
 refine zoN _ _ ?_
 rw [zau (zg2 n h1 h2),zau (znW n.natAbs f (by omega) hf)]
 rfl
end Go.Proofs.YtbhkcgaanaelfaaGreat
namespace Go.Proofs.YtbhkcgaanaelfaaGreat
open Go.Ab Go.PureDiv
set_option linter.unusedSimpArgs false
set_option maxRecDepth 20000
theorem W_wp (n:Nat):W n=wp n:=rfl
theorem wp_small {n:Nat} (h:n < 18446744073709551616):(⟨0,(n:Int)⟩:GratioWide)=wp n:=by
 unfold wp
 rw [Nat.div_eq_of_lt h,Nat.mod_eq_of_lt h]
 rfl
theorem znm {n:Nat} (h:n < 18446744073709551616):(⟨0,(n:Int)⟩:Gref01Wide)=wd n:=by
 unfold wd
 rw [Nat.div_eq_of_lt h,Nat.mod_eq_of_lt h]
 rfl
theorem c_reduced (s:Bool) (n d:Nat) (hd:0 < d) (hd2:d < 18446744073709551616) (hn:n < 340282366920938463463374607431768211456) :
  cw zlm [.agg (zbP ⟨s,wp n⟩),.v (.int .u64 (d:Int))] []=some (zlv (redR s n d)):=by
 have hg:0 < Nat.gcd n d:=Nat.gcd_pos_of_pos_right _ hd
 have hg2:Nat.gcd n d≤d:=Nat.le_of_dvd hd (Nat.gcd_dvd_right n d)
 have hq:d / Nat.gcd n d≤d:=Nat.div_le_self _ _
 refine ztA _ _ ?_
 have h1:=zta n d hd hd2
 have h2:cw zek [AV.v (.int .u64 ((n % d:Nat):Int)),AV.v (.int .u64 (d:Int))] []=some (zlX ((Nat.gcd n d:Nat):Int)):=by
  have h:=c_gcd (n % d) d
  rw [← Nat.gcd_rec,Nat.gcd_comm] at h
  exact h
 have h3:=zsp n (Nat.gcd n d) hg (by omega) hn
 have t:(d:Int).tdiv ((Nat.gcd n d:Nat):Int)=((d / Nat.gcd n d:Nat):Int):=rfl
 have h4:=c_fits s (n / Nat.gcd n d) (d / Nat.gcd n d)
 rw [h1,zlx,h2,znT,h3,zkV,zaf (by omega),t,wuN' (by omega),wp_small (by omega),h4,zjA,redR_fit]
 rfl
end Go.Proofs.YtbhkcgaanaelfaaGreat
namespace Go.Proofs.YtbhkcgaanaelfaaGreat
open Go.Ab Go.PureDiv
set_option linter.unusedSimpArgs false
set_option maxRecDepth 20000
def newR (a b:Int):GRatio×Int:=if b=0 then (⟨0,0⟩,2) else redR (!decide (a < 0) == decide (b < 0)) a.natAbs b.natAbs
theorem zd9 (n:Int) (h1:-9223372036854775808≤n) (h2:n < 9223372036854775808):cw za1 [I n] []=some (znv (n.natAbs:Int)):=by
 refine zxN _ ?_
 rw [zag]
 by_cases h:n < 0
 · have e:wu64 (wu64 (w64 (0 - w64 (n+1)))+1)=(n.natAbs:Int):=by
    rw [w64_id (n:=n+1) (by omega) (by omega),w64_id (by omega) (by omega),zc9 (n:=0 - (n+1)) (by omega) (by omega),zc9 (by omega) (by omega)]
    omega
   rw [if_pos h,e]
   rfl
 · have e:wu64 n=(n.natAbs:Int):=by rw [zc9 (by omega) (by omega)]; omega
   rw [if_neg h,e]
   rfl
theorem c_rNewG (a b:Int) (a1:-9223372036854775808≤a) (a2:a < 9223372036854775808) (b1:-9223372036854775808≤b) (b2:b < 9223372036854775808) :
  cw zl8 [I a,I b] []=some (zox (newR a b)):=by
 refine zx7 _ _ ?_
 unfold newR
 by_cases h:b=0
 · rw [if_pos h,h,show (((0:Int)) == 0)=true from rfl,zaC]
   rfl
 · have hr:=znZ (!decide (a < 0) == decide (b < 0)) a.natAbs b.natAbs (by omega) (by omega) (by omega)
   rw [← znm (n:=a.natAbs) (by omega),← znm (n:=b.natAbs) (by omega)] at hr
   rw [if_neg h,beq_false_of_ne h,zax,zd9 a a1 a2,zaL,zd9 b b1 b2,zaL,hr,zgT]
   rfl
theorem c_NewG (a b:Int) (a1:-9223372036854775808≤a) (a2:a < 9223372036854775808) (b1:-9223372036854775808≤b) (b2:b < 9223372036854775808) :
  cw ziv [I a,I b] []=some (zoy (newR a b)):=by
 refine zyq _ _ ?_
 unfold newR
 by_cases h:b=0
 · rw [if_pos h,h,show (((0:Int)) == 0)=true from rfl,zaC]
   rfl
 · have hr:=c_reduced (!decide (a < 0) == decide (b < 0)) a.natAbs b.natAbs (by omega) (by omega) (by omega)
   rw [← wp_small (n:=a.natAbs) (by omega)] at hr
   have m1:cw zbU [I a] []=some (zfI (a.natAbs:Int)):=zg2 a a1 a2
   have m2:cw zbU [I b] []=some (zfI (b.natAbs:Int)):=zg2 b b1 b2
   rw [if_neg h,beq_false_of_ne h,zax,m1,zho,m2,zho,hr,zqn]
   rfl
end Go.Proofs.YtbhkcgaanaelfaaGreat
namespace Go.Proofs.YtbhkcgaanaelfaaGreat
open Go.Ab Go.PureDiv
set_option linter.unusedSimpArgs false
set_option maxRecDepth 20000
theorem zfT (x y:Nat) (hx:x < 18446744073709551616) (hy:y < 18446744073709551616) :
  cw zcF [.v (.int .u64 (x:Int)),.v (.int .u64 (y:Int))] []=some (zlw (wd (x*y))):=by
 refine ztQ _ _ ?_
 have h:cw zje [AV.v (.int .u64 (x:Int)),AV.v (.int .u64 (y:Int))] []=some (znk (((x*y / 18446744073709551616:Nat):Int),((x*y % 18446744073709551616:Nat):Int))):=c_Mul64 x y hx hy
 rw [h,zs7]
 rfl
theorem c_rPlusG (a b:Nat) (h:a+b < 340282366920938463463374607431768211456) :
  cw znh [.agg (zah (wd a)),.agg (zah (wd b))] []=some (znn (wd (a+b))):=by
 refine zxJ _ _ ?_
 have t0:Int.toNat 0=0:=rfl
 have t1:Int.toNat 1=1:=rfl
 have p64:(2:Nat) ^ 64=18446744073709551616:=rfl
 simp only [wd,Int.toNat_natCast,t0,t1,p64]
 by_cases c:(a % 18446744073709551616+b % 18446744073709551616+0) / 18446744073709551616=0
 · have e1:(a / 18446744073709551616+b / 18446744073709551616+0) % 18446744073709551616=(a+b) / 18446744073709551616:=by omega
   have e2:(a % 18446744073709551616+b % 18446744073709551616+0) % 18446744073709551616=(a+b) % 18446744073709551616:=by omega
   rw [c,show ((Int.ofNat 0) == 0)=true from rfl,zaC,e1,e2]
   rfl
 · have c1:(a % 18446744073709551616+b % 18446744073709551616+0) / 18446744073709551616=1:=by omega
   have e1:(a / 18446744073709551616+b / 18446744073709551616+1) % 18446744073709551616=(a+b) / 18446744073709551616:=by omega
   have e2:(a % 18446744073709551616+b % 18446744073709551616+0) % 18446744073709551616=(a+b) % 18446744073709551616:=by omega
   rw [c1,show ((Int.ofNat 1) == 0)=false from rfl,zax,show ((Int.ofNat 1) == 1)=true from rfl,zaC,e1,e2]
   rfl
def totR (p:Bool) (a:Nat) (q:Bool) (b:Nat):Bool×Nat:=if p=q then (p,a+b) else if b≤a then (p,a - b) else (q,b - a)
theorem c_rtotal (p:Bool) (a:Nat) (q:Bool) (b:Nat) (h:a+b < 340282366920938463463374607431768211456) :
  cw zkw [B p,.agg (zah (wd a)),B q,.agg (zah (wd b))] []=some (zmA ((totR p a q b).1,wd (totR p a q b).2)):=by
 refine zwx _ _ _ _ ?_
 unfold totR
 by_cases hs:p=q
 · rw [if_pos hs,hs,beq_self_eq_true,zaC,c_rPlusG a b h,zsU]
   rfl
 · rw [if_neg hs,beq_false_of_ne hs,zax,c_Order,zmM]
   by_cases hc:b≤a
   · have e:(a+340282366920938463463374607431768211456 - b) % 340282366920938463463374607431768211456=a - b:=by omega
     rw [if_pos hc,decide_eq_true (by unfold ord3; rw [if_neg (by omega)]; split <;> omega),zaC,c_Minus a b (by omega) (by omega),zjP,e]
     rfl
   · have e:(b+340282366920938463463374607431768211456 - a) % 340282366920938463463374607431768211456=b - a:=by omega
     rw [if_neg hc,decide_eq_false (by unfold ord3; rw [if_pos (by omega)]; omega),zax,c_Minus b a (by omega) (by omega),zjP,e]
     rfl
end Go.Proofs.YtbhkcgaanaelfaaGreat
namespace Go.Proofs.YtbhkcgaanaelfaaGreat
open Go.Ab Go.PureDiv
set_option linter.unusedSimpArgs false
set_option maxRecDepth 20000
def VR (r:GRatio):Prop:=1≤r.Den∧r.Den≤1152921504606846976∧-1152921504606846976≤r.Num∧r.Num≤1152921504606846976∧Nat.gcd r.Num.natAbs r.Den.natAbs=1
instance (r:GRatio):Decidable (VR r):=by unfold VR; infer_instance
theorem zdM (r:GRatio):cw zbi [.agg (zaa r)] []=some (zkF (decide (VR r))):=by
 refine zqf _ ?_
 simp only [zag]
 have no:¬ VR r→some (B false,([]:Mem))=some (zkF (decide (VR r))):=fun h=>by rw [decide_eq_false h]; rfl
 by_cases h1:r.Den < 1
 · rw [if_pos h1]; exact no (fun h=>by have:=h.1; omega)
 rw [if_neg h1]
 by_cases h2:1152921504606846976 < r.Den
 · rw [if_pos h2]; exact no (fun h=>by have:=h.2.1; omega)
 rw [if_neg h2]
 by_cases h3:r.Num < -1152921504606846976
 · rw [if_pos h3]; exact no (fun h=>by have:=h.2.2.1; omega)
 rw [if_neg h3]
 by_cases h4:1152921504606846976 < r.Num
 · rw [if_pos h4]; exact no (fun h=>by have:=h.2.2.2.1; omega)
 rw [if_neg h4]
 have m1:cw zbU [I r.Num] []=some (zfI (r.Num.natAbs:Int)):=zg2 r.Num (by omega) (by omega)
 have e:wu64 r.Den=(r.Den.natAbs:Int):=by rw [zc9 (by omega) (by omega)]; omega
 have m2:cw zek [AV.v (.int .u64 (r.Num.natAbs:Int)),AV.v (.int .u64 (r.Den.natAbs:Int))] []=some (zlX ((Nat.gcd r.Num.natAbs r.Den.natAbs:Nat):Int)):=c_gcd _ _
 rw [m1,zho,e,m2,znT]
 by_cases h5:Nat.gcd r.Num.natAbs r.Den.natAbs=1
 · have hv:VR r:=⟨by omega,by omega,by omega,by omega,h5⟩
   rw [h5,decide_eq_true hv]
   rfl
 · rw [beq_false_of_ne (by omega)]
   exact no (fun h=>h5 h.2.2.2.2)
theorem zeO (r:GRatio):cw zbO [.agg (zaa r)] []=some (zij (decide (VR r))):=by
 refine zwv _ ?_
 simp only [zag]
 have no:¬ VR r→some (B false,([]:Mem))=some (zij (decide (VR r))):=fun h=>by rw [decide_eq_false h]; rfl
 by_cases h1:r.Den < 1
 · rw [if_pos h1]; exact no (fun h=>by have:=h.1; omega)
 rw [if_neg h1]
 by_cases h2:1152921504606846976 < r.Den
 · rw [if_pos h2]; exact no (fun h=>by have:=h.2.1; omega)
 rw [if_neg h2]
 by_cases h3:r.Num < -1152921504606846976
 · rw [if_pos h3]; exact no (fun h=>by have:=h.2.2.1; omega)
 rw [if_neg h3]
 by_cases h4:1152921504606846976 < r.Num
 · rw [if_pos h4]; exact no (fun h=>by have:=h.2.2.2.1; omega)
 rw [if_neg h4]
 rw [zd9 r.Num (by omega) (by omega),zaL,zd9 r.Den (by omega) (by omega),zaL,znm (by omega),znm (by omega),ztw _ _ (by omega) (by omega),zlG]
 have hg:Nat.gcd r.Num.natAbs r.Den.natAbs≤r.Den.natAbs:=Nat.le_of_dvd (by omega) (Nat.gcd_dvd_right _ _)
 rw [← znm (n:=Nat.gcd r.Num.natAbs r.Den.natAbs) (by omega)]
 by_cases h5:Nat.gcd r.Num.natAbs r.Den.natAbs=1
 · have hv:VR r:=⟨by omega,by omega,by omega,by omega,h5⟩
   rw [h5,decide_eq_true hv]
   rfl
 · have hb:(((Nat.gcd r.Num.natAbs r.Den.natAbs:Nat):Int) == 1)=false:=beq_false_of_ne (by omega)
   show some (B ((0:Int) == 0 && (((Nat.gcd r.Num.natAbs r.Den.natAbs:Nat):Int) == 1 && true)),[])=_
   rw [hb]
   exact no (fun h=>h5 h.2.2.2.2)
end Go.Proofs.YtbhkcgaanaelfaaGreat
namespace Go.Proofs.YtbhkcgaanaelfaaGreat
open Go.Ab Go.PureDiv
set_option linter.unusedSimpArgs false
set_option maxRecDepth 20000
def mulR (a b:GRatio):GRatio×Int:=if VR a∧VR b then redR (!decide (a.Num < 0) == decide (b.Num < 0)) (a.Num.natAbs*b.Num.natAbs) (a.Den.natAbs*b.Den.natAbs) else (⟨0,0⟩,1)
theorem le120 {x y:Nat} (hx:x≤1152921504606846976) (hy:y≤1152921504606846976):x*y≤1329227995784915872903807060280344576:=Nat.mul_le_mul hx hy
theorem c_rMulG (a b:GRatio):cw zl5 [.agg (zaa a),.agg (zaa b)] []=some (zlU (mulR a b)):=by
 refine zyQ _ _ ?_
 unfold mulR
 rw [zeO,zaP]
 by_cases ha:VR a
 · rw [decide_eq_true ha,Bool.not_true,zax,zeO,zaP]
   by_cases hb:VR b
   · have ha2:=ha
     have hb2:=hb
     obtain ⟨p1,p2,p3,p4,_⟩:=ha2
     obtain ⟨r1,r2,r3,r4,_⟩:=hb2
     have m1:=le120 (x:=a.Num.natAbs) (y:=b.Num.natAbs) (by omega) (by omega)
     have m2:=le120 (x:=a.Den.natAbs) (y:=b.Den.natAbs) (by omega) (by omega)
     have m3:0 < a.Den.natAbs*b.Den.natAbs:=Nat.mul_pos (by omega) (by omega)
     rw [decide_eq_true hb,Bool.not_true,zax,if_pos ⟨ha,hb⟩,zd9 a.Num (by omega) (by omega),zaL,zd9 b.Num (by omega) (by omega),zaL,zfT _ _ (by omega) (by omega),zcp,zd9 a.Den (by omega) (by omega),zaL,zd9 b.Den (by omega) (by omega),zaL,zfT _ _ (by omega) (by omega),zcp,znZ _ _ _ m3 (by omega) (by omega),zgT]
     rfl
   · rw [decide_eq_false hb,Bool.not_false,zaC,if_neg (fun h=>hb h.2)]
     rfl
 · rw [decide_eq_false ha,Bool.not_false,zaC,if_neg (fun h=>ha h.1)]
   rfl
end Go.Proofs.YtbhkcgaanaelfaaGreat
namespace Go.Pure
theorem zvn (a b:Rat) (g:Nat) (hg:g=a.den.gcd b.den) (s:Int) (hs:s=a.num*((b.den / g:Nat):Int)+b.num*((a.den / g:Nat):Int)) (c:Nat) (hc:c=s.natAbs.gcd g) :
  (a+b).num=s / (c:Int)∧(a+b).den=(a.den / g)*(b.den / c):=by
 have hcg:c ∣ g:=hc▸Nat.gcd_dvd_right _ _
 have hgb:g ∣ b.den:=hg▸Nat.gcd_dvd_right _ _
 show (Rat.add a b).num=_∧(Rat.add a b).den=_
 delta Rat.add
 dsimp only
 split
 · rename_i h1
   have hg1:g=1:=by rw [hg]; exact h1
   have hc1:c=1:=by rw [hg1] at hcg; exact Nat.dvd_one.1 hcg
   subst hc1
   rw [hs,hg1]
   simp
 · simp only [Rat.maybeNormalize_eq,Int.divExact_eq_ediv,← hg,← hs,← hc]
   exact ⟨trivial,Nat.mul_div_assoc _ (Nat.dvd_trans hcg hgb)⟩
theorem zvr (a b:Rat):(a*b).num=a.num.tdiv (a.num.natAbs.gcd b.den:Nat)*b.num.tdiv (b.num.natAbs.gcd a.den:Nat) ∧
  (a*b).den=(a.den / b.num.natAbs.gcd a.den)*(b.den / a.num.natAbs.gcd b.den):=by
 show (Rat.mul a b).num=_∧(Rat.mul a b).den=_
 delta Rat.mul
 simp only [Int.divExact_eq_tdiv,Nat.divExact_eq_div]
 trivial
def Bd (n d:Nat) (r:Rat):Prop:=r.num.natAbs≤2 ^ n∧r.den≤2 ^ d
theorem Bd.mono {n d n' d':Nat} {r:Rat} (h:Bd n d r) (h1:n≤n') (h2:d≤d'):Bd n' d' r:=
 ⟨Nat.le_trans h.1 (Nat.pow_le_pow_right (by omega) h1),Nat.le_trans h.2 (Nat.pow_le_pow_right (by omega) h2)⟩
theorem zlk {x y n m N:Nat} (hx:x≤2 ^ n) (hy:y≤2 ^ m) (h:n+m≤N):x*y≤2 ^ N:=
 Nat.le_trans (Nat.mul_le_mul hx hy) (by rw [← Nat.pow_add]; exact Nat.pow_le_pow_right (by omega) h)
theorem zjK (s:Int) (c:Nat):(s / (c:Int)).natAbs≤s.natAbs:=by
 by_cases h:c=0
 · subst h; simp
 · have:=Int.natAbs_ediv_le_natAbs s c
   exact this
theorem sum_le (a b:Rat) {n d n' d' N:Nat} (ha:Bd n d a) (hb:Bd n' d' b) (h1:n+d'+1≤N) (h2:n'+d+1≤N) (g:Nat) :
  a.num.natAbs*(b.den / g)≤2 ^ (N - 1)∧b.num.natAbs*(a.den / g)≤2 ^ (N - 1)∧(a.num*((b.den / g:Nat):Int)+b.num*((a.den / g:Nat):Int)).natAbs≤2 ^ N:=by
 have e1:a.num.natAbs*(b.den / g)≤2 ^ (N - 1):=zlk ha.1 (Nat.le_trans (Nat.div_le_self _ _) hb.2) (by omega)
 have e2:b.num.natAbs*(a.den / g)≤2 ^ (N - 1):=zlk hb.1 (Nat.le_trans (Nat.div_le_self _ _) ha.2) (by omega)
 refine ⟨e1,e2,?_⟩
 have e3:=Int.natAbs_add_le (a.num*((b.den / g:Nat):Int)) (b.num*((a.den / g:Nat):Int))
 rw [Int.natAbs_mul,Int.natAbs_mul,Int.natAbs_natCast,Int.natAbs_natCast] at e3
 have e4:2 ^ N=2 ^ (N - 1)+2 ^ (N - 1):=by
  have:N=(N - 1)+1:=by omega
  conv=>lhs; rw [this,Nat.pow_succ]
  omega
 omega
theorem Bd.add {a b:Rat} {n d n' d' N D:Nat} (ha:Bd n d a) (hb:Bd n' d' b) (h1:n+d'+1≤N) (h2:n'+d+1≤N) (h3:d+d'≤D):Bd N D (a+b):=by
 obtain ⟨e1,e2⟩:=zvn a b _ rfl _ rfl _ rfl
 refine ⟨?_,?_⟩
 · rw [e1]
   exact Nat.le_trans (zjK _ _) (sum_le a b ha hb h1 h2 _).2.2
 · rw [e2]
   exact zlk (Nat.le_trans (Nat.div_le_self _ _) ha.2) (Nat.le_trans (Nat.div_le_self _ _) hb.2) h3
theorem Bd.neg {a:Rat} {n d:Nat} (h:Bd n d a):Bd n d (-a):=⟨by show (-a.num).natAbs≤_; rw [Int.natAbs_neg]; exact h.1,h.2⟩
theorem Bd.sub {a b:Rat} {n d n' d' N D:Nat} (ha:Bd n d a) (hb:Bd n' d' b) (h1:n+d'+1≤N) (h2:n'+d+1≤N) (h3:d+d'≤D):Bd N D (a - b):=by
 rw [Rat.sub_eq_add_neg]; exact ha.add hb.neg h1 h2 h3
theorem Bd.mul {a b:Rat} {n d n' d' N D:Nat} (ha:Bd n d a) (hb:Bd n' d' b) (h1:n+n'≤N) (h3:d+d'≤D):Bd N D (a*b):=by
 obtain ⟨e1,e2⟩:=zvr a b
 refine ⟨?_,?_⟩
 · rw [e1,Int.natAbs_mul,Int.natAbs_tdiv,Int.natAbs_tdiv]
   exact zlk (Nat.le_trans (Nat.div_le_self _ _) ha.1) (Nat.le_trans (Nat.div_le_self _ _) hb.1) h1
 · rw [e2]
   exact zlk (Nat.le_trans (Nat.div_le_self _ _) ha.2) (Nat.le_trans (Nat.div_le_self _ _) hb.2) h3
theorem Bd.inv {a:Rat} {n d:Nat} (h:Bd n d a):Bd d n a⁻¹:=by
 refine ⟨?_,?_⟩
 · rw [Rat.num_inv,Int.natAbs_mul,Int.natAbs_natCast]
   have h1:a.num.sign.natAbs≤1:=by
    rw [Int.natAbs_sign]
    split <;> omega
   exact Nat.le_trans (Nat.mul_le_mul h1 h.2) (by omega)
 · rw [Rat.den_inv]
   split
   · exact Nat.one_le_two_pow
   · exact h.1
end Go.Pure
namespace Go.Proofs.YtbhkcgaanaelfaaGreat
open Go.Ab Go.Pure
theorem brn_nt {β:Type} (x y:Option β):brn (!true) x y=y:=rfl
theorem brn_nf {β:Type} (x y:Option β):brn (!false) x y=x:=rfl
theorem brn_T {β:Type} (x y:Option β):brn true x y=x:=rfl
theorem brn_F {β:Type} (x y:Option β):brn false x y=y:=rfl
def ofR (r:Rat):GRatio:=⟨r.num,(r.den:Int)⟩
theorem ofR_inj {a b:Rat} (h:ofR a=ofR b):a=b:=by
 have h1:a.num=b.num:=congrArg GRatio.Num h
 have h2:(a.den:Int)=b.den:=congrArg GRatio.Den h
 exact Rat.ext h1 (by omega)
theorem oN (r:Rat):(ofR r).Num=r.num:=rfl
theorem oD (r:Rat):(ofR r).Den=(r.den:Int):=rfl
theorem eqR (a b:Rat):((ofR a).Num == (ofR b).Num && ((ofR a).Den == (ofR b).Den && true))=decide (a=b):=by
 by_cases h:a=b
 · subst h; simp
 · rw [decide_eq_false h]
   by_cases h1:a.num=b.num
   · have h2:¬ ((a.den:Int)=b.den):=fun h2=>h (Rat.ext h1 (by omega))
     rw [oN,oN,oD,oD,beq_false_of_ne h2]
     simp
   · rw [oN,oN,show (a.num == b.num)=false by simpa using h1]; rfl
noncomputable abbrev aR (r:Rat):AV:=.agg (zaa (ofR r))
theorem p60 {n:Nat} (h:n≤60):(2:Nat) ^ n≤1152921504606846976:=Nat.le_trans (Nat.pow_le_pow_right (by omega) h) (by decide)
theorem ziz (r:Rat) {n d:Nat} (h:Bd n d r) (hn:n≤60) (hd:d≤60):cw zbi [aR r] []=some (zbc.enc true):=by
 have h1:=Nat.le_trans h.1 (p60 hn)
 have h2:=Nat.le_trans h.2 (p60 hd)
 have h3:=r.den_pos
 have eN:(ofR r).Num=r.num:=rfl
 have eD:(ofR r).Den=(r.den:Int):=rfl
 refine zqf _ ?_
 rw [eN,eD,zag,if_neg (by omega),zag,if_neg (by omega),zag,if_neg (by omega),zag,if_neg (by omega),zau (zg2 r.num (by omega) (by omega)),wuN (by omega),zau (c_gcd _ _)]
 have:Nat.gcd r.num.natAbs r.den=1:=r.reduced
 rw [this]
 rfl
theorem tdivN (a b:Nat):(a:Int).tdiv (b:Int)=((a / b:Nat):Int):=rfl
theorem zfK (s:Bool) (n:Nat):(sgn s n).natAbs=n:=by cases s <;> simp [sgn]
theorem sgn_of (n:Int):n=sgn (decide (n < 0)) n.natAbs:=by
 by_cases h:n < 0
 · rw [decide_eq_true h]; simp only [sgn,if_true]; omega
 · rw [decide_eq_false h]; simp only [sgn,Bool.false_eq_true,if_false]; omega
theorem zkX (s:Bool) (n m:Nat):sgn s (n*m)=sgn s n*m:=by cases s <;> simp [sgn,Int.neg_mul]
theorem sgn_div (s:Bool) (n c:Nat) (h:c ∣ n):sgn s (n / c)=sgn s n / (c:Int):=by
 cases s
 · simp [sgn]
 · simp only [sgn,if_true]
   rw [Int.neg_ediv_of_dvd (Int.natCast_dvd_natCast.2 h)]
   rfl
theorem tdiv_sgn (s:Bool) (n c:Nat):(sgn s n).tdiv (c:Int)=sgn s (n / c):=by
 cases s
 · rfl
 · simp only [sgn,if_true]
   rw [Int.neg_tdiv]; rfl
theorem c_Compare (a b:Rat) {n d n' d':Nat} (ha:Bd n d a) (hb:Bd n' d' b) (h1:n≤60) (h2:d≤60) (h3:n'≤60) (h4:d'≤60) :
  cw zad [aR a,aR b] []=some (zaz.enc (cmpZ (a.num*b.den) (b.num*a.den))):=by
 have ha1:=Nat.le_trans ha.1 (p60 h1)
 have ha2:=Nat.le_trans ha.2 (p60 h2)
 have hb1:=Nat.le_trans hb.1 (p60 h3)
 have hb2:=Nat.le_trans hb.2 (p60 h4)
 have pa:=a.den_pos
 have pb:=b.den_pos
 refine ztf _ _ ?_
 rw [zau (ziz a ha (by omega) (by omega)),brn_nt,zau (ziz b hb (by omega) (by omega)),brn_nt,oN,oN,oD,oD,wuN (by omega),wuN (by omega),
  zau (ziO a.num b.den (by omega) (by omega) (by omega)),zau (ziO b.num a.den (by omega) (by omega) (by omega))]
 have e1:a.num*(b.den:Int)=sgn (decide (a.num < 0)) (a.num.natAbs*b.den):=by rw [zkX,← sgn_of]
 have e2:b.num*(a.den:Int)=sgn (decide (b.num < 0)) (b.num.natAbs*a.den):=by rw [zkX,← sgn_of]
 have n1:a.num < 0→0 < a.num.natAbs*b.den:=fun h=>Nat.mul_pos (by omega) pb
 have n2:b.num < 0→0 < b.num.natAbs*a.den:=fun h=>Nat.mul_pos (by omega) pa
 rw [e1,e2]
 generalize a.num.natAbs*b.den=A at *
 generalize b.num.natAbs*a.den=B at *
 by_cases q1:a.num < 0
 · have n1:=n1 q1
   rw [decide_eq_true q1,brn_T]
   by_cases q2:b.num < 0
   · have n2:=n2 q2
     rw [decide_eq_true q2,brn_T,zau (zmU B A)]
     have:cmpZ (B:Int) A=cmpZ (sgn true A) (sgn true B):=by
      simp only [cmpZ,sgn,if_true]
      split <;> split <;> first | rfl | omega | (split <;> first | rfl | omega)
     rw [this]
     rfl
   · rw [decide_eq_false q2,brn_F,brn_T]
     have:cmpZ (sgn true A) (sgn false B)=-1:=zlN (by simp only [sgn,if_true,Bool.false_eq_true,if_false]; omega)
     rw [this]
     rfl
 · rw [decide_eq_false q1,brn_F,brn_F]
   by_cases q2:b.num < 0
   · have n2:=n2 q2
     rw [decide_eq_true q2,brn_T]
     have:cmpZ (sgn false A) (sgn true B)=1:=zm6 (by simp only [sgn,if_true,Bool.false_eq_true,if_false]; omega)
     rw [this]
     rfl
   · rw [decide_eq_false q2,brn_F,zau (zmU A B)]
     rfl
theorem zxU {a b:Int}:(cmpZ a b == -1)=decide (a < b):=by
 unfold cmpZ
 split
 · rename_i h; rw [decide_eq_true h]; rfl
 · rename_i h; rw [decide_eq_false h]; split <;> rfl
theorem cmpZ_le {a b:Int}:cmpZ a b≤0↔a≤b:=by
 unfold cmpZ
 split
 · omega
 · split <;> omega
theorem cmpR_le (a b:Rat):cmpZ (a.num*b.den) (b.num*a.den)≤0↔a≤b:=by
 rw [cmpZ_le,Rat.le_iff]
end Go.Proofs.YtbhkcgaanaelfaaGreat
namespace Go.Pure
abbrev Pt:=Rat×Rat
def sl (p q:Pt):Rat:=(q.2 - p.2) / (q.1 - p.1)
def ln (p:Pt) (s x:Rat):Rat:=p.2+(x - p.1)*s
def cv:List Pt→Rat→Rat
 | p :: q :: r,x=>if r=[]∨x≤q.1 then ln p (sl p q) x else cv (q :: r) x
 | _,_=>0
def Asc (l:List Pt):Prop:=l.Pairwise fun p q=>p.1 < q.1∧p.2 < q.2
def Fn:Pt→Rat→List (Pt×Rat)→Rat→Rat
 | a,s,[],x=>ln a s x
 | a,s,(b,t) :: r,x=>if x≤b.1 then ln a s x else Fn b t r x
def On:Pt→Rat→List (Pt×Rat)→Prop
 | _,_,[]=>True
 | a,s,(b,t) :: r=>a.1 < b.1∧b.2=ln a s b.1∧On b t r
def lastB:Pt→Rat→List (Pt×Rat)→Pt×Rat
 | a,s,[]=>(a,s)
 | _,_,(b,t) :: r=>lastB b t r
def End (a:Pt) (s:Rat) (L:List (Pt×Rat)) (z:Pt):Prop:=(lastB a s L).1.1 < z.1∧z.2=ln (lastB a s L).1 (lastB a s L).2 z.1
theorem sl_on {a z:Pt} {s:Rat} (h:a.1 < z.1) (h2:z.2=ln a s z.1):sl a z=s:=by
 unfold sl; rw [h2]; unfold ln
 have:z.1 - a.1≠0:=by grind
 grind
theorem ln_at (a:Pt) (s:Rat):ln a s a.1=a.2:=by unfold ln; grind
theorem ziq {a b:Pt} {s:Rat} (h:b.2=ln a s b.1) (x:Rat):ln b s x=ln a s x:=by
 unfold ln at *; rw [h]; grind
theorem ln_sl {a b:Pt} (h:a.1 < b.1):b.2=ln a (sl a b) b.1:=by
 unfold ln sl
 have:b.1 - a.1≠0:=by grind
 grind
theorem ev_Fn:∀ (L:List (Pt×Rat)) (a:Pt) (s:Rat) (z:Pt),On a s L→End a s L z→∀ x,cv (a :: (L.map (·.1)++[z])) x=Fn a s L x
 | [],a,s,z,_,he,x=>by
   show cv [a,z] x=ln a s x
   unfold cv
   rw [if_pos (.inl rfl),sl_on (a:=a) (z:=z) (s:=s) he.1 he.2]
 | (b,t) :: r,a,s,z,ho,he,x=>by
   show cv (a :: b :: (r.map (·.1)++[z])) x=_
   unfold cv Fn
   have hne:(r.map (·.1)++[z])≠[]:=by simp
   rw [sl_on ho.1 ho.2.1,ev_Fn r b t z ho.2.2 he x]
   simp only [hne,false_or]
def sg:List Pt→List (Pt×Rat)
 | q :: s :: r=>(q,sl q s) :: sg (s :: r)
 | _=>[]
theorem sg_map:∀ (r:List Pt) (q:Pt),(sg (q :: r)).map (·.1)++[(q :: r).getLast (by simp)]=q :: r
 | [],q=>rfl
 | s :: r,q=>by
   have ih:=sg_map r s
   show q :: ((sg (s :: r)).map (·.1)++[(q :: s :: r).getLast (by simp)])=_
   rw [List.getLast_cons (by simp),ih]
theorem sg_on:∀ (r:List Pt) (q p:Pt),Asc (p :: q :: r)→On p (sl p q) (sg (q :: r))∧End p (sl p q) (sg (q :: r)) ((q :: r).getLast (by simp))
 | [],q,p,h=>by
   have h1:p.1 < q.1:=by have:=(List.pairwise_cons.1 h).1 q (by simp); exact this.1
   exact ⟨trivial,h1,ln_sl h1⟩
 | s :: r,q,p,h=>by
   have h':=List.pairwise_cons.1 h
   have h1:p.1 < q.1:=(h'.1 q (by simp)).1
   obtain ⟨i1,i2⟩:=sg_on r s q h'.2
   refine ⟨⟨h1,ln_sl h1,i1⟩,?_⟩
   rw [List.getLast_cons (by simp)]
   exact i2
theorem ev_sg (p q:Pt) (r:List Pt) (h:Asc (p :: q :: r)) (x:Rat):cv (p :: q :: r) x=Fn p (sl p q) (sg (q :: r)) x:=by
 obtain ⟨h1,h2⟩:=sg_on r q p h
 have:=ev_Fn _ _ _ _ h1 h2 x
 rwa [sg_map] at this
def Up (s:Rat) (L:List (Pt×Rat)):Prop:=0 < s∧∀ b∈L,0 < b.2
theorem sl_pos {p q:Pt} (h1:p.1 < q.1) (h2:p.2 < q.2):0 < sl p q:=by
 unfold sl
 rw [Rat.div_def]
 exact Rat.mul_pos (by grind) (Rat.inv_pos.2 (by grind))
theorem sg_up:∀ (r:List Pt) (q:Pt),Asc (q :: r)→∀ b∈sg (q :: r),0 < b.2
 | [],_,_,b,hb=>by cases hb
 | s :: r,q,h,b,hb=>by
   have h':=List.pairwise_cons.1 h
   rcases List.mem_cons.1 hb with hb | hb
   · rw [hb]; exact sl_pos (h'.1 s (by simp)).1 (h'.1 s (by simp)).2
   · exact sg_up r s h'.2 b hb
theorem up_sg (p q:Pt) (r:List Pt) (h:Asc (p :: q :: r)):Up (sl p q) (sg (q :: r)):=by
 have h':=List.pairwise_cons.1 h
 exact ⟨sl_pos (h'.1 q (by simp)).1 (h'.1 q (by simp)).2,sg_up r q h'.2⟩
theorem zm4 {a:Pt} {s x y:Rat} (hs:0 < s) (h:x < y):ln a s x < ln a s y:=by
 unfold ln
 have:0 < (y - x)*s:=Rat.mul_pos (by grind) hs
 grind
theorem Fn_at:∀ (L:List (Pt×Rat)) (a:Pt) (s:Rat),On a s L→Fn a s L a.1=a.2
 | [],a,s,_=>ln_at a s
 | (b,t) :: r,a,s,h=>by
   unfold Fn
   rw [if_pos (by have:=h.1; grind),ln_at]
theorem Fn_mono:∀ (L:List (Pt×Rat)) (a:Pt) (s:Rat),On a s L→Up s L→∀ {x y:Rat},x < y→Fn a s L x < Fn a s L y
 | [],a,s,_,hu,x,y,h=>zm4 hu.1 h
 | (b,t) :: r,a,s,ho,hu,x,y,h=>by
   have hu':Up t r:=⟨hu.2 (b,t) (by simp),fun c hc=>hu.2 c (by simp [hc])⟩
   unfold Fn
   by_cases hy:y≤b.1
   · rw [if_pos hy,if_pos (by grind)]; exact zm4 hu.1 h
   · rw [if_neg hy]
     by_cases hx:x≤b.1
     · rw [if_pos hx]
       have h1:=Fn_mono r b t ho.2.2 hu' (x:=b.1) (y:=y) (by grind)
       rw [Fn_at r b t ho.2.2,ho.2.1] at h1
       by_cases he:x=b.1
       · rw [he]; exact h1
       · have:=zm4 (a:=a) hu.1 (show x < b.1 by grind)
         grind
     · rw [if_neg hx]; exact Fn_mono r b t ho.2.2 hu' h
theorem ztL:∀ (L:List (Pt×Rat)) (a:Pt) (s:Rat),On a s L→∀ b∈L,Fn a s L b.1.1=b.1.2
 | [],_,_,_,_,hb=>by cases hb
 | (b,t) :: r,a,s,h,c,hc=>by
   unfold Fn
   rcases List.mem_cons.1 hc with hc | hc
   · rw [hc,if_pos (by grind)]; exact h.2.1.symm
   · have:∀ (r:List (Pt×Rat)) (b:Pt) (t:Rat),On b t r→∀ c∈r,b.1 < c.1.1:=by
      intro r
      induction r with
      | nil=>intro b t _ c hc; cases hc
      | cons d r ih =>
        intro b t h c hc
        obtain ⟨d,u⟩:=d
        rcases List.mem_cons.1 hc with hc | hc
        · rw [hc]; exact h.1
        · have:=ih d u h.2.2 c hc; have:=h.1; grind
     have h1:=this r b t h.2.2 c hc
     rw [if_neg (by grind)]
     exact ztL r b t h.2.2 c hc
theorem Fn_end:∀ (L:List (Pt×Rat)) (a:Pt) (s:Rat) (z:Pt),On a s L→End a s L z→a.1 < z.1∧Fn a s L z.1=z.2
 | [],a,s,z,_,he=>⟨he.1,he.2.symm⟩
 | (b,t) :: r,a,s,z,ho,he=>by
   obtain ⟨h1,h2⟩:=Fn_end r b t z ho.2.2 he
   have:=ho.1
   refine ⟨by grind,?_⟩
   unfold Fn
   rw [if_neg (by grind)]
   exact h2
theorem zd7 {l:List Pt} (h:Asc l) (hl:2≤l.length) {x y:Rat} (hxy:x < y):cv l x < cv l y:=by
 match l,hl with
 | p :: q :: r,_ =>
   rw [ev_sg p q r h,ev_sg p q r h]
   exact Fn_mono _ _ _ (sg_on r q p h).1 (up_sg p q r h) hxy
theorem ev_lt {l:List Pt} (h:Asc l) (hl:2≤l.length) {x y:Rat}:cv l x < cv l y↔x < y:=by
 refine ⟨fun h1=>?_,zd7 h hl⟩
 apply Decidable.byContradiction
 intro hc
 by_cases he:x=y
 · rw [he] at h1; grind
 · have:=zd7 h hl (show y < x by grind); grind
theorem zjI {l:List Pt} (h:Asc l) (hl:2≤l.length):∀ p∈l,cv l p.1=p.2:=by
 match l,hl with
 | p :: q :: r,_ =>
   obtain ⟨h1,h2⟩:=sg_on r q p h
   intro b hb
   rw [ev_sg p q r h]
   rcases List.mem_cons.1 hb with hb | hb
   · rw [hb]; exact Fn_at _ _ _ h1
   · rw [← sg_map r q] at hb
     rcases List.mem_append.1 hb with hb | hb
     · obtain ⟨c,hc,e⟩:=List.mem_map.1 hb
       rw [← e]; exact ztL _ _ _ h1 c hc
     · rw [List.mem_singleton.1 hb]; exact (Fn_end _ _ _ _ h1 h2).2
theorem ev_at:∀ (l:List Pt) (i:Nat) (x:Rat) (p q:Pt),Asc l→l[i]?=some p→l[i+1]?=some q→(i=0∨p.1 < x)→(i+2=l.length∨x≤q.1)→cv l x=ln p (sl p q) x
 | [],_,_,_,_,_,hp,_,_,_=>by simp at hp
 | [_],_,_,_,_,_,_,hq,_,_=>by simp at hq
 | a :: b :: r,0,x,p,q,ha,hp,hq,h1,h2=>by
   simp only [List.getElem?_cons_zero,Option.some.injEq] at hp
   simp only [List.getElem?_cons_succ,List.getElem?_cons_zero,Option.some.injEq] at hq
   subst hp; subst hq
   unfold cv
   rw [if_pos]
   rcases h2 with h2 | h2
   · left; simp at h2; exact h2
   · exact .inr h2
 | a :: b :: r,i+1,x,p,q,ha,hp,hq,h1,h2=>by
   have hp':(b :: r)[i]?=some p:=by simpa using hp
   have hq':(b :: r)[i+1]?=some q:=by simpa using hq
   have ha':=(List.pairwise_cons.1 ha).2
   have hlen:i+1 < (b :: r).length:=(List.getElem?_eq_some_iff.1 hq').1
   have hpx:p.1 < x:=by rcases h1 with h1 | h1; · omega
                        · exact h1
   have hb:b.1 < x:=by
    have hm:p∈b :: r:=List.mem_of_getElem? hp'
    rcases List.mem_cons.1 hm with hm | hm
    · rw [← hm]; exact hpx
    · have:=((List.pairwise_cons.1 ha').1 p hm).1; grind
   have hr:r≠[]:=by intro h; subst h; simp at hlen
   unfold cv
   rw [if_neg (by rintro (h | h); exact hr h; grind)]
   refine ev_at (b :: r) i x p q ha' hp' hq' (.inr hpx) ?_
   rcases h2 with h2 | h2
   · left; simp at h2 ⊢; omega
   · exact .inr h2
def bn:List Pt→List Pt
 | p :: q :: s :: r=>if sl q s=sl p q then bn (q :: s :: r) else q :: bn (q :: s :: r)
 | _=>[]
def bs:Rat→List (Pt×Rat)→List (Pt×Rat)
 | _,[]=>[]
 | s,(b,t) :: r=>if t=s then bs s r else (b,t) :: bs t r
theorem bn_bs:∀ (r:List Pt) (q p:Pt),bn (p :: q :: r)=(bs (sl p q) (sg (q :: r))).map (·.1)
 | [],_,_=>rfl
 | s :: r,q,p=>by
   have ih:=bn_bs r s q
   unfold bn sg bs
   by_cases h:sl q s=sl p q
   · rw [if_pos h,if_pos h,ih,h]
   · rw [if_neg h,if_neg h,ih]; rfl
theorem Fn_move:∀ (L:List (Pt×Rat)) (a b:Pt) (s:Rat),b.2=ln a s b.1→∀ x,Fn b s L x=Fn a s L x
 | [],a,b,s,h,x=>ziq h x
 | (c,t) :: r,a,b,s,h,x=>by unfold Fn; rw [ziq h x]
theorem On_move {L:List (Pt×Rat)} {a b:Pt} {s:Rat} (h:b.2=ln a s b.1) (hab:a.1 < b.1) (ho:On b s L):On a s L:=by
 cases L with
 | nil=>trivial
 | cons c r =>
   obtain ⟨c,t⟩:=c
   refine ⟨by have:=ho.1; grind,?_,ho.2.2⟩
   rw [ho.2.1,ziq h]
theorem End_move {L:List (Pt×Rat)} {a b:Pt} {s:Rat} {z:Pt} (h:b.2=ln a s b.1) (hab:a.1 < b.1) (ho:End b s L z):End a s L z:=by
 cases L with
 | nil=>exact ⟨by have:=ho.1; show a.1 < z.1; unfold lastB at this; grind,by have:=ho.2; unfold lastB at this ⊢; rw [this]; exact ziq h _⟩
 | cons c r=>exact ho
theorem bs_ok:∀ (L:List (Pt×Rat)) (a:Pt) (s:Rat),On a s L→On a s (bs s L)∧(∀ x,Fn a s (bs s L) x=Fn a s L x)∧(∀ z,End a s L z→End a s (bs s L) z)
 | [],_,_,_=>⟨trivial,fun _=>rfl,fun _ h=>h⟩
 | (b,t) :: r,a,s,ho=>by
   obtain ⟨h1,h2,h3⟩:=ho
   obtain ⟨i1,i2,i3⟩:=bs_ok r b t h3
   unfold bs
   by_cases h:t=s
   · subst h
     rw [if_pos rfl]
     refine ⟨On_move h2 h1 i1,fun x=>?_,fun z hz=>End_move h2 h1 (i3 z hz)⟩
     rw [← Fn_move _ a b t h2,i2]
     conv=>rhs; unfold Fn
     split
     · rename_i hx
       cases r with
       | nil=>exact ziq h2 x
       | cons c r =>
         obtain ⟨c,u⟩:=c
         unfold Fn
         rw [if_pos (by have:=h3.1; grind),ziq h2]
     · rfl
   · rw [if_neg h]
     refine ⟨⟨h1,h2,i1⟩,fun x=>?_,fun z hz=>i3 z hz⟩
     unfold Fn
     rw [i2]
def Bent:Rat→List (Pt×Rat)→Prop
 | _,[]=>True
 | s,(_,t) :: r=>t≠s∧Bent t r
theorem bs_bent:∀ (L:List (Pt×Rat)) (s:Rat),Bent s (bs s L)
 | [],_=>trivial
 | (b,t) :: r,s=>by
   unfold bs
   by_cases h:t=s
   · rw [if_pos h]; exact bs_bent r s
   · rw [if_neg h]; exact ⟨h,bs_bent r t⟩
def lf (l:List Pt):Rat:=match l with | []=>0 | a :: _=>a.1 - 1
def rt (l:List Pt):Rat:=match l with | []=>1 | a :: r=>((a :: r).getLast (by simp)).1+1
def nf (l:List Pt):List Pt:=(lf (bn l),cv l (lf (bn l))) :: (bn l++[(rt (bn l),cv l (rt (bn l)))])
theorem zkv:∀ (L:List (Pt×Rat)) (a:Pt) (s:Rat) (b:Pt×Rat),(lastB a s (b :: L)).1=((b :: L).map (·.1)).getLast (by simp)
 | [],_,_,_=>rfl
 | c :: L,a,s,b=>by
   have:=zkv L b.1 b.2 c
   simp only [List.map_cons] at this ⊢
   rw [List.getLast_cons (by simp)]
   exact this
theorem Fn_last:∀ (L:List (Pt×Rat)) (a:Pt) (s:Rat),On a s L→∀ x,(lastB a s L).1.1 < x→Fn a s L x=ln (lastB a s L).1 (lastB a s L).2 x
 | [],_,_,_,_,_=>rfl
 | (b,t) :: r,a,s,ho,x,hx=>by
   have h2:∀ (r:List (Pt×Rat)) (b:Pt) (t:Rat),On b t r→b.1≤(lastB b t r).1.1:=by
    intro r
    induction r with
    | nil=>intro b t _; exact Rat.le_refl
    | cons c r ih=>intro b t h; obtain ⟨c,u⟩:=c; have:=ih c u h.2.2; have:=h.1; show b.1≤(lastB c u r).1.1; grind
   have h3:=h2 r b t ho.2.2
   have hx':(lastB b t r).1.1 < x:=hx
   unfold Fn
   rw [if_neg (by grind)]
   exact Fn_last r b t ho.2.2 x hx
theorem lt1 (x:Rat):x < x+1:=by grind
theorem nf_form {l:List Pt} (h:Asc l) (hl:2≤l.length):∃ (a:Pt) (s:Rat) (L:List (Pt×Rat)) (z:Pt),nf l=a :: (L.map (·.1)++[z])∧bn l=L.map (·.1)∧On a s L∧End a s L z∧Bent s L∧∀ x,Fn a s L x=cv l x:=by
 match l,hl with
 | p :: q :: r,_ =>
   obtain ⟨h1,h2⟩:=sg_on r q p h
   obtain ⟨i1,i2,i3⟩:=bs_ok _ _ _ h1
   have hb:=bs_bent (sg (q :: r)) (sl p q)
   have he:=bn_bs r q p
   have hev:∀ x,cv (p :: q :: r) x=Fn p (sl p q) (bs (sl p q) (sg (q :: r))) x:=fun x=>by rw [ev_sg p q r h,i2]
   unfold nf
   rw [he]
   generalize bs (sl p q) (sg (q :: r))=L at *
   generalize sl p q=s at *
   cases L with
   | nil =>
     have e0:cv (p :: q :: r) 0=ln p s 0:=hev 0
     have e1:cv (p :: q :: r) 1=ln p s 1:=hev 1
     refine ⟨(0,cv (p :: q :: r) 0),s,[],(1,cv (p :: q :: r) 1),rfl,rfl,trivial,⟨by show (0:Rat) < 1; decide,?_⟩,trivial,fun x=>?_⟩
     · show cv (p :: q :: r) 1=ln (0,cv (p :: q :: r) 0) s 1
       rw [e1]; exact (ziq e0 1).symm
     · exact (Fn_move [] p (0,cv (p :: q :: r) 0) s e0 x).trans (hev x).symm
   | cons b L =>
     obtain ⟨b,t⟩:=b
     have e0:cv (p :: q :: r) (b.1 - 1)=ln p s (b.1 - 1):=by rw [hev]; unfold Fn; rw [if_pos (by grind)]
     refine ⟨(b.1 - 1,cv (p :: q :: r) (b.1 - 1)),s,(b,t) :: L,(_,_),rfl,rfl,⟨by show b.1 - 1 < b.1; grind,?_,i1.2.2⟩,?_,hb,fun x=>?_⟩
     · rw [i1.2.1]; exact (ziq (a:=p) (b:=(b.1 - 1,cv (p :: q :: r) (b.1 - 1))) e0 b.1).symm
     · have hg:=zkv L p s (b,t)
       have hlt:(lastB p s ((b,t) :: L)).1.1 < rt (((b,t) :: L).map (·.1)):=by
        rw [hg]
        exact lt1 _
       refine ⟨hlt,?_⟩
       show cv (p :: q :: r) _=_
       rw [hev]
       exact Fn_last _ _ _ i1 _ hlt
     · exact (Fn_move ((b,t) :: L) p (b.1 - 1,cv (p :: q :: r) (b.1 - 1)) s e0 x).trans (hev x).symm
theorem nf_len {l:List Pt}:2≤(nf l).length:=by unfold nf; simp
theorem ev_nf {l:List Pt} (h:Asc l) (hl:2≤l.length) (x:Rat):cv (nf l) x=cv l x:=by
 obtain ⟨a,s,L,z,h1,h2,h3,h4,h5,h6⟩:=nf_form h hl
 rw [h1,ev_Fn L a s z h3 h4,h6]
theorem bn_sub:∀ (l:List Pt),(bn l).Sublist l
 | []=>List.Sublist.refl _
 | [_]=>List.nil_sublist _
 | [_,_]=>List.nil_sublist _
 | p :: q :: s :: r=>by
   have ih:=bn_sub (q :: s :: r)
   have it:=bn_tl (q :: s :: r)
   unfold bn
   split
   · exact List.Sublist.cons _ ih
   · exact List.Sublist.cons _ (List.Sublist.cons_cons _ it)
where
 bn_tl:∀ (l:List Pt),(bn l).Sublist l.tail
 | []=>List.Sublist.refl _
 | [_]=>List.nil_sublist _
 | [_,_]=>List.nil_sublist _
 | p :: q :: s :: r=>by
   have it:=bn_tl (q :: s :: r)
   unfold bn
   show List.Sublist _ (q :: s :: r)
   split
   · exact List.Sublist.cons _ it
   · exact List.Sublist.cons_cons _ it
theorem zul {l:List Pt} (h:Asc l) (hne:l≠[]):∀ p∈l,p.1≤(l.getLast hne).1:=by
 induction l with
 | nil=>exact absurd rfl hne
 | cons a r ih =>
   intro p hp
   cases r with
   | nil=>rw [List.mem_singleton.1 hp]; exact Rat.le_refl
   | cons b r =>
     rw [List.getLast_cons (by simp)]
     have h':=List.pairwise_cons.1 h
     rcases List.mem_cons.1 hp with hp | hp
     · have:=(h'.1 _ (List.getLast_mem (l:=b :: r) (by simp))).1
       rw [hp]; grind
     · exact ih h'.2 (by simp) p hp
theorem asc_nf {l:List Pt} (h:Asc l) (hl:2≤l.length):Asc (nf l):=by
 have hs:=bn_sub l
 have hb:Asc (bn l):=List.Pairwise.sublist hs h
 have hm:∀ p∈bn l,cv l p.1=p.2:=fun p hp=>zjI h hl p (hs.subset hp)
 unfold nf
 have hlr:lf (bn l) < rt (bn l):=by
  cases hq:bn l with
  | nil=>show (0:Rat) < 1; decide
  | cons a r =>
    rw [hq] at hb
    have:=zul hb (by simp) a (by simp)
    show a.1 - 1 < ((a :: r).getLast (by simp)).1+1
    grind
 have h1:∀ p∈bn l,lf (bn l) < p.1:=by
  cases hq:bn l with
  | nil=>intro p hp; cases hp
  | cons a r =>
    rw [hq] at hb
    intro p hp
    show a.1 - 1 < p.1
    rcases List.mem_cons.1 hp with hp | hp
    · rw [hp]; grind
    · have:=((List.pairwise_cons.1 hb).1 p hp).1; grind
 have h2:∀ p∈bn l,p.1 < rt (bn l):=by
  cases hq:bn l with
  | nil=>intro p hp; cases hp
  | cons a r =>
    rw [hq] at hb
    intro p hp
    have:=zul hb (by simp) p hp
    show p.1 < ((a :: r).getLast (by simp)).1+1
    grind
 refine List.pairwise_cons.2 ⟨fun p hp=>?_,List.pairwise_append.2 ⟨hb,List.pairwise_singleton _ _,fun p hp z hz=>?_⟩⟩
 · rcases List.mem_append.1 hp with hp | hp
   · have:=zd7 h hl (h1 p hp); rw [hm p hp] at this; exact ⟨h1 p hp,this⟩
   · rw [List.mem_singleton.1 hp]; exact ⟨hlr,zd7 h hl hlr⟩
 · rw [List.mem_singleton.1 hz]
   have:=zd7 h hl (h2 p hp); rw [hm p hp] at this; exact ⟨h2 p hp,this⟩
end Go.Pure
namespace Go.Pure
theorem seg:∀ (l:List Pt) (x:Rat),2≤l.length→∃ (i:Nat) (p q:Pt),l[i]?=some p∧l[i+1]?=some q∧(i=0∨p.1 < x)∧(i+2=l.length∨x≤q.1)
 | [],_,h=>by simp at h
 | [_],_,h=>by simp at h
 | [p,q],x,_=>⟨0,p,q,rfl,rfl,.inl rfl,.inl rfl⟩
 | p :: q :: r :: l,x,_=>by
   by_cases h:x≤q.1
   · exact ⟨0,p,q,rfl,rfl,.inl rfl,.inr h⟩
   · obtain ⟨i,a,b,h1,h2,h3,h4⟩:=seg (q :: r :: l) x (by simp)
     refine ⟨i+1,a,b,by simpa using h1,by simpa using h2,.inr ?_,?_⟩
     · rcases h3 with h3 | h3
       · subst h3; simp at h1; rw [← h1]; grind
       · exact h3
     · rcases h4 with h4 | h4
       · left; simp at h4 ⊢; omega
       · exact .inr h4
def ex (l:List Pt):List Pt:=l.map fun p=>(p.2,p.1)
theorem ex_asc {l:List Pt} (h:Asc l):Asc (ex l):=by
 unfold Asc ex
 rw [List.pairwise_map,List.pairwise_iff_getElem]
 intro i j hi hj hij
 have hpq:=List.pairwise_iff_getElem.1 h i j hi hj hij
 exact ⟨hpq.2,hpq.1⟩
theorem ex_len (l:List Pt):(ex l).length=l.length:=by simp [ex]
theorem ex_ex (l:List Pt):ex (ex l)=l:=by
 unfold ex
 rw [List.map_map]
 exact List.map_id _
theorem zew {l:List Pt} (h:Asc l) {i:Nat} {p q:Pt} (hp:l[i]?=some p) (hq:l[i+1]?=some q):p.1 < q.1∧p.2 < q.2:=by
 obtain ⟨h1,e1⟩:=List.getElem?_eq_some_iff.1 hp
 obtain ⟨h2,e2⟩:=List.getElem?_eq_some_iff.1 hq
 have:=List.pairwise_iff_getElem.1 h i (i+1) h1 h2 (by omega)
 rw [e1,e2] at this
 exact this
theorem ln_lt {a:Pt} {s x y:Rat} (hs:0 < s):ln a s x < ln a s y↔x < y:=by
 refine ⟨fun h=>?_,zm4 hs⟩
 apply Decidable.byContradiction
 intro hc
 by_cases he:x=y
 · rw [he] at h; grind
 · have:=zm4 (a:=a) hs (show y < x by grind); grind
theorem ex_back {l:List Pt} (h:Asc l) (hl:2≤l.length) (x:Rat):cv (ex l) (cv l x)=x:=by
 obtain ⟨i,p,q,hp,hq,h1,h2⟩:=seg l x hl
 have hv:=ev_at l i x p q h hp hq h1 h2
 obtain ⟨a1,a2⟩:=zew h hp hq
 have hs:=sl_pos a1 a2
 have hp':(ex l)[i]?=some (p.2,p.1):=by unfold ex; rw [List.getElem?_map,hp]; rfl
 have hq':(ex l)[i+1]?=some (q.2,q.1):=by unfold ex; rw [List.getElem?_map,hq]; rfl
 have e1:ln p (sl p q) p.1=p.2:=ln_at p _
 have e2:ln p (sl p q) q.1=q.2:=(ln_sl a1).symm
 rw [hv,ev_at (ex l) i _ (p.2,p.1) (q.2,q.1) (ex_asc h) hp' hq' (by
  rcases h1 with h1 | h1
  · exact .inl h1
  · right; dsimp only; rw [← e1]; exact zm4 hs h1) (by
  rcases h2 with h2 | h2
  · left; rw [ex_len]; exact h2
  · right; dsimp only; rw [← e2]
    apply Rat.not_lt.1
    intro hc
    have:=(ln_lt hs).1 hc
    grind)]
 unfold ln sl
 dsimp only
 have n1:q.1 - p.1≠0:=by grind
 have n2:q.2 - p.2≠0:=by grind
 grind
theorem zsG {l:List Pt} (h:Asc l) (hl:2≤l.length) (y:Rat):cv l (cv (ex l) y)=y:=by
 have:=ex_back (ex_asc h) (by rw [ex_len]; exact hl) y
 rwa [ex_ex] at this
theorem cv_two (p q:Pt) (x:Rat):cv [p,q] x=ln p (sl p q) x:=by unfold cv; rw [if_pos (.inl rfl)]
end Go.Pure
namespace Go.Pure
set_option linter.unusedVariables false
def Inner (l:List Pt) (y:Rat):Prop:=∃ (i:Nat) (p:Pt),1≤i∧i+1 < l.length∧l[i]?=some p∧p.1=y
theorem ev_at' {l:List Pt} {i:Nat} {x:Rat} {p q:Pt} (h:Asc l) (hl:2≤l.length) (hp:l[i]?=some p) (hq:l[i+1]?=some q) (h1:i=0∨p.1≤x) (h2:i+2=l.length∨x≤q.1):cv l x=ln p (sl p q) x:=by
 by_cases he:x=p.1
 · rw [he,zjI h hl p (List.mem_of_getElem? hp),ln_at]
 · refine ev_at l i x p q h hp hq ?_ h2
   rcases h1 with h1 | h1
   · exact .inl h1
   · exact .inr (by grind)
theorem flat {l:List Pt} (h:Asc l) (hl:2≤l.length) {u v:Rat} (huv:u < v) (hn:∀ y,Inner l y→¬ (u < y∧y < v)):∃ (p:Pt) (s:Rat),0 < s∧∀ x,u≤x→x≤v→cv l x=ln p s x:=by
 obtain ⟨i,p,q,hp,hq,h1,h2⟩:=seg l ((u+v) / 2) hl
 have hlen:i+1 < l.length:=(List.getElem?_eq_some_iff.1 hq).1
 obtain ⟨a1,a2⟩:=zew h hp hq
 refine ⟨p,sl p q,sl_pos a1 a2,fun x hx1 hx2=>ev_at' h hl hp hq ?_ ?_⟩
 · rcases h1 with h1 | h1
   · exact .inl h1
   · by_cases h0:i=0
     · exact .inl h0
     · right
       have:=hn p.1 ⟨i,p,by omega,hlen,hp,rfl⟩
       grind
 · by_cases hz:i+2=l.length
   · exact .inl hz
   · right
     have:=hn q.1 ⟨i+1,q,by omega,by omega,hq,rfl⟩
     rcases h2 with h2 | h2
     · exact absurd h2 hz
     · grind
theorem ln_comp (p q:Pt) (s t x:Rat):∃ r:Pt,∀ x,ln q t (ln p s x)=ln r (t*s) x:=by
 refine ⟨(p.1,ln q t p.2),fun x=>?_⟩
 unfold ln
 dsimp only
 grind
theorem two_line {r:Pt} {s a b x:Rat} (hab:a < b):ln r s x=ln (a,ln r s a) (sl (a,ln r s a) (b,ln r s b)) x:=by
 have h1:sl (a,ln r s a) (b,ln r s b)=s:=by
  unfold sl ln
  dsimp only
  have:b - a≠0:=by grind
  grind
 rw [h1]
 unfold ln
 dsimp only
 grind
theorem zqa {l:List Pt} (h:Asc l) {y:Rat} (hy:Inner l y):∃ p,l.head?=some p∧p.1 < y:=by
 obtain ⟨i,p,h1,h2,h3,h4⟩:=hy
 cases l with
 | nil=>simp at h2
 | cons a r =>
   refine ⟨a,rfl,?_⟩
   have hm:p∈r:=by
    obtain ⟨j,rfl⟩:∃ j,i=j+1:=⟨i - 1,by omega⟩
    rw [List.getElem?_cons_succ] at h3
    exact List.mem_of_getElem? h3
   have:=((List.pairwise_cons.1 h).1 p hm).1
   rw [← h4]; exact this
theorem zp6 {l:List Pt} (h:Asc l) {y:Rat} (hy:Inner l y):∃ p,p∈l∧y < p.1:=by
 obtain ⟨i,p,h1,h2,h3,h4⟩:=hy
 have hq:l[i+1]?=some l[i+1]:=List.getElem?_eq_getElem h2
 refine ⟨l[i+1],List.getElem_mem h2,?_⟩
 rw [← h4]; exact (zew h h3 hq).1
theorem zuT {l:List Pt} {y:Rat} (hy:Inner l y):∃ p∈l,p.1=y:=by
 obtain ⟨i,p,h1,h2,h3,h4⟩:=hy
 exact ⟨p,List.mem_of_getElem? h3,h4⟩
def cps (f g:List Pt) (xs:List Rat):List Pt:=xs.map fun x=>(x,cv g (cv f x))
section
variable {f g:List Pt} {xs:List Rat} (hf:Asc f) (hf2:2≤f.length) (hg:Asc g) (hg2:2≤g.length)
theorem cps_asc (hf:Asc f) (hf2:2≤f.length) (hg:Asc g) (hg2:2≤g.length) (hx:xs.Pairwise (· < ·)):Asc (cps f g xs):=by
 unfold Asc cps
 rw [List.pairwise_map,List.pairwise_iff_getElem]
 intro i j hi hj hij
 have:=List.pairwise_iff_getElem.1 hx i j hi hj hij
 exact ⟨this,zd7 hg hg2 (zd7 hf hf2 this)⟩
theorem cps_cv (hf:Asc f) (hf2:2≤f.length) (hg:Asc g) (hg2:2≤g.length) (hx:xs.Pairwise (· < ·)) (hl:2≤xs.length) (h1:∀ p∈f,p.1∈xs) (h2:∀ q∈g,cv (ex f) q.1∈xs) (x:Rat) :
  cv (cps f g xs) x=cv g (cv f x):=by
 have ha:=cps_asc hf hf2 hg hg2 hx
 have hlen:(cps f g xs).length=xs.length:=by simp [cps]
 obtain ⟨i,p,q,hp,hq,c1,c2⟩:=seg (cps f g xs) x (by rw [hlen]; exact hl)
 have hv:=ev_at _ i x p q ha hp hq c1 c2
 have hpx:xs[i]?=some p.1∧p.2=cv g (cv f p.1):=by
  unfold cps at hp
  rw [List.getElem?_map] at hp
  obtain ⟨z,e1,rfl⟩:=Option.map_eq_some_iff.1 hp
  exact ⟨e1,rfl⟩
 have hqx:xs[i+1]?=some q.1∧q.2=cv g (cv f q.1):=by
  unfold cps at hq
  rw [List.getElem?_map] at hq
  obtain ⟨z,e1,rfl⟩:=Option.map_eq_some_iff.1 hq
  exact ⟨e1,rfl⟩
 have hpq:=(zew ha hp hq).1
 have hbet:∀ y∈xs,y≤p.1∨q.1≤y:=by
  intro y hy
  obtain ⟨j,hj,e⟩:=List.getElem_of_mem hy
  obtain ⟨hi1,e1⟩:=List.getElem?_eq_some_iff.1 hpx.1
  obtain ⟨hi2,e2⟩:=List.getElem?_eq_some_iff.1 hqx.1
  by_cases hc:j≤i
  · left
    by_cases he:j=i
    · subst he; rw [← e,e1]; exact Rat.le_refl
    · have:=List.pairwise_iff_getElem.1 hx j i hj hi1 (by omega)
      rw [e,e1] at this; grind
  · right
    by_cases he:j=i+1
    · subst he; rw [← e,e2]; exact Rat.le_refl
    · have:=List.pairwise_iff_getElem.1 hx (i+1) j hi2 hj (by omega)
      rw [e,e2] at this; grind
 have hfirst:i=0→∀ y∈xs,p.1≤y:=by
  intro h0 y hy
  subst h0
  obtain ⟨j,hj,e⟩:=List.getElem_of_mem hy
  obtain ⟨hi1,e1⟩:=List.getElem?_eq_some_iff.1 hpx.1
  by_cases he:j=0
  · subst he; rw [← e,e1]; exact Rat.le_refl
  · have:=List.pairwise_iff_getElem.1 hx 0 j hi1 hj (by omega)
    rw [e,e1] at this; grind
 have hlast:i+2=(cps f g xs).length→∀ y∈xs,y≤q.1:=by
  intro h0 y hy
  rw [hlen] at h0
  obtain ⟨j,hj,e⟩:=List.getElem_of_mem hy
  obtain ⟨hi2,e2⟩:=List.getElem?_eq_some_iff.1 hqx.1
  by_cases he:j=i+1
  · subst he; rw [← e,e2]; exact Rat.le_refl
  · have:=List.pairwise_iff_getElem.1 hx j (i+1) hj hi2 (by omega)
    rw [e,e2] at this; grind
 have hlo:∃ u,u≤p.1∧u≤x∧(u=p.1∨i=0):=by
  by_cases hc:p.1≤x
  · exact ⟨p.1,Rat.le_refl,hc,.inl rfl⟩
  · refine ⟨x,by grind,Rat.le_refl,.inr ?_⟩
    rcases c1 with c1 | c1
    · exact c1
    · grind
 have hhi:∃ v,q.1≤v∧x≤v∧(v=q.1∨i+2=(cps f g xs).length):=by
  by_cases hc:x≤q.1
  · exact ⟨q.1,Rat.le_refl,hc,.inl rfl⟩
  · refine ⟨x,by grind,Rat.le_refl,.inr ?_⟩
    rcases c2 with c2 | c2
    · exact c2
    · exact absurd c2 hc
 obtain ⟨u,u1,u2,u3⟩:=hlo
 obtain ⟨v,v1,v2,v3⟩:=hhi
 have huv:u < v:=by grind
 have hmem:∀ y∈xs,(∃ z∈xs,z < y)→(∃ z∈xs,y < z)→¬ (u < y∧y < v):=by
  rintro y hy ⟨z1,hz1,l1⟩ ⟨z2,hz2,l2⟩ ⟨k1,k2⟩
  rcases hbet y hy with hb | hb
  · rcases u3 with u3 | u3
    · rw [u3] at k1; grind
    · have:=hfirst u3 z1 hz1; grind
  · rcases v3 with v3 | v3
    · rw [v3] at k2; grind
    · have:=hlast v3 z2 hz2; grind
 have nf':∀ y,Inner f y→¬ (u < y∧y < v):=by
  intro y hy
  obtain ⟨a,ha1,ha2⟩:=zuT hy
  obtain ⟨b,hb1,hb2⟩:=zqa hf hy
  obtain ⟨c,hc1,hc2⟩:=zp6 hf hy
  refine hmem y (by rw [← ha2]; exact h1 a ha1) ⟨b.1,h1 b (List.mem_of_head? hb1),hb2⟩ ⟨c.1,h1 c hc1,hc2⟩
 obtain ⟨pf,sf,hsf,hfl⟩:=flat hf hf2 huv nf'
 have hfuv:cv f u < cv f v:=zd7 hf hf2 huv
 have hexm:∀ {a b:Rat},a < b→cv (ex f) a < cv (ex f) b:=fun hab=>zd7 (ex_asc hf) (by rw [ex_len]; exact hf2) hab
 have ng:∀ y,Inner g y→¬ (cv f u < y∧y < cv f v):=by
  rintro y hy ⟨k1,k2⟩
  obtain ⟨a,ha1,ha2⟩:=zuT hy
  obtain ⟨b,hb1,hb2⟩:=zqa hg hy
  obtain ⟨c,hc1,hc2⟩:=zp6 hg hy
  have e1:=hexm k1
  have e2:=hexm k2
  rw [ex_back hf hf2] at e1 e2
  refine hmem (cv (ex f) y) (by rw [← ha2]; exact h2 a ha1) ⟨_,h2 b (List.mem_of_head? hb1),hexm hb2⟩ ⟨_,h2 c hc1,hexm hc2⟩ ⟨e1,e2⟩
 obtain ⟨pg,sg',hsg,hgl⟩:=flat hg hg2 hfuv ng
 obtain ⟨r,hr⟩:=ln_comp pf pg sf sg' 0
 have hmono:∀ {a b:Rat},a≤b→cv f a≤cv f b:=fun {a b} hab=>by
  by_cases he:a=b
  · rw [he]; exact Rat.le_refl
  · have:=zd7 hf hf2 (show a < b by grind); grind
 have hcomp:∀ z,u≤z→z≤v→cv g (cv f z)=ln r (sg'*sf) z:=fun z hz1 hz2=>by
  rw [hgl _ (hmono hz1) (hmono hz2),hfl z hz1 hz2,hr]
 rw [hv,hcomp x u2 v2]
 have ep:p=(p.1,ln r (sg'*sf) p.1):=Prod.ext rfl (by rw [hpx.2]; exact hcomp p.1 u1 (by grind))
 have eq:q=(q.1,ln r (sg'*sf) q.1):=Prod.ext rfl (by rw [hqx.2]; exact hcomp q.1 (by grind) v1)
 rw [ep,eq]
 exact (two_line hpq).symm
end
end Go.Pure
namespace Go.Pure
def Fit (r:Rat):Prop:=r.num.natAbs≤1152921504606846976∧r.den≤1152921504606846976
instance (r:Rat):Decidable (Fit r):=by unfold Fit; infer_instance
def pc:List Pt→Rat→Pt×Pt
 | p :: q :: r,x=>if r=[]∨x≤q.1 then (p,q) else pc (q :: r) x
 | _,_=>((0,0),(0,0))
def SlF (p q:Pt):Prop:=Fit (q.2 - p.2)∧Fit (q.1 - p.1)∧Fit (sl p q)
def LnF (p q:Pt) (x:Rat):Prop:=SlF p q∧Fit (x - p.1)∧Fit ((x - p.1)*sl p q)∧Fit (ln p (sl p q) x)
def EvF (l:List Pt) (x:Rat):Prop:=LnF (pc l x).1 (pc l x).2 x
def BnF:List Pt→Prop
 | p :: q :: r=>SlF p q∧BnF (q :: r)
 | _=>True
def NfF (l:List Pt):Prop:=BnF l∧Fit (lf (bn l))∧Fit (rt (bn l))∧EvF l (lf (bn l))∧EvF l (rt (bn l))
def AllF (l:List Pt):Prop:=∀ p∈l,Fit p.1∧Fit p.2
theorem cv_pc:∀ (l:List Pt) (x:Rat),2≤l.length→cv l x=ln (pc l x).1 (sl (pc l x).1 (pc l x).2) x
 | [],_,h=>by simp at h
 | [_],_,h=>by simp at h
 | p :: q :: r,x,_=>by
   unfold cv pc
   by_cases h:r=[]∨x≤q.1
   · rw [if_pos h,if_pos h]
   · rw [if_neg h,if_neg h]
     refine cv_pc (q :: r) x ?_
     cases r with
     | nil=>exact absurd (.inl rfl) h
     | cons s r=>simp
theorem pc_at:∀ (l:List Pt) (i:Nat) (x:Rat) (p q:Pt),Asc l→l[i]?=some p→l[i+1]?=some q→(i=0∨p.1 < x)→(i+2=l.length∨x≤q.1)→pc l x=(p,q)
 | [],_,_,_,_,_,hp,_,_,_=>by simp at hp
 | [_],_,_,_,_,_,_,hq,_,_=>by simp at hq
 | a :: b :: r,0,x,p,q,ha,hp,hq,h1,h2=>by
   simp only [List.getElem?_cons_zero,Option.some.injEq] at hp
   simp only [List.getElem?_cons_succ,List.getElem?_cons_zero,Option.some.injEq] at hq
   subst hp; subst hq
   unfold pc
   rw [if_pos]
   rcases h2 with h2 | h2
   · left; simp at h2; exact h2
   · exact .inr h2
 | a :: b :: r,i+1,x,p,q,ha,hp,hq,h1,h2=>by
   have hp':(b :: r)[i]?=some p:=by simpa using hp
   have hq':(b :: r)[i+1]?=some q:=by simpa using hq
   have ha':=(List.pairwise_cons.1 ha).2
   have hlen:i+1 < (b :: r).length:=(List.getElem?_eq_some_iff.1 hq').1
   have hpx:p.1 < x:=by rcases h1 with h1 | h1; · omega
                        · exact h1
   have hb:b.1 < x:=by
    have hm:p∈b :: r:=List.mem_of_getElem? hp'
    rcases List.mem_cons.1 hm with hm | hm
    · rw [← hm]; exact hpx
    · have:=((List.pairwise_cons.1 ha').1 p hm).1; grind
   have hr:r≠[]:=by intro h; subst h; simp at hlen
   unfold pc
   rw [if_neg (by rintro (h | h); exact hr h; grind)]
   refine pc_at (b :: r) i x p q ha' hp' hq' (.inr hpx) ?_
   rcases h2 with h2 | h2
   · left; simp at h2 ⊢; omega
   · exact .inr h2
theorem pc_seg {l:List Pt} (h:Asc l) (hl:2≤l.length) (x:Rat):∃ i,l[i]?=some (pc l x).1∧l[i+1]?=some (pc l x).2∧(i=0∨(pc l x).1.1 < x)∧(i+2=l.length∨x≤(pc l x).2.1):=by
 obtain ⟨i,p,q,h1,h2,h3,h4⟩:=seg l x hl
 have:=pc_at l i x p q h h1 h2 h3 h4
 rw [this]
 exact ⟨i,h1,h2,h3,h4⟩
theorem EvF.val {l:List Pt} {x:Rat} (hl:2≤l.length) (h:EvF l x):Fit (cv l x):=by
 rw [cv_pc l x hl]; exact h.2.2.2
theorem bnF_of:∀ {l:List Pt},(∀ i p q,l[i]?=some p→l[i+1]?=some q→SlF p q)→BnF l
 | [],_=>trivial
 | [_],_=>trivial
 | a :: b :: r,h=>⟨h 0 a b rfl rfl,bnF_of (l:=b :: r) fun i p q hp hq=>h (i+1) p q (by simpa using hp) (by simpa using hq)⟩
def Places (f g:List Pt) (xs:List Rat):Prop:=xs.Pairwise (· < ·)∧∀ x,x∈xs↔(∃ p∈f,p.1=x)∨∃ q∈g,cv (ex f) q.1=x
def CpF (f g:List Pt) (xs:List Rat):Prop:=(∀ q∈g,EvF (ex f) q.1)∧(∀ x∈xs,EvF f x∧EvF g (cv f x))∧NfF (cps f g xs)
end Go.Pure
namespace Go.Proofs.YtbhkcgaanaelfaaGreat
open Go.Ab Go.Pure Go.PureDiv
set_option linter.unusedSimpArgs false
set_option maxRecDepth 20000
theorem _root_.Go.Pure.Fit.bd {r:Rat} (h:Fit r):Bd 60 60 r:=h
theorem fit_VR {r:Rat} (h:Fit r):VR (ofR r):=by
 have p:=r.den_pos
 refine ⟨?_,?_,?_,?_,?_⟩ <;> simp only [oN,oD]
 · omega
 · have:=h.2; omega
 · have:=h.1; omega
 · have:=h.1; omega
 · exact r.reduced
theorem VR_fit {g:GRatio} (h:VR g):∃ r,Fit r∧g=ofR r:=by
 obtain ⟨h1,h2,h3,h4,h5⟩:=h
 refine ⟨⟨g.Num,g.Den.natAbs,by omega,h5⟩,⟨by show g.Num.natAbs≤_; omega,by show g.Den.natAbs≤_; omega⟩,?_⟩
 show g=⟨g.Num,((g.Den.natAbs:Nat):Int)⟩
 have:((g.Den.natAbs:Nat):Int)=g.Den:=by omega
 rw [this]
def fitR (r:Rat):GRatio×Int:=if Fit r then (ofR r,0) else (⟨0,0⟩,6)
theorem fitS_eq (s:Bool) (x y:Nat) (r:Rat) (h1:sgn s x=r.num) (h2:y=r.den):fitS s x y=fitR r:=by
 have hx:x=r.num.natAbs:=by rw [← h1,zfK]
 have e1:¬ (s=true)→((x:Nat):Int)=r.num:=fun h=>by
  rw [← h1]; cases s
  · rfl
  · exact absurd rfl h
 have e2:s=true→-((x:Nat):Int)=r.num:=fun h=>by rw [← h1,h]; rfl
 have hiff:(x≤1152921504606846976∧y≤1152921504606846976)↔Fit r:=by rw [hx,h2]; exact Iff.rfl
 unfold fitS fitR
 by_cases hf:Fit r
 · rw [if_pos (hiff.2 hf),if_pos hf]
   by_cases hs:s=true
   · rw [if_pos hs,e2 hs,h2]; rfl
   · rw [if_neg hs,e1 hs,h2]; rfl
 · rw [if_neg (fun h=>hf (hiff.1 h)),if_neg hf]
theorem zrr (s:Bool) (n d:Nat) (hd:0 < d):redR s n d=fitR (mkRat (sgn s n) d):=by
 rw [redR_fit]
 have hne:d≠0:=by omega
 refine fitS_eq _ _ _ _ ?_ ?_
 · rw [Rat.num_mkRat,if_neg hne,zfK,Nat.gcd_comm,sgn_div _ _ _ (Nat.gcd_dvd_right _ _)]
 · rw [Rat.den_mkRat,if_neg hne,zfK,Nat.gcd_comm]
theorem sgn_mul2 (a b:Int):sgn (!decide (a < 0) == decide (b < 0)) (a.natAbs*b.natAbs)=a*b:=by
 conv=>rhs; rw [sgn_of a,sgn_of b]
 by_cases q1:a < 0 <;> by_cases q2:b < 0 <;> simp [q1,q2,sgn,Int.neg_mul,Int.mul_neg]
theorem mk_mul (a b:Rat):mkRat (a.num*b.num) (a.den*b.den)=a*b:=by
 rw [← Rat.mkRat_mul_mkRat,Rat.mkRat_self,Rat.mkRat_self]
theorem c_rMulF (a b:Rat) (ha:Fit a) (hb:Fit b):cw zl5 [aR a,aR b] []=some (zlU (fitR (a*b))):=by
 have h:=c_rMulG (ofR a) (ofR b)
 have p:=Nat.mul_pos a.den_pos b.den_pos
 have e:mulR (ofR a) (ofR b)=fitR (a*b):=by
  unfold mulR
  rw [if_pos ⟨fit_VR ha,fit_VR hb⟩,zrr _ _ _ (by simpa [oD] using p),oN,oN,oD,oD,sgn_mul2,Int.natAbs_natCast,Int.natAbs_natCast,mk_mul]
 rw [h,e]
theorem zme (a b:Rat) (ha:Fit a) (hb:Fit b):cw zda [aR a,aR b] []=some (zof (fitR (a*b))):=by
 have ha1:=ha.1
 have ha2:=ha.2
 have hb1:=hb.1
 have hb2:=hb.2
 have pa:=a.den_pos
 have pb:=b.den_pos
 obtain ⟨s1,s2⟩:=zvr a b
 generalize hl:a.num.natAbs.gcd b.den=l at *
 generalize hr:b.num.natAbs.gcd a.den=r at *
 have hl0:0 < l:=hl▸Nat.gcd_pos_of_pos_right _ pb
 have hr0:0 < r:=hr▸Nat.gcd_pos_of_pos_right _ pa
 have l1:a.num.natAbs / l≤a.num.natAbs:=Nat.div_le_self _ _
 have l2:b.num.natAbs / r≤b.num.natAbs:=Nat.div_le_self _ _
 have l3:a.den / r≤a.den:=Nat.div_le_self _ _
 have l4:b.den / l≤b.den:=Nat.div_le_self _ _
 have hres:fitS (!decide (a.num < 0) == decide (b.num < 0)) (a.num.natAbs / l*(b.num.natAbs / r)) (a.den / r*(b.den / l))=fitR (a*b):=by
  refine fitS_eq _ _ _ _ ?_ s2.symm
  rw [s1,sgn_of a.num,sgn_of b.num,tdiv_sgn,tdiv_sgn]
  rw [zfK,zfK,← sgn_of a.num,← sgn_of b.num]
  by_cases q1:a.num < 0 <;> by_cases q2:b.num < 0 <;> simp [q1,q2,sgn,Int.neg_mul,Int.mul_neg]
 have hg1:=c_gcd a.num.natAbs b.den
 have hg2:=c_gcd b.num.natAbs a.den
 have hf:=c_fits (!decide (a.num < 0) == decide (b.num < 0)) (a.num.natAbs / l*(b.num.natAbs / r)) (a.den / r*(b.den / l))
 have hm1:=zg2 a.num (by omega) (by omega)
 have hm2:=zg2 b.num (by omega) (by omega)
 have hp1:=znW (a.num.natAbs / l) (b.num.natAbs / r) (by omega) (by omega)
 have hp2:=znW (a.den / r) (b.den / l) (by omega) (by omega)
 rw [hl] at hg1
 rw [hr] at hg2
 refine zyY _ _ ?_
 rw [zau (ziz a ha.bd (by omega) (by omega)),brn_nt,zau (ziz b hb.bd (by omega) (by omega)),brn_nt,oD,oD,oN,oN,zau hm1,zau hm2,
  wuN (by omega),wuN (by omega),zau hg1,zau hg2,zaf (by omega),zaf (by omega),tdivN,tdivN,tdivN,tdivN,wuN (by omega),wuN (by omega),wuN (by omega),wuN (by omega),
  zau hp1,zaf (by omega),zaf (by omega),zau hp2]
 rw [W_wp,W_wp,hf,zjA,hres]
 rfl
theorem inv_fit {b:Rat} (hb:Fit b):Fit b⁻¹:=(Bd.inv hb.bd:Bd 60 60 _)
theorem c_DivF (a b:Rat) (ha:Fit a) (hb:Fit b) (h0:b≠0):cw zcV [aR a,aR b] []=some (zoB (fitR (a / b))):=by
 have hb1:=hb.1
 have hb2:=hb.2
 have hn0:b.num≠0:=fun h=>h0 (Rat.num_eq_zero.1 h)
 have hm:=zme a b⁻¹ ha (inv_fit hb)
 have eq:a / b=a*b⁻¹:=Rat.div_def a b
 have iN:=Rat.num_inv b
 have iD:=Rat.den_inv b
 rw [if_neg hn0] at iD
 refine zx9 _ _ ?_
 rw [zau (ziz a ha.bd (by omega) (by omega)),brn_nt,zau (ziz b hb.bd (by omega) (by omega)),brn_nt,oN,oD,brn_f (by simpa using hn0),zag]
 by_cases hs:b.num < 0
 · rw [if_pos hs]
   have e:(⟨w64 (0 - (b.den:Int)),w64 (0 - b.num)⟩:GRatio)=ofR b⁻¹:=by
    unfold ofR
    rw [iN,iD,Int.sign_eq_neg_one_of_neg hs,w64_id (by omega) (by omega),w64_id (by omega) (by omega)]
    congr 1 <;> omega
   rw [e,hm,zdj,eq]
   rfl
 · rw [if_neg hs]
   have e:(⟨(b.den:Int),b.num⟩:GRatio)=ofR b⁻¹:=by
    unfold ofR
    rw [iN,iD,Int.sign_eq_one_of_pos (by omega)]
    congr 1 <;> omega
   rw [e,hm,zdj,eq]
   rfl
end Go.Proofs.YtbhkcgaanaelfaaGreat
namespace Go.Proofs.YtbhkcgaanaelfaaGreat
open Go.Ab Go.Pure Go.PureDiv
set_option linter.unusedSimpArgs false
set_option maxRecDepth 20000
theorem c_plus (a b:Nat) (h:a+b < 340282366920938463463374607431768211456) :
  cw zjQ [.agg (zas (W a)),.agg (zas (W b))] []=some (zjW (W (a+b))):=by
 refine zrO _ _ ?_
 have e0:(W a).lo.toNat=a % 18446744073709551616:=rfl
 have e1:(W b).lo.toNat=b % 18446744073709551616:=rfl
 have e2:(W a).hi.toNat=a / 18446744073709551616:=rfl
 have e3:(W b).hi.toNat=b / 18446744073709551616:=rfl
 have p:(2:Nat) ^ 64=18446744073709551616:=by decide
 have z0:Int.toNat 0=0:=rfl
 have z1:Int.toNat 1=1:=rfl
 rw [e0,e1,e2,e3,p,z0,z1]
 by_cases hc:(a % 18446744073709551616+b % 18446744073709551616+0) / 18446744073709551616=0
 · rw [brn_t (by rw [hc]; rfl)]
   have h1:(a / 18446744073709551616+b / 18446744073709551616+0) % 18446744073709551616=(a+b) / 18446744073709551616:=by omega
   have h2:(a % 18446744073709551616+b % 18446744073709551616+0) % 18446744073709551616=(a+b) % 18446744073709551616:=by omega
   rw [h1,h2]
   rfl
 · have hc':(a % 18446744073709551616+b % 18446744073709551616+0) / 18446744073709551616=1:=by omega
   rw [hc',brn_f (by rfl),brn_t (by rfl)]
   have h1:(a / 18446744073709551616+b / 18446744073709551616+1) % 18446744073709551616=(a+b) / 18446744073709551616:=by omega
   have h2:(a % 18446744073709551616+b % 18446744073709551616+0) % 18446744073709551616=(a+b) % 18446744073709551616:=by omega
   rw [h1,h2]
   rfl
theorem c_minus (a b:Nat) (hb:b≤a) (h:a < 340282366920938463463374607431768211456) :
  cw zgH [.agg (zas (W a)),.agg (zas (W b))] []=some (zjd (W (a - b))):=by
 refine zq2 _ _ ?_
 have e0:(W a).lo.toNat=a % 18446744073709551616:=rfl
 have e1:(W b).lo.toNat=b % 18446744073709551616:=rfl
 have e2:(W a).hi.toNat=a / 18446744073709551616:=rfl
 have e3:(W b).hi.toNat=b / 18446744073709551616:=rfl
 have p:(2:Nat) ^ 64=18446744073709551616:=by decide
 have z0:Int.toNat 0=0:=rfl
 have z1:Int.toNat 1=1:=rfl
 rw [e0,e1,e2,e3,p,z0,z1]
 by_cases hc:a % 18446744073709551616 < b % 18446744073709551616+0
 · rw [if_pos hc,brn_f (by rfl),brn_t (by rfl)]
   have h1:(a / 18446744073709551616+18446744073709551616 - b / 18446744073709551616 - 1) % 18446744073709551616=(a - b) / 18446744073709551616:=by omega
   have h2:(a % 18446744073709551616+18446744073709551616 - b % 18446744073709551616 - 0) % 18446744073709551616=(a - b) % 18446744073709551616:=by omega
   rw [h1,h2]
   rfl
 · rw [if_neg hc,brn_t (by rfl)]
   have h1:(a / 18446744073709551616+18446744073709551616 - b / 18446744073709551616 - 0) % 18446744073709551616=(a - b) / 18446744073709551616:=by omega
   have h2:(a % 18446744073709551616+18446744073709551616 - b % 18446744073709551616 - 0) % 18446744073709551616=(a - b) % 18446744073709551616:=by omega
   rw [h1,h2]
   rfl
theorem c_splus (p q:Bool) (a b:Nat) (h:a+b < 340282366920938463463374607431768211456) :
  ∃ (r:Bool) (c:Nat),cw ziK [.agg (zbP ⟨p,W a⟩),.agg (zbP ⟨q,W b⟩)] []=some (ziJ ⟨r,W c⟩)∧sgn r c=sgn p a+sgn q b:=by
 by_cases hs:p=q
 · subst hs
   refine ⟨p,a+b,ziF _ _ ?_,?_⟩
   · rw [brn_t (by simp),c_plus a b h,zoP]
     rfl
   · cases p <;> simp [sgn] <;> omega
 · have hs':(p == q)=false:=by simpa using hs
   by_cases hc:b≤a
   · refine ⟨p,a - b,ziF _ _ ?_,?_⟩
     · rw [brn_f hs',zau (zmU a b),zag,if_pos (zyK (by omega)),c_minus a b hc (by omega),zkn]
       rfl
     · cases p <;> cases q <;> simp [sgn] at hs ⊢ <;> omega
   · refine ⟨q,b - a,ziF _ _ ?_,?_⟩
     · rw [brn_f hs',zau (zmU a b),zag,if_neg (by rw [zlN (by omega)]; omega),c_minus b a (by omega) (by omega),zkn]
       rfl
     · cases p <;> cases q <;> simp [sgn] at hs ⊢ <;> omega
theorem znj (a b:Rat) (ha:Fit a) (hb:Fit b):cw zcH [aR a,aR b] []=some (zot (fitR (a+b))):=by
 have ha1:=ha.1
 have ha2:=ha.2
 have hb1:=hb.1
 have hb2:=hb.2
 have pa:=a.den_pos
 have pb:=b.den_pos
 generalize hg:a.den.gcd b.den=g
 have hg0:0 < g:=hg▸Nat.gcd_pos_of_pos_left _ pa
 have hga:g≤a.den:=hg▸Nat.gcd_le_left _ pa
 have l1:b.den / g≤b.den:=Nat.div_le_self _ _
 have l2:a.den / g≤a.den:=Nat.div_le_self _ _
 have q1:=le120 (x:=a.num.natAbs) (y:=b.den / g) (by omega) (by omega)
 have q2:=le120 (x:=b.num.natAbs) (y:=a.den / g) (by omega) (by omega)
 obtain ⟨r,c,hp,hs⟩:=c_splus (decide (a.num < 0)) (decide (b.num < 0)) (a.num.natAbs*(b.den / g)) (b.num.natAbs*(a.den / g)) (by omega)
 have hc:c < 340282366920938463463374607431768211456:=by
  have e:c=(sgn r c).natAbs:=(zfK _ _).symm
  have t:=Int.natAbs_add_le (sgn (decide (a.num < 0)) (a.num.natAbs*(b.den / g))) (sgn (decide (b.num < 0)) (b.num.natAbs*(a.den / g)))
  rw [zfK,zfK,← hs,← e] at t
  omega
 rw [zkX,zkX,← sgn_of,← sgn_of] at hs
 generalize hm:c.gcd g=m
 have hm0:0 < m:=hm▸Nat.gcd_pos_of_pos_right _ hg0
 have hmg:m≤g:=Nat.le_of_dvd hg0 (hm▸Nat.gcd_dvd_right _ _)
 have hmc:m ∣ c:=hm▸Nat.gcd_dvd_left _ _
 have hmm:(c % g).gcd g=m:=by rw [← hm,Nat.gcd_comm c g,← Nat.gcd_rec]
 have l3:b.den / m≤b.den:=Nat.div_le_self _ _
 obtain ⟨s1,s2⟩:=zvn a b g hg.symm _ rfl m (by rw [← hs,zfK,hm])
 have hres:fitS r (c / m) (a.den / g*(b.den / m))=fitR (a+b):=by
  refine fitS_eq _ _ _ _ ?_ s2.symm
  rw [s1,← hs,sgn_div r c m hmc]
 have g1:=c_gcd a.den b.den
 have g2:=c_gcd (c % g) g
 rw [hg] at g1
 rw [hmm] at g2
 have p1:=ziO a.num (b.den / g) (by omega) (by omega) (by omega)
 have p2:=ziO b.num (a.den / g) (by omega) (by omega) (by omega)
 have w1:=zta c g hg0 (by omega)
 have w2:=zsp c m hm0 (by omega) hc
 have w3:=znW (a.den / g) (b.den / m) (by omega) (by omega)
 refine zyV _ _ ?_
 rw [zau (ziz a ha.bd (by omega) (by omega)),brn_nt,zau (ziz b hb.bd (by omega) (by omega)),brn_nt,oD,oD,oN,oN,wuN (by omega),wuN (by omega),zau g1,
  zaf (by omega),tdivN,tdivN,wuN (by omega),wuN (by omega),zau p1,zaf (by omega),zau p2,hp,znI,W_wp,w1,zlx,zau g2,w2,zkV,zaf (by omega),zaf (by omega),tdivN,wuN (by omega),zau w3,W_wp,c_fits,zjA,hres]
 rfl
theorem neg_fit {b:Rat} (hb:Fit b):Fit (-b):=(Bd.neg hb.bd:Bd 60 60 _)
theorem zoV (a b:Rat) (ha:Fit a) (hb:Fit b):cw zbD [aR a,aR b] []=some (zoD (fitR (a - b))):=by
 have hb1:=hb.1
 refine zyH _ _ ?_
 have e:(⟨w64 (0 - (ofR b).Num),(ofR b).Den⟩:GRatio)=ofR (-b):=by
  have:w64 (0 - (ofR b).Num)=-b.num:=by rw [oN,w64_id (by omega) (by omega)]; omega
  rw [this]; rfl
 rw [zau (ziz a ha.bd (by omega) (by omega)),brn_nt,zau (ziz b hb.bd (by omega) (by omega)),brn_nt,e,znj a (-b) ha (neg_fit hb),zdR,Rat.sub_eq_add_neg]
 rfl
theorem zhG {r:Rat} (h:Fit r):cw zbO [aR r] []=some (zij true):=by
 have v:=zeO (ofR r)
 rw [decide_eq_true (fit_VR h)] at v
 exact v
theorem totR_sgn (p:Bool) (a:Nat) (q:Bool) (b:Nat):sgn (totR p a q b).1 (totR p a q b).2=sgn p a+sgn q b:=by
 unfold totR
 by_cases h:p=q
 · subst h
   rw [if_pos rfl]
   cases p <;> simp [sgn] <;> omega
 · rw [if_neg h]
   by_cases hc:b≤a
   · rw [if_pos hc]; cases p <;> cases q <;> simp [sgn] at h ⊢ <;> omega
   · rw [if_neg hc]; cases p <;> cases q <;> simp [sgn] at h ⊢ <;> omega
theorem mk_add (a b:Rat):mkRat (a.num*b.den+b.num*a.den) (a.den*b.den)=a+b:=by
 rw [← Rat.mkRat_add_mkRat _ _ (Nat.ne_of_gt a.den_pos) (Nat.ne_of_gt b.den_pos),Rat.mkRat_self,Rat.mkRat_self]
theorem c_rAddF (a b:Rat) (ha:Fit a) (hb:Fit b):cw zl3 [aR a,aR b] []=some (zoz (fitR (a+b))):=by
 have ha1:=ha.1
 have ha2:=ha.2
 have hb1:=hb.1
 have hb2:=hb.2
 have pa:=a.den_pos
 have pb:=b.den_pos
 have q1:=le120 (x:=a.num.natAbs) (y:=b.den) (by omega) (by omega)
 have q2:=le120 (x:=b.num.natAbs) (y:=a.den) (by omega) (by omega)
 have q3:=le120 (x:=a.den) (y:=b.den) (by omega) (by omega)
 have q4:=Nat.mul_pos pa pb
 have s1:=zd9 a.num (by omega) (by omega)
 have s2:=zd9 b.num (by omega) (by omega)
 have s3:=zd9 (a.den:Int) (by omega) (by omega)
 have s4:=zd9 (b.den:Int) (by omega) (by omega)
 rw [Int.natAbs_natCast] at s3 s4
 have p1:=zfT a.num.natAbs b.den (by omega) (by omega)
 have p2:=zfT b.num.natAbs a.den (by omega) (by omega)
 have p3:=zfT a.den b.den (by omega) (by omega)
 have t:=c_rtotal (decide (a.num < 0)) (a.num.natAbs*b.den) (decide (b.num < 0)) (b.num.natAbs*a.den) (by omega)
 have ts:=totR_sgn (decide (a.num < 0)) (a.num.natAbs*b.den) (decide (b.num < 0)) (b.num.natAbs*a.den)
 have tl:(totR (decide (a.num < 0)) (a.num.natAbs*b.den) (decide (b.num < 0)) (b.num.natAbs*a.den)).2≤a.num.natAbs*b.den+b.num.natAbs*a.den:=by
  unfold totR
  split
  · exact Nat.le_refl _
  · split <;> (show _ - _≤_; omega)
 generalize totR (decide (a.num < 0)) (a.num.natAbs*b.den) (decide (b.num < 0)) (b.num.natAbs*a.den)=w at *
 rw [zkX,zkX,← sgn_of,← sgn_of] at ts
 have r1:=znZ w.1 w.2 (a.den*b.den) q4 (by omega) (by omega)
 have e:redR w.1 w.2 (a.den*b.den)=fitR (a+b):=by rw [zrr _ _ _ q4,ts,mk_add]
 rw [e] at r1
 refine zya _ _ ?_
 rw [zhG ha,zaP,brn_nt,zhG hb,zaP,brn_nt,oN,oN,oD,oD,s1,zaL,s4,zaL,p1,zcp,s2,zaL,s3,zaL,p2,zcp,t,zmG,zaL,zaL,p3,zcp,r1,zgT]
 rfl
theorem c_rSubF (a b:Rat) (ha:Fit a) (hb:Fit b):cw zoh [aR a,aR b] []=some (zob (fitR (a - b))):=by
 have hb1:=hb.1
 refine zys _ _ ?_
 have e:(⟨w64 (0 - (ofR b).Num),(ofR b).Den⟩:GRatio)=ofR (-b):=by
  have:w64 (0 - (ofR b).Num)=-b.num:=by rw [oN,w64_id (by omega) (by omega)]; omega
  rw [this]; rfl
 rw [zhG ha,zaP,brn_nt,zhG hb,zaP,brn_nt,e,c_rAddF a (-b) ha (neg_fit hb),zlj,Rat.sub_eq_add_neg]
 rfl
theorem sgn_sign (a b:Int) (D:Nat) (h0:b≠0):sgn (!decide (a < 0) == decide (b < 0)) (a.natAbs*D)=a*(b.sign*(D:Int)):=by
 have e:sgn (!decide (a < 0) == decide (b < 0)) (a.natAbs*D)=sgn (decide (a < 0)) a.natAbs*(b.sign*(D:Int)):=by
  rcases Int.lt_or_gt_of_ne h0 with h | h
  · rw [Int.sign_eq_neg_one_of_neg h,decide_eq_true h]
    by_cases q:a < 0 <;> simp [q,sgn,Int.neg_mul,Int.mul_neg]
  · rw [Int.sign_eq_one_of_pos h,decide_eq_false (show ¬ b < 0 by omega)]
    by_cases q:a < 0 <;> simp [q,sgn,Int.neg_mul,Int.mul_neg]
 rw [e,← sgn_of]
theorem c_rDivF (a b:Rat) (ha:Fit a) (hb:Fit b) (h0:b≠0):cw zl7 [aR a,aR b] []=some (zoe (fitR (a / b))):=by
 have ha1:=ha.1
 have ha2:=ha.2
 have hb1:=hb.1
 have hb2:=hb.2
 have pa:=a.den_pos
 have pb:=b.den_pos
 have hn0:b.num≠0:=fun h=>h0 (Rat.num_eq_zero.1 h)
 have q1:=le120 (x:=a.num.natAbs) (y:=b.den) (by omega) (by omega)
 have q2:=le120 (x:=a.den) (y:=b.num.natAbs) (by omega) (by omega)
 have q4:0 < a.den*b.num.natAbs:=Nat.mul_pos pa (by omega)
 have s1:=zd9 a.num (by omega) (by omega)
 have s2:=zd9 b.num (by omega) (by omega)
 have s3:=zd9 (a.den:Int) (by omega) (by omega)
 have s4:=zd9 (b.den:Int) (by omega) (by omega)
 rw [Int.natAbs_natCast] at s3 s4
 have p1:=zfT a.num.natAbs b.den (by omega) (by omega)
 have p2:=zfT a.den b.num.natAbs (by omega) (by omega)
 have r1:=znZ (!decide (a.num < 0) == decide (b.num < 0)) (a.num.natAbs*b.den) (a.den*b.num.natAbs) q4 (by omega) (by omega)
 have iN:=Rat.num_inv b
 have iD:=Rat.den_inv b
 rw [if_neg hn0] at iD
 have e:redR (!decide (a.num < 0) == decide (b.num < 0)) (a.num.natAbs*b.den) (a.den*b.num.natAbs)=fitR (a / b):=by
  rw [zrr _ _ _ q4,sgn_sign _ _ _ hn0,← iN,← iD,mk_mul,← Rat.div_def]
 rw [e] at r1
 refine zyU _ _ ?_
 rw [zhG ha,zaP,brn_nt,zhG hb,zaP,brn_nt,oN,oN,oD,oD,brn_f (beq_false_of_ne hn0),s1,zaL,s4,zaL,p1,zcp,s3,zaL,s2,zaL,p2,zcp,r1,zgT]
 rfl
theorem zpe (a b:Rat) (ha:Fit a) (hb:Fit b):cw zad [aR a,aR b] []=some (zlh (cmpZ (a.num*b.den) (b.num*a.den))):=
 c_Compare a b ha.bd hb.bd (by omega) (by omega) (by omega) (by omega)
theorem c_LessF (a b:Rat) (ha:Fit a) (hb:Fit b):cw zlg [aR a,aR b] []=some (znp (decide (a < b))):=by
 refine zxn _ _ ?_
 have:decide (a.num*(b.den:Int) < b.num*a.den)=decide (a < b):=by
  rw [decide_eq_decide,Rat.lt_iff]
 rw [zpe a b ha hb,zlE,zxU,this]
 rfl
theorem zyp (a b:Rat) (ha:Fit a) (hb:Fit b):cw zln [aR a,aR b] []=some (zlb (cmpZ (a.num*b.den) (b.num*a.den))):=by
 have ha1:=ha.1
 have ha2:=ha.2
 have hb1:=hb.1
 have hb2:=hb.2
 have pa:=a.den_pos
 have pb:=b.den_pos
 have q1:=le120 (x:=a.num.natAbs) (y:=b.den) (by omega) (by omega)
 have q2:=le120 (x:=b.num.natAbs) (y:=a.den) (by omega) (by omega)
 have s1:=zd9 a.num (by omega) (by omega)
 have s2:=zd9 b.num (by omega) (by omega)
 have s3:=zd9 (a.den:Int) (by omega) (by omega)
 have s4:=zd9 (b.den:Int) (by omega) (by omega)
 rw [Int.natAbs_natCast] at s3 s4
 have p1:=zfT a.num.natAbs b.den (by omega) (by omega)
 have p2:=zfT b.num.natAbs a.den (by omega) (by omega)
 have t:=c_rtotal (decide (a.num < 0)) (a.num.natAbs*b.den) (decide (0 < b.num)) (b.num.natAbs*a.den) (by omega)
 have hs:=totR_sgn (decide (a.num < 0)) (a.num.natAbs*b.den) (decide (0 < b.num)) (b.num.natAbs*a.den)
 generalize totR (decide (a.num < 0)) (a.num.natAbs*b.den) (decide (0 < b.num)) (b.num.natAbs*a.den)=w at *
 obtain ⟨r,c⟩:=w
 have e2:sgn (decide (0 < b.num)) (b.num.natAbs*a.den)=-(b.num*(a.den:Int)):=by
  rw [zkX,← Int.neg_mul]
  congr 1
  by_cases q:0 < b.num
  · rw [decide_eq_true q]; simp only [sgn,if_true]; omega
  · rw [decide_eq_false q]; simp only [sgn,Bool.false_eq_true,if_false]; omega
 rw [e2,zkX,← sgn_of] at hs
 refine ztI _ _ ?_
 rw [zhG ha,zaP,brn_nt,zhG hb,zaP,brn_nt,oN,oN,oD,oD,s1,zaL,s4,zaL,p1,zcp,s2,zaL,s3,zaL,p2,zcp,t,zmG]
 generalize a.num*(b.den:Int)=A at *
 generalize b.num*(a.den:Int)=B at *
 simp only [] at hs ⊢
 rw [wd_zero]
 by_cases hc0:c=0
 · subst hc0
   rw [decide_eq_true rfl,zaC,zrs (by cases r <;> simp [sgn] at hs <;> omega)]
   rfl
 · rw [decide_eq_false hc0,zax]
   cases r with
   | true=>rw [zaC,zlN (by simp [sgn] at hs; omega)]; rfl
   | false=>rw [zax,zm6 (by simp [sgn] at hs; omega)]; rfl
theorem cmpZ_neg {a b:Int}:decide (cmpZ a b < 0)=decide (a < b):=by
 unfold cmpZ
 split
 · rename_i h; rw [decide_eq_true h]; rfl
 · rename_i h; rw [decide_eq_false h]; split <;> rfl
theorem c_rLessF (a b:Rat) (ha:Fit a) (hb:Fit b):cw zlf [aR a,aR b] []=some (zni (decide (a < b))):=by
 refine zwE _ _ ?_
 have:decide (a.num*(b.den:Int) < b.num*a.den)=decide (a < b):=by
  rw [decide_eq_decide,Rat.lt_iff]
 rw [zyp a b ha hb,zqx,cmpZ_neg,this]
 rfl
end Go.Proofs.YtbhkcgaanaelfaaGreat
namespace Go.Proofs.YtbhkcgaanaelfaaGreat
open Go.Ab Go.Pure
set_option linter.unusedSimpArgs false
set_option linter.unusedVariables false
set_option maxRecDepth 20000
def ofP (p:Pt):GPoint:=⟨ofR p.1,ofR p.2⟩
noncomputable abbrev ptsE (l:List Pt):List (List AV):=List.map zak (l.map ofP)
noncomputable abbrev mS (e:Int):Mem:=[(1000,⟨1,zap,[zaw ⟨e⟩],true⟩)]
noncomputable abbrev lS0:AV:=.loc 1000 1 0 0
theorem elemP {β:Type} {l:List Pt} {i:Nat} {p:Pt} (h:l[i]?=some p) (k:GPoint→Option β):elemD zaB (ptsE l) i k=k (ofP p):=
 zgG (D:=zaB) (l:=l.map ofP) (by rw [List.getElem?_map,h]; rfl) k
theorem lenP (l:List Pt):(ptsE l).length=l.length:=by simp
theorem zcU {r:Rat} (h:Fit r):fitR r=(ofR r,0):=if_pos h
theorem zgF {r:Rat} (h:¬ Fit r):fitR r=(⟨0,0⟩,6):=if_neg h
theorem zu8 {a b:Rat} (ha:Fit a) (hb:Fit b) (h:Fit (a+b)):cw zan [lS0,.fn zcH [],aR a,aR b] (mS 0)=some (zaV (ofR (a+b),⟨0⟩)):=by
 refine zfQ _ _ _ ?_
 rw [znj a b ha hb,zdR,zcU h]; rfl
theorem zvm {a b:Rat} (ha:Fit a) (hb:Fit b) (h:¬ Fit (a+b)):cw zan [lS0,.fn zcH [],aR a,aR b] (mS 0)=some (zaV (⟨0,0⟩,⟨6⟩)):=by
 refine zfQ _ _ _ ?_
 rw [znj a b ha hb,zdR,zgF h]; rfl
theorem znX (a b:GRatio):cw zan [lS0,.fn zcH [],.agg (zaa a),.agg (zaa b)] (mS 6)=some (zaV (⟨0,0⟩,⟨6⟩)):=by
 refine zfQ _ _ _ ?_
 rfl
theorem zjc {a b:Rat} (ha:Fit a) (hb:Fit b) (h:Fit (a - b)):cw zan [lS0,.fn zbD [],aR a,aR b] (mS 0)=some (zaV (ofR (a - b),⟨0⟩)):=by
 refine zfS _ _ _ ?_
 rw [zoV a b ha hb,zfx,zcU h]; rfl
theorem znY {a b:Rat} (ha:Fit a) (hb:Fit b) (h:¬ Fit (a - b)):cw zan [lS0,.fn zbD [],aR a,aR b] (mS 0)=some (zaV (⟨0,0⟩,⟨6⟩)):=by
 refine zfS _ _ _ ?_
 rw [zoV a b ha hb,zfx,zgF h]; rfl
theorem znS (a b:GRatio):cw zan [lS0,.fn zbD [],.agg (zaa a),.agg (zaa b)] (mS 6)=some (zaV (⟨0,0⟩,⟨6⟩)):=by
 refine zfS _ _ _ ?_
 rfl
theorem zvd {a b:Rat} (ha:Fit a) (hb:Fit b) (h:Fit (a*b)):cw zan [lS0,.fn zda [],aR a,aR b] (mS 0)=some (zaV (ofR (a*b),⟨0⟩)):=by
 refine zfP _ _ _ ?_
 rw [zme a b ha hb,zdj,zcU h]; rfl
theorem do_Mul_no {a b:Rat} (ha:Fit a) (hb:Fit b) (h:¬ Fit (a*b)):cw zan [lS0,.fn zda [],aR a,aR b] (mS 0)=some (zaV (⟨0,0⟩,⟨6⟩)):=by
 refine zfP _ _ _ ?_
 rw [zme a b ha hb,zdj,zgF h]; rfl
theorem zvv (a b:GRatio):cw zan [lS0,.fn zda [],.agg (zaa a),.agg (zaa b)] (mS 6)=some (zaV (⟨0,0⟩,⟨6⟩)):=by
 refine zfP _ _ _ ?_
 rfl
theorem do_Div_ok {a b:Rat} (ha:Fit a) (hb:Fit b) (h0:b≠0) (h:Fit (a / b)):cw zan [lS0,.fn zcV [],aR a,aR b] (mS 0)=some (zaV (ofR (a / b),⟨0⟩)):=by
 refine zfX _ _ _ ?_
 rw [c_DivF a b ha hb h0,zgM,zcU h]; rfl
theorem do_Div_no {a b:Rat} (ha:Fit a) (hb:Fit b) (h0:b≠0) (h:¬ Fit (a / b)):cw zan [lS0,.fn zcV [],aR a,aR b] (mS 0)=some (zaV (⟨0,0⟩,⟨6⟩)):=by
 refine zfX _ _ _ ?_
 rw [c_DivF a b ha hb h0,zgM,zgF h]; rfl
theorem zqB (a b:GRatio):cw zan [lS0,.fn zcV [],.agg (zaa a),.agg (zaa b)] (mS 6)=some (zaV (⟨0,0⟩,⟨6⟩)):=by
 refine zfX _ _ _ ?_
 rfl
def PF (p:Pt):Prop:=Fit p.1∧Fit p.2
theorem zlP {p q:Pt} (hp:PF p) (hq:PF q) (h:p.1 < q.1) (hs:SlF p q) :
  cw zcm [lS0,.agg (zak (ofP p)),.agg (zak (ofP q))] (mS 0)=some (zdu (ofR (sl p q),⟨0⟩)):=by
 refine zgg _ _ _ ?_
 have c1:=zjc hq.2 hp.2 hs.1
 have c2:=zjc hq.1 hp.1 hs.2.1
 have c3:=do_Div_ok hs.1 hs.2.1 (by grind) hs.2.2
 show callD zav (cw zan [lS0,.fn zbD [],aR q.2,aR p.2] (mS 0)) _=_
 rw [c1,zal]
 show callD zav (cw zan [lS0,.fn zbD [],aR q.1,aR p.1] (mS 0)) _=_
 rw [c2,zal]
 show callD zav (cw zan [lS0,.fn zcV [],aR (q.2 - p.2),aR (q.1 - p.1)] (mS 0)) _=_
 rw [c3,zal]
 rfl
theorem zs5 {p q:Pt} (hp:PF p) (hq:PF q) (h:p.1 < q.1) (hs:¬ SlF p q) :
  cw zcm [lS0,.agg (zak (ofP p)),.agg (zak (ofP q))] (mS 0)=some (zdu (⟨0,0⟩,⟨6⟩)):=by
 refine zgg _ _ _ ?_
 show callD zav (cw zan [lS0,.fn zbD [],aR q.2,aR p.2] (mS 0)) _=_
 by_cases h1:Fit (q.2 - p.2)
 · rw [zjc hq.2 hp.2 h1,zal]
   show callD zav (cw zan [lS0,.fn zbD [],aR q.1,aR p.1] (mS 0)) _=_
   by_cases h2:Fit (q.1 - p.1)
   · rw [zjc hq.1 hp.1 h2,zal]
     show callD zav (cw zan [lS0,.fn zcV [],aR (q.2 - p.2),aR (q.1 - p.1)] (mS 0)) _=_
     rw [do_Div_no h1 h2 (by grind) (fun h3=>hs ⟨h1,h2,h3⟩),zal]
     rfl
   · rw [znY hq.1 hp.1 h2,zal]
     dsimp only
     rw [zqB,zal]
     rfl
 · rw [znY hq.2 hp.2 h1,zal]
   dsimp only
   rw [znS,zal]
   dsimp only
   rw [zqB,zal]
   rfl
theorem slope_er (p q:GPoint):cw zcm [lS0,.agg (zak p),.agg (zak q)] (mS 6)=some (zdu (⟨0,0⟩,⟨6⟩)):=by
 refine zgg _ _ _ ?_
 rw [znS,zal]
 dsimp only
 rw [znS,zal]
 dsimp only
 rw [zqB,zal]
 rfl
theorem c_eval_1 (l:List Pt) (x:Rat) (hb:AllF l) (hx:Fit x) (i:Nat) (hi:i < 1000000) (q:Pt) (hq:l[i+1]?=some q) :
  cw zdf [I (i:Int),.fp [I (ofR x).Num,I (ofR x).Den],.fp [.sl 4 (ptsE l)]] []=some (ziN (decide (x≤q.1))):=by
 refine zqs (i:Int) (ofR x) (l.map ofP) ?_
 have e:w64 ((i:Int)+1)=((i+1:Nat):Int):=by rw [w64_id (by omega) (by omega)]; omega
 rw [e,zaf (by omega),Int.toNat_natCast,elemP hq]
 have hm:=hb q (List.mem_of_getElem? hq)
 show callD zaz (cw zad [aR x,aR q.1] []) _=_
 rw [zpe x q.1 hx hm.1,zlE]
 have:decide (cmpZ (x.num*(q.1.den:Int)) (q.1.num*(x.den:Int))≤0)=decide (x≤q.1):=by rw [decide_eq_decide]; exact cmpR_le x q.1
 rw [this]
 rfl
theorem k_Search (l:List Pt) (x:Rat) (hb:AllF l) (hx:Fit x) (hl:l.length≤1000000) :
  ∀ (k i j:Nat),j=i+k→j+2≤l.length→(i=0∨∃ p,l[i]?=some p∧p.1 < x)→(j+2=l.length∨∃ q,l[j+1]?=some q∧x≤q.1) →
    ∃ r:Nat,zeu (ofR x) (l.map ofP) (i:Int) (j:Int)=some (zks (r:Int))∧r+2≤l.length∧(r=0∨∃ p,l[r]?=some p∧p.1 < x)∧(r+2=l.length∨∃ q,l[r+1]?=some q∧x≤q.1):=by
 intro k
 induction k using Nat.strongRecOn with
 | _ k ih =>
   intro i j hj hj2 hi hq
   by_cases hk:k=0
   · refine ⟨i,zh3 _ _ _ _ ?_,by omega,hi,?_⟩
     · rw [zag,if_neg (by omega)]
       rfl
     · rw [show i=j by omega]; exact hq
   · have hm:w64 ((wu64 (w64 ((i:Int)+(j:Int)))).fdiv (2 ^ Min.min (Int.toNat 1) 64))=(((i+j) / 2:Nat):Int):=by
      have e2:((2:Int) ^ Min.min (Int.toNat 1) 64)=2:=by decide
      rw [e2,w64_id (n:=(i:Int)+j) (by omega) (by omega),zc9 (by omega) (by omega),Int.fdiv_eq_ediv_of_nonneg _ (by omega),w64_id (by omega) (by omega)]
      omega
     have hlt:(i+j) / 2+1 < l.length:=by omega
     have hg:l[(i+j) / 2+1]?=some l[(i+j) / 2+1]:=List.getElem?_eq_getElem hlt
     have hc:=c_eval_1 l x hb hx ((i+j) / 2) (by omega) _ hg
     have hn:w64 ((((i+j) / 2:Nat):Int)+1)=(((i+j) / 2+1:Nat):Int):=by rw [w64_id (by omega) (by omega)]; omega
     by_cases hle:x≤(l[(i+j) / 2+1]).1
     · obtain ⟨r,r1,r2,r3,r4⟩:=ih ((i+j) / 2 - i) (by omega) i ((i+j) / 2) (by omega) (by omega) hi (.inr ⟨_,hg,hle⟩)
       refine ⟨r,zh3 _ _ _ _ ?_,r2,r3,r4⟩
       rw [zag,if_pos (by omega),zaf (by omega),hm,hc,zjM,decide_eq_true hle,brn_nt]
       exact r1
     · obtain ⟨r,r1,r2,r3,r4⟩:=ih (j - ((i+j) / 2+1)) (by omega) ((i+j) / 2+1) j (by omega) (by omega) (.inr ⟨_,hg,by grind⟩) hq
       refine ⟨r,zh3 _ _ _ _ ?_,r2,r3,r4⟩
       rw [zag,if_pos (by omega),zaf (by omega),hm,hc,zjM,decide_eq_false hle,brn_nf,hn]
       exact r1
theorem eval_pc (l:List Pt) (x:Rat) (ha:Asc l) (hl:2≤l.length) (hl2:l.length≤1000000) (hb:AllF l) (hx:Fit x) :
  ∃ r:Nat,cw zmo [I ((l.length - 2:Nat):Int),.fn zdf [.fp [I (ofR x).Num,I (ofR x).Den],.fp [.sl 4 (ptsE l)]]] []=some (zks (r:Int))∧r+2≤l.length∧l[r]?=some (pc l x).1∧l[r+1]?=some (pc l x).2:=by
 obtain ⟨r,r1,r2,r3,r4⟩:=k_Search l x hb hx hl2 (l.length - 2) 0 (l.length - 2) (by omega) (by omega) (.inl rfl) (.inl (by omega))
 have hp:l[r]?=some l[r]:=List.getElem?_eq_getElem (by omega)
 have hq:l[r+1]?=some l[r+1]:=List.getElem?_eq_getElem (by omega)
 generalize l[r]=p at hp
 generalize l[r+1]=q at hq
 have hv:pc l x=(p,q):=pc_at l r x p q ha hp hq (by
  rcases r3 with r3 | ⟨p',h,h'⟩
  · exact .inl r3
  · rw [hp] at h; injection h with h; rw [h]; exact .inr h') (by
  rcases r4 with r4 | ⟨q',h,h'⟩
  · exact .inl r4
  · rw [hq] at h; injection h with h; rw [h]; exact .inr h')
 exact ⟨r,zqF _ (ofR x) (l.map ofP) r1,r2,by rw [hv]; exact hp,by rw [hv]; exact hq⟩
theorem zm5 (l:List Pt) (x:Rat) (ha:Asc l) (hl:2≤l.length) (hl2:l.length≤1000000) (hb:AllF l) (hx:Fit x) (he:EvF l x) :
  cw zbq [.sl 4 (ptsE l),aR x] []=some (zhh (ofR (cv l x),0)):=by
 obtain ⟨r,hs,hr,hp,hq⟩:=eval_pc l x ha hl hl2 hb hx
 have hval:=cv_pc l x hl
 unfold EvF at he
 generalize (pc l x).1=p at *
 generalize (pc l x).2=q at *
 have bp:=hb p (List.mem_of_getElem? hp)
 have bq:=hb q (List.mem_of_getElem? hq)
 refine zmC (l.map ofP) (ofR x) ?_
 have e0:w64 (w64 (((ptsE l).length:Int) - 1) - 1)=((l.length - 2:Nat):Int):=by
  rw [lenP,w64_id (n:=(l.length:Int) - 1) (by omega) (by omega),w64_id (by omega) (by omega)]; omega
 have e1:w64 (1+(r:Int))=((r+1:Nat):Int):=by rw [w64_id (by omega) (by omega)]; omega
 have e2:w64 (((r+1:Nat):Int) - 1)=(r:Int):=by rw [w64_id (by omega) (by omega)]; omega
 rw [e0,hs,zmD,e1,e2,zaf (by omega),Int.toNat_natCast,elemP hp,zaf (by omega),Int.toNat_natCast,elemP hq,zlP bp bq (zew ha hp hq).1 he.1,zaX]
 show callD zav (cw zan [lS0,.fn zbD [],aR x,aR p.1] (mS 0)) _=_
 rw [zjc hx bp.1 he.2.1,zal]
 show callD zav (cw zan [lS0,.fn zda [],aR (x - p.1),aR (sl p q)] (mS 0)) _=_
 rw [zvd he.2.1 he.1.2.2 he.2.2.1,zal]
 show callD zav (cw zan [lS0,.fn zcH [],aR p.2,aR ((x - p.1)*sl p q)] (mS 0)) _=_
 rw [zu8 bp.2 he.2.2.1 he.2.2.2,zal,hval]
 rfl
theorem zrq (l:List Pt) (x:Rat) (ha:Asc l) (hl:2≤l.length) (hl2:l.length≤1000000) (hb:AllF l) (hx:Fit x) (he:¬ EvF l x) :
  cw zbq [.sl 4 (ptsE l),aR x] []=some (zhh (⟨0,0⟩,6)):=by
 obtain ⟨r,hs,hr,hp,hq⟩:=eval_pc l x ha hl hl2 hb hx
 unfold EvF at he
 generalize (pc l x).1=p at *
 generalize (pc l x).2=q at *
 have bp:=hb p (List.mem_of_getElem? hp)
 have bq:=hb q (List.mem_of_getElem? hq)
 refine zmC (l.map ofP) (ofR x) ?_
 have e0:w64 (w64 (((ptsE l).length:Int) - 1) - 1)=((l.length - 2:Nat):Int):=by
  rw [lenP,w64_id (n:=(l.length:Int) - 1) (by omega) (by omega),w64_id (by omega) (by omega)]; omega
 have e1:w64 (1+(r:Int))=((r+1:Nat):Int):=by rw [w64_id (by omega) (by omega)]; omega
 have e2:w64 (((r+1:Nat):Int) - 1)=(r:Int):=by rw [w64_id (by omega) (by omega)]; omega
 have hpq:=(zew ha hp hq).1
 rw [e0,hs,zmD,e1,e2,zaf (by omega),Int.toNat_natCast,elemP hp,zaf (by omega),Int.toNat_natCast,elemP hq]
 by_cases h1:SlF p q
 · rw [zlP bp bq hpq h1,zaX]
   show callD zav (cw zan [lS0,.fn zbD [],aR x,aR p.1] (mS 0)) _=_
   by_cases h2:Fit (x - p.1)
   · rw [zjc hx bp.1 h2,zal]
     show callD zav (cw zan [lS0,.fn zda [],aR (x - p.1),aR (sl p q)] (mS 0)) _=_
     by_cases h3:Fit ((x - p.1)*sl p q)
     · rw [zvd h2 h1.2.2 h3,zal]
       show callD zav (cw zan [lS0,.fn zcH [],aR p.2,aR ((x - p.1)*sl p q)] (mS 0)) _=_
       rw [zvm bp.2 h3 (fun h4=>he ⟨h1,h2,h3,h4⟩),zal]
       rfl
     · rw [do_Mul_no h2 h1.2.2 h3,zal]
       dsimp only
       rw [znX,zal]
       rfl
   · rw [znY hx bp.1 h2,zal]
     dsimp only
     rw [zvv,zal]
     dsimp only
     rw [znX,zal]
     rfl
 · rw [zs5 bp bq hpq h1,zaX]
   dsimp only
   rw [znS,zal]
   dsimp only
   rw [zvv,zal]
   dsimp only
   rw [znX,zal]
   rfl
theorem point_ok (l:List Pt) (x:Rat) (ha:Asc l) (hl:2≤l.length) (hl2:l.length≤1000000) (hb:AllF l) (hx:Fit x) (he:EvF l x) :
  cw zb6 [.sl 4 (ptsE l),aR x] []=some (zfN (ofP (x,cv l x),0)):=by
 refine zlo (l.map ofP) (ofR x) ?_
 rw [zm5 l x ha hl hl2 hb hx he,zbr]
 rfl
theorem point_no (l:List Pt) (x:Rat) (ha:Asc l) (hl:2≤l.length) (hl2:l.length≤1000000) (hb:AllF l) (hx:Fit x) (he:¬ EvF l x) :
  cw zb6 [.sl 4 (ptsE l),aR x] []=some (zfN (⟨⟨0,0⟩,⟨0,0⟩⟩,6)):=by
 refine zlo (l.map ofP) (ofR x) ?_
 rw [zrq l x ha hl hl2 hb hx he,zbr]
 rfl
end Go.Proofs.YtbhkcgaanaelfaaGreat
namespace Go.Proofs.YtbhkcgaanaelfaaGreat
open Go.Ab
set_option linter.unusedSimpArgs false
noncomputable def dec (p:Prop):Bool:=@decide p (Classical.propDecidable p)
theorem zbH {p:Prop} (h:p):dec p=true:=by unfold dec; simp [h]
theorem zbk {p:Prop} (h:¬p):dec p=false:=by unfold dec; simp [h]
theorem dec_iff {p q:Prop} (h:p↔q):dec p=dec q:=by rw [propext h]
theorem brn_ite {β:Type} (b:Bool) (t e:Option β):brn b t e=if b=true then t else e:=by cases b <;> rfl
variable {α β:Type}
end Go.Proofs.YtbhkcgaanaelfaaGreat
namespace Go.Proofs.YtbhkcgaanaelfaaGreat
open Go.Ab Go.Pure
set_option linter.unusedSimpArgs false
set_option linter.unusedVariables false
set_option maxRecDepth 20000
theorem zjp (n:Int):cw zcW [I n] []=some (zjb (ofR (n:Rat))):=zrm n rfl
theorem zts (l:List Pt) (hl:l.length≤100000):∀ (k i:Nat) (found:List GPoint) (b:GRatio),i+1+k=l.length→found.length≤i →
  zcY (l.map ofP) (List.map zak found) ⟨6⟩ b (i:Int)=some (zcX ([],6)):=by
 intro k
 induction k with
 | zero =>
   intro i found b hk hf
   refine zem _ _ _ _ _ ?_
   have e:w64 ((i:Int)+1)=((i+1:Nat):Int):=by rw [w64_id (by omega) (by omega)]; omega
   rw [e,zag,if_neg (by rw [lenP]; omega)]
   rfl
 | succ k ih =>
   intro i found b hk hf
   have e:w64 ((i:Int)+1)=((i+1:Nat):Int):=by rw [w64_id (by omega) (by omega)]; omega
   have hp:l[i]?=some l[i]:=List.getElem?_eq_getElem (by omega)
   have hq:l[i+1]?=some l[i+1]:=List.getElem?_eq_getElem (by omega)
   refine zem _ _ _ _ _ ?_
   rw [e,zag,if_pos (by rw [lenP]; omega),zaf (by omega),Int.toNat_natCast,elemP hp,zaf (by omega),Int.toNat_natCast,elemP hq,slope_er,zaX,brn_ite]
   dsimp only
   split
   · rw [zaf (by omega),elemP hp,zaf rfl,zaf (by simp; omega),zaf rfl]
     have:=ih (i+1) (found++[ofP l[i]]) ⟨0,0⟩ (by omega) (by simp; omega)
     rw [List.map_append] at this
     exact this
   · exact ih (i+1) found ⟨0,0⟩ (by omega) (by omega)
theorem k_bends_ok (l:List Pt) (hl:l.length≤100000) (ha:Asc l) (hb:AllF l) :
  ∀ (r pre:List Pt) (p q:Pt) (found:List Pt),l=pre++p :: q :: r→found.length≤pre.length→BnF (q :: r) →
    zcY (l.map ofP) (ptsE found) ⟨0⟩ (ofR (sl p q)) ((pre.length+1:Nat):Int)=some (zcX ((found++bn (p :: q :: r)).map ofP,0)):=by
 intro r
 induction r with
 | nil =>
   intro pre p q found he hf _
   refine zem _ _ _ _ _ ?_
   have hlen:l.length=pre.length+2:=by rw [he]; simp
   have e:w64 (((pre.length+1:Nat):Int)+1)=((pre.length+2:Nat):Int):=by rw [w64_id (by omega) (by omega)]; omega
   rw [e,zag,if_neg (by rw [lenP]; omega),brn_f (by rfl),zaf (by omega),List.take_length]
   show _=some (zcX ((found++[]).map ofP,0))
   rw [List.append_nil]
   rfl
 | cons s r ih =>
   intro pre p q found he hf hbn
   have hlen:l.length=pre.length+3+r.length:=by rw [he]; simp; omega
   have e:w64 (((pre.length+1:Nat):Int)+1)=((pre.length+2:Nat):Int):=by rw [w64_id (by omega) (by omega)]; omega
   have hq:l[pre.length+1]?=some q:=by
    rw [he,List.getElem?_append_right (by omega),show pre.length+1 - pre.length=1 by omega]; rfl
   have hs:l[pre.length+1+1]?=some s:=by
    rw [he,List.getElem?_append_right (by omega),show pre.length+1+1 - pre.length=2 by omega]; rfl
   have mq:=hb q (by rw [he]; simp)
   have ms:=hb s (by rw [he]; simp)
   have he':l=(pre++[p])++q :: s :: r:=by rw [he]; simp
   refine zem _ _ _ _ _ ?_
   rw [e,zag,if_pos (by rw [lenP]; omega),zaf (by omega),Int.toNat_natCast,elemP hq,zaf (by omega),Int.toNat_natCast,elemP hs,
    zlP mq ms (zew ha hq hs).1 hbn.1,zaX]
   show brn (!((ofR (sl q s)).Num == (ofR (sl p q)).Num && ((ofR (sl q s)).Den == (ofR (sl p q)).Den && true))) _ _=_
   rw [eqR,zo3,zag]
   have ih1:=ih (pre++[p]) q s found he' (by simp; omega) hbn.2
   have ih2:=ih (pre++[p]) q s (found++[q]) he' (by simp; omega) hbn.2
   have el:(pre++[p]).length+1=pre.length+2:=by simp
   rw [el] at ih1 ih2
   unfold bn
   by_cases hc:sl q s=sl p q
   · rw [if_pos hc,if_pos hc]
     exact ih1
   · rw [if_neg hc,if_neg hc,zaf (by omega),elemP hq,zaf rfl,zaf (by rw [lenP]; omega),zaf rfl]
     have ea:ptsE found++[zak (ofP q)]=ptsE (found++[q]):=by simp only [ptsE,List.map_append,List.map_cons,List.map_nil]
     rw [ea]
     have eb:found++q :: bn (q :: s :: r)=(found++[q])++bn (q :: s :: r):=by simp
     rw [eb]
     exact ih2
theorem k_bends_no (l:List Pt) (hl:l.length≤100000) (ha:Asc l) (hb:AllF l) :
  ∀ (r pre:List Pt) (p q:Pt) (found:List Pt),l=pre++p :: q :: r→found.length≤pre.length→¬ BnF (q :: r) →
    zcY (l.map ofP) (ptsE found) ⟨0⟩ (ofR (sl p q)) ((pre.length+1:Nat):Int)=some (zcX ([],6)):=by
 intro r
 induction r with
 | nil =>
   intro pre p q found he hf h
   exact absurd trivial h
 | cons s r ih =>
   intro pre p q found he hf hbn
   have hlen:l.length=pre.length+3+r.length:=by rw [he]; simp; omega
   have e:w64 (((pre.length+1:Nat):Int)+1)=((pre.length+2:Nat):Int):=by rw [w64_id (by omega) (by omega)]; omega
   have hq:l[pre.length+1]?=some q:=by
    rw [he,List.getElem?_append_right (by omega),show pre.length+1 - pre.length=1 by omega]; rfl
   have hs:l[pre.length+1+1]?=some s:=by
    rw [he,List.getElem?_append_right (by omega),show pre.length+1+1 - pre.length=2 by omega]; rfl
   have mq:=hb q (by rw [he]; simp)
   have ms:=hb s (by rw [he]; simp)
   have he':l=(pre++[p])++q :: s :: r:=by rw [he]; simp
   refine zem _ _ _ _ _ ?_
   rw [e,zag,if_pos (by rw [lenP]; omega),zaf (by omega),Int.toNat_natCast,elemP hq,zaf (by omega),Int.toNat_natCast,elemP hs]
   have ea:ptsE found++[zak (ofP q)]=ptsE (found++[q]):=by simp only [ptsE,List.map_append,List.map_cons,List.map_nil]
   by_cases h1:SlF q s
   · have hbn2:¬ BnF (s :: r):=fun h2=>hbn ⟨h1,h2⟩
     rw [zlP mq ms (zew ha hq hs).1 h1,zaX]
     show brn (!((ofR (sl q s)).Num == (ofR (sl p q)).Num && ((ofR (sl q s)).Den == (ofR (sl p q)).Den && true))) _ _=_
     rw [eqR,zo3,zag]
     have ih1:=ih (pre++[p]) q s found he' (by simp; omega) hbn2
     have ih2:=ih (pre++[p]) q s (found++[q]) he' (by simp; omega) hbn2
     have el:(pre++[p]).length+1=pre.length+2:=by simp
     rw [el] at ih1 ih2
     by_cases hc:sl q s=sl p q
     · rw [if_pos hc]
       exact ih1
     · rw [if_neg hc,zaf (by omega),elemP hq,zaf rfl,zaf (by rw [lenP]; omega),zaf rfl,ea]
       exact ih2
   · rw [zs5 mq ms (zew ha hq hs).1 h1,zaX,brn_ite]
     dsimp only
     have er:=zts l hl (r.length) (pre.length+2)
     split
     · rw [zaf (by omega),elemP hq,zaf rfl,zaf (by rw [lenP]; omega),zaf rfl,ea]
       exact er ((found++[q]).map ofP) ⟨0,0⟩ (by omega) (by simp; omega)
     · exact er (found.map ofP) ⟨0,0⟩ (by omega) (by simp; omega)
theorem bends_ok (l:List Pt) (ha:Asc l) (hl:2≤l.length) (hl2:l.length≤100000) (hb:AllF l) (h:BnF l) :
  cw zgV [.sl 4 (ptsE l)] []=some (zcX ((bn l).map ofP,0)):=by
 match l,ha,hl,hl2,hb,h with
 | p :: q :: r,ha,hl,hl2,hb,h =>
   refine zmc ((p :: q :: r).map ofP) ?_
   have hp:(p :: q :: r)[Int.toNat 0]?=some p:=rfl
   have hq:(p :: q :: r)[Int.toNat 1]?=some q:=rfl
   rw [zaf (by omega),elemP hp,zaf (by omega),elemP hq,zlP (hb p (by simp)) (hb q (by simp)) (zew (i:=0) ha rfl rfl).1 h.1,zaX]
   exact k_bends_ok (p :: q :: r) hl2 ha hb r [] p q [] rfl (Nat.le_refl _) h.2
theorem bends_no (l:List Pt) (ha:Asc l) (hl:2≤l.length) (hl2:l.length≤100000) (hb:AllF l) (h:¬ BnF l) :
  cw zgV [.sl 4 (ptsE l)] []=some (zcX ([],6)):=by
 match l,ha,hl,hl2,hb,h with
 | p :: q :: r,ha,hl,hl2,hb,h =>
   refine zmc ((p :: q :: r).map ofP) ?_
   have hp:(p :: q :: r)[Int.toNat 0]?=some p:=rfl
   have hq:(p :: q :: r)[Int.toNat 1]?=some q:=rfl
   rw [zaf (by omega),elemP hp,zaf (by omega),elemP hq]
   by_cases h1:SlF p q
   · rw [zlP (hb p (by simp)) (hb q (by simp)) (zew (i:=0) ha rfl rfl).1 h1,zaX]
     exact k_bends_no (p :: q :: r) hl2 ha hb r [] p q [] rfl (Nat.le_refl _) (fun h2=>h ⟨h1,h2⟩)
   · rw [zs5 (hb p (by simp)) (hb q (by simp)) (zew (i:=0) ha rfl rfl).1 h1,zaX]
     exact zts (p :: q :: r) hl2 r.length 1 [] ⟨0,0⟩ (by simp; omega) (by simp)
theorem bn_len (l:List Pt) (h:2≤l.length):(bn l).length+2≤l.length:=by
 match l,h with
 | p :: q :: r,_ =>
   induction r generalizing p q with
   | nil=>simp [bn]
   | cons s r ih =>
     unfold bn
     have:=ih q s (by simp)
     simp only [List.length_cons] at this ⊢
     split
     · omega
     · simp only [List.length_cons]; omega
theorem fit_0:Fit ((0:Int):Rat):=by decide
theorem fit_1:Fit ((1:Int):Rat):=by decide
theorem nf_tail (l:List Pt) (ha:Asc l) (hl:2≤l.length) (hl2:l.length≤410) (hb:AllF l) (u v:Rat) (hu:Fit u) (hv:Fit v) :
  (callD zb2 (cw zb6 [.sl 4 (ptsE l),aR u] []) fun (r11:GPoint×Int) =>
 brn (r11.snd != 0) (some (.tup [.agg (zao ⟨[]⟩),I r11.snd],[]))
 (callD zb2 (cw zb6 [.sl 4 (ptsE l),aR v] []) fun (r12:GPoint×Int) =>
  brn (r12.snd != 0) (some (.tup [.agg (zao ⟨[]⟩),I r12.snd],[]))
  (brn (decide (410 < w64 ((((ptsE (bn l)).length:Nat):Int)+2))) (some (.tup [.agg (zao ⟨[]⟩),I 3],[]))
   (chk (1=1)<|
    chk ((1+(ptsE (bn l)).length)*(32+1)≤1099511627776)<|
    chk (([[I r11.fst.X.Num,I r11.fst.X.Den,I r11.fst.Y.Num,I r11.fst.Y.Den]]++ptsE (bn l)).length=([[I r11.fst.X.Num,I r11.fst.X.Den,I r11.fst.Y.Num,I r11.fst.Y.Den]]++ptsE (bn l)).length)<|
    chk ((([[I r11.fst.X.Num,I r11.fst.X.Den,I r11.fst.Y.Num,I r11.fst.Y.Den]]++ptsE (bn l)).length+1)*(32+1)≤1099511627776)<|
    chk (0+([[I r11.fst.X.Num,I r11.fst.X.Den,I r11.fst.Y.Num,I r11.fst.Y.Den]]++ptsE (bn l)++[[I r12.fst.X.Num,I r12.fst.X.Den,I r12.fst.Y.Num,I r12.fst.Y.Den]]).length≤([[I r11.fst.X.Num,I r11.fst.X.Den,I r11.fst.Y.Num,I r11.fst.Y.Den]]++ptsE (bn l)++[[I r12.fst.X.Num,I r12.fst.X.Den,I r12.fst.Y.Num,I r12.fst.Y.Den]]).length)<|
    some (.tup [.agg [.sl 4 (List.take (([[I r11.fst.X.Num,I r11.fst.X.Den,I r11.fst.Y.Num,I r11.fst.Y.Den]]++ptsE (bn l)++[[I r12.fst.X.Num,I r12.fst.X.Den,I r12.fst.Y.Num,I r12.fst.Y.Den]]).length) ((([[I r11.fst.X.Num,I r11.fst.X.Den,I r11.fst.Y.Num,I r11.fst.Y.Den]])++(ptsE (bn l)))++([[I r12.fst.X.Num,I r12.fst.X.Den,I r12.fst.Y.Num,I r12.fst.Y.Den]])))],I 0],[]))))) =
   @ite (Option (AV×Mem)) (EvF l u∧EvF l v) (Classical.propDecidable _) (some (zeT (⟨((u,cv l u) :: (bn l++[(v,cv l v)])).map ofP⟩,0))) (some (zeT (⟨[]⟩,6))):=by
 have hlen:=bn_len l hl
 by_cases h1:EvF l u
 · rw [point_ok l u ha hl (by omega) hb hu h1,zen,brn_f (by rfl)]
   by_cases h2:EvF l v
   · have hll:w64 ((((ptsE (bn l)).length:Nat):Int)+2)=(bn l).length+2:=by rw [lenP,w64_id (by omega) (by omega)]
     rw [point_ok l v ha hl (by omega) hb hv h2,zen,brn_f (by rfl),zag,hll,if_neg (by omega),if_pos ⟨h1,h2⟩,zaf rfl,zaf (by rw [lenP]; omega),zaf rfl,zaf (by rw [List.length_append,lenP]; simp; omega),zaf (by omega),List.take_of_length_le (by exact Nat.le_refl _)]
     have:[[I (ofP (u,cv l u)).X.Num,I (ofP (u,cv l u)).X.Den,I (ofP (u,cv l u)).Y.Num,I (ofP (u,cv l u)).Y.Den]]++ptsE (bn l)++[[I (ofP (v,cv l v)).X.Num,I (ofP (v,cv l v)).X.Den,I (ofP (v,cv l v)).Y.Num,I (ofP (v,cv l v)).Y.Den]]=ptsE ((u,cv l u) :: (bn l++[(v,cv l v)])):=by
      simp only [ptsE,List.map_append,List.map_cons,List.map_nil,List.cons_append,List.nil_append]
      rfl
     dsimp only
     rw [this]
     rfl
   · rw [point_no l v ha hl (by omega) hb hv h2,zen,if_neg (fun h=>h2 h.2)]
     rfl
 · rw [point_no l u ha hl (by omega) hb hu h1,zen,if_neg (fun h=>h1 h.1)]
   rfl
theorem rt_last:∀ (m:List Pt) (hm:m≠[]),rt m=(m.getLast hm).1+1:=fun m hm=>by
 cases m with
 | nil=>exact absurd rfl hm
 | cons a r=>rfl
theorem lf_head {m:List Pt} {a:Pt} {t:List Pt} (h:m=a :: t):lf m=a.1 - 1:=by rw [h]; rfl
noncomputable def nfR (l:List Pt):GCurve×Int:=@ite _ (NfF l) (Classical.propDecidable _) (⟨(nf l).map ofP⟩,0) (⟨[]⟩,6)
theorem nfR_ok {l:List Pt} (h:NfF l):nfR l=(⟨(nf l).map ofP⟩,0):=if_pos h
theorem nfR_no {l:List Pt} (h:¬ NfF l):nfR l=(⟨[]⟩,6):=if_neg h
theorem zva (l:List Pt) (ha:Asc l) (hl:2≤l.length) (hl2:l.length≤410) (hb:AllF l) :
  cw zeR [.sl 4 (ptsE l)] []=some (zeT (nfR l)):=by
 have hbs:AllF (bn l):=fun p hp=>hb p ((bn_sub l).subset hp)
 have hlen:=bn_len l hl
 refine zqA (l.map ofP) ?_
 by_cases h0:BnF l
 · rw [bends_ok l ha hl (by omega) hb h0,zkj,brn_f (by rfl),zjp 0,zbb,zjp 1,zbb,zag]
   show (if 0 < ((ptsE (bn l)).length:Int) then _ else _)=_
   by_cases hne:bn l=[]
   · rw [if_neg (by rw [hne]; simp)]
     refine zmx _ _ _ _ ?_
     refine (nf_tail l ha hl hl2 hb ((0:Int):Rat) ((1:Int):Rat) fit_0 fit_1).trans ?_
     have e1:lf (bn l)=((0:Int):Rat):=by rw [hne]; rfl
     have e2:rt (bn l)=((1:Int):Rat):=by rw [hne]; rfl
     by_cases h1:EvF l ((0:Int):Rat)∧EvF l ((1:Int):Rat)
     · have hn:NfF l:=⟨h0,by rw [e1]; exact fit_0,by rw [e2]; exact fit_1,by rw [e1]; exact h1.1,by rw [e2]; exact h1.2⟩
       rw [if_pos h1,nfR_ok hn]
       unfold nf
       rw [e1,e2]
     · have hn:¬ NfF l:=fun h=>h1 ⟨by rw [← e1]; exact h.2.2.2.1,by rw [← e2]; exact h.2.2.2.2⟩
       rw [if_neg h1,nfR_no hn]
   · obtain ⟨a,t,hat⟩:=List.exists_cons_of_ne_nil hne
     have hpos:0 < (bn l).length:=List.length_pos_iff.2 hne
     have hA:(bn l)[Int.toNat 0]?=some a:=by rw [hat]; rfl
     have hZ:(bn l)[(bn l).length - 1]?=some ((bn l).getLast hne):=by rw [← List.getLast?_eq_getElem?,List.getLast?_eq_some_getLast hne]
     have ba:=hbs a (by rw [hat]; simp)
     have bz:=hbs _ (List.getLast_mem hne)
     have elf:lf (bn l)=a.1 - ((1:Int):Rat):=lf_head hat
     have ert:rt (bn l)=((bn l).getLast hne).1+((1:Int):Rat):=rt_last _ hne
     rw [if_pos (by rw [lenP]; omega),zaf (by omega)]
     show elemD zaB (ptsE (bn l)) (Int.toNat 0) _=_
     have ez:w64 (((ptsE (bn l)).length:Int) - 1)=(((bn l).length - 1:Nat):Int):=by rw [lenP,w64_id (by omega) (by omega)]; omega
     rw [elemP hA,zbb]
     show callD zav (cw zan [lS0,.fn zbD [],aR a.1,aR ((1:Int):Rat)] (mS 0)) _=_
     by_cases h1:Fit (a.1 - ((1:Int):Rat))
     · rw [zjc ba.1 fit_1 h1,zal]
       show chk (0≤w64 (((ptsE (bn l)).length:Int) - 1)) (elemD zaB (ptsE (bn l)) (w64 (((ptsE (bn l)).length:Int) - 1)).toNat _)=_
       rw [ez,zaf (by omega),Int.toNat_natCast,elemP hZ,zbb]
       show callD zav (cw zan [lS0,.fn zcH [],aR ((bn l).getLast hne).1,aR ((1:Int):Rat)] (mS 0)) _=_
       by_cases h2:Fit (((bn l).getLast hne).1+((1:Int):Rat))
       · rw [zu8 bz.1 fit_1 h2,zal]
         refine zgm _ _ _ _ ?_
         rw [brn_f (by rfl)]
         refine (nf_tail l ha hl hl2 hb (a.1 - ((1:Int):Rat)) (((bn l).getLast hne).1+((1:Int):Rat)) h1 h2).trans ?_
         rw [← elf,← ert] at *
         by_cases h3:EvF l (lf (bn l))∧EvF l (rt (bn l))
         · have hn:NfF l:=⟨h0,h1,h2,h3.1,h3.2⟩
           rw [if_pos h3,nfR_ok hn]
           rfl
         · have hn:¬ NfF l:=fun h=>h3 ⟨h.2.2.2.1,h.2.2.2.2⟩
           rw [if_neg h3,nfR_no hn]
       · rw [zvm bz.1 fit_1 h2,zal]
         refine zgm _ _ _ _ ?_
         have hn:¬ NfF l:=fun h=>h2 (by rw [← ert]; exact h.2.2.1)
         rw [brn_t (by rfl),nfR_no hn]
         rfl
     · rw [znY ba.1 fit_1 h1,zal]
       show chk (0≤w64 (((ptsE (bn l)).length:Int) - 1)) (elemD zaB (ptsE (bn l)) (w64 (((ptsE (bn l)).length:Int) - 1)).toNat _)=_
       rw [ez,zaf (by omega),Int.toNat_natCast,elemP hZ,zbb]
       dsimp only
       rw [znX,zal]
       refine zgm _ _ _ _ ?_
       have hn:¬ NfF l:=fun h=>h1 (by rw [← elf]; exact h.2.1)
       rw [brn_t (by rfl),nfR_no hn]
       rfl
 · have hn:¬ NfF l:=fun h=>h0 h.1
   rw [bends_no l ha hl (by omega) hb h0,zkj,nfR_no hn]
   rfl
end Go.Proofs.YtbhkcgaanaelfaaGreat
