/- Division of two words by one, digit by digit: plain laws; no program in sight. -/
import Derived.Test.YtbhkcgaanaelfaaGreatAll
import Derived.Test.YtbhkcgaanaelfaaGreatAbTop
namespace Go.PureDiv
section
variable {B y1 y0 u d:Nat}
theorem q_lt (hu:u < y1*B+y0) (hd:d < B):(u*B+d) / (y1*B+y0) < B:=by
 have hy:0 < y1*B+y0:=by omega
 rw [Nat.div_lt_iff_lt_mul hy]
 have:(u+1)*B≤(y1*B+y0)*B:=Nat.mul_le_mul_right B hu
 rw [Nat.add_mul,Nat.one_mul] at this
 rw [Nat.mul_comm B]
 omega
theorem zqW {q r:Nat} (hu:u < y1*B+y0) (hd:d < B) (hq:q*y1+r=u) (h:B≤q∨B*r+d < q*y0):(u*B+d) / (y1*B+y0) < q:=by
 rcases h with h | h
 · exact Nat.lt_of_lt_of_le (q_lt hu hd) h
 · have hy:0 < y1*B+y0:=by omega
   rw [Nat.div_lt_iff_lt_mul hy,← hq]
   have e1:q*(y1*B+y0)=q*y1*B+q*y0:=by rw [Nat.mul_add,Nat.mul_assoc]
   have e2:(q*y1+r)*B=q*y1*B+B*r:=by rw [Nat.add_mul,Nat.mul_comm r]
   rw [e1,e2]
   omega
theorem znW {q r:Nat} (hq:q*y1+r=u) (hy:0 < y1*B+y0) (h:q*y0≤B*r+d):q≤(u*B+d) / (y1*B+y0):=by
 rw [Nat.le_div_iff_mul_le hy,← hq]
 have e1:q*(y1*B+y0)=q*y1*B+q*y0:=by rw [Nat.mul_add,Nat.mul_assoc]
 have e2:(q*y1+r)*B=q*y1*B+B*r:=by rw [Nat.add_mul,Nat.mul_comm r]
 rw [e1,e2]
 omega
theorem guess_ge {q r:Nat} (h1:0 < y1) (hB:0 < B) (hd:d < B) (hq:q*y1+r=u) (hr:r < y1):(u*B+d) / (y1*B+y0)≤q:=by
 have h2:(u*B+d) / (y1*B+y0)≤(u*B+d) / (B*y1):=by
  refine Nat.div_le_div_left ?_ (Nat.mul_pos hB h1)
  rw [Nat.mul_comm]
  omega
 have h3:(u*B+d) / B=u:=by
  rw [Nat.add_comm,Nat.add_mul_div_right _ _ hB,Nat.div_eq_of_lt hd,Nat.zero_add]
 rw [← Nat.div_div_eq_div_mul,h3] at h2
 have h4:u / y1=q:=by
  rw [← hq,Nat.add_comm,Nat.add_mul_div_right _ _ h1,Nat.div_eq_of_lt hr,Nat.zero_add]
 omega
theorem at_break {q r:Nat} (hu:u < y1*B+y0) (h0:y0 < B) (hq:q*y1+r=u) (hr:B≤r):q≤(u*B+d) / (y1*B+y0):=by
 refine znW hq (by omega) ?_
 have h1:q*y1 < B*y1:=by rw [Nat.mul_comm B]; omega
 have hqB:q < B:=Nat.lt_of_mul_lt_mul_right h1
 have h2:q*y0≤B*B:=Nat.mul_le_mul (Nat.le_of_lt hqB) (Nat.le_of_lt h0)
 have h3:B*B≤B*r:=Nat.mul_le_mul_left B hr
 omega
end
theorem zti (n1 d1 d0 y B:Nat) (hy:0 < y) :
  ((n1*B+d1)*B+d0) / y=((n1*B+d1) / y)*B+((n1*B+d1) % y*B+d0) / y∧((n1*B+d1)*B+d0) % y=((n1*B+d1) % y*B+d0) % y:=by
 have e:=Nat.div_add_mod (n1*B+d1) y
 generalize n1*B+d1=m at *
 generalize hq:m / y=q at *
 generalize hr:m % y=r at *
 have e2:m*B+d0=(q*B)*y+(r*B+d0):=by
  rw [← e,Nat.add_mul]
  have:y*q*B=q*B*y:=by rw [Nat.mul_comm y q,Nat.mul_assoc,Nat.mul_assoc,Nat.mul_comm y B]
  omega
 rw [e2]
 constructor
 · rw [Nat.add_comm (q*B*y),Nat.add_mul_div_right _ _ hy,Nat.add_comm]
 · rw [Nat.add_comm (q*B*y),Nat.add_mul_mod_self_right]
theorem shifted (n y s:Nat):(n*2 ^ s) / (y*2 ^ s)=n / y∧(n*2 ^ s) % (y*2 ^ s) / 2 ^ s=n % y:=by
 have hp:0 < 2 ^ s:=Nat.pos_of_ne_zero (by simp)
 constructor
 · exact Nat.mul_div_mul_right n y hp
 · rw [Nat.mul_mod_mul_right,Nat.mul_div_cancel _ hp]
theorem zx9 (hi lo s:Nat) (hs:s≤64):(hi*2 ^ 64+lo)*2 ^ s=(hi*2 ^ s+lo / 2 ^ (64 - s))*2 ^ 64+lo*2 ^ s % 2 ^ 64:=by
 have hpp:(2:Nat) ^ 64=2 ^ (64 - s)*2 ^ s:=by rw [← Nat.pow_add,Nat.sub_add_cancel hs]
 have e1:lo*2 ^ s / 2 ^ 64=lo / 2 ^ (64 - s):=by
  rw [hpp,Nat.mul_div_mul_right _ _ (Nat.pos_of_ne_zero (by simp))]
 have e2:=Nat.div_add_mod (lo*2 ^ s) (2 ^ 64)
 rw [e1] at e2
 have e3:(hi*2 ^ 64+lo)*2 ^ s=hi*2 ^ s*2 ^ 64+lo*2 ^ s:=by
  rw [Nat.add_mul,Nat.mul_assoc,Nat.mul_comm (2 ^ 64),← Nat.mul_assoc]
 have e4:(hi*2 ^ s+lo / 2 ^ (64 - s))*2 ^ 64=hi*2 ^ s*2 ^ 64+lo / 2 ^ (64 - s)*2 ^ 64:=Nat.add_mul _ _ _
 rw [e3,e4,Nat.mul_comm (lo / 2 ^ (64 - s)),Nat.add_assoc,e2]
theorem bit_step (a i:Nat):a / 2 ^ i=2*(a / 2 ^ (i+1))+a / 2 ^ i % 2:=by
 have h:a / 2 ^ (i+1)=a / 2 ^ i / 2:=by rw [Nat.pow_succ,Nat.div_div_eq_div_mul]
 rw [h]
 omega
theorem round {m b q r t:Nat} (hb:0 < b) (hq:q=m / b) (hr:r=m % b) (ht:t < 2) :
  (b≤2*r+t→(2*m+t) / b=2*q+1∧(2*m+t) % b=2*r+t - b)∧(2*r+t < b→(2*m+t) / b=2*q∧(2*m+t) % b=2*r+t):=by
 have e:=Nat.div_add_mod m b
 have hlt:=Nat.mod_lt m hb
 subst hq
 subst hr
 generalize m / b=q at *
 generalize m % b=r at *
 constructor
 · intro h
   have e2:2*m+t=(2*r+t - b)+(2*q+1)*b:=by
    rw [← e,Nat.add_mul,Nat.mul_assoc 2 q b,Nat.mul_comm q b]
    omega
   rw [e2,Nat.add_mul_div_right _ _ hb,Nat.add_mul_mod_self_right,Nat.div_eq_of_lt (by omega),Nat.mod_eq_of_lt (by omega)]
   omega
 · intro h
   have e2:2*m+t=(2*r+t)+(2*q)*b:=by
    rw [← e,Nat.mul_assoc 2 q b,Nat.mul_comm q b]
    omega
   rw [e2,Nat.add_mul_div_right _ _ hb,Nat.add_mul_mod_self_right,Nat.div_eq_of_lt h,Nat.mod_eq_of_lt h]
   omega
end Go.PureDiv
namespace Go.Proofs.YtbhkcgaanaelfaaGreat
open Go.Ab
set_option linter.unusedSimpArgs false
def blen (n:Nat):Nat:=if n=0 then 0 else Nat.log2 n+1
theorem ziX (n k:Nat):blen n≤k↔n < 2 ^ k:=by
 unfold blen
 by_cases h:n=0
 · subst h; simp; exact Nat.pos_of_ne_zero (by simp)
 · rw [if_neg h,← Nat.log2_lt h]; omega
theorem blen_spec {n:Nat} (h:n≠0):2 ^ (blen n - 1)≤n∧n < 2 ^ blen n:=by
 refine ⟨?_,(ziX n _).1 (Nat.le_refl _)⟩
 have h1:¬ blen n≤blen n - 1:=by
  have:blen n≠0:=by unfold blen; rw [if_neg h]; omega
  omega
 rw [ziX] at h1
 omega
theorem zmG (n k:Nat) (h:2 ^ k≤n):blen n=blen (n / 2 ^ k)+k:=by
 have hp:0 < 2 ^ k:=Nat.pos_of_ne_zero (by simp)
 have key:∀ j,blen n≤j+k↔blen (n / 2 ^ k)≤j:=fun j=>by
  rw [ziX,ziX,Nat.div_lt_iff_lt_mul hp,Nat.pow_add]
 have h2:¬ blen n≤k:=by rw [ziX]; omega
 have a:=(key (blen (n / 2 ^ k))).2 (Nat.le_refl _)
 have b:=(key (blen n - k)).1 (by omega)
 omega
theorem tab_ok:∀ x:Nat,x < 256→∀ y,(some (I (w64 ((y:Int)+w64 (strAt zdX (x:Int)))),([]:Mem)):Option (AV×Mem))=some (I (w64 ((y:Int)+w64 ((blen x:Nat):Int))),[]):=by
 have h:∀ x:Fin 256,strAt zdX ((x.val:Nat):Int)=((blen x.val:Nat):Int):=by decide +kernel
 intro x hx y
 rw [h ⟨x,hx⟩]
theorem u8_id {x:Nat} (h:x < 256):IntKind.u8.wrap (x:Int)=(x:Int):=by
 simp only [IntKind.wrap,IntKind.bits,IntKind.signed,show ((2:Int) ^ 8)=256 from rfl,Bool.false_and]
 simp only [Bool.false_eq_true,if_false]
 omega
theorem fd (a:Nat) (k:Int) (m:Nat) (h:Min.min (Int.toNat k) 64=m):(a:Int).fdiv (2 ^ Min.min (Int.toNat k) 64)=((a / 2 ^ m:Nat):Int):=by
 rw [h,show ((2:Int) ^ m)=((2 ^ m:Nat):Int) by rw [Int.natCast_pow]; rfl,Int.fdiv_eq_ediv_of_nonneg _ (Int.natCast_nonneg _)]
 rfl
theorem k_1010 (x:Nat) (y:Nat) (hx:x < 256) (hy:y≤64):zgU x y=some (zex ((y+blen x:Nat):Int))∧zgm x y=some (zex ((y+blen x:Nat):Int)):=by
 have hb:blen x≤8:=(ziX x 8).2 hx
 have hr:(some (I (w64 ((y:Int)+w64 (strAt zdX (x:Int)))),([]:Mem)):Option (AV×Mem))=some (zex ((y+blen x:Nat):Int)):=by
  rw [tab_ok x hx,w64_id (n:=((blen x:Nat):Int)) (by omega) (by omega),w64_id (by omega) (by omega),← Int.natCast_add]
  rfl
 have hsz:(zdX.size:Int)=256:=by decide +kernel
 constructor
 · refine zrV _ _ ?_
   rw [u8_id hx,zab (by omega),zab (by rw [hsz]; omega)]
   exact hr
 · refine zqv _ _ ?_
   rw [u8_id hx,zab (by omega),zab (by rw [hsz]; omega)]
   exact hr
theorem k_1007 (x:Nat) (y:Nat) (hx:x < 65536) (hy:y≤48):zgZ x y=some (zex ((y+blen x:Nat):Int))∧zgh x y=some (zex ((y+blen x:Nat):Int)):=by
 have big:¬ x < 256→w64 ((y:Int)+8)=((y+8:Nat):Int)∧x / 2 ^ 8 < 256∧y+8+blen (x / 2 ^ 8)=y+blen x:=by
  intro h
  refine ⟨by rw [w64_id (by omega) (by omega)]; omega,by omega,?_⟩
  have:=zmG x 8 (by omega)
  omega
 constructor
 · refine zrI _ _ ?_
   by_cases h:x < 256
   · rw [zaf,if_neg (by omega)]
     exact (k_1010 x y h (by omega)).2
   · obtain ⟨h1,h2,h3⟩:=big h
     rw [zaf,if_pos (by omega),zab (by omega),fd x 8 8 rfl,h1,← h3]
     exact (k_1010 _ _ h2 (by omega)).1
 · refine zqm _ _ ?_
   by_cases h:x < 256
   · rw [zaf,if_neg (by omega)]
     exact (k_1010 x y h (by omega)).2
   · obtain ⟨h1,h2,h3⟩:=big h
     rw [zaf,if_pos (by omega),zab (by omega),fd x 8 8 rfl,h1,← h3]
     exact (k_1010 _ _ h2 (by omega)).1
theorem c_Len64 (x:Nat) (hx:x < 18446744073709551616):cw ziR [.v (.int .u64 (x:Int))] []=some (zex ((blen x:Nat):Int)):=by
 refine zwC _ ?_
 by_cases h32:x < 4294967296
 · rw [zaf,if_neg (by omega)]
   refine zqy _ ?_
   by_cases h16:x < 65536
   · rw [zaf,if_neg (by omega)]
     have:=(k_1007 x 0 h16 (by omega)).2
     rw [Nat.zero_add] at this
     exact this
   · rw [zaf,if_pos (by omega),zab (by omega),fd x 16 16 rfl,show w64 (0+16)=((16:Nat):Int) from rfl]
     have h3:=zmG x 16 (by omega)
     have:=(k_1007 (x / 2 ^ 16) 16 (by omega) (by omega)).1
     rw [show 16+blen (x / 2 ^ 16)=blen x by omega] at this
     exact this
 · rw [zaf,if_pos (by omega),zab (by omega)]
   refine zr0 _ ?_
   have h2:=zmG x 32 (by omega)
   rw [fd x 32 32 rfl]
   by_cases h16:x / 2 ^ 32 < 65536
   · rw [zaf,if_neg (by omega)]
     have:=(k_1007 (x / 2 ^ 32) 32 h16 (by omega)).2
     rw [show 32+blen (x / 2 ^ 32)=blen x by omega] at this
     exact this
   · have h3:=zmG (x / 2 ^ 32) 16 (by omega)
     rw [zaf,if_pos (by omega),zab (by omega),fd (x / 2 ^ 32) 16 16 rfl,show w64 (32+16)=((48:Nat):Int) from rfl]
     have:=(k_1007 (x / 2 ^ 32 / 2 ^ 16) 48 (by omega) (by omega)).1
     rw [show 48+blen (x / 2 ^ 32 / 2 ^ 16)=blen x by omega] at this
     exact this
theorem zsO (x:Nat) (hx:x < 18446744073709551616):cw zg3 [.v (.int .u64 (x:Int))] []=some (zhe ((64 - blen x:Nat):Int)):=by
 have hb:blen x≤64:=(ziX x 64).2 (by omega)
 refine zo0 _ ?_
 rw [c_Len64 x hx,zno,w64_id (by omega) (by omega),show (64:Int) - ((blen x:Nat):Int)=((64 - blen x:Nat):Int) by omega]
 rfl
end Go.Proofs.YtbhkcgaanaelfaaGreat
namespace Go.Proofs.YtbhkcgaanaelfaaGreat
open Go.Ab Go.PureDiv
set_option linter.unusedSimpArgs false
set_option maxRecDepth 20000
theorem wu_mod (n:Int):wu64 n=n % 18446744073709551616:=by
 simp only [wu64,IntKind.wrap,IntKind.bits,IntKind.signed,show ((2:Int) ^ 64)=18446744073709551616 from rfl,Bool.false_and]
 simp only [Bool.false_eq_true,if_false]
theorem wuN' {n:Nat} (h:n < 18446744073709551616):wu64 (n:Int)=(n:Int):=zdb (by omega) (by omega)
theorem mask32 (n:Nat) (hn:n < 18446744073709551616):wu64 ((((n:Int) % Int.ofNat (2 ^ 64)).toNat &&& ((4294967295:Int) % Int.ofNat (2 ^ 64)).toNat:Nat):Int)=((n % 4294967296:Nat):Int):=by
 have e1:((n:Int) % Int.ofNat (2 ^ 64)).toNat=n:=by
  show ((n:Int) % (18446744073709551616:Int)).toNat=n
  omega
 have e2:((4294967295:Int) % Int.ofNat (2 ^ 64)).toNat=2 ^ 32 - 1:=by decide
 rw [e1,e2,Nat.and_two_pow_sub_one_eq_mod]
 exact wuN' (by omega)
structure DS (hi lo y s:Nat):Prop where
 s63:s≤63
 Y1:9223372036854775808≤y*2 ^ s
 Y2:y*2 ^ s < 18446744073709551616
 hh:hi < y
 lo:lo < 18446744073709551616
section
variable {hi lo y s:Nat}
theorem eS (h:DS hi lo y s):Min.min (wu64 (s:Int)).toNat 64=s:=by
 have:=h.s63
 rw [wuN' (by omega),Int.toNat_natCast]
 omega
theorem p2 (s:Nat):((2:Int) ^ s)=((2 ^ s:Nat):Int):=by rw [Int.natCast_pow]; rfl
theorem eY (h:DS hi lo y s):wu64 ((y:Int)*2 ^ Min.min (wu64 (s:Int)).toNat 64)=((y*2 ^ s:Nat):Int):=by
 rw [eS h,p2,← Int.natCast_mul]
 exact wuN' h.Y2
theorem eN (h:DS hi lo y s):wu64 ((lo:Int)*2 ^ Min.min (wu64 (s:Int)).toNat 64)=((lo*2 ^ s % 18446744073709551616:Nat):Int):=by
 rw [eS h,p2,← Int.natCast_mul,wu_mod]
 rfl
theorem eU (h:DS hi lo y s):wu64 ((((wu64 ((hi:Int)*2 ^ Min.min (wu64 (s:Int)).toNat 64) % Int.ofNat (2 ^ 64)).toNat ||| ((lo:Int).fdiv (2 ^ Min.min (wu64 (64 - wu64 (s:Int))).toNat 64) % Int.ofNat (2 ^ 64)).toNat:Nat)):Int)=((hi*2 ^ s+lo / 2 ^ (64 - s):Nat):Int) ∧
  hi*2 ^ s+lo / 2 ^ (64 - s) < y*2 ^ s:=by
 have h63:=h.s63
 have hlo:=h.lo
 have hY:=h.Y2
 have h1:(hi+1)*2 ^ s≤y*2 ^ s:=Nat.mul_le_mul_right _ h.hh
 rw [Nat.add_mul,Nat.one_mul] at h1
 have h2:lo / 2 ^ (64 - s) < 2 ^ s:=by
  rw [Nat.div_lt_iff_lt_mul (Nat.pos_of_ne_zero (by simp)),← Nat.pow_add,show s+(64 - s)=64 by omega]
  exact hlo
 have e1:wu64 ((hi:Int)*2 ^ Min.min (wu64 (s:Int)).toNat 64)=((hi*2 ^ s:Nat):Int):=by
  rw [eS h,p2,← Int.natCast_mul]
  exact wuN' (Nat.lt_of_le_of_lt (Nat.le_trans (Nat.le_add_right _ _) h1) hY)
 have e2:Min.min (wu64 (64 - wu64 (s:Int))).toNat 64=64 - s:=by
  rw [wuN' (show s < 18446744073709551616 by omega),zdb (by omega) (by omega)]
  omega
 have e3:(lo:Int).fdiv (2 ^ Min.min (wu64 (64 - wu64 (s:Int))).toNat 64)=((lo / 2 ^ (64 - s):Nat):Int):=by
  rw [e2,p2,Int.fdiv_eq_ediv_of_nonneg _ (Int.natCast_nonneg _)]
  rfl
 have m:∀ n:Nat,n < 18446744073709551616→((n:Int) % Int.ofNat (2 ^ 64)).toNat=n:=fun n hn=>by
  show ((n:Int) % (18446744073709551616:Int)).toNat=n
  omega
 have h3:hi*2 ^ s+lo / 2 ^ (64 - s) < y*2 ^ s:=Nat.lt_of_lt_of_le (Nat.add_lt_add_left h2 _) h1
 have h4:hi*2 ^ s < 18446744073709551616:=Nat.lt_of_le_of_lt (Nat.le_trans (Nat.le_add_right _ _) h1) hY
 have h5:lo / 2 ^ (64 - s) < 18446744073709551616:=Nat.lt_of_le_of_lt (Nat.div_le_self _ _) hlo
 refine ⟨?_,h3⟩
 rw [e1,e3,m _ h4,m _ h5,Nat.mul_comm hi,← Nat.two_pow_add_eq_or_of_lt h2,Nat.mul_comm _ hi,wuN' (Nat.lt_trans h3 hY)]
theorem rest_w {a b c R:Nat} (h:a+b=c+R) (hR:R < 18446744073709551616):wu64 (wu64 (wu64 (a:Int)+(b:Int)) - wu64 (c:Int))=(R:Int):=by
 simp only [wu_mod]
 omega
theorem digit {Y u d B:Nat} (hB:B=4294967296) (hY1:9223372036854775808≤Y) (hY2:Y < 18446744073709551616) (hu:u < Y) (hd:d < B) (F:Int→Int→Option (AV×Mem)) (G:Int→Int→Option (AV×Mem)) (y:AV×Mem)
  (hF:∀ q r:Nat,q*(Y / B)+r=u→r < B→q≤8589934592→1≤q→(
   (B≤r+Y / B→q - 1=(u*B+d) / Y→F q r=some y) ∧
   (r+Y / B < B→G q r=some y→F q r=some y)))
  (hG:∀ q r:Nat,q*(Y / B)+r=u→r < B→r+Y / B < B→q≤8589934592→1≤q→(
   ((B≤q - 1∨B*(r+Y / B)+d < (q - 1)*(Y % B))→F ((q - 1:Nat):Int) ((r+Y / B:Nat):Int)=some y→G q r=some y) ∧
   (q - 1 < B→(q - 1)*(Y % B)≤B*(r+Y / B)+d→q - 1=(u*B+d) / Y→G q r=some y))) :
  ∀ (f q r:Nat),q*(Y / B)+r=u→r < B→(u*B+d) / Y < q→q≤(u*B+d) / Y+f→F q r=some y:=by
 have hYe:Y / B*B+Y % B=Y:=by rw [Nat.mul_comm]; exact Nat.div_add_mod Y B
 have hy0:Y % B < B:=Nat.mod_lt _ (by omega)
 have hyp:0 < Y / B*B+Y % B:=by omega
 have hu':u < Y / B*B+Y % B:=by omega
 have hy1:2147483648≤Y / B:=by subst hB; omega
 have hqb:∀ q r:Nat,q*(Y / B)+r=u→q≤8589934592:=by
  intro q r h
  have h1:q*2147483648≤q*(Y / B):=Nat.mul_le_mul_left q hy1
  omega
 intro f
 induction f with
 | zero=>intro q r _ _ h1 h2; omega
 | succ f ih =>
   intro q r hq hr hQ hf
   have hq1:1≤q:=Nat.succ_le_of_lt (Nat.lt_of_le_of_lt (Nat.zero_le _) hQ)
   have hnext:(q - 1)*(Y / B)+(r+Y / B)=u:=by
    have:q*(Y / B)=(q - 1)*(Y / B)+Y / B:=by
     rw [← Nat.succ_mul]
     congr 1
     omega
    omega
   obtain ⟨a,b⟩:=hF q r hq hr (hqb q r hq) hq1
   by_cases hbr:B≤r+Y / B
   · refine a hbr ?_
     have:=at_break (d:=d) hu' hy0 hnext hbr
     rw [hYe] at this
     omega
   · refine b (by omega) ?_
     obtain ⟨c,e⟩:=hG q r hq hr (by omega) (hqb q r hq) hq1
     by_cases ht:B≤q - 1∨B*(r+Y / B)+d < (q - 1)*(Y % B)
     · refine c ht (ih (q - 1) (r+Y / B) hnext (by omega) ?_ (by omega))
       have:=zqW hu' hd hnext ht
       rw [hYe] at this
       exact this
     · have ht1:q - 1 < B:=by omega
       have ht2:(q - 1)*(Y % B)≤B*(r+Y / B)+d:=by
        rcases Nat.lt_or_ge (B*(r+Y / B)+d) ((q - 1)*(Y % B)) with w | w
        · exact absurd (Or.inr w) ht
        · exact w
       have:=znW (d:=d) hnext hyp ht2
       rw [hYe] at this
       exact e ht1 ht2 (by omega)
theorem fdS (h:DS hi lo y s) (R:Nat):(R:Int).fdiv (2 ^ Min.min (wu64 (s:Int)).toNat 64)=((R / 2 ^ s:Nat):Int):=by
 rw [eS h,p2,Int.fdiv_eq_ediv_of_nonneg _ (Int.natCast_nonneg _)]
 rfl
theorem mul_w (a b:Nat):(a:Int)*(b:Int)=((a*b:Nat):Int):=(Int.natCast_mul a b).symm
theorem fin2 (h:DS hi lo y s) (q1 v q n:Nat) (hq1:q1 < 4294967296) (hqB:q < 4294967296)
  (hq:q=(v*4294967296+n % 4294967296) / (y*2 ^ s)) :
  (chk ((0:Int)≤wu64 (s:Int)) <| (some (AV.tup [.v (.int .u64 (wu64 (wu64 ((q1:Int)*4294967296)+(q:Int)))),.v (.int .u64 ((wu64 (wu64 (wu64 ((v:Int)*4294967296)+((n % 4294967296:Nat):Int)) - wu64 ((q:Int)*((y*2 ^ s:Nat):Int)))).fdiv (2 ^ Min.min (wu64 (s:Int)).toNat 64)))],[]):Option (AV×Mem))) =
   some (zdw (((q1*4294967296+(v*4294967296+n % 4294967296) / (y*2 ^ s):Nat):Int),(((v*4294967296+n % 4294967296) % (y*2 ^ s) / 2 ^ s:Nat):Int))):=by
 have h63:=h.s63
 have hY2:=h.Y2
 have e:=Nat.div_add_mod (v*4294967296+n % 4294967296) (y*2 ^ s)
 have hR:(v*4294967296+n % 4294967296) % (y*2 ^ s) < y*2 ^ s:=Nat.mod_lt _ (by have:=h.Y1; omega)
 rw [← hq] at e ⊢
 rw [Nat.mul_comm] at e
 generalize (v*4294967296+n % 4294967296) % (y*2 ^ s)=R at *
 have c1:(q1:Int)*4294967296=((q1*4294967296:Nat):Int):=mul_w _ _
 have c2:(v:Int)*4294967296=((v*4294967296:Nat):Int):=mul_w _ _
 have hr:=rest_w (a:=v*4294967296) (b:=n % 4294967296) (c:=q*(y*2 ^ s)) (R:=R) e.symm (Nat.lt_trans hR hY2)
 rw [zab (by rw [wuN' (by omega)]; omega),c1,c2,mul_w q,hr,fdS h,wuN' (show q1*4294967296 < 18446744073709551616 by omega),← Int.natCast_add,wuN' (by omega)]
 rfl
theorem fd32 (a:Nat):(a:Int).fdiv (2 ^ Min.min (Int.toNat 32) 64)=((a / 4294967296:Nat):Int):=fd a 32 32 rfl
theorem pred_w {q:Nat} (h:1≤q) (h2:q≤8589934592):wu64 ((q:Int) - 1)=((q - 1:Nat):Int):=by rw [zdb (by omega) (by omega)]; omega
theorem sum_w {a b:Nat} (h:a+b < 18446744073709551616):wu64 ((a:Int)+(b:Int))=((a+b:Nat):Int):=by rw [← Int.natCast_add,wuN' h]
theorem B_w {r:Nat} (h:r < 4294967296):wu64 ((4294967296:Int)*(r:Int))=((4294967296*r:Nat):Int):=by
 rw [show (4294967296:Int)*(r:Int)=((4294967296*r:Nat):Int) from mul_w 4294967296 r,wuN' (by omega)]
theorem q_w {q z:Nat} (h:q < 4294967296) (h2:z < 4294967296):wu64 ((q:Int)*(z:Int))=((q*z:Nat):Int):=by
 have:q*z≤4294967295*4294967295:=Nat.mul_le_mul (by omega) (by omega)
 rw [mul_w,wuN' (by omega)]
theorem y1_lt (h:DS hi lo y s):y*2 ^ s / 4294967296 < 4294967296:=by have:=h.Y2; omega
theorem dig2 (h:DS hi lo y s) (q1 v n:Nat) (hn:n=lo*2 ^ s % 18446744073709551616) (hq1:q1 < 4294967296) (hv:v < y*2 ^ s) :
  zeb lo y s q1 ((v % (y*2 ^ s / 4294967296):Nat):Int) v ((v / (y*2 ^ s / 4294967296):Nat):Int) =
   some (zdw (((q1*4294967296+(v*4294967296+n % 4294967296) / (y*2 ^ s):Nat):Int),(((v*4294967296+n % 4294967296) % (y*2 ^ s) / 2 ^ s:Nat):Int))):=by
 have hY1:=h.Y1
 have hY2:=h.Y2
 have h63:=h.s63
 have hyl:=y1_lt h
 have hnl:n < 18446744073709551616:=by rw [hn]; exact Nat.mod_lt _ (by omega)
 have hQB:(v*4294967296+n % 4294967296) / (y*2 ^ s) < 4294967296:=by
  have e:=Nat.div_add_mod (y*2 ^ s) 4294967296
  rw [Nat.mul_comm] at e
  have:=q_lt (B:=4294967296) (y1:=y*2 ^ s / 4294967296) (y0:=y*2 ^ s % 4294967296) (u:=v) (d:=n % 4294967296) (by omega) (by omega)
  rw [e] at this
  exact this
 have eN':=eN h
 rw [← hn] at eN'
 have nn:∀ a b:Nat,(4294967296:Int)*(a:Int)=((4294967296*a:Nat):Int):=fun a b=>mul_w 4294967296 a
 have search:=digit (Y:=y*2 ^ s) (u:=v) (d:=n % 4294967296) (B:=4294967296) rfl hY1 hY2 hv (by omega) (fun q r=>zd1 lo y s q1 v r q) (fun q r=>ziW lo y s q1 v r q)
  (zdw (((q1*4294967296+(v*4294967296+n % 4294967296) / (y*2 ^ s):Nat):Int),(((v*4294967296+n % 4294967296) % (y*2 ^ s) / 2 ^ s:Nat):Int))) ?_ ?_
 · refine zs8 _ _ _ _ _ _ _ ?_
   have hdm:=Nat.div_add_mod v (y*2 ^ s / 4294967296)
   rw [Nat.mul_comm] at hdm
   have hrl:v % (y*2 ^ s / 4294967296) < y*2 ^ s / 4294967296:=Nat.mod_lt _ (by omega)
   generalize v / (y*2 ^ s / 4294967296)=q at hdm ⊢
   generalize v % (y*2 ^ s / 4294967296)=r at hdm hrl ⊢
   have go:=search q q r hdm (by omega)
   have hYe:y*2 ^ s / 4294967296*4294967296+y*2 ^ s % 4294967296=y*2 ^ s:=by have:=Nat.div_add_mod (y*2 ^ s) 4294967296; rw [Nat.mul_comm] at this; exact this
   rw [eY h,eN',mask32 _ hY2,mask32 _ hnl]
   by_cases hb:4294967296≤q
   · rw [zaf,if_pos (by omega)]
     exact go (Nat.lt_of_lt_of_le hQB hb) (Nat.le_add_left _ _)
   · rw [zaf,if_neg (by omega),nn r 0,wuN' (show 4294967296*r < 18446744073709551616 by omega),← Int.natCast_add,wuN' (by omega),mul_w]
     have hq0:q*(y*2 ^ s % 4294967296) < 18446744073709551616:=by
      have:q*(y*2 ^ s % 4294967296)≤4294967295*4294967295:=Nat.mul_le_mul (by omega) (by omega)
      omega
     rw [wuN' hq0]
     by_cases ht:4294967296*r+n % 4294967296 < q*(y*2 ^ s % 4294967296)
     · rw [zaf,if_pos (by omega)]
       have:=zqW (B:=4294967296) (y1:=y*2 ^ s / 4294967296) (y0:=y*2 ^ s % 4294967296) (u:=v) (d:=n % 4294967296) (by omega) (by omega) hdm (.inr ht)
       rw [hYe] at this
       exact go this (Nat.le_add_left _ _)
     · have h1:=znW (B:=4294967296) (y1:=y*2 ^ s / 4294967296) (y0:=y*2 ^ s % 4294967296) (u:=v) (d:=n % 4294967296) hdm (by omega) (by omega)
       rw [hYe] at h1
       have h2:(v*4294967296+n % 4294967296) / (y*2 ^ s)≤q:=by
        have:=guess_ge (B:=4294967296) (y1:=y*2 ^ s / 4294967296) (y0:=y*2 ^ s % 4294967296) (u:=v) (d:=n % 4294967296) (by omega) (by omega) (by omega) hdm hrl
        rw [hYe] at this
        exact this
       rw [zaf,if_neg (by omega)]
       exact fin2 h q1 v q n hq1 (by omega) (Nat.le_antisymm h1 h2)
 · intro q r hq hr hqb hq1'
   constructor
   · intro hbr hQ
     refine zlo _ _ _ _ _ _ _ ?_
     rw [eY h,eN',mask32 _ hnl,fd32,sum_w (by omega),zaf,if_pos (by omega),pred_w hq1' hqb]
     exact fin2 h q1 v (q - 1) n hq1 (by omega) hQ
   · intro hbr hG
     refine zlo _ _ _ _ _ _ _ ?_
     rw [eY h,eN',mask32 _ hnl,fd32,sum_w (by omega),zaf,if_neg (by omega)]
     exact hG
 · intro q r hq hr hrl hqb hq1'
   constructor
   · intro ht hF
     refine zlY _ _ _ _ _ _ _ ?_
     rw [eY h,eN',mask32 _ hnl,mask32 _ hY2,fd32,sum_w (by omega),pred_w hq1' hqb,zaf]
     by_cases hb:4294967296≤q - 1
     · rw [if_pos (by omega)]
       exact hF
     · have ht':=ht.resolve_left hb
       rw [if_neg (by omega),B_w (by omega),sum_w (by omega),q_w (by omega) (by omega),zaf,if_pos (by omega)]
       exact hF
   · intro hb ht hQ
     refine zlY _ _ _ _ _ _ _ ?_
     rw [eY h,eN',mask32 _ hnl,mask32 _ hY2,fd32,sum_w (by omega),pred_w hq1' hqb,zaf,if_neg (by omega),B_w (by omega),sum_w (by omega),q_w (by omega) (by omega),zaf,if_neg (by omega)]
     exact fin2 h q1 v (q - 1) n hq1 (by omega) hQ
theorem tdiv_n (a b:Nat):(a:Int).tdiv (b:Int)=((a / b:Nat):Int):=rfl
theorem sub_w {a b:Nat} (h:b≤a) (h2:a < 18446744073709551616):wu64 ((a:Int) - (b:Int))=((a - b:Nat):Int):=by rw [zdb (by omega) (by omega)]; omega
theorem split_w {v z:Nat} (hz:0 < z) (hv:v < 18446744073709551616):wu64 ((v:Int).tdiv (z:Int))=((v / z:Nat):Int)∧wu64 ((v:Int) - wu64 (((v / z:Nat):Int)*(z:Int)))=((v % z:Nat):Int):=by
 have e:=Nat.div_add_mod v z
 rw [Nat.mul_comm] at e
 have l:v / z≤v:=Nat.div_le_self _ _
 have hm:v / z*z≤v:=by rw [← Nat.le_div_iff_mul_le hz]; exact Nat.le_refl _
 refine ⟨by rw [tdiv_n,wuN' (by omega)],?_⟩
 rw [mul_w,wuN' (by omega),sub_w hm hv]
 congr 1
 omega
def ans (u n y s:Nat):Int×Int:=
 ((((u*4294967296+n / 4294967296) / (y*2 ^ s)*4294967296+((u*4294967296+n / 4294967296) % (y*2 ^ s)*4294967296+n % 4294967296) / (y*2 ^ s):Nat):Int),
  ((((u*4294967296+n / 4294967296) % (y*2 ^ s)*4294967296+n % 4294967296) % (y*2 ^ s) / 2 ^ s:Nat):Int))
theorem tail0 (h:DS hi lo y s) (u n q v:Nat) (hn:n=lo*2 ^ s % 18446744073709551616) (hqB:q < 4294967296) (e:q*(y*2 ^ s)+v=u*4294967296+n / 4294967296) (hR:v < y*2 ^ s) :
  (chk ((((y*2 ^ s / 4294967296:Nat):Int))≠0) <| zeb lo y s (q:Int)
   (wu64 (wu64 (wu64 (wu64 ((u:Int)*4294967296)+((n / 4294967296:Nat):Int)) - wu64 ((q:Int)*((y*2 ^ s:Nat):Int))) - wu64 (wu64 ((wu64 (wu64 (wu64 ((u:Int)*4294967296)+((n / 4294967296:Nat):Int)) - wu64 ((q:Int)*((y*2 ^ s:Nat):Int)))).tdiv ((y*2 ^ s / 4294967296:Nat):Int))*((y*2 ^ s / 4294967296:Nat):Int))))
   (wu64 (wu64 (wu64 ((u:Int)*4294967296)+((n / 4294967296:Nat):Int)) - wu64 ((q:Int)*((y*2 ^ s:Nat):Int))))
   (wu64 ((wu64 (wu64 (wu64 ((u:Int)*4294967296)+((n / 4294967296:Nat):Int)) - wu64 ((q:Int)*((y*2 ^ s:Nat):Int)))).tdiv ((y*2 ^ s / 4294967296:Nat):Int))))=some (zdw (((q*4294967296+(v*4294967296+n % 4294967296) / (y*2 ^ s):Nat):Int),(((v*4294967296+n % 4294967296) % (y*2 ^ s) / 2 ^ s:Nat):Int))):=by
 have hY1:=h.Y1
 have hY2:=h.Y2
 have hr:=rest_w (a:=u*4294967296) (b:=n / 4294967296) (c:=q*(y*2 ^ s)) (R:=v) e.symm (Nat.lt_trans hR hY2)
 have c1:(u:Int)*4294967296=((u*4294967296:Nat):Int):=mul_w _ _
 obtain ⟨s1,s2⟩:=split_w (v:=v) (z:=y*2 ^ s / 4294967296) (by omega) (by omega)
 rw [c1,mul_w q,hr,s1,s2,zab (by omega)]
 exact dig2 h q v n hn hqB hR
theorem tail1 (h:DS hi lo y s) (u n q:Nat) (hn:n=lo*2 ^ s % 18446744073709551616) (hqB:q < 4294967296) (hq:q=(u*4294967296+n / 4294967296) / (y*2 ^ s)) :
  (chk ((((y*2 ^ s / 4294967296:Nat):Int))≠0) <| zeb lo y s (q:Int)
   (wu64 (wu64 (wu64 (wu64 ((u:Int)*4294967296)+((n / 4294967296:Nat):Int)) - wu64 ((q:Int)*((y*2 ^ s:Nat):Int))) - wu64 (wu64 ((wu64 (wu64 (wu64 ((u:Int)*4294967296)+((n / 4294967296:Nat):Int)) - wu64 ((q:Int)*((y*2 ^ s:Nat):Int)))).tdiv ((y*2 ^ s / 4294967296:Nat):Int))*((y*2 ^ s / 4294967296:Nat):Int))))
   (wu64 (wu64 (wu64 ((u:Int)*4294967296)+((n / 4294967296:Nat):Int)) - wu64 ((q:Int)*((y*2 ^ s:Nat):Int))))
   (wu64 ((wu64 (wu64 (wu64 ((u:Int)*4294967296)+((n / 4294967296:Nat):Int)) - wu64 ((q:Int)*((y*2 ^ s:Nat):Int)))).tdiv ((y*2 ^ s / 4294967296:Nat):Int))))=some (zdw (ans u n y s)):=by
 have hY1:=h.Y1
 have e:=Nat.div_add_mod (u*4294967296+n / 4294967296) (y*2 ^ s)
 rw [Nat.mul_comm,← hq] at e
 have:=tail0 h u n q _ hn hqB e (Nat.mod_lt _ (by omega))
 unfold ans
 rw [← hq]
 exact this
theorem dig1 (h:DS hi lo y s) (u n:Nat) (hu:u=hi*2 ^ s+lo / 2 ^ (64 - s)) (hn:n=lo*2 ^ s % 18446744073709551616):zkq hi lo y s=some (zdw (ans u n y s)):=by
 have hY1:=h.Y1
 have hY2:=h.Y2
 have h63:=h.s63
 have hyl:=y1_lt h
 have hnl:n < 18446744073709551616:=by rw [hn]; exact Nat.mod_lt _ (by omega)
 obtain ⟨eU',hu'⟩:=eU h
 rw [← hu] at eU' hu'
 have hYe:y*2 ^ s / 4294967296*4294967296+y*2 ^ s % 4294967296=y*2 ^ s:=by have:=Nat.div_add_mod (y*2 ^ s) 4294967296; rw [Nat.mul_comm] at this; exact this
 have hQB:(u*4294967296+n / 4294967296) / (y*2 ^ s) < 4294967296:=by
  have:=q_lt (B:=4294967296) (y1:=y*2 ^ s / 4294967296) (y0:=y*2 ^ s % 4294967296) (u:=u) (d:=n / 4294967296) (by omega) (by omega)
  rw [hYe] at this
  exact this
 have eN':=eN h
 rw [← hn] at eN'
 have search:=digit (Y:=y*2 ^ s) (u:=u) (d:=n / 4294967296) (B:=4294967296) rfl hY1 hY2 hu' (by omega) (fun q r=>zd0 hi lo y s q r) (fun q r=>zje hi lo y s q r)
  (zdw (ans u n y s)) ?_ ?_
 · refine zs0 _ _ _ _ ?_
   obtain ⟨s1,s2⟩:=split_w (v:=u) (z:=y*2 ^ s / 4294967296) (by omega) (by omega)
   rw [eY h,eN',eU',fd32,fd32,s1,s2,mask32 _ hY2]
   have hdm:=Nat.div_add_mod u (y*2 ^ s / 4294967296)
   rw [Nat.mul_comm] at hdm
   have hrl:u % (y*2 ^ s / 4294967296) < y*2 ^ s / 4294967296:=Nat.mod_lt _ (by omega)
   generalize u / (y*2 ^ s / 4294967296)=q at hdm ⊢
   generalize u % (y*2 ^ s / 4294967296)=r at hdm hrl ⊢
   have go:=search q q r hdm (by omega)
   by_cases hb:4294967296≤q
   · rw [zaf,if_pos (by omega)]
     exact go (Nat.lt_of_lt_of_le hQB hb) (Nat.le_add_left _ _)
   · rw [zaf,if_neg (by omega),B_w (by omega),sum_w (by omega),q_w (by omega) (by omega)]
     by_cases ht:4294967296*r+n / 4294967296 < q*(y*2 ^ s % 4294967296)
     · rw [zaf,if_pos (by omega)]
       have:=zqW (B:=4294967296) (y1:=y*2 ^ s / 4294967296) (y0:=y*2 ^ s % 4294967296) (u:=u) (d:=n / 4294967296) (by omega) (by omega) hdm (.inr ht)
       rw [hYe] at this
       exact go this (Nat.le_add_left _ _)
     · have h1:=znW (B:=4294967296) (y1:=y*2 ^ s / 4294967296) (y0:=y*2 ^ s % 4294967296) (u:=u) (d:=n / 4294967296) hdm (by omega) (by omega)
       have h2:=guess_ge (B:=4294967296) (y1:=y*2 ^ s / 4294967296) (y0:=y*2 ^ s % 4294967296) (u:=u) (d:=n / 4294967296) (by omega) (by omega) (by omega) hdm hrl
       rw [hYe] at h1 h2
       rw [zaf,if_neg (by omega)]
       exact tail1 h u n q hn (by omega) (Nat.le_antisymm h1 h2)
 · intro q r hq hr hqb hq1'
   constructor
   · intro hbr hQ
     refine zlm _ _ _ _ _ _ ?_
     rw [eY h,eN',eU',fd32,fd32,sum_w (by omega),zaf,if_pos (by omega),pred_w hq1' hqb]
     exact tail1 h u n (q - 1) hn (by omega) hQ
   · intro hbr hG
     refine zlm _ _ _ _ _ _ ?_
     rw [eY h,eN',eU',fd32,fd32,sum_w (by omega),zaf,if_neg (by omega)]
     exact hG
 · intro q r hq hr hrl hqb hq1'
   constructor
   · intro ht hF
     refine zlZ _ _ _ _ _ _ ?_
     rw [eY h,eN',eU',mask32 _ hY2,fd32,fd32,sum_w (by omega),pred_w hq1' hqb,zaf]
     by_cases hb:4294967296≤q - 1
     · rw [if_pos (by omega)]
       exact hF
     · have ht':=ht.resolve_left hb
       rw [if_neg (by omega),B_w (by omega),sum_w (by omega),q_w (by omega) (by omega),zaf,if_pos (by omega)]
       exact hF
   · intro hb ht hQ
     refine zlZ _ _ _ _ _ _ ?_
     rw [eY h,eN',eU',mask32 _ hY2,fd32,fd32,sum_w (by omega),pred_w hq1' hqb,zaf,if_neg (by omega),B_w (by omega),sum_w (by omega),q_w (by omega) (by omega),zaf,if_neg (by omega)]
     exact tail1 h u n (q - 1) hn (by omega) hQ
theorem ans_eq (hy:0 < y*2 ^ s) (hs:s≤64):ans (hi*2 ^ s+lo / 2 ^ (64 - s)) (lo*2 ^ s % 18446744073709551616) y s=((((hi*18446744073709551616+lo) / y:Nat):Int),(((hi*18446744073709551616+lo) % y:Nat):Int)):=by
 have e1:=zx9 hi lo s hs
 obtain ⟨e2,e3⟩:=shifted (hi*2 ^ 64+lo) y s
 rw [show (2:Nat) ^ 64=18446744073709551616 from rfl] at e1 e2 e3
 have key:∀ (u n:Nat),(hi*18446744073709551616+lo)*2 ^ s=u*18446744073709551616+n→ans u n y s=((((hi*18446744073709551616+lo) / y:Nat):Int),(((hi*18446744073709551616+lo) % y:Nat):Int)):=by
  intro u n e
  obtain ⟨t1,t2⟩:=zti u (n / 4294967296) (n % 4294967296) (y*2 ^ s) 4294967296 hy
  have e4:(u*4294967296+n / 4294967296)*4294967296+n % 4294967296=(hi*18446744073709551616+lo)*2 ^ s:=by rw [e]; omega
  rw [e4,e2] at t1
  rw [e4] at t2
  unfold ans
  rw [← t1,← t2,e3]
 exact key _ _ e1
theorem shift_of {y:Nat} (h0:y≠0) (hy:y < 18446744073709551616):9223372036854775808≤y*2 ^ (64 - blen y)∧y*2 ^ (64 - blen y) < 18446744073709551616∧64 - blen y≤63:=by
 obtain ⟨h1,h2⟩:=blen_spec h0
 have hb:blen y≤64:=(ziX y 64).2 (by omega)
 have hb1:1≤blen y:=by unfold blen; rw [if_neg h0]; omega
 have e1:2 ^ (blen y - 1)*2 ^ (64 - blen y)=9223372036854775808:=by rw [← Nat.pow_add,show blen y - 1+(64 - blen y)=63 by omega]
 have e2:2 ^ blen y*2 ^ (64 - blen y)=18446744073709551616:=by rw [← Nat.pow_add,show blen y+(64 - blen y)=64 by omega]
 refine ⟨?_,?_,by omega⟩
 · rw [← e1]; exact Nat.mul_le_mul_right _ h1
 · rw [← e2]; exact Nat.mul_lt_mul_of_pos_right h2 (Nat.pos_of_ne_zero (by simp))
theorem c_Div64 (hi lo y:Nat) (h1:hi < y) (hy:y < 18446744073709551616) (hlo:lo < 18446744073709551616) :
  cw zi0 [.v (.int .u64 (hi:Int)),.v (.int .u64 (lo:Int)),.v (.int .u64 (y:Int))] []=some (zdw ((((hi*18446744073709551616+lo) / y:Nat):Int),(((hi*18446744073709551616+lo) % y:Nat):Int))):=by
 have hb1:((y:Int) == 0)=false:=beq_false_of_ne (by omega)
 refine zut _ _ _ ?_
 rw [hb1,zar,zaf,if_neg (by omega)]
 by_cases h0:hi=0
 · subst h0
   have l:lo / y≤lo:=Nat.div_le_self _ _
   have hb:((((0:Nat):Int)) == 0)=true:=rfl
   rw [hb,zay,zab (by omega),zab (by omega),tdiv_n,wuN' (by omega),Nat.zero_mul,Nat.zero_add]
   rfl
 · have hb:((hi:Int) == 0)=false:=beq_false_of_ne (by omega)
   obtain ⟨d1,d2,d3⟩:=shift_of (y:=y) (by omega) hy
   have hD:DS hi lo y (64 - blen y):=⟨d3,d1,d2,h1,hlo⟩
   rw [hb,zar,zsO y hy,zmF]
   have w1:wu64 ((64 - blen y:Nat):Int)=((64 - blen y:Nat):Int):=wuN' (by omega)
   have c1:(0:Int)≤wu64 ((64 - blen y:Nat):Int):=by rw [w1]; omega
   have c2:(0:Int)≤wu64 (64 - wu64 ((64 - blen y:Nat):Int)):=by rw [w1,zdb (by omega) (by omega)]; omega
   rw [zab c1,zab (by omega),zab c1,zab c2,zab c1,zab (by omega),eY hD,fd32,zab (by omega),dig1 hD _ _ rfl rfl,ans_eq (by omega) (by omega)]
theorem c_Rem64 (hi lo y:Nat) (h0:0 < y) (hy:y < 18446744073709551616) (hlo:lo < 18446744073709551616) :
  cw zkN [.v (.int .u64 (hi:Int)),.v (.int .u64 (lo:Int)),.v (.int .u64 (y:Int))] []=some (zlj (((hi*18446744073709551616+lo) % y:Nat):Int)):=by
 refine zw7 _ _ _ ?_
 have e:(hi:Int).tmod (y:Int)=((hi % y:Nat):Int):=rfl
 have e2:(hi % y*18446744073709551616+lo) % y=(hi*18446744073709551616+lo) % y:=by
  have:=Nat.div_add_mod hi y
  have e3:hi*18446744073709551616+lo=(hi % y*18446744073709551616+lo)+(hi / y*18446744073709551616)*y:=by
   have e4:hi*18446744073709551616=(y*(hi / y)+hi % y)*18446744073709551616:=by rw [this]
   rw [e4,Nat.add_mul,Nat.mul_comm y,Nat.mul_right_comm]
   omega
  rw [e3,Nat.add_mul_mod_self_right]
 rw [zab (by omega),e,c_Div64 (hi % y) lo y (Nat.mod_lt _ h0) hy hlo,znm,e2]
 rfl
end
end Go.Proofs.YtbhkcgaanaelfaaGreat
namespace Go.Proofs.YtbhkcgaanaelfaaGreat
open Go.Ab Go.PureDiv
set_option linter.unusedSimpArgs false
set_option maxRecDepth 20000
def wd (n:Nat):Gref01Wide:=⟨((n / 18446744073709551616:Nat):Int),((n % 18446744073709551616:Nat):Int)⟩
theorem u64_id {n:Nat} (h:n < 18446744073709551616):((n:Int) % Int.ofNat (2 ^ 64)).toNat=n:=by
 show ((n:Int) % (18446744073709551616:Int)).toNat=n
 omega
theorem c_Twice (n:Nat) (hn:n < 340282366920938463463374607431768211456):cw zeO [.agg (zai (wd n))] []=some (zj7 (wd (2*n % 340282366920938463463374607431768211456))):=by
 refine zwl _ ?_
 rw [zab (by omega),zab (by omega),zab (by omega)]
 show some (zj7 _)=_
 congr 2
 unfold wd
 have e0:(2:Int) ^ Min.min (Int.toNat 1) 64=2:=rfl
 have h1:n / 18446744073709551616 < 18446744073709551616:=by omega
 have h2:n % 18446744073709551616 < 18446744073709551616:=by omega
 have h3:2*n / 18446744073709551616=2*(n / 18446744073709551616)+n % 18446744073709551616 / 9223372036854775808:=by omega
 simp only [e0]
 rw [fd _ 63 63 rfl,wu_mod (((n / 18446744073709551616:Nat):Int)*2),wu_mod (((n % 18446744073709551616:Nat):Int)*2)]
 have a1:((n / 18446744073709551616:Nat):Int)*2 % 18446744073709551616=((n / 18446744073709551616*2 % 18446744073709551616:Nat):Int):=rfl
 have a2:((n % 18446744073709551616:Nat):Int)*2 % 18446744073709551616=((n % 18446744073709551616*2 % 18446744073709551616:Nat):Int):=rfl
 rw [a1,a2,u64_id (by omega),u64_id (by omega)]
 have hb:n % 18446744073709551616 / 2 ^ 63 < 2 ^ 1:=by
  have:(2:Nat) ^ 63=9223372036854775808:=rfl
  omega
 have hm:n / 18446744073709551616*2 % 18446744073709551616=2 ^ 1*(n / 18446744073709551616 % 9223372036854775808):=by omega
 rw [hm,← Nat.two_pow_add_eq_or_of_lt hb]
 have e63:(2:Nat) ^ 63=9223372036854775808:=rfl
 rw [wuN' (by omega)]
 congr 1 <;> omega
theorem c_Minus (a b:Nat) (ha:a < 340282366920938463463374607431768211456) (hb:b < 340282366920938463463374607431768211456) :
  cw zhU [.agg (zai (wd a)),.agg (zai (wd b))] []=some (zhS (wd ((a+340282366920938463463374607431768211456 - b) % 340282366920938463463374607431768211456))):=by
 refine zvN _ _ ?_
 have t0:Int.toNat 0=0:=rfl
 have t1:Int.toNat 1=1:=rfl
 have p64:(2:Nat) ^ 64=18446744073709551616:=rfl
 simp only [wd,Int.toNat_natCast,t0,t1,p64]
 by_cases h:a % 18446744073709551616 < b % 18446744073709551616+0
 · rw [if_pos h]
   have c0:((Int.ofNat 1) == 0)=false:=rfl
   have c1:((Int.ofNat 1) == 1)=true:=rfl
   rw [c0,c1,zar,zay]
   show some (zhS _)=_
   congr 2
   have e1:(a / 18446744073709551616+18446744073709551616 - b / 18446744073709551616 - 1) % 18446744073709551616=(a+340282366920938463463374607431768211456 - b) % 340282366920938463463374607431768211456 / 18446744073709551616:=by omega
   have e2:(a % 18446744073709551616+18446744073709551616 - b % 18446744073709551616 - 0) % 18446744073709551616=(a+340282366920938463463374607431768211456 - b) % 340282366920938463463374607431768211456 % 18446744073709551616:=by omega
   rw [e1,e2]
   rfl
 · rw [if_neg h]
   have c0:((Int.ofNat 0) == 0)=true:=rfl
   rw [c0,zay]
   show some (zhS _)=_
   congr 2
   have e1:(a / 18446744073709551616+18446744073709551616 - b / 18446744073709551616 - 0) % 18446744073709551616=(a+340282366920938463463374607431768211456 - b) % 340282366920938463463374607431768211456 / 18446744073709551616:=by omega
   have e2:(a % 18446744073709551616+18446744073709551616 - b % 18446744073709551616 - 0) % 18446744073709551616=(a+340282366920938463463374607431768211456 - b) % 340282366920938463463374607431768211456 % 18446744073709551616:=by omega
   rw [e1,e2]
   rfl
def ord3 (a b:Nat):Int:=if a < b then -1 else if a=b then 0 else 1
theorem c_Order (a b:Nat):cw zgv [.agg (zai (wd a)),.agg (zai (wd b))] []=some (zmb (ord3 a b)):=by
 refine zv1 _ _ ?_
 have lH:(wd a).Hi < (wd b).Hi↔a / 18446744073709551616 < b / 18446744073709551616:=Int.ofNat_lt
 have lL:(wd a).Lo < (wd b).Lo↔a % 18446744073709551616 < b % 18446744073709551616:=Int.ofNat_lt
 have hh:∀ x y:Nat,(((x:Int)) == (y:Int))=decide (x=y):=by
  intro x y
  by_cases h:x=y
  · subst h; simp
  · rw [beq_false_of_ne (by omega)]; simp [h]
 have bH:((wd a).Hi == (wd b).Hi)=decide (a / 18446744073709551616=b / 18446744073709551616):=hh _ _
 have bL:((wd a).Lo == (wd b).Lo)=decide (a % 18446744073709551616=b % 18446744073709551616):=hh _ _
 rw [bH,bL,Bool.and_true]
 unfold ord3
 rw [zaf]
 rcases Nat.lt_trichotomy (a / 18446744073709551616) (b / 18446744073709551616) with h | h | h
 · rw [if_pos (lH.2 h),if_pos (by omega)]
   rfl
 · rw [if_neg (fun c=>by have:=lH.1 c; omega),decide_eq_true h,zay,Bool.true_and,zaf]
   rcases Nat.lt_trichotomy (a % 18446744073709551616) (b % 18446744073709551616) with g | g | g
   · rw [if_pos (lL.2 g),if_pos (by omega)]
     rfl
   · rw [if_neg (fun c=>by have:=lL.1 c; omega),decide_eq_true g,zay,if_neg (by omega),if_pos (by omega)]
     rfl
   · rw [if_neg (fun c=>by have:=lL.1 c; omega),decide_eq_false (by omega:¬ a % 18446744073709551616=b % 18446744073709551616),zar,if_neg (by omega),if_neg (by omega)]
     rfl
 · rw [if_neg (fun c=>by have:=lH.1 c; omega),decide_eq_false (by omega:¬ a / 18446744073709551616=b / 18446744073709551616),zar,Bool.false_and,zar,if_neg (by omega),if_neg (by omega)]
   rfl
theorem or_bit (n t:Nat) (h2:n % 2=0) (ht:t < 2):(⟨(wd n).Hi,wu64 ((((wd n).Lo % Int.ofNat (2 ^ 64)).toNat ||| ((t:Int) % Int.ofNat (2 ^ 64)).toNat:Nat):Int)⟩:Gref01Wide)=wd (n+t):=by
 unfold wd
 simp only
 rw [u64_id (by omega),u64_id (by omega)]
 have hm:n % 18446744073709551616=2 ^ 1*(n % 18446744073709551616 / 2):=by omega
 rw [hm,← Nat.two_pow_add_eq_or_of_lt (by omega:t < 2 ^ 1),wuN' (by omega)]
 congr 1 <;> omega
theorem bit_and (X:Nat) (hX:X < 18446744073709551616) (e:Int) (k:Nat) (hk:Min.min e.toNat 64=k):wu64 (((((X:Int).fdiv (2 ^ Min.min e.toNat 64)) % Int.ofNat (2 ^ 64)).toNat &&& ((1:Int) % Int.ofNat (2 ^ 64)).toNat:Nat):Int)=((X / 2 ^ k % 2:Nat):Int):=by
 rw [fd _ _ k hk]
 have h1:X / 2 ^ k≤X:=Nat.div_le_self _ _
 rw [u64_id (by omega),show ((1:Int) % Int.ofNat (2 ^ 64)).toNat=2 ^ 1 - 1 from rfl,Nat.and_two_pow_sub_one_eq_mod,wuN' (by omega)]
noncomputable def rnd (a0 a1 x0 x1:Gref01Wide) (x2 T:Int):Option (AV×Mem):=
 chk ((0:Int)≤63)<|
 callD zd9 (cw zeO [AV.agg (zai x1)] []) fun (r3:Gref01Wide) =>
 callD zd9 (cw zeO [AV.agg (zai x0)] []) fun (r4:Gref01Wide) =>
 brn (x1.Hi.fdiv (2 ^ Min.min (Int.toNat 63) 64) == 1) (zcP a0 a1 x2 r4 (⟨r3.Hi,wu64 (↑((r3.Lo % Int.ofNat (2 ^ 64)).toNat ||| (T % Int.ofNat (2 ^ 64)).toNat):Int)⟩))
 (callD zfv (cw zgv [AV.agg (zai (⟨r3.Hi,wu64 (↑((r3.Lo % Int.ofNat (2 ^ 64)).toNat ||| (T % Int.ofNat (2 ^ 64)).toNat):Int)⟩)),AV.agg (zai a1)] []) fun (r7:Int) =>
  brn (decide (0≤r7)) (zcP a0 a1 x2 r4 (⟨r3.Hi,wu64 (↑((r3.Lo % Int.ofNat (2 ^ 64)).toNat ||| (T % Int.ofNat (2 ^ 64)).toNat):Int)⟩))
  (zcJ a0 a1 r4 (⟨r3.Hi,wu64 (↑((r3.Lo % Int.ofNat (2 ^ 64)).toNat ||| (T % Int.ofNat (2 ^ 64)).toNat):Int)⟩) (w64 (x2 - 1))))
theorem t1010 {a0 a1 x0 x1:Gref01Wide} {x2:Int} {y:AV×Mem} (h:rnd a0 a1 x0 x1 x2 (wu64 (↑((a0.Hi.fdiv (2 ^ Min.min (wu64 (w64 (x2 - 64))).toNat 64) % Int.ofNat (2 ^ 64)).toNat &&& (1 % Int.ofNat (2 ^ 64)).toNat):Int))=some y):zie a0 a1 x0 x1 x2=some y:=
 zqc a0 a1 x0 x1 x2 h
theorem t1010v1 {a0 a1 x0 x1:Gref01Wide} {x2:Int} {y:AV×Mem} (h:rnd a0 a1 x0 x1 x2 (wu64 (↑((a0.Lo.fdiv (2 ^ Min.min (wu64 (x2.tmod 64)).toNat 64) % Int.ofNat (2 ^ 64)).toNat &&& (1 % Int.ofNat (2 ^ 64)).toNat):Int))=some y):zhi a0 a1 x0 x1 x2=some y:=
 zoK a0 a1 x0 x1 x2 h
theorem rnd_ok {a b m t:Nat} {i:Int} {y:AV×Mem} (hb:0 < b) (hb2:b < 340282366920938463463374607431768211456) (ht:t < 2) (hm:2*m+t < 340282366920938463463374607431768211456)
  (ih:zcJ (wd a) (wd b) (wd ((2*m+t) / b)) (wd ((2*m+t) % b)) (w64 (i - 1))=some y):rnd (wd a) (wd b) (wd (m / b)) (wd (m % b)) i (t:Int)=some y:=by
 obtain ⟨r1,r2⟩:=round (t:=t) hb rfl (rfl:m % b=m % b) ht
 have hr:=Nat.mod_lt m hb
 have hq:(2*m+t) / b≤2*m+t:=Nat.div_le_self _ _
 have hq0:m / b≤m:=Nat.div_le_self _ _
 generalize m % b=r at *
 generalize hqq:m / b=q at *
 unfold rnd
 rw [zab (by omega),c_Twice r (by omega),zmz,c_Twice q (by omega),zmz]
 have eq2:2*q % 340282366920938463463374607431768211456=2*q:=Nat.mod_eq_of_lt (by omega)
 rw [or_bit (2*r % 340282366920938463463374607431768211456) t (by omega) ht,eq2]
 have big:b≤2*r+t→zcP (wd a) (wd b) i (wd (2*q)) (wd (2*r % 340282366920938463463374607431768211456+t))=some y:=by
  intro h
  obtain ⟨e1,e2⟩:=r1 h
  refine zqo _ _ _ _ _ ?_
  rw [c_Minus _ _ (by omega) hb2,zjL]
  have o:=or_bit (2*q) 1 (by omega) (by omega)
  have e3:(2*r % 340282366920938463463374607431768211456+t+340282366920938463463374607431768211456 - b) % 340282366920938463463374607431768211456=2*r+t - b:=by omega
  rw [e3]
  rw [e1,e2] at ih
  rw [show (1:Int)=((1:Nat):Int) from rfl,o]
  exact ih
 have hH:(wd r).Hi.fdiv (2 ^ Min.min (Int.toNat 63) 64)=((r / 18446744073709551616 / 2 ^ 63:Nat):Int):=fd _ 63 63 rfl
 have e63:(2:Nat) ^ 63=9223372036854775808:=rfl
 rw [hH,e63]
 by_cases ho:r / 18446744073709551616 / 9223372036854775808=1
 · rw [ho,show (((1:Nat):Int) == 1)=true from rfl,zay]
   exact big (by omega)
 · rw [beq_false_of_ne (by omega),zar,c_Order,zmu]
   have e4:2*r % 340282366920938463463374607431768211456=2*r:=Nat.mod_eq_of_lt (by omega)
   by_cases hg:b≤2*r+t
   · rw [decide_eq_true (by unfold ord3; rw [if_neg (by omega)]; split <;> omega),zay]
     exact big hg
   · obtain ⟨e1,e2⟩:=r2 (by omega)
     rw [decide_eq_false (by unfold ord3; rw [if_pos (by omega)]; omega),zar,e4]
     rw [e1,e2] at ih
     exact ih
theorem low_bit (a i:Nat) (hi:i < 64):a % 18446744073709551616 / 2 ^ i % 2=a / 2 ^ i % 2:=by
 have h:=Nat.testBit_mod_two_pow a 64 i
 rw [decide_eq_true hi,Bool.true_and] at h
 rw [← Nat.toNat_testBit,← Nat.toNat_testBit]
 exact congrArg Bool.toNat h
theorem high_bit (a i:Nat) (hi:64≤i):a / 18446744073709551616 / 2 ^ (i - 64) % 2=a / 2 ^ i % 2:=by
 rw [show (18446744073709551616:Nat)=2 ^ 64 from rfl,Nat.div_div_eq_div_mul,← Nat.pow_add,show 64+(i - 64)=i by omega]
theorem k_rDivide {a b:Nat} (hb:0 < b) (ha:a < 340282366920938463463374607431768211456) (hb2:b < 340282366920938463463374607431768211456):∀ i:Nat,i≤128 →
  zcJ (wd a) (wd b) (wd (a / 2 ^ i / b)) (wd (a / 2 ^ i % b)) ((i:Int) - 1)=some (zfZ (wd (a / b),wd (a % b))):=by
 intro i
 induction i with
 | zero =>
   intro _
   refine znc _ _ _ _ _ ?_
   rw [decide_eq_false (by omega),zar,Nat.pow_zero,Nat.div_one]
   rfl
 | succ i ih =>
   intro hi
   have ih:=ih (by omega)
   have ei:((i+1:Nat):Int) - 1=(i:Int):=by omega
   rw [ei]
   have bs:=bit_step a i
   have hd:a / 2 ^ i≤a:=Nat.div_le_self _ _
   have key:rnd (wd a) (wd b) (wd (a / 2 ^ (i+1) / b)) (wd (a / 2 ^ (i+1) % b)) (i:Int) ((a / 2 ^ i % 2:Nat):Int)=some (zfZ (wd (a / b),wd (a % b))):=by
    refine rnd_ok hb hb2 (by omega) (by omega) ?_
    rw [← bs,w64_id (by omega) (by omega)]
    exact ih
   refine znc _ _ _ _ _ ?_
   have etm:(i:Int).tmod 64=((i % 64:Nat):Int):=rfl
   rw [decide_eq_true (by omega),zay,zab (by omega),etm,wuN' (by omega),zab (by omega)]
   by_cases h:64≤i
   · have ew:wu64 (w64 ((i:Int) - 64))=((i - 64:Nat):Int):=by rw [w64_id (by omega) (by omega),zdb (by omega) (by omega)]; omega
     rw [decide_eq_true (by omega),zay,ew,zab (by omega)]
     refine t1010 ?_
     have e:=bit_and (a / 18446744073709551616) (by omega) (wu64 (w64 ((i:Int) - 64))) (i - 64) (by rw [ew,Int.toNat_natCast]; omega)
     rw [high_bit a i h] at e
     have e':wu64 (↑(((wd a).Hi.fdiv (2 ^ Min.min (wu64 (w64 ((i:Int) - 64))).toNat 64) % Int.ofNat (2 ^ 64)).toNat &&& (1 % Int.ofNat (2 ^ 64)).toNat):Int)=((a / 2 ^ i % 2:Nat):Int):=e
     rw [e']
     exact key
   · rw [decide_eq_false (by omega),zar]
     refine t1010v1 ?_
     have ew:wu64 ((i:Int).tmod 64)=((i:Nat):Int):=by rw [etm,wuN' (by omega)]; omega
     have e:=bit_and (a % 18446744073709551616) (by omega) (wu64 ((i:Int).tmod 64)) i (by rw [ew,Int.toNat_natCast]; omega)
     rw [low_bit a i (by omega)] at e
     have e':wu64 (↑(((wd a).Lo.fdiv (2 ^ Min.min (wu64 ((i:Int).tmod 64)).toNat 64) % Int.ofNat (2 ^ 64)).toNat &&& (1 % Int.ofNat (2 ^ 64)).toNat):Int)=((a / 2 ^ i % 2:Nat):Int):=e
     rw [e']
     exact key
theorem zrp (a b:Nat) (hb:0 < b) (ha:a < 340282366920938463463374607431768211456) (hb2:b < 340282366920938463463374607431768211456) :
  cw zg5 [.agg (zai (wd a)),.agg (zai (wd b))] []=some (zfZ (wd (a / b),wd (a % b))):=by
 refine zus _ _ ?_
 have hk:zcJ (wd a) (wd b) ⟨0,0⟩ ⟨0,0⟩ 127=some (zfZ (wd (a / b),wd (a % b))):=by
  have h:=k_rDivide hb ha hb2 128 (by omega)
  have e0:a / 2 ^ 128=0:=Nat.div_eq_of_lt ha
  rw [e0,Nat.zero_div,Nat.zero_mod] at h
  exact h
 by_cases h1:a / 18446744073709551616=0
 · have b1:((wd a).Hi == 0)=true:=by show (((a / 18446744073709551616:Nat):Int) == 0)=true; rw [h1]; rfl
   rw [b1,zay]
   by_cases h2:b / 18446744073709551616=0
   · have b2:((wd b).Hi == 0)=true:=by show (((b / 18446744073709551616:Nat):Int) == 0)=true; rw [h2]; rfl
     have ea:a % 18446744073709551616=a:=by omega
     have eb:b % 18446744073709551616=b:=by omega
     have la:(wd a).Lo=(a:Int):=by show ((a % 18446744073709551616:Nat):Int)=_; rw [ea]
     have lb:(wd b).Lo=(b:Int):=by show ((b % 18446744073709551616:Nat):Int)=_; rw [eb]
     have hq:a / b≤a:=Nat.div_le_self _ _
     have hr:=Nat.mod_lt a hb
     rw [b2,zay,la,lb,zab (by omega),zab (by omega)]
     have t1:(a:Int).tdiv (b:Int)=((a / b:Nat):Int):=rfl
     have t2:(a:Int).tmod (b:Int)=((a % b:Nat):Int):=rfl
     rw [t1,t2,wuN' (by omega)]
     have w:∀ n:Nat,n < 18446744073709551616→(⟨0,(n:Int)⟩:Gref01Wide)=wd n:=by
      intro n hn
      unfold wd
      rw [Nat.div_eq_of_lt hn,Nat.mod_eq_of_lt hn]
      rfl
     rw [w _ (by omega),w _ (by omega)]
     rfl
   · have b2:((wd b).Hi == 0)=false:=beq_false_of_ne (by show ((b / 18446744073709551616:Nat):Int)≠0; omega)
     rw [b2,zar]
     exact hk
 · have b1:((wd a).Hi == 0)=false:=beq_false_of_ne (by show ((a / 18446744073709551616:Nat):Int)≠0; omega)
   rw [b1,zar]
   exact hk
end Go.Proofs.YtbhkcgaanaelfaaGreat
namespace Go.Proofs.YtbhkcgaanaelfaaGreat
open Go.Ab Go.PureDiv
set_option linter.unusedSimpArgs false
set_option maxRecDepth 20000
theorem wd_zero (b:Nat):((wd b).Hi == 0 && ((wd b).Lo == 0 && true))=decide (b=0):=by
 show ((((b / 18446744073709551616:Nat):Int) == 0) && ((((b % 18446744073709551616:Nat):Int) == 0) && true))=decide (b=0)
 by_cases h:b=0
 · subst h; rfl
 · rw [decide_eq_false h]
   by_cases h1:b / 18446744073709551616=0
   · rw [beq_false_of_ne (by omega:((b % 18446744073709551616:Nat):Int)≠0)]
     simp
   · rw [beq_false_of_ne (by omega:((b / 18446744073709551616:Nat):Int)≠0)]
     rfl
theorem k_rDivisor:∀ (N b a:Nat),b≤N→a < 340282366920938463463374607431768211456→b < 340282366920938463463374607431768211456→zgW (wd a) (wd b)=some (ziA (wd (Nat.gcd a b))):=by
 intro N
 induction N with
 | zero =>
   intro b a hN _ _
   refine zmp _ _ ?_
   rw [wd_zero,decide_eq_true (by omega),Bool.not_true,zar,show b=0 by omega,Nat.gcd_zero_right]
   rfl
 | succ N ih =>
   intro b a hN ha hb
   refine zmp _ _ ?_
   rw [wd_zero]
   by_cases h:b=0
   · rw [decide_eq_true h,Bool.not_true,zar,h,Nat.gcd_zero_right]
     rfl
   · have hr:=Nat.mod_lt a (by omega:0 < b)
     rw [decide_eq_false h,Bool.not_false,zay,zrp a b (by omega) ha hb,ziZ,ih (a % b) b (by omega) hb (by omega),Nat.gcd_comm a b,Nat.gcd_rec b a,Nat.gcd_comm]
theorem ztt (a b:Nat) (ha:a < 340282366920938463463374607431768211456) (hb:b < 340282366920938463463374607431768211456) :
  cw ziD [.agg (zai (wd a)),.agg (zai (wd b))] []=some (ziA (wd (Nat.gcd a b))):=
 ztC _ _ (k_rDivisor b b a (Nat.le_refl _) ha hb)
def redR (s:Bool) (n d:Nat):GRatio×Int:=
 if n / Nat.gcd n d≤1152921504606846976∧d / Nat.gcd n d≤1152921504606846976 then
  (if s then (⟨-((n / Nat.gcd n d:Nat):Int),((d / Nat.gcd n d:Nat):Int)⟩,0) else (⟨((n / Nat.gcd n d:Nat):Int),((d / Nat.gcd n d:Nat):Int)⟩,0))
 else (⟨0,0⟩,6)
theorem zqD (s:Bool) (n d:Nat) (hd:0 < d) (hn:n < 340282366920938463463374607431768211456) (hd2:d < 340282366920938463463374607431768211456) :
  cw zhf [B s,.agg (zai (wd n)),.agg (zai (wd d))] []=some (zlB (redR s n d)):=by
 have hg:0 < Nat.gcd n d:=Nat.gcd_pos_of_pos_right _ hd
 have hg2:Nat.gcd n d≤d:=Nat.le_of_dvd hd (Nat.gcd_dvd_right n d)
 refine zuN _ _ _ ?_
 rw [ztt n d hn hd2,zlr,zrp n _ hg hn (by omega),ziZ,zrp d _ hg hd2 (by omega),ziZ]
 unfold redR
 generalize n / Nat.gcd n d=x
 generalize d / Nat.gcd n d=y
 have lH:∀ m:Nat,(0 < (wd m).Hi)↔0 < m / 18446744073709551616:=fun m=>by
  show (0:Int) < ((m / 18446744073709551616:Nat):Int)↔_
  omega
 have lL:∀ m:Nat,((1152921504606846976:Int) < (wd m).Lo)↔1152921504606846976 < m % 18446744073709551616:=fun m=>by
  show (1152921504606846976:Int) < ((m % 18446744073709551616:Nat):Int)↔_
  omega
 have lo:∀ m:Nat,m≤1152921504606846976→(wd m).Lo=(m:Int):=fun m h=>by
  show ((m % 18446744073709551616:Nat):Int)=(m:Int)
  omega
 simp only [zaf]
 by_cases h1:0 < x / 18446744073709551616
 · rw [if_pos ((lH x).2 h1),if_neg (by omega)]
   rfl
 rw [if_neg (fun c=>h1 ((lH x).1 c))]
 by_cases h2:0 < y / 18446744073709551616
 · rw [if_pos ((lH y).2 h2),if_neg (by omega)]
   rfl
 rw [if_neg (fun c=>h2 ((lH y).1 c))]
 by_cases h3:1152921504606846976 < x % 18446744073709551616
 · rw [if_pos ((lL x).2 h3),if_neg (by omega)]
   rfl
 rw [if_neg (fun c=>h3 ((lL x).1 c))]
 by_cases h4:1152921504606846976 < y % 18446744073709551616
 · rw [if_pos ((lL y).2 h4),if_neg (by omega)]
   rfl
 rw [if_neg (fun c=>h4 ((lL y).1 c)),if_pos (by omega),lo x (by omega),lo y (by omega),w64_id (n:=(x:Int)) (by omega) (by omega),w64_id (n:=(y:Int)) (by omega) (by omega)]
 cases s
 · rw [zar]
   rfl
 · rw [zay,w64_id (by omega) (by omega),Int.zero_sub]
   rfl
end Go.Proofs.YtbhkcgaanaelfaaGreat
namespace Go.Proofs.YtbhkcgaanaelfaaGreat
open Go.Ab Go.PureDiv
set_option linter.unusedSimpArgs false
set_option maxRecDepth 20000
def wp (n:Nat):GratioWide:=⟨((n / 18446744073709551616:Nat):Int),((n % 18446744073709551616:Nat):Int)⟩
theorem c_wide_mod (n g:Nat) (h0:0 < g) (hg:g < 18446744073709551616) :
  cw zko [.agg (zax (wp n)),.v (.int .u64 (g:Int))] []=some (zkl ((n % g:Nat):Int)):=by
 refine zsX _ _ ?_
 have h:=c_Rem64 (n / 18446744073709551616) (n % 18446744073709551616) g h0 hg (by omega)
 have e:n / 18446744073709551616*18446744073709551616+n % 18446744073709551616=n:=by omega
 rw [e] at h
 have h':cw zkN [AV.v (.int .u64 (wp n).hi),AV.v (.int .u64 (wp n).lo),AV.v (.int .u64 (g:Int))] []=some (zlj ((n % g:Nat):Int)):=h
 rw [h',zsK]
 rfl
theorem zyD (n g:Nat) (h0:0 < g) (hg:g < 18446744073709551616) (hn:n < 340282366920938463463374607431768211456) :
  cw zjE [.agg (zax (wp n)),.v (.int .u64 (g:Int))] []=some (zgT (wp (n / g))):=by
 refine zrG _ _ ?_
 have hm:=Nat.mod_lt (n / 18446744073709551616) h0
 have hq:n / 18446744073709551616 / g≤n / 18446744073709551616:=Nat.div_le_self _ _
 have h:=c_Div64 (n / 18446744073709551616 % g) (n % 18446744073709551616) g hm hg (by omega)
 have t:=(zti 0 (n / 18446744073709551616) (n % 18446744073709551616) g 18446744073709551616 h0).1
 have l:(n / 18446744073709551616 % g*18446744073709551616+n % 18446744073709551616) / (0*18446744073709551616+g) < 18446744073709551616:=q_lt (by omega) (by omega)
 rw [Nat.zero_mul,Nat.zero_add] at t l
 have e:n / 18446744073709551616*18446744073709551616+n % 18446744073709551616=n:=by omega
 rw [e] at t
 have h':cw zi0 [AV.v (.int .u64 ((wp n).hi.tmod (g:Int))),AV.v (.int .u64 (wp n).lo),AV.v (.int .u64 (g:Int))] []=some (zdw ((((n / 18446744073709551616 % g*18446744073709551616+n % 18446744073709551616) / g:Nat):Int),(((n / 18446744073709551616 % g*18446744073709551616+n % 18446744073709551616) % g:Nat):Int))):=h
 rw [zab (by omega),zab (by omega),h',znm]
 have e2:(wp n).hi.tdiv (g:Int)=((n / 18446744073709551616 / g:Nat):Int):=rfl
 rw [e2,wuN' (by omega)]
 show some (zgT _)=_
 congr 2
 have key:∀ w z:Nat,z < 18446744073709551616→(⟨(w:Int),(z:Int)⟩:GratioWide)=wp (w*18446744073709551616+z):=by
  intro w z hz
  have e3:(w*18446744073709551616+z) / 18446744073709551616=w:=by omega
  have e4:(w*18446744073709551616+z) % 18446744073709551616=z:=by omega
  unfold wp
  rw [e3,e4]
 rw [t]
 exact key _ _ l
def fitS (s:Bool) (x y:Nat):GRatio×Int:=
 if x≤1152921504606846976∧y≤1152921504606846976 then
  (if s then (⟨-(x:Int),(y:Int)⟩,0) else (⟨(x:Int),(y:Int)⟩,0))
 else (⟨0,0⟩,6)
theorem redR_fit (s:Bool) (n d:Nat):redR s n d=fitS s (n / Nat.gcd n d) (d / Nat.gcd n d):=rfl
theorem c_fits (s:Bool) (x y:Nat):cw zjm [B s,.agg (zax (wp x)),.agg (zax (wp y))] []=some (zlt (fitS s x y)):=by
 refine zuw _ _ _ ?_
 unfold fitS
 have lH:∀ m:Nat,((wp m).hi != 0)=decide (m / 18446744073709551616≠0):=fun m=>by
  show (((m / 18446744073709551616:Nat):Int) != 0)=_
  by_cases h:m / 18446744073709551616=0
  · rw [h]; rfl
  · rw [decide_eq_true h,bne,beq_false_of_ne (by omega:((m / 18446744073709551616:Nat):Int)≠0)]; rfl
 have lL:∀ m:Nat,((1152921504606846976:Int) < (wp m).lo)↔1152921504606846976 < m % 18446744073709551616:=fun m=>by
  show (1152921504606846976:Int) < ((m % 18446744073709551616:Nat):Int)↔_
  omega
 have lo:∀ m:Nat,m≤1152921504606846976→(wp m).lo=(m:Int):=fun m h=>by
  show ((m % 18446744073709551616:Nat):Int)=(m:Int)
  omega
 rw [lH,lH]
 simp only [zaf]
 by_cases h1:x / 18446744073709551616≠0
 · rw [if_pos h1,if_neg (by omega)]
   rfl
 rw [if_neg h1]
 by_cases h2:y / 18446744073709551616≠0
 · rw [if_pos h2,if_neg (by omega)]
   rfl
 rw [if_neg h2]
 by_cases h3:1152921504606846976 < x % 18446744073709551616
 · rw [if_pos ((lL x).2 h3),if_neg (by omega)]
   rfl
 rw [if_neg (fun c=>h3 ((lL x).1 c))]
 by_cases h4:1152921504606846976 < y % 18446744073709551616
 · rw [if_pos ((lL y).2 h4),if_neg (by omega)]
   rfl
 rw [if_neg (fun c=>h4 ((lL y).1 c)),if_pos (by omega),lo x (by omega),lo y (by omega),w64_id (n:=(x:Int)) (by omega) (by omega),w64_id (n:=(y:Int)) (by omega) (by omega)]
 cases s
 · rw [zar]
   rfl
 · rw [zay,w64_id (by omega) (by omega),Int.zero_sub]
   rfl
end Go.Proofs.YtbhkcgaanaelfaaGreat
