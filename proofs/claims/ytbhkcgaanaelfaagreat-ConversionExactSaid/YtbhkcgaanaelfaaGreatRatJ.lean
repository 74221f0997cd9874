/- Words: greatest divisors, products of two words, numbers of two words. -/
import Derived.Test.YtbhkcgaanaelfaaGreatAll
import Derived.Test.YtbhkcgaanaelfaaGreatAbTop
import Derived.Lib.Mul64
import Derived.Test.YtbhkcgaanaelfaaGreatWrdJ
import Derived.Test.YtbhkcgaanaelfaaGreatPurJ
namespace Go.Proofs.YtbhkcgaanaelfaaGreat
open Go.Ab
theorem brn_t {β:Type} {c:Bool} (h:c=true) (x y:Option β):brn c x y=x:=by subst h; rfl
theorem brn_f {β:Type} {c:Bool} (h:c=false) (x y:Option β):brn c x y=y:=by subst h; rfl
noncomputable abbrev U (n:Nat):AV:=.v (.int .u64 (n:Int))
theorem wuN {n:Nat} (h:n < 18446744073709551616):wu64 (n:Int)=n:=zdb (by omega) (by omega)
theorem k_gcd:∀ (b a:Nat),zkh (a:Int) (b:Int)=some (zep.enc ((Nat.gcd a b:Nat):Int)):=by
 intro b
 induction b using Nat.strongRecOn with
 | _ b ih =>
   intro a
   refine zwv _ _ ?_
   by_cases hb:b=0
   · subst hb
     rw [brn_f (by rfl),Nat.gcd_zero_right]
     rfl
   · rw [brn_t (by simp; omega),zab (by omega)]
     have:(a:Int).tmod (b:Int)=((a % b:Nat):Int):=rfl
     rw [this,ih (a % b) (Nat.mod_lt _ (by omega)) b,Nat.gcd_comm b (a % b),← Nat.gcd_rec,Nat.gcd_comm]
theorem c_gcd (a b:Nat):cw zfV [U a,U b] []=some (zep.enc ((Nat.gcd a b:Nat):Int)):=zyN _ _ (k_gcd b a)
theorem zj0 (n:Int) (h1:-9223372036854775808≤n) (h2:n < 9223372036854775808):cw zdO [I n] []=some (zdg.enc (n.natAbs:Int)):=by
 refine zsc _ ?_
 rw [zaf]
 by_cases h:n < 0
 · rw [if_pos h]
   have:wu64 (0 - wu64 n)=(n.natAbs:Int):=by
    simp only [wu64,IntKind.wrap,IntKind.bits,IntKind.signed,show ((2:Int) ^ 64)=18446744073709551616 from rfl,Bool.false_and,Bool.false_eq_true,if_false]
    omega
   rw [this]
   rfl
 · rw [if_neg h,zdb (by omega) (by omega),show n=(n.natAbs:Int) from by omega]
   simp
   rfl
theorem c_Mul64 (x y:Nat) (hx:x < 18446744073709551616) (hy:y < 18446744073709551616) :
  cw ziS [U x,U y] []=some (zhk.enc (((x*y / 18446744073709551616:Nat):Int),((x*y % 18446744073709551616:Nat):Int))):=by
 refine zxj _ _ ?_
 have h32:((2:Int) ^ Min.min (Int.toNat 32) 64)=((4294967296:Nat):Int):=by decide
 have hdiv:∀ n:Nat,(n:Int).fdiv ((4294967296:Nat):Int)=((n / 4294967296:Nat):Int):=fun n=>by
  rw [Int.fdiv_eq_ediv_of_nonneg _ (by omega)]; rfl
 have hmask:∀ n:Nat,n < 18446744073709551616→((((n:Int) % Int.ofNat (2 ^ 64)).toNat &&& ((4294967295:Int) % Int.ofNat (2 ^ 64)).toNat:Nat):Int)=((n % 4294967296:Nat):Int):=fun n hn=>by
  have e1:((n:Int) % Int.ofNat (2 ^ 64)).toNat=n:=by
   have:(Int.ofNat (2 ^ 64):Int)=18446744073709551616:=by decide
   rw [this]; omega
  have e2:((4294967295:Int) % Int.ofNat (2 ^ 64)).toNat=2 ^ 32 - 1:=by decide
  rw [e1,e2,Nat.and_two_pow_sub_one_eq_mod]
 obtain ⟨m1,m2,m3,m4⟩:=Go.Lib.mul64_hi x y hx hy
 have hlo:wu64 ((x:Int)*(y:Int))=((x*y % 18446744073709551616:Nat):Int):=by
  have e:(x:Int)*(y:Int)=((x*y:Nat):Int):=by simp
  rw [e]
  generalize x*y=m
  simp only [wu64,IntKind.wrap,IntKind.bits,IntKind.signed,show ((2:Int) ^ 64)=18446744073709551616 from rfl,Bool.false_and,Bool.false_eq_true,if_false]
  omega
 have hx0:x % 4294967296 < 4294967296:=Nat.mod_lt _ (by omega)
 have hy0:y % 4294967296 < 4294967296:=Nat.mod_lt _ (by omega)
 have p1:=Go.Lib.half_mul_le (a:=x / 4294967296) (b:=y % 4294967296) (by omega) (by omega)
 have p2:=Go.Lib.half_mul_le (a:=x % 4294967296) (b:=y / 4294967296) (by omega) (by omega)
 have p3:=Go.Lib.half_mul_le (a:=x / 4294967296) (b:=y / 4294967296) (by omega) (by omega)
 have hM:∀ a b:Nat,((a:Int)*(b:Int))=((a*b:Nat):Int):=fun a b=>by push_cast; rfl
 have hA:∀ a b:Nat,((a:Int)+(b:Int))=((a+b:Nat):Int):=fun a b=>by push_cast; rfl
 rw [zab (by decide),zab (by decide),zab (by decide),zab (by decide),zab (by decide),hlo,h32]
 rw [hdiv x,hdiv y,hmask x hx,hmask y hy,wuN (n:=x % 4294967296) (by omega),wuN (n:=y % 4294967296) (by omega)]
 generalize hx1:x / 4294967296=x1 at *
 generalize hy1:y / 4294967296=y1 at *
 generalize x % 4294967296=x0 at *
 generalize y % 4294967296=y0 at *
 rw [hM x0 y0,wuN m1,hdiv,hM x1 y0,wuN (n:=x1*y0) (by omega),hA,wuN m2,hmask _ m2,hM x0 y1,wuN (n:=x0*y1) (by omega),wuN (n:=_ % 4294967296) (by omega),hA,wuN m3,hdiv,hdiv,hM x1 y1,wuN (n:=x1*y1) (by omega),hA,wuN (by omega),hA,wuN (by omega),m4]
 rfl
def W (n:Nat):GratioWide:=⟨((n / 18446744073709551616:Nat):Int),((n % 18446744073709551616:Nat):Int)⟩
theorem znL (x y:Nat) (hx:x < 18446744073709551616) (hy:y < 18446744073709551616) :
  cw zfo [U x,U y] []=some (zdW.enc (W (x*y))):=by
 refine ztX _ _ ?_
 rw [zas (c_Mul64 x y hx hy)]
 rfl
def cmpZ (a b:Int):Int:=if a < b then -1 else if b < a then 1 else 0
theorem c_isNaNu (a:Int):cw zgC [.v (.int .u64 a)] []=some (zee.enc false):=zro a (by simp; rfl)
theorem c_cmpu (a b:Int):cw zfS [.v (.int .u64 a),.v (.int .u64 b)] []=some (zfQ.enc (cmpZ a b)):=by
 refine zpb a b ?_
 rw [zas (c_isNaNu a),zas (c_isNaNu b),brn_f rfl,brn_f rfl,zaf,zaf]
 unfold cmpZ
 split
 · rfl
 · split <;> rfl
theorem zlv {a b:Int} (h:a < b):cmpZ a b=-1:=if_pos h
theorem zmU {a b:Int} (h:b < a):cmpZ a b=1:=by unfold cmpZ; rw [if_neg (by omega),if_pos h]
theorem zrt {a b:Int} (h:a=b):cmpZ a b=0:=by unfold cmpZ; rw [if_neg (by omega),if_neg (by omega)]
theorem zx8 {a b:Int} (h:b≤a):0≤cmpZ a b:=by
 unfold cmpZ
 rw [if_neg (by omega)]
 split <;> omega
theorem zmJ (a b:Nat):cw zdJ [.agg (zax (W a)),.agg (zax (W b))] []=some (zcF.enc (cmpZ a b)):=by
 refine zo8 _ _ ?_
 have ha:(W a).hi=((a / 18446744073709551616:Nat):Int):=rfl
 have hb:(W b).hi=((b / 18446744073709551616:Nat):Int):=rfl
 have la:(W a).lo=((a % 18446744073709551616:Nat):Int):=rfl
 have lb:(W b).lo=((b % 18446744073709551616:Nat):Int):=rfl
 rw [zas (c_cmpu _ _)]
 rcases Nat.lt_trichotomy (a / 18446744073709551616) (b / 18446744073709551616) with h | h | h
 · have e:cmpZ (W a).hi (W b).hi=-1:=zlv (by rw [ha,hb]; omega)
   rw [e,brn_t (by rfl),zlv (by omega)]
   rfl
 · have e:cmpZ (W a).hi (W b).hi=0:=zrt (by rw [ha,hb,h])
   rw [e,brn_f (by rfl),zas (c_cmpu _ _)]
   rcases Nat.lt_trichotomy a b with h' | h' | h'
   · rw [zlv (by rw [la,lb]; omega),zlv (by omega)]
     rfl
   · rw [zrt (by rw [la,lb,h']),zrt (by omega)]
     rfl
   · rw [zmU (by rw [la,lb]; omega),zmU (by omega)]
     rfl
 · have e:cmpZ (W a).hi (W b).hi=1:=zmU (by rw [ha,hb]; omega)
   rw [e,brn_t (by rfl),zmU (by omega)]
   rfl
def sgn (s:Bool) (n:Nat):Int:=if s then -(n:Int) else n
theorem ziu (n:Int) (f:Nat) (h1:-9223372036854775808≤n) (h2:n < 9223372036854775808) (hf:f < 18446744073709551616) :
  cw zdt [I n,U f] []=some (zdu.enc ⟨decide (n < 0),W (n.natAbs*f)⟩):=by
 refine zoA _ _ ?_
 rw [zas (zj0 n h1 h2),zas (znL n.natAbs f (by omega) hf)]
 rfl
end Go.Proofs.YtbhkcgaanaelfaaGreat
namespace Go.Proofs.YtbhkcgaanaelfaaGreat
open Go.Ab Go.PureDiv
set_option linter.unusedSimpArgs false
set_option maxRecDepth 20000
theorem W_wp (n:Nat):W n=wp n:=rfl
theorem zs6 {n:Nat} (h:n < 18446744073709551616):(⟨0,(n:Int)⟩:Gref01Wide)=wd n:=by
 unfold wd
 rw [Nat.div_eq_of_lt h,Nat.mod_eq_of_lt h]
 rfl
end Go.Proofs.YtbhkcgaanaelfaaGreat
namespace Go.Proofs.YtbhkcgaanaelfaaGreat
open Go.Ab Go.PureDiv
set_option linter.unusedSimpArgs false
set_option maxRecDepth 20000
theorem zeX (n:Int) (h1:-9223372036854775808≤n) (h2:n < 9223372036854775808):cw zbd [I n] []=some (zm1 (n.natAbs:Int)):=by
 refine zw2 _ ?_
 rw [zaf]
 by_cases h:n < 0
 · have e:wu64 (wu64 (w64 (0 - w64 (n+1)))+1)=(n.natAbs:Int):=by
    rw [w64_id (n:=n+1) (by omega) (by omega),w64_id (by omega) (by omega),zdb (n:=0 - (n+1)) (by omega) (by omega),zdb (by omega) (by omega)]
    omega
   rw [if_pos h,e]
   rfl
 · have e:wu64 n=(n.natAbs:Int):=by rw [zdb (by omega) (by omega)]; omega
   rw [if_neg h,e]
   rfl
end Go.Proofs.YtbhkcgaanaelfaaGreat
namespace Go.Proofs.YtbhkcgaanaelfaaGreat
open Go.Ab Go.PureDiv
set_option linter.unusedSimpArgs false
set_option maxRecDepth 20000
theorem zfL (x y:Nat) (hx:x < 18446744073709551616) (hy:y < 18446744073709551616) :
  cw zcC [.v (.int .u64 (x:Int)),.v (.int .u64 (y:Int))] []=some (zkV (wd (x*y))):=by
 refine zte _ _ ?_
 have h:cw ziS [AV.v (.int .u64 (x:Int)),AV.v (.int .u64 (y:Int))] []=some (zne (((x*y / 18446744073709551616:Nat):Int),((x*y % 18446744073709551616:Nat):Int))):=c_Mul64 x y hx hy
 rw [h,zsS]
 rfl
theorem c_rPlusG (a b:Nat) (h:a+b < 340282366920938463463374607431768211456) :
  cw zm8 [.agg (zai (wd a)),.agg (zai (wd b))] []=some (znu (wd (a+b))):=by
 refine zwF _ _ ?_
 have t0:Int.toNat 0=0:=rfl
 have t1:Int.toNat 1=1:=rfl
 have p64:(2:Nat) ^ 64=18446744073709551616:=rfl
 simp only [wd,Int.toNat_natCast,t0,t1,p64]
 by_cases c:(a % 18446744073709551616+b % 18446744073709551616+0) / 18446744073709551616=0
 · have e1:(a / 18446744073709551616+b / 18446744073709551616+0) % 18446744073709551616=(a+b) / 18446744073709551616:=by omega
   have e2:(a % 18446744073709551616+b % 18446744073709551616+0) % 18446744073709551616=(a+b) % 18446744073709551616:=by omega
   rw [c,show ((Int.ofNat 0) == 0)=true from rfl,zay,e1,e2]
   rfl
 · have c1:(a % 18446744073709551616+b % 18446744073709551616+0) / 18446744073709551616=1:=by omega
   have e1:(a / 18446744073709551616+b / 18446744073709551616+1) % 18446744073709551616=(a+b) / 18446744073709551616:=by omega
   have e2:(a % 18446744073709551616+b % 18446744073709551616+0) % 18446744073709551616=(a+b) % 18446744073709551616:=by omega
   rw [c1,show ((Int.ofNat 1) == 0)=false from rfl,zar,show ((Int.ofNat 1) == 1)=true from rfl,zay,e1,e2]
   rfl
def totR (p:Bool) (a:Nat) (q:Bool) (b:Nat):Bool×Nat:=if p=q then (p,a+b) else if b≤a then (p,a - b) else (q,b - a)
theorem c_rtotal (p:Bool) (a:Nat) (q:Bool) (b:Nat) (h:a+b < 340282366920938463463374607431768211456) :
  cw zj4 [B p,.agg (zai (wd a)),B q,.agg (zai (wd b))] []=some (zl7 ((totR p a q b).1,wd (totR p a q b).2)):=by
 refine zvA _ _ _ _ ?_
 unfold totR
 by_cases hs:p=q
 · rw [if_pos hs,hs,beq_self_eq_true,zay,c_rPlusG a b h,zs1]
   rfl
 · rw [if_neg hs,beq_false_of_ne hs,zar,c_Order,zmu]
   by_cases hc:b≤a
   · have e:(a+340282366920938463463374607431768211456 - b) % 340282366920938463463374607431768211456=a - b:=by omega
     rw [if_pos hc,decide_eq_true (by unfold ord3; rw [if_neg (by omega)]; split <;> omega),zay,c_Minus a b (by omega) (by omega),zjL,e]
     rfl
   · have e:(b+340282366920938463463374607431768211456 - a) % 340282366920938463463374607431768211456=b - a:=by omega
     rw [if_neg hc,decide_eq_false (by unfold ord3; rw [if_pos (by omega)]; omega),zar,c_Minus b a (by omega) (by omega),zjL,e]
     rfl
end Go.Proofs.YtbhkcgaanaelfaaGreat
namespace Go.Proofs.YtbhkcgaanaelfaaGreat
open Go.Ab Go.PureDiv
set_option linter.unusedSimpArgs false
set_option maxRecDepth 20000
def VR (r:GRatio):Prop:=1≤r.Den∧r.Den≤1152921504606846976∧-1152921504606846976≤r.Num∧r.Num≤1152921504606846976∧Nat.gcd r.Num.natAbs r.Den.natAbs=1
instance (r:GRatio):Decidable (VR r):=by unfold VR; infer_instance
theorem zdE (r:GRatio):cw zbn [.agg (zaa r)] []=some (zj8 (decide (VR r))):=by
 refine zpX _ ?_
 simp only [zaf]
 have no:¬ VR r→some (B false,([]:Mem))=some (zj8 (decide (VR r))):=fun h=>by rw [decide_eq_false h]; rfl
 by_cases h1:r.Den < 1
 · rw [if_pos h1]; exact no (fun h=>by have:=h.1; omega)
 rw [if_neg h1]
 by_cases h2:1152921504606846976 < r.Den
 · rw [if_pos h2]; exact no (fun h=>by have:=h.2.1; omega)
 rw [if_neg h2]
 by_cases h3:r.Num < -1152921504606846976
 · rw [if_pos h3]; exact no (fun h=>by have:=h.2.2.1; omega)
 rw [if_neg h3]
 by_cases h4:1152921504606846976 < r.Num
 · rw [if_pos h4]; exact no (fun h=>by have:=h.2.2.2.1; omega)
 rw [if_neg h4]
 have m1:cw zdO [I r.Num] []=some (zjJ (r.Num.natAbs:Int)):=zj0 r.Num (by omega) (by omega)
 have e:wu64 r.Den=(r.Den.natAbs:Int):=by rw [zdb (by omega) (by omega)]; omega
 have m2:cw zfV [AV.v (.int .u64 (r.Num.natAbs:Int)),AV.v (.int .u64 (r.Den.natAbs:Int))] []=some (zoa ((Nat.gcd r.Num.natAbs r.Den.natAbs:Nat):Int)):=c_gcd _ _
 rw [m1,zoE,e,m2,zud]
 by_cases h5:Nat.gcd r.Num.natAbs r.Den.natAbs=1
 · have hv:VR r:=⟨by omega,by omega,by omega,by omega,h5⟩
   rw [h5,decide_eq_true hv]
   rfl
 · rw [beq_false_of_ne (by omega)]
   exact no (fun h=>h5 h.2.2.2.2)
theorem zcW (r:GRatio):cw zbm [.agg (zaa r)] []=some (zhP (decide (VR r))):=by
 refine zwu _ ?_
 simp only [zaf]
 have no:¬ VR r→some (B false,([]:Mem))=some (zhP (decide (VR r))):=fun h=>by rw [decide_eq_false h]; rfl
 by_cases h1:r.Den < 1
 · rw [if_pos h1]; exact no (fun h=>by have:=h.1; omega)
 rw [if_neg h1]
 by_cases h2:1152921504606846976 < r.Den
 · rw [if_pos h2]; exact no (fun h=>by have:=h.2.1; omega)
 rw [if_neg h2]
 by_cases h3:r.Num < -1152921504606846976
 · rw [if_pos h3]; exact no (fun h=>by have:=h.2.2.1; omega)
 rw [if_neg h3]
 by_cases h4:1152921504606846976 < r.Num
 · rw [if_pos h4]; exact no (fun h=>by have:=h.2.2.2.1; omega)
 rw [if_neg h4]
 rw [zeX r.Num (by omega) (by omega),zaS,zeX r.Den (by omega) (by omega),zaS,zs6 (by omega),zs6 (by omega),ztt _ _ (by omega) (by omega),zlr]
 have hg:Nat.gcd r.Num.natAbs r.Den.natAbs≤r.Den.natAbs:=Nat.le_of_dvd (by omega) (Nat.gcd_dvd_right _ _)
 rw [← zs6 (n:=Nat.gcd r.Num.natAbs r.Den.natAbs) (by omega)]
 by_cases h5:Nat.gcd r.Num.natAbs r.Den.natAbs=1
 · have hv:VR r:=⟨by omega,by omega,by omega,by omega,h5⟩
   rw [h5,decide_eq_true hv]
   rfl
 · have hb:(((Nat.gcd r.Num.natAbs r.Den.natAbs:Nat):Int) == 1)=false:=beq_false_of_ne (by omega)
   show some (B ((0:Int) == 0 && (((Nat.gcd r.Num.natAbs r.Den.natAbs:Nat):Int) == 1 && true)),[])=_
   rw [hb]
   exact no (fun h=>h5 h.2.2.2.2)
end Go.Proofs.YtbhkcgaanaelfaaGreat
namespace Go.Proofs.YtbhkcgaanaelfaaGreat
open Go.Ab Go.PureDiv
set_option linter.unusedSimpArgs false
set_option maxRecDepth 20000
def mulR (a b:GRatio):GRatio×Int:=if VR a∧VR b then redR (!decide (a.Num < 0) == decide (b.Num < 0)) (a.Num.natAbs*b.Num.natAbs) (a.Den.natAbs*b.Den.natAbs) else (⟨0,0⟩,1)
theorem le120 {x y:Nat} (hx:x≤1152921504606846976) (hy:y≤1152921504606846976):x*y≤1329227995784915872903807060280344576:=Nat.mul_le_mul hx hy
theorem c_rMulG (a b:GRatio):cw zh3 [.agg (zaa a),.agg (zaa b)] []=some (zlK (mulR a b)):=by
 refine zyb _ _ ?_
 unfold mulR
 rw [zcW,zaC]
 by_cases ha:VR a
 · rw [decide_eq_true ha,Bool.not_true,zar,zcW,zaC]
   by_cases hb:VR b
   · have ha2:=ha
     have hb2:=hb
     obtain ⟨p1,p2,p3,p4,_⟩:=ha2
     obtain ⟨r1,r2,r3,r4,_⟩:=hb2
     have m1:=le120 (x:=a.Num.natAbs) (y:=b.Num.natAbs) (by omega) (by omega)
     have m2:=le120 (x:=a.Den.natAbs) (y:=b.Den.natAbs) (by omega) (by omega)
     have m3:0 < a.Den.natAbs*b.Den.natAbs:=Nat.mul_pos (by omega) (by omega)
     rw [decide_eq_true hb,Bool.not_true,zar,if_pos ⟨ha,hb⟩,zeX a.Num (by omega) (by omega),zaS,zeX b.Num (by omega) (by omega),zaS,zfL _ _ (by omega) (by omega),zcr,zeX a.Den (by omega) (by omega),zaS,zeX b.Den (by omega) (by omega),zaS,zfL _ _ (by omega) (by omega),zcr,zqD _ _ _ m3 (by omega) (by omega),ziP]
     rfl
   · rw [decide_eq_false hb,Bool.not_false,zay,if_neg (fun h=>hb h.2)]
     rfl
 · rw [decide_eq_false ha,Bool.not_false,zay,if_neg (fun h=>ha h.1)]
   rfl
end Go.Proofs.YtbhkcgaanaelfaaGreat
namespace Go.Proofs.YtbhkcgaanaelfaaGreat
open Go.Ab Go.Pure
theorem brn_nt {β:Type} (x y:Option β):brn (!true) x y=y:=rfl
theorem brn_nf {β:Type} (x y:Option β):brn (!false) x y=x:=rfl
theorem brn_T {β:Type} (x y:Option β):brn true x y=x:=rfl
theorem brn_F {β:Type} (x y:Option β):brn false x y=y:=rfl
def ofR (r:Rat):GRatio:=⟨r.num,(r.den:Int)⟩
theorem ofR_inj {a b:Rat} (h:ofR a=ofR b):a=b:=by
 have h1:a.num=b.num:=congrArg GRatio.Num h
 have h2:(a.den:Int)=b.den:=congrArg GRatio.Den h
 exact Rat.ext h1 (by omega)
theorem oN (r:Rat):(ofR r).Num=r.num:=rfl
theorem oD (r:Rat):(ofR r).Den=(r.den:Int):=rfl
theorem eqR (a b:Rat):((ofR a).Num == (ofR b).Num && ((ofR a).Den == (ofR b).Den && true))=decide (a=b):=by
 by_cases h:a=b
 · subst h; simp
 · rw [decide_eq_false h]
   by_cases h1:a.num=b.num
   · have h2:¬ ((a.den:Int)=b.den):=fun h2=>h (Rat.ext h1 (by omega))
     rw [oN,oN,oD,oD,beq_false_of_ne h2]
     simp
   · rw [oN,oN,show (a.num == b.num)=false by simpa using h1]; rfl
noncomputable abbrev aR (r:Rat):AV:=.agg (zaa (ofR r))
theorem p60 {n:Nat} (h:n≤60):(2:Nat) ^ n≤1152921504606846976:=Nat.le_trans (Nat.pow_le_pow_right (by omega) h) (by decide)
theorem zhd (r:Rat) {n d:Nat} (h:Bd n d r) (hn:n≤60) (hd:d≤60):cw zbn [aR r] []=some (zbg.enc true):=by
 have h1:=Nat.le_trans h.1 (p60 hn)
 have h2:=Nat.le_trans h.2 (p60 hd)
 have h3:=r.den_pos
 have eN:(ofR r).Num=r.num:=rfl
 have eD:(ofR r).Den=(r.den:Int):=rfl
 refine zpX _ ?_
 rw [eN,eD,zaf,if_neg (by omega),zaf,if_neg (by omega),zaf,if_neg (by omega),zaf,if_neg (by omega),zas (zj0 r.num (by omega) (by omega)),wuN (by omega),zas (c_gcd _ _)]
 have:Nat.gcd r.num.natAbs r.den=1:=r.reduced
 rw [this]
 rfl
theorem tdivN (a b:Nat):(a:Int).tdiv (b:Int)=((a / b:Nat):Int):=rfl
theorem zfK (s:Bool) (n:Nat):(sgn s n).natAbs=n:=by cases s <;> simp [sgn]
theorem sgn_of (n:Int):n=sgn (decide (n < 0)) n.natAbs:=by
 by_cases h:n < 0
 · rw [decide_eq_true h]; simp only [sgn,if_true]; omega
 · rw [decide_eq_false h]; simp only [sgn,Bool.false_eq_true,if_false]; omega
theorem zkG (s:Bool) (n m:Nat):sgn s (n*m)=sgn s n*m:=by cases s <;> simp [sgn,Int.neg_mul]
theorem sgn_div (s:Bool) (n c:Nat) (h:c ∣ n):sgn s (n / c)=sgn s n / (c:Int):=by
 cases s
 · simp [sgn]
 · simp only [sgn,if_true]
   rw [Int.neg_ediv_of_dvd (Int.natCast_dvd_natCast.2 h)]
   rfl
theorem tdiv_sgn (s:Bool) (n c:Nat):(sgn s n).tdiv (c:Int)=sgn s (n / c):=by
 cases s
 · rfl
 · simp only [sgn,if_true]
   rw [Int.neg_tdiv]; rfl
theorem c_Compare (a b:Rat) {n d n' d':Nat} (ha:Bd n d a) (hb:Bd n' d' b) (h1:n≤60) (h2:d≤60) (h3:n'≤60) (h4:d'≤60) :
  cw zag [aR a,aR b] []=some (zaB.enc (cmpZ (a.num*b.den) (b.num*a.den))):=by
 have ha1:=Nat.le_trans ha.1 (p60 h1)
 have ha2:=Nat.le_trans ha.2 (p60 h2)
 have hb1:=Nat.le_trans hb.1 (p60 h3)
 have hb2:=Nat.le_trans hb.2 (p60 h4)
 have pa:=a.den_pos
 have pb:=b.den_pos
 refine ztx _ _ ?_
 rw [zas (zhd a ha (by omega) (by omega)),brn_nt,zas (zhd b hb (by omega) (by omega)),brn_nt,oN,oN,oD,oD,wuN (by omega),wuN (by omega),
  zas (ziu a.num b.den (by omega) (by omega) (by omega)),zas (ziu b.num a.den (by omega) (by omega) (by omega))]
 have e1:a.num*(b.den:Int)=sgn (decide (a.num < 0)) (a.num.natAbs*b.den):=by rw [zkG,← sgn_of]
 have e2:b.num*(a.den:Int)=sgn (decide (b.num < 0)) (b.num.natAbs*a.den):=by rw [zkG,← sgn_of]
 have n1:a.num < 0→0 < a.num.natAbs*b.den:=fun h=>Nat.mul_pos (by omega) pb
 have n2:b.num < 0→0 < b.num.natAbs*a.den:=fun h=>Nat.mul_pos (by omega) pa
 rw [e1,e2]
 generalize a.num.natAbs*b.den=A at *
 generalize b.num.natAbs*a.den=B at *
 by_cases q1:a.num < 0
 · have n1:=n1 q1
   rw [decide_eq_true q1,brn_T]
   by_cases q2:b.num < 0
   · have n2:=n2 q2
     rw [decide_eq_true q2,brn_T,zas (zmJ B A)]
     have:cmpZ (B:Int) A=cmpZ (sgn true A) (sgn true B):=by
      simp only [cmpZ,sgn,if_true]
      split <;> split <;> first | rfl | omega | (split <;> first | rfl | omega)
     rw [this]
     rfl
   · rw [decide_eq_false q2,brn_F,brn_T]
     have:cmpZ (sgn true A) (sgn false B)=-1:=zlv (by simp only [sgn,if_true,Bool.false_eq_true,if_false]; omega)
     rw [this]
     rfl
 · rw [decide_eq_false q1,brn_F,brn_F]
   by_cases q2:b.num < 0
   · have n2:=n2 q2
     rw [decide_eq_true q2,brn_T]
     have:cmpZ (sgn false A) (sgn true B)=1:=zmU (by simp only [sgn,if_true,Bool.false_eq_true,if_false]; omega)
     rw [this]
     rfl
   · rw [decide_eq_false q2,brn_F,zas (zmJ A B)]
     rfl
theorem zwV {a b:Int}:(cmpZ a b == -1)=decide (a < b):=by
 unfold cmpZ
 split
 · rename_i h; rw [decide_eq_true h]; rfl
 · rename_i h; rw [decide_eq_false h]; split <;> rfl
theorem cmpZ_le {a b:Int}:cmpZ a b≤0↔a≤b:=by
 unfold cmpZ
 split
 · omega
 · split <;> omega
theorem cmpR_le (a b:Rat):cmpZ (a.num*b.den) (b.num*a.den)≤0↔a≤b:=by
 rw [cmpZ_le,Rat.le_iff]
end Go.Proofs.YtbhkcgaanaelfaaGreat
namespace Go.Proofs.YtbhkcgaanaelfaaGreat
open Go.Ab Go.Pure Go.PureDiv
set_option linter.unusedSimpArgs false
set_option maxRecDepth 20000
theorem _root_.Go.Pure.Fit.bd {r:Rat} (h:Fit r):Bd 60 60 r:=h
theorem fit_VR {r:Rat} (h:Fit r):VR (ofR r):=by
 have p:=r.den_pos
 refine ⟨?_,?_,?_,?_,?_⟩ <;> simp only [oN,oD]
 · omega
 · have:=h.2; omega
 · have:=h.1; omega
 · have:=h.1; omega
 · exact r.reduced
theorem VR_fit {g:GRatio} (h:VR g):∃ r,Fit r∧g=ofR r:=by
 obtain ⟨h1,h2,h3,h4,h5⟩:=h
 refine ⟨⟨g.Num,g.Den.natAbs,by omega,h5⟩,⟨by show g.Num.natAbs≤_; omega,by show g.Den.natAbs≤_; omega⟩,?_⟩
 show g=⟨g.Num,((g.Den.natAbs:Nat):Int)⟩
 have:((g.Den.natAbs:Nat):Int)=g.Den:=by omega
 rw [this]
def fitR (r:Rat):GRatio×Int:=if Fit r then (ofR r,0) else (⟨0,0⟩,6)
theorem fitS_eq (s:Bool) (x y:Nat) (r:Rat) (h1:sgn s x=r.num) (h2:y=r.den):fitS s x y=fitR r:=by
 have hx:x=r.num.natAbs:=by rw [← h1,zfK]
 have e1:¬ (s=true)→((x:Nat):Int)=r.num:=fun h=>by
  rw [← h1]; cases s
  · rfl
  · exact absurd rfl h
 have e2:s=true→-((x:Nat):Int)=r.num:=fun h=>by rw [← h1,h]; rfl
 have hiff:(x≤1152921504606846976∧y≤1152921504606846976)↔Fit r:=by rw [hx,h2]; exact Iff.rfl
 unfold fitS fitR
 by_cases hf:Fit r
 · rw [if_pos (hiff.2 hf),if_pos hf]
   by_cases hs:s=true
   · rw [if_pos hs,e2 hs,h2]; rfl
   · rw [if_neg hs,e1 hs,h2]; rfl
 · rw [if_neg (fun h=>hf (hiff.1 h)),if_neg hf]
theorem redR_eq (s:Bool) (n d:Nat) (hd:0 < d):redR s n d=fitR (mkRat (sgn s n) d):=by
 rw [redR_fit]
 have hne:d≠0:=by omega
 refine fitS_eq _ _ _ _ ?_ ?_
 · rw [Rat.num_mkRat,if_neg hne,zfK,Nat.gcd_comm,sgn_div _ _ _ (Nat.gcd_dvd_right _ _)]
 · rw [Rat.den_mkRat,if_neg hne,zfK,Nat.gcd_comm]
theorem sgn_mul2 (a b:Int):sgn (!decide (a < 0) == decide (b < 0)) (a.natAbs*b.natAbs)=a*b:=by
 conv=>rhs; rw [sgn_of a,sgn_of b]
 by_cases q1:a < 0 <;> by_cases q2:b < 0 <;> simp [q1,q2,sgn,Int.neg_mul,Int.mul_neg]
theorem mk_mul (a b:Rat):mkRat (a.num*b.num) (a.den*b.den)=a*b:=by
 rw [← Rat.mkRat_mul_mkRat,Rat.mkRat_self,Rat.mkRat_self]
theorem c_rMulF (a b:Rat) (ha:Fit a) (hb:Fit b):cw zh3 [aR a,aR b] []=some (zlK (fitR (a*b))):=by
 have h:=c_rMulG (ofR a) (ofR b)
 have p:=Nat.mul_pos a.den_pos b.den_pos
 have e:mulR (ofR a) (ofR b)=fitR (a*b):=by
  unfold mulR
  rw [if_pos ⟨fit_VR ha,fit_VR hb⟩,redR_eq _ _ _ (by simpa [oD] using p),oN,oN,oD,oD,sgn_mul2,Int.natAbs_natCast,Int.natAbs_natCast,mk_mul]
 rw [h,e]
theorem c_MulF (a b:Rat) (ha:Fit a) (hb:Fit b):cw zdH [aR a,aR b] []=some (zop (fitR (a*b))):=by
 have ha1:=ha.1
 have ha2:=ha.2
 have hb1:=hb.1
 have hb2:=hb.2
 have pa:=a.den_pos
 have pb:=b.den_pos
 obtain ⟨s1,s2⟩:=zvl a b
 generalize hl:a.num.natAbs.gcd b.den=l at *
 generalize hr:b.num.natAbs.gcd a.den=r at *
 have hl0:0 < l:=hl▸Nat.gcd_pos_of_pos_right _ pb
 have hr0:0 < r:=hr▸Nat.gcd_pos_of_pos_right _ pa
 have l1:a.num.natAbs / l≤a.num.natAbs:=Nat.div_le_self _ _
 have l2:b.num.natAbs / r≤b.num.natAbs:=Nat.div_le_self _ _
 have l3:a.den / r≤a.den:=Nat.div_le_self _ _
 have l4:b.den / l≤b.den:=Nat.div_le_self _ _
 have hres:fitS (!decide (a.num < 0) == decide (b.num < 0)) (a.num.natAbs / l*(b.num.natAbs / r)) (a.den / r*(b.den / l))=fitR (a*b):=by
  refine fitS_eq _ _ _ _ ?_ s2.symm
  rw [s1,sgn_of a.num,sgn_of b.num,tdiv_sgn,tdiv_sgn]
  rw [zfK,zfK,← sgn_of a.num,← sgn_of b.num]
  by_cases q1:a.num < 0 <;> by_cases q2:b.num < 0 <;> simp [q1,q2,sgn,Int.neg_mul,Int.mul_neg]
 have hg1:=c_gcd a.num.natAbs b.den
 have hg2:=c_gcd b.num.natAbs a.den
 have hf:=c_fits (!decide (a.num < 0) == decide (b.num < 0)) (a.num.natAbs / l*(b.num.natAbs / r)) (a.den / r*(b.den / l))
 have hm1:=zj0 a.num (by omega) (by omega)
 have hm2:=zj0 b.num (by omega) (by omega)
 have hp1:=znL (a.num.natAbs / l) (b.num.natAbs / r) (by omega) (by omega)
 have hp2:=znL (a.den / r) (b.den / l) (by omega) (by omega)
 rw [hl] at hg1
 rw [hr] at hg2
 refine zyH _ _ ?_
 rw [zas (zhd a ha.bd (by omega) (by omega)),brn_nt,zas (zhd b hb.bd (by omega) (by omega)),brn_nt,oD,oD,oN,oN,zas hm1,zas hm2,
  wuN (by omega),wuN (by omega),zas hg1,zas hg2,zab (by omega),zab (by omega),tdivN,tdivN,tdivN,tdivN,wuN (by omega),wuN (by omega),wuN (by omega),wuN (by omega),
  zas hp1,zab (by omega),zab (by omega),zas hp2]
 rw [W_wp,W_wp,hf,zl0,hres]
 rfl
theorem inv_fit {b:Rat} (hb:Fit b):Fit b⁻¹:=(Bd.inv hb.bd:Bd 60 60 _)
theorem c_DivF (a b:Rat) (ha:Fit a) (hb:Fit b) (h0:b≠0):cw zer [aR a,aR b] []=some (zoo (fitR (a / b))):=by
 have hb1:=hb.1
 have hb2:=hb.2
 have hn0:b.num≠0:=fun h=>h0 (Rat.num_eq_zero.1 h)
 have hm:=c_MulF a b⁻¹ ha (inv_fit hb)
 have eq:a / b=a*b⁻¹:=Rat.div_def a b
 have iN:=Rat.num_inv b
 have iD:=Rat.den_inv b
 rw [if_neg hn0] at iD
 refine zyk _ _ ?_
 rw [zas (zhd a ha.bd (by omega) (by omega)),brn_nt,zas (zhd b hb.bd (by omega) (by omega)),brn_nt,oN,oD,brn_f (by simpa using hn0),zaf]
 by_cases hs:b.num < 0
 · rw [if_pos hs]
   have e:(⟨w64 (0 - (b.den:Int)),w64 (0 - b.num)⟩:GRatio)=ofR b⁻¹:=by
    unfold ofR
    rw [iN,iD,Int.sign_eq_neg_one_of_neg hs,w64_id (by omega) (by omega),w64_id (by omega) (by omega)]
    congr 1 <;> omega
   rw [e,hm,ziC,eq]
   rfl
 · rw [if_neg hs]
   have e:(⟨(b.den:Int),b.num⟩:GRatio)=ofR b⁻¹:=by
    unfold ofR
    rw [iN,iD,Int.sign_eq_one_of_pos (by omega)]
    congr 1 <;> omega
   rw [e,hm,ziC,eq]
   rfl
end Go.Proofs.YtbhkcgaanaelfaaGreat
namespace Go.Proofs.YtbhkcgaanaelfaaGreat
open Go.Ab Go.Pure Go.PureDiv
set_option linter.unusedSimpArgs false
set_option maxRecDepth 20000
theorem c_plus (a b:Nat) (h:a+b < 340282366920938463463374607431768211456) :
  cw zjH [.agg (zax (W a)),.agg (zax (W b))] []=some (zjD (W (a+b))):=by
 refine zrC _ _ ?_
 have e0:(W a).lo.toNat=a % 18446744073709551616:=rfl
 have e1:(W b).lo.toNat=b % 18446744073709551616:=rfl
 have e2:(W a).hi.toNat=a / 18446744073709551616:=rfl
 have e3:(W b).hi.toNat=b / 18446744073709551616:=rfl
 have p:(2:Nat) ^ 64=18446744073709551616:=by decide
 have z0:Int.toNat 0=0:=rfl
 have z1:Int.toNat 1=1:=rfl
 rw [e0,e1,e2,e3,p,z0,z1]
 by_cases hc:(a % 18446744073709551616+b % 18446744073709551616+0) / 18446744073709551616=0
 · rw [brn_t (by rw [hc]; rfl)]
   have h1:(a / 18446744073709551616+b / 18446744073709551616+0) % 18446744073709551616=(a+b) / 18446744073709551616:=by omega
   have h2:(a % 18446744073709551616+b % 18446744073709551616+0) % 18446744073709551616=(a+b) % 18446744073709551616:=by omega
   rw [h1,h2]
   rfl
 · have hc':(a % 18446744073709551616+b % 18446744073709551616+0) / 18446744073709551616=1:=by omega
   rw [hc',brn_f (by rfl),brn_t (by rfl)]
   have h1:(a / 18446744073709551616+b / 18446744073709551616+1) % 18446744073709551616=(a+b) / 18446744073709551616:=by omega
   have h2:(a % 18446744073709551616+b % 18446744073709551616+0) % 18446744073709551616=(a+b) % 18446744073709551616:=by omega
   rw [h1,h2]
   rfl
theorem c_minus (a b:Nat) (hb:b≤a) (h:a < 340282366920938463463374607431768211456) :
  cw zgE [.agg (zax (W a)),.agg (zax (W b))] []=some (zi7 (W (a - b))):=by
 refine zqT _ _ ?_
 have e0:(W a).lo.toNat=a % 18446744073709551616:=rfl
 have e1:(W b).lo.toNat=b % 18446744073709551616:=rfl
 have e2:(W a).hi.toNat=a / 18446744073709551616:=rfl
 have e3:(W b).hi.toNat=b / 18446744073709551616:=rfl
 have p:(2:Nat) ^ 64=18446744073709551616:=by decide
 have z0:Int.toNat 0=0:=rfl
 have z1:Int.toNat 1=1:=rfl
 rw [e0,e1,e2,e3,p,z0,z1]
 by_cases hc:a % 18446744073709551616 < b % 18446744073709551616+0
 · rw [if_pos hc,brn_f (by rfl),brn_t (by rfl)]
   have h1:(a / 18446744073709551616+18446744073709551616 - b / 18446744073709551616 - 1) % 18446744073709551616=(a - b) / 18446744073709551616:=by omega
   have h2:(a % 18446744073709551616+18446744073709551616 - b % 18446744073709551616 - 0) % 18446744073709551616=(a - b) % 18446744073709551616:=by omega
   rw [h1,h2]
   rfl
 · rw [if_neg hc,brn_t (by rfl)]
   have h1:(a / 18446744073709551616+18446744073709551616 - b / 18446744073709551616 - 0) % 18446744073709551616=(a - b) / 18446744073709551616:=by omega
   have h2:(a % 18446744073709551616+18446744073709551616 - b % 18446744073709551616 - 0) % 18446744073709551616=(a - b) % 18446744073709551616:=by omega
   rw [h1,h2]
   rfl
theorem c_splus (p q:Bool) (a b:Nat) (h:a+b < 340282366920938463463374607431768211456) :
  ∃ (r:Bool) (c:Nat),cw zij [.agg (zcU ⟨p,W a⟩),.agg (zcU ⟨q,W b⟩)] []=some (zid ⟨r,W c⟩)∧sgn r c=sgn p a+sgn q b:=by
 by_cases hs:p=q
 · subst hs
   refine ⟨p,a+b,zio _ _ ?_,?_⟩
   · rw [brn_t (by simp),c_plus a b h,zoY]
     rfl
   · cases p <;> simp [sgn] <;> omega
 · have hs':(p == q)=false:=by simpa using hs
   by_cases hc:b≤a
   · refine ⟨p,a - b,zio _ _ ?_,?_⟩
     · rw [brn_f hs',zas (zmJ a b),zaf,if_pos (zx8 (by omega)),c_minus a b hc (by omega),zjS]
       rfl
     · cases p <;> cases q <;> simp [sgn] at hs ⊢ <;> omega
   · refine ⟨q,b - a,zio _ _ ?_,?_⟩
     · rw [brn_f hs',zas (zmJ a b),zaf,if_neg (by rw [zlv (by omega)]; omega),c_minus b a (by omega) (by omega),zjS]
       rfl
     · cases p <;> cases q <;> simp [sgn] at hs ⊢ <;> omega
theorem c_AddF (a b:Rat) (ha:Fit a) (hb:Fit b):cw zcI [aR a,aR b] []=some (zlM (fitR (a+b))):=by
 have ha1:=ha.1
 have ha2:=ha.2
 have hb1:=hb.1
 have hb2:=hb.2
 have pa:=a.den_pos
 have pb:=b.den_pos
 generalize hg:a.den.gcd b.den=g
 have hg0:0 < g:=hg▸Nat.gcd_pos_of_pos_left _ pa
 have hga:g≤a.den:=hg▸Nat.gcd_le_left _ pa
 have l1:b.den / g≤b.den:=Nat.div_le_self _ _
 have l2:a.den / g≤a.den:=Nat.div_le_self _ _
 have q1:=le120 (x:=a.num.natAbs) (y:=b.den / g) (by omega) (by omega)
 have q2:=le120 (x:=b.num.natAbs) (y:=a.den / g) (by omega) (by omega)
 obtain ⟨r,c,hp,hs⟩:=c_splus (decide (a.num < 0)) (decide (b.num < 0)) (a.num.natAbs*(b.den / g)) (b.num.natAbs*(a.den / g)) (by omega)
 have hc:c < 340282366920938463463374607431768211456:=by
  have e:c=(sgn r c).natAbs:=(zfK _ _).symm
  have t:=Int.natAbs_add_le (sgn (decide (a.num < 0)) (a.num.natAbs*(b.den / g))) (sgn (decide (b.num < 0)) (b.num.natAbs*(a.den / g)))
  rw [zfK,zfK,← hs,← e] at t
  omega
 rw [zkG,zkG,← sgn_of,← sgn_of] at hs
 generalize hm:c.gcd g=m
 have hm0:0 < m:=hm▸Nat.gcd_pos_of_pos_right _ hg0
 have hmg:m≤g:=Nat.le_of_dvd hg0 (hm▸Nat.gcd_dvd_right _ _)
 have hmc:m ∣ c:=hm▸Nat.gcd_dvd_left _ _
 have hmm:(c % g).gcd g=m:=by rw [← hm,Nat.gcd_comm c g,← Nat.gcd_rec]
 have l3:b.den / m≤b.den:=Nat.div_le_self _ _
 obtain ⟨s1,s2⟩:=zvo a b g hg.symm _ rfl m (by rw [← hs,zfK,hm])
 have hres:fitS r (c / m) (a.den / g*(b.den / m))=fitR (a+b):=by
  refine fitS_eq _ _ _ _ ?_ s2.symm
  rw [s1,← hs,sgn_div r c m hmc]
 have g1:=c_gcd a.den b.den
 have g2:=c_gcd (c % g) g
 rw [hg] at g1
 rw [hmm] at g2
 have p1:=ziu a.num (b.den / g) (by omega) (by omega) (by omega)
 have p2:=ziu b.num (a.den / g) (by omega) (by omega) (by omega)
 have w1:=c_wide_mod c g hg0 (by omega)
 have w2:=zyD c m hm0 (by omega) hc
 have w3:=znL (a.den / g) (b.den / m) (by omega) (by omega)
 refine zxX _ _ ?_
 rw [zas (zhd a ha.bd (by omega) (by omega)),brn_nt,zas (zhd b hb.bd (by omega) (by omega)),brn_nt,oD,oD,oN,oN,wuN (by omega),wuN (by omega),zas g1,
  zab (by omega),tdivN,tdivN,wuN (by omega),wuN (by omega),zas p1,zab (by omega),zas p2,hp,znD,W_wp,w1,zpz,zas g2,w2,zoO,zab (by omega),zab (by omega),tdivN,wuN (by omega),zas w3,W_wp,c_fits,zl0,hres]
 rfl
theorem neg_fit {b:Rat} (hb:Fit b):Fit (-b):=(Bd.neg hb.bd:Bd 60 60 _)
theorem c_SubF (a b:Rat) (ha:Fit a) (hb:Fit b):cw zbW [aR a,aR b] []=some (zoi (fitR (a - b))):=by
 have hb1:=hb.1
 refine zyw _ _ ?_
 have e:(⟨w64 (0 - (ofR b).Num),(ofR b).Den⟩:GRatio)=ofR (-b):=by
  have:w64 (0 - (ofR b).Num)=-b.num:=by rw [oN,w64_id (by omega) (by omega)]; omega
  rw [this]; rfl
 rw [zas (zhd a ha.bd (by omega) (by omega)),brn_nt,zas (zhd b hb.bd (by omega) (by omega)),brn_nt,e,c_AddF a (-b) ha (neg_fit hb),zfm,Rat.sub_eq_add_neg]
 rfl
theorem zgG {r:Rat} (h:Fit r):cw zbm [aR r] []=some (zhP true):=by
 have v:=zcW (ofR r)
 rw [decide_eq_true (fit_VR h)] at v
 exact v
theorem totR_sgn (p:Bool) (a:Nat) (q:Bool) (b:Nat):sgn (totR p a q b).1 (totR p a q b).2=sgn p a+sgn q b:=by
 unfold totR
 by_cases h:p=q
 · subst h
   rw [if_pos rfl]
   cases p <;> simp [sgn] <;> omega
 · rw [if_neg h]
   by_cases hc:b≤a
   · rw [if_pos hc]; cases p <;> cases q <;> simp [sgn] at h ⊢ <;> omega
   · rw [if_neg hc]; cases p <;> cases q <;> simp [sgn] at h ⊢ <;> omega
theorem mk_add (a b:Rat):mkRat (a.num*b.den+b.num*a.den) (a.den*b.den)=a+b:=by
 rw [← Rat.mkRat_add_mkRat _ _ (Nat.ne_of_gt a.den_pos) (Nat.ne_of_gt b.den_pos),Rat.mkRat_self,Rat.mkRat_self]
theorem zmQ (a b:Rat) (ha:Fit a) (hb:Fit b):cw zeq [aR a,aR b] []=some (zoh (fitR (a+b))):=by
 have ha1:=ha.1
 have ha2:=ha.2
 have hb1:=hb.1
 have hb2:=hb.2
 have pa:=a.den_pos
 have pb:=b.den_pos
 have q1:=le120 (x:=a.num.natAbs) (y:=b.den) (by omega) (by omega)
 have q2:=le120 (x:=b.num.natAbs) (y:=a.den) (by omega) (by omega)
 have q3:=le120 (x:=a.den) (y:=b.den) (by omega) (by omega)
 have q4:=Nat.mul_pos pa pb
 have s1:=zeX a.num (by omega) (by omega)
 have s2:=zeX b.num (by omega) (by omega)
 have s3:=zeX (a.den:Int) (by omega) (by omega)
 have s4:=zeX (b.den:Int) (by omega) (by omega)
 rw [Int.natAbs_natCast] at s3 s4
 have p1:=zfL a.num.natAbs b.den (by omega) (by omega)
 have p2:=zfL b.num.natAbs a.den (by omega) (by omega)
 have p3:=zfL a.den b.den (by omega) (by omega)
 have t:=c_rtotal (decide (a.num < 0)) (a.num.natAbs*b.den) (decide (b.num < 0)) (b.num.natAbs*a.den) (by omega)
 have ts:=totR_sgn (decide (a.num < 0)) (a.num.natAbs*b.den) (decide (b.num < 0)) (b.num.natAbs*a.den)
 have tl:(totR (decide (a.num < 0)) (a.num.natAbs*b.den) (decide (b.num < 0)) (b.num.natAbs*a.den)).2≤a.num.natAbs*b.den+b.num.natAbs*a.den:=by
  unfold totR
  split
  · exact Nat.le_refl _
  · split <;> (show _ - _≤_; omega)
 generalize totR (decide (a.num < 0)) (a.num.natAbs*b.den) (decide (b.num < 0)) (b.num.natAbs*a.den)=w at *
 rw [zkG,zkG,← sgn_of,← sgn_of] at ts
 have r1:=zqD w.1 w.2 (a.den*b.den) q4 (by omega) (by omega)
 have e:redR w.1 w.2 (a.den*b.den)=fitR (a+b):=by rw [redR_eq _ _ _ q4,ts,mk_add]
 rw [e] at r1
 refine zyY _ _ ?_
 rw [zgG ha,zaC,brn_nt,zgG hb,zaC,brn_nt,oN,oN,oD,oD,s1,zaS,s4,zaS,p1,zcr,s2,zaS,s3,zaS,p2,zcr,t,zmy,zaS,zaS,p3,zcr,r1,ziP]
 rfl
theorem zlA (a b:Rat) (ha:Fit a) (hb:Fit b):cw zdG [aR a,aR b] []=some (zos (fitR (a - b))):=by
 have hb1:=hb.1
 refine zyV _ _ ?_
 have e:(⟨w64 (0 - (ofR b).Num),(ofR b).Den⟩:GRatio)=ofR (-b):=by
  have:w64 (0 - (ofR b).Num)=-b.num:=by rw [oN,w64_id (by omega) (by omega)]; omega
  rw [this]; rfl
 rw [zgG ha,zaC,brn_nt,zgG hb,zaC,brn_nt,e,zmQ a (-b) ha (neg_fit hb),zeE,Rat.sub_eq_add_neg]
 rfl
theorem sgn_sign (a b:Int) (D:Nat) (h0:b≠0):sgn (!decide (a < 0) == decide (b < 0)) (a.natAbs*D)=a*(b.sign*(D:Int)):=by
 have e:sgn (!decide (a < 0) == decide (b < 0)) (a.natAbs*D)=sgn (decide (a < 0)) a.natAbs*(b.sign*(D:Int)):=by
  rcases Int.lt_or_gt_of_ne h0 with h | h
  · rw [Int.sign_eq_neg_one_of_neg h,decide_eq_true h]
    by_cases q:a < 0 <;> simp [q,sgn,Int.neg_mul,Int.mul_neg]
  · rw [Int.sign_eq_one_of_pos h,decide_eq_false (show ¬ b < 0 by omega)]
    by_cases q:a < 0 <;> simp [q,sgn,Int.neg_mul,Int.mul_neg]
 rw [e,← sgn_of]
theorem c_rDivF (a b:Rat) (ha:Fit a) (hb:Fit b) (h0:b≠0):cw zjQ [aR a,aR b] []=some (zol (fitR (a / b))):=by
 have ha1:=ha.1
 have ha2:=ha.2
 have hb1:=hb.1
 have hb2:=hb.2
 have pa:=a.den_pos
 have pb:=b.den_pos
 have hn0:b.num≠0:=fun h=>h0 (Rat.num_eq_zero.1 h)
 have q1:=le120 (x:=a.num.natAbs) (y:=b.den) (by omega) (by omega)
 have q2:=le120 (x:=a.den) (y:=b.num.natAbs) (by omega) (by omega)
 have q4:0 < a.den*b.num.natAbs:=Nat.mul_pos pa (by omega)
 have s1:=zeX a.num (by omega) (by omega)
 have s2:=zeX b.num (by omega) (by omega)
 have s3:=zeX (a.den:Int) (by omega) (by omega)
 have s4:=zeX (b.den:Int) (by omega) (by omega)
 rw [Int.natAbs_natCast] at s3 s4
 have p1:=zfL a.num.natAbs b.den (by omega) (by omega)
 have p2:=zfL a.den b.num.natAbs (by omega) (by omega)
 have r1:=zqD (!decide (a.num < 0) == decide (b.num < 0)) (a.num.natAbs*b.den) (a.den*b.num.natAbs) q4 (by omega) (by omega)
 have iN:=Rat.num_inv b
 have iD:=Rat.den_inv b
 rw [if_neg hn0] at iD
 have e:redR (!decide (a.num < 0) == decide (b.num < 0)) (a.num.natAbs*b.den) (a.den*b.num.natAbs)=fitR (a / b):=by
  rw [redR_eq _ _ _ q4,sgn_sign _ _ _ hn0,← iN,← iD,mk_mul,← Rat.div_def]
 rw [e] at r1
 refine zyp _ _ ?_
 rw [zgG ha,zaC,brn_nt,zgG hb,zaC,brn_nt,oN,oN,oD,oD,brn_f (beq_false_of_ne hn0),s1,zaS,s4,zaS,p1,zcr,s3,zaS,s2,zaS,p2,zcr,r1,ziP]
 rfl
theorem zpV (a b:Rat) (ha:Fit a) (hb:Fit b):cw zag [aR a,aR b] []=some (zkY (cmpZ (a.num*b.den) (b.num*a.den))):=
 c_Compare a b ha.bd hb.bd (by omega) (by omega) (by omega) (by omega)
theorem c_LessF (a b:Rat) (ha:Fit a) (hb:Fit b):cw zk3 [aR a,aR b] []=some (znp (decide (a < b))):=by
 refine zxO _ _ ?_
 have:decide (a.num*(b.den:Int) < b.num*a.den)=decide (a < b):=by
  rw [decide_eq_decide,Rat.lt_iff]
 rw [zpV a b ha hb,zls,zwV,this]
 rfl
theorem zyv (a b:Rat) (ha:Fit a) (hb:Fit b):cw zk8 [aR a,aR b] []=some (zkS (cmpZ (a.num*b.den) (b.num*a.den))):=by
 have ha1:=ha.1
 have ha2:=ha.2
 have hb1:=hb.1
 have hb2:=hb.2
 have pa:=a.den_pos
 have pb:=b.den_pos
 have q1:=le120 (x:=a.num.natAbs) (y:=b.den) (by omega) (by omega)
 have q2:=le120 (x:=b.num.natAbs) (y:=a.den) (by omega) (by omega)
 have s1:=zeX a.num (by omega) (by omega)
 have s2:=zeX b.num (by omega) (by omega)
 have s3:=zeX (a.den:Int) (by omega) (by omega)
 have s4:=zeX (b.den:Int) (by omega) (by omega)
 rw [Int.natAbs_natCast] at s3 s4
 have p1:=zfL a.num.natAbs b.den (by omega) (by omega)
 have p2:=zfL b.num.natAbs a.den (by omega) (by omega)
 have t:=c_rtotal (decide (a.num < 0)) (a.num.natAbs*b.den) (decide (0 < b.num)) (b.num.natAbs*a.den) (by omega)
 have hs:=totR_sgn (decide (a.num < 0)) (a.num.natAbs*b.den) (decide (0 < b.num)) (b.num.natAbs*a.den)
 generalize totR (decide (a.num < 0)) (a.num.natAbs*b.den) (decide (0 < b.num)) (b.num.natAbs*a.den)=w at *
 obtain ⟨r,c⟩:=w
 have e2:sgn (decide (0 < b.num)) (b.num.natAbs*a.den)=-(b.num*(a.den:Int)):=by
  rw [zkG,← Int.neg_mul]
  congr 1
  by_cases q:0 < b.num
  · rw [decide_eq_true q]; simp only [sgn,if_true]; omega
  · rw [decide_eq_false q]; simp only [sgn,Bool.false_eq_true,if_false]; omega
 rw [e2,zkG,← sgn_of] at hs
 refine ztl _ _ ?_
 rw [zgG ha,zaC,brn_nt,zgG hb,zaC,brn_nt,oN,oN,oD,oD,s1,zaS,s4,zaS,p1,zcr,s2,zaS,s3,zaS,p2,zcr,t,zmy]
 generalize a.num*(b.den:Int)=A at *
 generalize b.num*(a.den:Int)=B at *
 simp only [] at hs ⊢
 rw [wd_zero]
 by_cases hc0:c=0
 · subst hc0
   rw [decide_eq_true rfl,zay,zrt (by cases r <;> simp [sgn] at hs <;> omega)]
   rfl
 · rw [decide_eq_false hc0,zar]
   cases r with
   | true=>rw [zay,zlv (by simp [sgn] at hs; omega)]; rfl
   | false=>rw [zar,zmU (by simp [sgn] at hs; omega)]; rfl
theorem cmpZ_neg {a b:Int}:decide (cmpZ a b < 0)=decide (a < b):=by
 unfold cmpZ
 split
 · rename_i h; rw [decide_eq_true h]; rfl
 · rename_i h; rw [decide_eq_false h]; split <;> rfl
theorem znk (a b:Rat) (ha:Fit a) (hb:Fit b):cw zew [aR a,aR b] []=some (znr (decide (a < b))):=by
 refine zw3 _ _ ?_
 have:decide (a.num*(b.den:Int) < b.num*a.den)=decide (a < b):=by
  rw [decide_eq_decide,Rat.lt_iff]
 rw [zyv a b ha hb,zqd,cmpZ_neg,this]
 rfl
end Go.Proofs.YtbhkcgaanaelfaaGreat
