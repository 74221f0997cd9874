/- Conversion: rounding, converting, the dice of the statement, and the statement itself. -/
import Derived.Test.YtbhkcgaanaelfaaGreatCvK
import Derived.Test.YtbhkcgaanaelfaaGreatBas
namespace Go.Proofs.YtbhkcgaanaelfaaGreat
open Go.Ab Go.Pure
set_option linter.unusedSimpArgs false
set_option linter.unusedVariables false
set_option maxRecDepth 20000
def rndR (a:Rat):Int:=(2*a.num+a.den) / (2*a.den)
theorem c_RoundF (a:Rat) (ha:Fit a):cw zmh [aR a] []=some (zmd (rndR a)):=by
 have ha1:=ha.1
 have ha2:=ha.2
 have pa:=a.den_pos
 refine zwd _ ?_
 have key:cw zlf [aR a,.fn zeG []] []=some (zlc (rndR a)):=by
  refine znA _ ?_
  unfold rndR
  rw [zas (zhd a ha.bd (by omega) (by omega)),brn_nt,oN,oD,zab (by omega),zab (by omega),zaf]
  generalize hn:a.num=N at *
  have hD:(0:Int) < (a.den:Int):=by omega
  generalize hd:(a.den:Int)=D at *
  have f1:=Int.mul_tdiv_add_tmod N D
  have f2:=Int.tmod_lt_of_pos N hD
  have f3:-D < N.tmod D:=by
   have:=Int.tmod_lt_of_pos (-N) hD
   rw [Int.neg_tmod] at this; omega
  have f5:-1152921504606846976≤N.tdiv D∧N.tdiv D≤1152921504606846976:=by
   have:=Int.natAbs_tdiv_le_natAbs N D
   omega
  have tr:∀ (q r:Int),-1152921504606846977≤q→q≤1152921504606846976→0≤r→r < D→D*q+r=N→cw zeG [I q,I r,I D] []=some (zkL ((2*N+D) / (2*D))):=by
   intro q r hq1 hq2 hr0 hr1 he
   refine ztk _ _ _ ?_
   rw [w64_id (show _≤D - r by omega) (by omega),zaf]
   have hv:(2*N+D) / (2*D)=if D - r≤r then q+1 else q:=by
    split
    · exact ((Int.ediv_emod_unique (a:=2*N+D) (b:=2*D) (r:=2*r - D) (q:=q+1) (by omega)).2 ⟨by grind,by omega,by omega⟩).1
    · exact ((Int.ediv_emod_unique (a:=2*N+D) (b:=2*D) (r:=2*r+D) (q:=q) (by omega)).2 ⟨by grind,by omega,by omega⟩).1
   rw [hv]
   split
   · rw [w64_id (by omega) (by omega)]; rfl
   · rfl
  by_cases hs:N.tmod D < 0
  · rw [if_pos hs,w64_id (show _≤N.tdiv D by omega) (by omega),w64_id (show _≤N.tdiv D - 1 by omega) (by omega),w64_id (by omega) (by omega),
     tr (N.tdiv D - 1) (N.tmod D+D) (by omega) (by omega) (by omega) (by omega) (by rw [Int.mul_sub]; omega),zln]; rfl
  · rw [if_neg hs,w64_id (show _≤N.tdiv D by omega) (by omega),tr (N.tdiv D) (N.tmod D) (by omega) (by omega) (by omega) (by omega) f1,zln]; rfl
 rw [key,zqt]
 rfl
theorem c_rRoundF (a:Rat) (ha:Fit a):cw zmc [aR a] []=some (zl3 (rndR a)):=by
 have ha1:=ha.1
 have ha2:=ha.2
 have pa:=a.den_pos
 refine zv2 _ ?_
 rw [zgG ha,zaC,brn_nt,oN,oD,w64_id (n:=2*a.num) (by omega) (by omega),w64_id (n:=2*a.num+a.den) (by omega) (by omega),w64_id (n:=2*(a.den:Int)) (by omega) (by omega)]
 have fl:cw zmn [I (2*a.num+a.den),I (2*(a.den:Int))] []=some (zmf (rndR a)):=by
  refine zvu _ _ ?_
  unfold rndR
  generalize hN:2*a.num+(a.den:Int)=N
  have hD:(0:Int) < 2*(a.den:Int):=by omega
  have nb:-4611686018427387904≤N∧N≤4611686018427387904:=by omega
  generalize 2*(a.den:Int)=D at *
  rw [zab (by omega),zab (by omega),zaf]
  have f1:=Int.mul_tdiv_add_tmod N D
  have f2:=Int.tmod_lt_of_pos N hD
  have f3:-D < N.tmod D:=by
   have:=Int.tmod_lt_of_pos (-N) hD
   rw [Int.neg_tmod] at this; omega
  have f5:-4611686018427387904≤N.tdiv D∧N.tdiv D≤4611686018427387904:=by
   have:=Int.natAbs_tdiv_le_natAbs N D
   omega
  by_cases hs:N.tmod D < 0
  · rw [if_pos hs,w64_id (n:=N.tdiv D) (by omega) (by omega),w64_id (by omega) (by omega)]
    have:=((Int.ediv_emod_unique (a:=N) (b:=D) (r:=N.tmod D+D) (q:=N.tdiv D - 1) (by omega)).2 ⟨by grind,by omega,by omega⟩).1
    rw [this]; rfl
  · rw [if_neg hs,w64_id (n:=N.tdiv D) (by omega) (by omega)]
    have:=((Int.ediv_emod_unique (a:=N) (b:=D) (r:=N.tmod D) (q:=N.tdiv D) (by omega)).2 ⟨by grind,by omega,by omega⟩).1
    rw [this]; rfl
 rw [fl,zr3]
 rfl
theorem zwE (c:GCurve) (m most:Int):∃ v:Int×Int,cw zhv [.agg (zah c),I m,I most] []=some (zhy v)∧cw zkX [.agg (zah c),I m,I most] []=some (zlb v):=by
 by_cases h1:m < 0
 · exact ⟨(0,2),zdI _ _ _ (by rw [zaf,if_pos h1]; rfl),zfr _ _ _ (by rw [zaf,if_pos h1]; rfl)⟩
 by_cases h2:200 < m
 · exact ⟨(0,2),zdI _ _ _ (by rw [zaf,if_neg h1,zaf,if_pos h2]; rfl),zfr _ _ _ (by rw [zaf,if_neg h1,zaf,if_pos h2]; rfl)⟩
 by_cases h3:most < 0
 · exact ⟨(0,2),zdI _ _ _ (by rw [zaf,if_neg h1,zaf,if_neg h2,zaf,if_pos h3]; rfl),zfr _ _ _ (by rw [zaf,if_neg h1,zaf,if_neg h2,zaf,if_pos h3]; rfl)⟩
 by_cases h4:200 < most
 · exact ⟨(0,2),zdI _ _ _ (by rw [zaf,if_neg h1,zaf,if_neg h2,zaf,if_neg h3,zaf,if_pos h4]; rfl),zfr _ _ _ (by rw [zaf,if_neg h1,zaf,if_neg h2,zaf,if_neg h3,zaf,if_pos h4]; rfl)⟩
 obtain ⟨v,p1,r1,hv⟩:=zu0 c (ofR (m:Rat))
 have p1':cw zcs [.agg (zah c),.agg (zaa (ofR (m:Rat)))] []=some (zdS v):=p1
 have r1':cw ziY [.agg (zah c),.agg (zaa ⟨m,1⟩)] []=some (zkZ v):=r1
 by_cases h5:v.2=0
 · obtain ⟨r,hr,er⟩:=hv h5
   have k1:=c_RoundF r hr
   have k2:=c_rRoundF r hr
   have e:(if most < if 0 > rndR r then 0 else rndR r then most else if 0 > rndR r then 0 else rndR r)=(if (if rndR r < most then rndR r else most) > 0 then if rndR r < most then rndR r else most else 0):=by
    repeat' split
    all_goals omega
   refine ⟨(if most < if 0 > rndR r then 0 else rndR r then most else if 0 > rndR r then 0 else rndR r,0),zdI _ _ _ ?_,zfr _ _ _ ?_⟩
   · rw [zaf,if_neg h1,zaf,if_neg h2,zaf,if_neg h3,zaf,if_neg h4,zjg,zbk,p1',zfs,h5,brn_f (by rfl),er,k1,zrD]; rfl
   · rw [zaf,if_neg h1,zaf,if_neg h2,zaf,if_neg h3,zaf,if_neg h4,r1',zks,h5,brn_f (by rfl),er,k2,zrQ,e]; rfl
 · refine ⟨(0,v.2),zdI _ _ _ ?_,zfr _ _ _ ?_⟩
   · rw [zaf,if_neg h1,zaf,if_neg h2,zaf,if_neg h3,zaf,if_neg h4,zjg,zbk,p1',zfs,brn_t (bne_iff_ne.2 h5)]; rfl
   · rw [zaf,if_neg h1,zaf,if_neg h2,zaf,if_neg h3,zaf,if_neg h4,r1',zks,brn_t (bne_iff_ne.2 h5)]; rfl
end Go.Proofs.YtbhkcgaanaelfaaGreat
namespace Go.Proofs.YtbhkcgaanaelfaaGreat
open Go.Ab
set_option linter.unusedSimpArgs false
set_option linter.unusedVariables false
def DOk (d:GmarkDice):Prop:=0≤d.At∧d.L.length≤600
noncomputable abbrev mD (d:GmarkDice):Mem:=[(1000,⟨2,zal,[zaA d],true⟩)]
theorem tmod_lt {a n:Int} (hn:0 < n):-n < a.tmod n∧a.tmod n < n:=by
 have h1:=Int.tmod_lt_of_pos a hn
 refine ⟨?_,h1⟩
 have h2:=Int.tmod_lt_of_pos (-a) hn
 rw [Int.neg_tmod] at h2
 omega
theorem c_Light (t:List Int):cw zmW [.sl 1 (List.map zbl t)] []=some (zng (decide ((t.length:Int)≤600))):=
 zwM t (by rw [List.length_map]; rfl)
theorem c_Roll (t:List Int):cw zoc [.sl 1 (List.map zbl t)] []=some (zon ⟨t,0⟩):=zyQ t rfl
theorem zgw (d:GmarkDice) (n:Int) (hd:DOk d) (hn:n≤4611686018427387904) :
  ∃ (r:Int) (d':GmarkDice),cw zaU [.loc 1000 2 0 0,I n] (mD d)=some (zhx (r,d'))∧0≤r∧(r < n∨r=0)∧DOk d':=by
 by_cases h1:(d.L.length:Int)≤d.At
 · refine ⟨0,d,zhu d n ?_,by omega,.inr rfl,hd⟩
   simp (disch:=omega) only [List.length_map,zrv]; rfl
 by_cases h2:n < 1
 · refine ⟨0,d,zhu d n ?_,by omega,.inr rfl,hd⟩
   simp (disch:=omega) only [List.length_map,zrv,brn_neg]; rfl
 obtain ⟨ha,hl⟩:=hd
 have hlt:d.At.toNat < d.L.length:=by omega
 have hb:=tmod_lt (a:=d.L[d.At.toNat]) (n:=n) (by omega)
 have hd':DOk ⟨d.L,d.At+1⟩:=⟨by show 0≤d.At+1; omega,hl⟩
 by_cases h3:(d.L[d.At.toNat]).tmod n < 0
 · refine ⟨(d.L[d.At.toNat]).tmod n+n,⟨d.L,d.At+1⟩,zhu d n ?_,by omega,.inl (by omega),hd'⟩
   simp (disch:=omega) [zrv,brn_neg,zab,hlt,w64_id]; rfl
 · refine ⟨(d.L[d.At.toNat]).tmod n,⟨d.L,d.At+1⟩,zhu d n ?_,by omega,.inl (by omega),hd'⟩
   simp (disch:=omega) [zrv,brn_neg,zab,hlt,w64_id]; rfl
theorem c_Pick (d:GmarkDice) (l:List Int) (hd:DOk d) (hl:l≠[]) (hl2:l.length≤1000) :
  ∃ (r:Int) (d':GmarkDice),cw zhG [.loc 1000 2 0 0,.sl 1 (List.map zbl l)] (mD d)=some (zku (r,d'))∧r∈l∧DOk d':=by
 obtain ⟨r,d',h,h0,h1,hd'⟩:=zgw d l.length hd (by omega)
 have hpos:0 < l.length:=List.length_pos_iff.2 hl
 have hlt:r.toNat < l.length:=by omega
 refine ⟨l[r.toNat],d',zsU d l ?_,List.getElem_mem hlt,hd'⟩
 simp (disch:=omega) only [List.length_map,h,za5,zab,zy3,List.getElem?_eq_getElem hlt,Option.bind_some]
 rfl
theorem k_DRatioG (r1:Int×GmarkDice):∀ (k:Nat) (x y:Int),k≤5→∃ r:GRatio,zd2 r1 x y (k:Int)=some (zgP (r,r1.2)):=by
 intro k
 induction k with
 | zero =>
   intro x y _
   by_cases h:x=0
   · exact ⟨⟨x,1⟩,zdh _ _ _ _ (by rw [zaf,if_neg (by omega),h]; rfl)⟩
   · exact ⟨⟨x,y⟩,zdh _ _ _ _ (by rw [zaf,if_neg (by omega),beq_false_of_ne h]; rfl)⟩
 | succ k ih =>
   intro x y hk
   have ew:w64 (((k+1:Nat):Int) - 1)=(k:Int):=by rw [w64_id (by omega) (by omega)]; omega
   by_cases h1:1 < ((k+1:Nat):Int)
   · by_cases h2:(x.tmod ((k+1:Nat):Int) == 0)=true
     · by_cases h3:(y.tmod ((k+1:Nat):Int) == 0)=true
       · obtain ⟨r,hr⟩:=ih (w64 (x.tdiv ((k+1:Nat):Int))) (w64 (y.tdiv ((k+1:Nat):Int))) (by omega)
         exact ⟨r,zdh _ _ _ _ (by rw [zaf,if_pos h1,zab (by omega),h2,zay,zab (by omega),h3,zay,zab (by omega),zab (by omega),ew]; exact hr)⟩
       · obtain ⟨r,hr⟩:=ih x y (by omega)
         exact ⟨r,zdh _ _ _ _ (by rw [zaf,if_pos h1,zab (by omega),h2,zay,zab (by omega),Bool.eq_false_iff.2 h3,zar,ew]; exact hr)⟩
     · obtain ⟨r,hr⟩:=ih x y (by omega)
       exact ⟨r,zdh _ _ _ _ (by rw [zaf,if_pos h1,zab (by omega),Bool.eq_false_iff.2 h2,zar,ew]; exact hr)⟩
   · by_cases h:x=0
     · exact ⟨⟨x,1⟩,zdh _ _ _ _ (by rw [zaf,if_neg h1,h]; rfl)⟩
     · exact ⟨⟨x,y⟩,zdh _ _ _ _ (by rw [zaf,if_neg h1,beq_false_of_ne h]; rfl)⟩
theorem zq2 (d:GmarkDice) (hd:DOk d):∃ (r:GRatio) (d':GmarkDice),cw zfF [.loc 1000 2 0 0] (mD d)=some (zgP (r,d'))∧DOk d':=by
 obtain ⟨n,d1,h1,n0,n1,hd1⟩:=zgw d 21 hd (by omega)
 obtain ⟨m,d2,h2,m0,m1,hd2⟩:=zgw d1 5 hd1 (by omega)
 obtain ⟨r,hr⟩:=k_DRatioG (m,d2) 5 (w64 (n - 10)) (w64 (1+m)) (by omega)
 exact ⟨r,d2,zr8 d (by rw [h1,za5,h2,za5]; exact hr),hd2⟩
theorem zvg:∀ (k:Nat) (l:List GPoint) (d:GmarkDice) (x y:Int),DOk d→k≤4→l.length+k≤5 →
  ∃ (m:List GPoint) (d':GmarkDice),zgl (List.map zae l) d x y (k:Int)=some (zgX (⟨m⟩,d'))∧DOk d'∧m.length=l.length+k
 | 0,l,d,x,y,hd,hk,hl=>by
   refine ⟨l,d,zll _ _ _ _ _ ?_,hd,by omega⟩
   rw [zaf,if_neg (by omega),zab (by omega),List.take_length]
   rfl
 | k+1,l,d,x,y,hd,hk,hl=>by
   obtain ⟨a,d1,h1,a0,a1,hd1⟩:=zgw d 3 hd (by omega)
   obtain ⟨b,d2,h2,b0,b1,hd2⟩:=zgw d1 4 hd1 (by omega)
   have e:w64 (((k+1:Nat):Int) - 1)=(k:Int):=by rw [w64_id (by omega) (by omega)]; omega
   obtain ⟨m,d',h3,h4,h5⟩:=zvg k (l++[⟨⟨w64 (w64 (x+1)+a),1⟩,⟨w64 (w64 (y+1)+b),1⟩⟩]) d2 (w64 (w64 (x+1)+a)) (w64 (w64 (y+1)+b)) hd2 (by omega) (by simp; omega)
   refine ⟨m,d',zll _ _ _ _ _ ?_,h4,by rw [h5]; simp; omega⟩
   rw [zaf,if_pos (by omega),h1,za5,h2,za5,zab rfl,zab (by simp; omega),e]
   rw [List.map_append] at h3
   exact h3
theorem zuZ (d:GmarkDice) (hd:DOk d):∃ (c:GCurve) (d':GmarkDice),cw zgV [.loc 1000 2 0 0] (mD d)=some (zgX (c,d'))∧DOk d'∧2≤c.Points.length∧c.Points.length≤5:=by
 obtain ⟨a,d1,h1,a0,a1,hd1⟩:=zgw d 9 hd (by omega)
 obtain ⟨b,d2,h2,b0,b1,hd2⟩:=zgw d1 9 hd1 (by omega)
 obtain ⟨k,d3,h3,k0,k1,hd3⟩:=zgw d2 4 hd2 (by omega)
 obtain ⟨m,d',q1,q2,q3⟩:=zvg (1+k).toNat [⟨⟨w64 (a - 4),1⟩,⟨w64 (b - 4),1⟩⟩] d3 (w64 (a - 4)) (w64 (b - 4)) hd3 (by omega) (by simp; omega)
 simp only [List.length_singleton] at q3
 have ek:w64 (1+k)=(((1+k).toNat:Nat):Int):=by rw [w64_id (by omega) (by omega)]; omega
 refine ⟨⟨m⟩,d',zrU d ?_,q2,by show 2≤m.length; omega,by show m.length≤5; omega⟩
 rw [h1,za5,h2,za5,h3,za5,ek]
 exact q1
end Go.Proofs.YtbhkcgaanaelfaaGreat
namespace Go.Proofs.YtbhkcgaanaelfaaGreat
open Go.Ab Go.Pure
set_option linter.unusedSimpArgs false
set_option linter.unusedVariables false
set_option maxRecDepth 20000
theorem ziU (n:Int):cw zaJ [I n] []=some (zml ⟨n,1⟩):=zvs n rfl
def lS:List Pt:=[(((0:Int):Rat),((0:Int):Rat)),(((2:Int):Rat),((4:Int):Rat)),(((3:Int):Rat),((5:Int):Rat))]
theorem lS_asc:Asc lS:=by
 have d:∀ a b:Int,a < b→((a:Rat) < (b:Rat)):=fun a b h=>Rat.intCast_lt_intCast.2 h
 unfold lS Asc
 simp only [List.pairwise_cons,List.mem_cons,List.not_mem_nil,or_false,forall_eq_or_imp,forall_eq,List.Pairwise.nil,and_true,false_imp_iff,implies_true]
 exact ⟨⟨⟨d _ _ (by decide),d _ _ (by decide)⟩,d _ _ (by decide),d _ _ (by decide)⟩,d _ _ (by decide),d _ _ (by decide)⟩
theorem lS_fit:AllF lS:=by
 intro p hp
 unfold lS at hp
 simp only [List.mem_cons,List.not_mem_nil,or_false] at hp
 rcases hp with rfl | rfl | rfl <;> exact ⟨by decide,by decide⟩
theorem lS_1:cv lS ((1:Int):Rat)=((2:Int):Rat):=by kernel_rfl
theorem lS_4:cv lS ((4:Int):Rat)=((6:Int):Rat):=by kernel_rfl
theorem lS_nf:nf lS=[(((1:Int):Rat),((2:Int):Rat)),(((2:Int):Rat),((4:Int):Rat)),(((3:Int):Rat),((5:Int):Rat))]:=by kernel_rfl
theorem fit_of {r:Rat} (h:(decide (r.num.natAbs≤1152921504606846976) && decide (r.den≤1152921504606846976))=true):Fit r:=by
 simp only [Bool.and_eq_true,decide_eq_true_eq] at h
 exact h
theorem lS_pc1:pc lS ((1:Int):Rat)=((((0:Int):Rat),((0:Int):Rat)),(((2:Int):Rat),((4:Int):Rat))):=by kernel_rfl
theorem lS_pc4:pc lS ((4:Int):Rat)=((((2:Int):Rat),((4:Int):Rat)),(((3:Int):Rat),((5:Int):Rat))):=by kernel_rfl
theorem lS_pc3:pc lS ((3:Int):Rat)=((((2:Int):Rat),((4:Int):Rat)),(((3:Int):Rat),((5:Int):Rat))):=by kernel_rfl
theorem lS_e1:EvF lS ((1:Int):Rat):=by
 unfold EvF; rw [lS_pc1]
 exact ⟨⟨fit_of (by kernel_rfl),fit_of (by kernel_rfl),fit_of (by kernel_rfl)⟩,fit_of (by kernel_rfl),fit_of (by kernel_rfl),fit_of (by kernel_rfl)⟩
theorem lS_e4:EvF lS ((4:Int):Rat):=by
 unfold EvF; rw [lS_pc4]
 exact ⟨⟨fit_of (by kernel_rfl),fit_of (by kernel_rfl),fit_of (by kernel_rfl)⟩,fit_of (by kernel_rfl),fit_of (by kernel_rfl),fit_of (by kernel_rfl)⟩
theorem lS_e3:EvF lS ((3:Int):Rat):=by
 unfold EvF; rw [lS_pc3]
 exact ⟨⟨fit_of (by kernel_rfl),fit_of (by kernel_rfl),fit_of (by kernel_rfl)⟩,fit_of (by kernel_rfl),fit_of (by kernel_rfl),fit_of (by kernel_rfl)⟩
theorem lS_lf:lf (bn lS)=((1:Int):Rat):=by kernel_rfl
theorem lS_rt:rt (bn lS)=((3:Int):Rat):=by kernel_rfl
theorem lS_nfF:NfF lS:=by
 refine ⟨⟨⟨fit_of (by kernel_rfl),fit_of (by kernel_rfl),fit_of (by kernel_rfl)⟩,⟨fit_of (by kernel_rfl),fit_of (by kernel_rfl),fit_of (by kernel_rfl)⟩,trivial⟩,?_,?_,?_,?_⟩
 · rw [lS_lf]; decide
 · rw [lS_rt]; decide
 · rw [lS_lf]; exact lS_e1
 · rw [lS_rt]; exact lS_e3
theorem vrI (n:Int) (h:n.natAbs≤1152921504606846976):VR ⟨n,1⟩:=⟨by show (1:Int)≤1; omega,by show (1:Int)≤_; omega,by show _≤n; omega,by show n≤_; omega,by simp⟩
theorem zsY:cw zi9 [] []=some (znt true):=by
 have hv:VC (cF lS):=vc_of lS_fit lS_asc (by decide) (by decide)
 have ev:∀ n r:Int,n.natAbs≤100→EvF lS (n:Rat)→cv lS (n:Rat)=(r:Rat)→cw zcs [.agg (zah (cF lS)),.agg (zaa ⟨n,1⟩)] []=some (zdS (⟨r,1⟩,0)):=fun n r hn he hc=>by
  refine zfx _ _ ?_
  rw [zde,zaL,zbD hv,brn_nt,zdE,za2,decide_eq_true (vrI n (by omega)),brn_nt]
  show callD zbs (cw zbu [.sl 4 (ptsE lS),aR (n:Rat)] []) _=_
  rw [zmT lS (n:Rat) lS_asc (by decide) (by decide) lS_fit ⟨by show n.natAbs≤_; omega,by show 1≤_; omega⟩ he,zbw,hc]
  rfl
 have h1:=ev 1 2 (by omega) lS_e1 lS_1
 have h4:=ev 4 6 (by omega) lS_e4 lS_4
 have hn:cw zcO [.agg (zah (cF lS))] []=some (zeW (⟨[⟨⟨1,1⟩,⟨2,1⟩⟩,⟨⟨2,1⟩,⟨4,1⟩⟩,⟨⟨3,1⟩,⟨5,1⟩⟩]⟩,0)):=by
  refine zim _ ?_
  rw [zde,zaL,zbD hv,brn_nt]
  show callD zcn (cw zcN [.sl 4 (ptsE lS)] []) _=_
  rw [zn0 lS lS_asc (by decide) (by decide) lS_fit,zeV,nfR_ok lS_nfF,lS_nf]
  rfl
 have hl:cw zfG [.agg (zaa ⟨2,1⟩),.agg (zaa ⟨1,1⟩)] []=some (zgR (⟨[⟨⟨0,1⟩,⟨1,1⟩⟩,⟨⟨1,1⟩,⟨3,1⟩⟩]⟩,0)):=by
  refine zeI _ _ ?_
  have A:=c_AddF ((2:Int):Rat) ((1:Int):Rat) (by decide) (by decide)
  have e3:((2:Int):Rat)+((1:Int):Rat)=((3:Int):Rat):=by kernel_rfl
  rw [e3,zdZ (by decide)] at A
  have A':cw zcI [.agg (zaa ⟨2,1⟩),.agg (zaa ⟨1,1⟩)] []=some (zlM (⟨3,1⟩,0)):=A
  rw [zdE,za2,decide_eq_true (vrI 2 (by decide)),brn_nt,zdE,za2,decide_eq_true (vrI 1 (by decide)),brn_nt,zaf,if_neg (by decide),A',zfm,brn_f (by rfl),zjg,zbk,zjg,zbk]
  rfl
 have h1':cw zcs [.agg (zah ⟨[⟨⟨0,1⟩,⟨0,1⟩⟩,⟨⟨2,1⟩,⟨4,1⟩⟩,⟨⟨3,1⟩,⟨5,1⟩⟩]⟩),.agg (zaa ⟨1,1⟩)] []=some (zdS (⟨2,1⟩,0)):=h1
 have h4':cw zcs [.agg (zah ⟨[⟨⟨0,1⟩,⟨0,1⟩⟩,⟨⟨2,1⟩,⟨4,1⟩⟩,⟨⟨3,1⟩,⟨5,1⟩⟩]⟩),.agg (zaa ⟨4,1⟩)] []=some (zdS (⟨6,1⟩,0)):=h4
 have hn':cw zcO [.agg (zah ⟨[⟨⟨0,1⟩,⟨0,1⟩⟩,⟨⟨2,1⟩,⟨4,1⟩⟩,⟨⟨3,1⟩,⟨5,1⟩⟩]⟩)] []=some (zeW (⟨[⟨⟨1,1⟩,⟨2,1⟩⟩,⟨⟨2,1⟩,⟨4,1⟩⟩,⟨⟨3,1⟩,⟨5,1⟩⟩]⟩,0)):=hn
 refine zxw ?_
 simp only [ziU,zdc,h1',zfs,h4',hn',zcx,hl,zkB]
 simp [zay,zab]
 refine (elemG (pts:=[⟨⟨1,1⟩,⟨2,1⟩⟩,⟨⟨2,1⟩,⟨4,1⟩⟩,⟨⟨3,1⟩,⟨5,1⟩⟩]) (i:=0) (by decide) _).trans ?_
 simp [zay]
 refine (elemG (pts:=[⟨⟨0,1⟩,⟨1,1⟩⟩,⟨⟨1,1⟩,⟨3,1⟩⟩]) (i:=1) (by decide) _).trans ?_
 rfl
theorem k_odd (l:List GPoint) (d:GmarkDice) (a b:Nat) (h:a+b≤l.length):zbK (List.map zae l) d a b=some (zjZ (⟨(l.drop a).take b⟩,d)):=by
 refine zsW _ _ _ _ ?_
 rw [zab (by simpa using h),← List.map_drop,← List.map_take]
 rfl
theorem c_odd (d:GmarkDice) (c:GCurve) (hd:DOk d) (h2:2≤c.Points.length) (h5:c.Points.length≤5) :
  ∃ (c':GCurve) (d':GmarkDice),cw zjX [.loc 1000 2 0 0,.agg (zah c)] (mD d)=some (zjZ (c',d'))∧DOk d'∧c'.Points.length≤5:=by
 have hlen:(((List.map zae c.Points).length:Nat):Int)=(c.Points.length:Int):=by simp
 obtain ⟨i,d1,n1,i0,i1,hd1⟩:=zgw d c.Points.length hd (by omega)
 obtain ⟨s,d2,n2,s0,s1,hd2⟩:=zgw d1 5 hd1 (by omega)
 have hi:i.toNat < c.Points.length:=by omega
 have fin:∀ (p:GPoint) (j:Nat) (e:GmarkDice),zbK (List.set (List.map zae c.Points) j (zae p)) e 0 ((List.map zae c.Points).length)=some (zjZ (⟨c.Points.set j p⟩,e)):=fun p j e=>by
  have:=k_odd (c.Points.set j p) e 0 (c.Points.length) (by simp)
  rw [List.map_set,List.drop_zero,List.take_of_length_le (by simp)] at this
  rw [List.length_map]
  exact this
 have start:∀ y,(brn (s == 0) (callD zaX (cw zaU [.loc 1000 2 0 0,I 9] (mD d2)) fun (r2:Int×GmarkDice) =>
  callD zaH (cw zaJ [I (w64 (r2.fst - 4))] []) fun (r3:GRatio) =>
  elemD zaq (List.map zae c.Points) (0+Int.toNat i) fun (c4:GPoint) =>
  zbK (List.set (List.map zae c.Points) (0+Int.toNat i) (zae (⟨⟨r3.Num,r3.Den⟩,⟨c4.Y.Num,c4.Y.Den⟩⟩))) r2.snd 0 ((List.map zae c.Points).length))
  (brn (s == 1) (callD zaX (cw zaU [.loc 1000 2 0 0,I 9] (mD d2)) fun (r9:Int×GmarkDice) =>
   callD zaH (cw zaJ [I (w64 (r9.fst - 4))] []) fun (r10:GRatio) =>
   elemD zaq (List.map zae c.Points) (0+Int.toNat i) fun (c11:GPoint) =>
   zbK (List.set (List.map zae c.Points) (0+Int.toNat i) (zae (⟨⟨c11.X.Num,c11.X.Den⟩,⟨r10.Num,r10.Den⟩⟩))) r9.snd 0 ((List.map zae c.Points).length))
   (brn (s == 2) (callD zga (cw zhG [.loc 1000 2 0 0,.sl 1 (List.map zbl ([0,2,-1]))] (mD d2)) fun (r12:Int×GmarkDice) =>
    elemD zaq (List.map zae c.Points) (0+Int.toNat i) fun (c13:GPoint) =>
    zbK (List.set (List.map zae c.Points) (0+Int.toNat i) (zae (⟨⟨c13.X.Num,r12.fst⟩,⟨c13.Y.Num,c13.Y.Den⟩⟩))) r12.snd 0 ((List.map zae c.Points).length))
    (brn (s == 3) (chk ((0:Int)≤1)<|
     chk (0≤Int.toNat 1)<|
     chk (Int.toNat 1≤(List.map zae c.Points).length)<|
     zbK (List.map zae c.Points) d2 (0+0) (Int.toNat 1 - 0))
     (callD zaH (cw zaJ [I 1152921504606846976] []) fun (r14:GRatio) =>
      chk ((0:Int)≤(w64 (((List.map zae c.Points).length:Nat) - 1)))<|
      chk ((w64 (((List.map zae c.Points).length:Nat) - 1)) < (((List.map zae c.Points).length:Nat):Int))<|
      elemD zaq (List.map zae c.Points) (0+(w64 (((List.map zae c.Points).length:Nat) - 1)).toNat) fun (c15:GPoint) =>
      zbK (List.set (List.map zae c.Points) (0+(w64 (((List.map zae c.Points).length:Nat) - 1)).toNat) (zae (⟨⟨c15.X.Num,c15.X.Den⟩,⟨r14.Num,r14.Den⟩⟩))) d2 0 ((List.map zae c.Points).length))))))=some y →
    cw zjX [.loc 1000 2 0 0,.agg (zah c)] (mD d)=some y:=fun y hy=>by
  refine zyi _ _ ?_
  have n1':cw zaU [.loc 1000 2 0 0,I (((List.map zae c.Points).length:Nat):Int)] (mD d)=some (zhx (i,d1)):=by rw [hlen]; exact n1
  rw [zab (by simp; omega),zab rfl,n1',za5,zab (by omega),zab (by rw [hlen]; omega),n2,za5]
  exact hy
 by_cases e0:s=0
 · obtain ⟨r,d3,n3,r0,r1,hd3⟩:=zgw d2 9 hd2 (by omega)
   refine ⟨⟨c.Points.set i.toNat ⟨⟨w64 (r - 4),1⟩,⟨(c.Points[i.toNat]'hi).Y.Num,(c.Points[i.toNat]'hi).Y.Den⟩⟩⟩,d3,start _ ?_,hd3,?_⟩
   · rw [e0,show ((0:Int) == 0)=true from rfl,zay,n3,za5,ziU,zdc,Nat.zero_add,elemG hi]
     exact fin _ _ _
   · simpa using h5
 by_cases e1:s=1
 · obtain ⟨r,d3,n3,r0,r1,hd3⟩:=zgw d2 9 hd2 (by omega)
   refine ⟨⟨c.Points.set i.toNat ⟨⟨(c.Points[i.toNat]'hi).X.Num,(c.Points[i.toNat]'hi).X.Den⟩,⟨w64 (r - 4),1⟩⟩⟩,d3,start _ ?_,hd3,?_⟩
   · rw [beq_false_of_ne e0,zar,e1,show ((1:Int) == 1)=true from rfl,zay,n3,za5,ziU,zdc,Nat.zero_add,elemG hi]
     exact fin _ _ _
   · simpa using h5
 by_cases e2:s=2
 · obtain ⟨r,d3,n3,_,hd3⟩:=c_Pick d2 [0,2,-1] hd2 (by simp) (by simp)
   refine ⟨⟨c.Points.set i.toNat ⟨⟨(c.Points[i.toNat]'hi).X.Num,r⟩,⟨(c.Points[i.toNat]'hi).Y.Num,(c.Points[i.toNat]'hi).Y.Den⟩⟩⟩,d3,start _ ?_,hd3,?_⟩
   · rw [beq_false_of_ne e0,zar,beq_false_of_ne e1,zar,e2,show ((2:Int) == 2)=true from rfl,zay,n3,zpB,Nat.zero_add,elemG hi]
     exact fin _ _ _
   · simpa using h5
 by_cases e3:s=3
 · refine ⟨⟨(c.Points.drop 0).take 1⟩,d2,start _ ?_,hd2,?_⟩
   · rw [beq_false_of_ne e0,zar,beq_false_of_ne e1,zar,beq_false_of_ne e2,zar,e3,show ((3:Int) == 3)=true from rfl,zay,zab (by omega),zab (by omega),zab (by rw [List.length_map,show Int.toNat 1=1 from rfl]; omega)]
     exact k_odd c.Points d2 0 1 (by omega)
   · simp; omega
 · have ew:w64 (((c.Points.length:Nat):Int) - 1)=((c.Points.length - 1:Nat):Int):=by rw [w64_id (by omega) (by omega)]; omega
   refine ⟨⟨c.Points.set (c.Points.length - 1) ⟨⟨(c.Points[c.Points.length - 1]'(by omega)).X.Num,(c.Points[c.Points.length - 1]'(by omega)).X.Den⟩,⟨1152921504606846976,1⟩⟩⟩,d2,start _ ?_,hd2,?_⟩
   · rw [beq_false_of_ne e0,zar,beq_false_of_ne e1,zar,beq_false_of_ne e2,zar,beq_false_of_ne e3,zar,ziU,zdc,hlen,ew,zab (by omega),zab (by omega),Nat.zero_add,Int.toNat_natCast,elemG (by omega)]
     exact fin _ _ _
   · simpa using h5
section
variable (raw:GCurve) (x y:GRatio) (m most:Int)
theorem law_5 (r24 r25:GRatio×GmarkDice) (r26 r27:GRatio):∀ (k i:Nat),i+k=3→zej x y r24 r25 r26 r27 (i:Int)=some (zbv true):=by
 intro k
 induction k with
 | zero =>
   intro i hi
   refine zix _ _ _ _ _ _ _ ?_
   rw [zaf,if_neg (by omega),zsY,zkn]
   rfl
 | succ k ih =>
   intro i hi
   have ew:w64 ((i:Int)+1)=((i+1:Nat):Int):=by rw [w64_id (by omega) (by omega)]; omega
   refine zix _ _ _ _ _ _ _ ?_
   rw [zaf,if_pos (by omega),zab (by omega),zab (by omega),Int.toNat_natCast,ew]
   have hlt:i < ([((⟨x.Num,x.Den⟩:GRatio),(⟨y.Num,y.Den⟩:GRatio)),(⟨r24.fst.Num,r24.fst.Den⟩,⟨r25.fst.Num,r25.fst.Den⟩),(⟨r26.Num,r26.Den⟩,⟨r27.Num,r27.Den⟩)]:List (GRatio×GRatio)).length:=by simp; omega
   refine (zdV (D:=zpv) (List.getElem?_eq_getElem hlt) _).trans ?_
   obtain ⟨v,p,r,hl⟩:=both_Line _ _
   rw [p,zkB,r,zsQ,zoM v.1 v.1 (by omega),zfA,zbD rfl,brn_nt,bne_self_eq_false,zar]
   exact ih (i+1) (by omega)
variable (r4 r5 r6 r7:GCurve×GmarkDice)
theorem law_4 (x9:Int) (c:GCurve) (r46:Int×GmarkDice) (K:zb4 raw x y m most r4 r5 r6 r7 r46.snd (w64 (x9+1))=some (zbv true)):∀ (k i:Nat),i+k=3→zem raw x y m most r4 r5 r6 r7 x9 c r46 (i:Int)=some (zbv true):=by
 intro k
 induction k with
 | zero =>
   intro i hi
   refine ziG _ _ _ _ _ _ _ _ _ _ _ _ _ ?_
   rw [zaf,if_neg (by omega)]
   exact K
 | succ k ih =>
   intro i hi
   have ew:w64 ((i:Int)+1)=((i+1:Nat):Int):=by rw [w64_id (by omega) (by omega)]; omega
   refine ziG _ _ _ _ _ _ _ _ _ _ _ _ _ ?_
   rw [zaf,if_pos (by omega),zab (by omega),zab (by omega),Int.toNat_natCast,ew]
   have hlt:i < ([(m,most),(r46.fst,12),(200,200)]:List (Int×Int)).length:=by simp; omega
   refine (zdV (D:=zq9) (List.getElem?_eq_getElem hlt) _).trans ?_
   obtain ⟨v,p,r⟩:=zwE c _ _
   rw [p,zny,r,zqw,bne_self_eq_false,zar,bne_self_eq_false,zar]
   exact ih (i+1) (by omega)
theorem law_3 (x9:Int) (c:GCurve) (r33:GRatio×GmarkDice) (r34:Int×GmarkDice) (r35 r36:GRatio) (hd:DOk r34.2) (K:∀ d,DOk d→zb4 raw x y m most r4 r5 r6 r7 d (w64 (x9+1))=some (zbv true)):∀ (k i:Nat),i+k=4→zel raw x y m most r4 r5 r6 r7 x9 c r33 r34 r35 r36 (i:Int)=some (zbv true):=by
 intro k
 induction k with
 | zero =>
   intro i hi
   obtain ⟨n,d1,n1,_,_,hd1⟩:=zgw r34.2 20 hd (by omega)
   refine ziF _ _ _ _ _ _ _ _ _ _ _ _ _ _ _ _ ?_
   rw [zaf,if_neg (by omega),n1,za5]
   exact law_4 raw x y m most r4 r5 r6 r7 x9 c (n,d1) (K d1 hd1) 3 0 (by omega)
 | succ k ih =>
   intro i hi
   have ew:w64 ((i:Int)+1)=((i+1:Nat):Int):=by rw [w64_id (by omega) (by omega)]; omega
   refine ziF _ _ _ _ _ _ _ _ _ _ _ _ _ _ _ _ ?_
   rw [zaf,if_pos (by omega),zab (by omega),zab (by omega),Int.toNat_natCast,ew]
   have hlt:i < ([x,r33.fst,r35,r36]:List GRatio).length:=by simp; omega
   refine (zdV (D:=zad) (List.getElem?_eq_getElem hlt) _).trans ?_
   obtain ⟨v,p,r,_⟩:=zu0 c ([x,r33.fst,r35,r36][i]'hlt)
   rw [p,zfs,r,zks,brn_f (by simp),bne_self_eq_false,zar]
   exact ih (i+1) (by omega)
theorem law_2 (x9:Int) (c x21 x22:GCurve) (d:GmarkDice) (hd:DOk d) (hc:c.Points.length≤40) (ho:r5.1.Points.length≤5) (K:∀ d,DOk d→zb4 raw x y m most r4 r5 r6 r7 d (w64 (x9+1))=some (zbv true)):∀ (k i:Nat) (x21 x22:GCurve),i+k=2→zek raw x y m most r4 r5 r6 r7 d x9 c x21 x22 (i:Int)=some (zbv true):=by
 intro k
 induction k with
 | zero =>
   intro i x21 x22 hi
   obtain ⟨r,d1,n1,hd1⟩:=zq2 d hd
   obtain ⟨n,d2,n2,_,_,hd2⟩:=zgw d1 30 hd1 (by omega)
   refine ziz _ _ _ _ _ _ _ _ _ _ _ _ _ _ _ ?_
   rw [zaf,if_neg (by omega),n1,zhc,n2,za5,ziU,zdc,ziU,zdc]
   exact law_3 raw x y m most r4 r5 r6 r7 x9 c _ _ _ _ hd2 K 4 0 (by omega)
 | succ k ih =>
   intro i x21 x22 hi
   have ew:w64 ((i:Int)+1)=((i+1:Nat):Int):=by rw [w64_id (by omega) (by omega)]; omega
   refine ziz _ _ _ _ _ _ _ _ _ _ _ _ _ _ _ ?_
   rw [zaf,if_pos (by omega),zab (by omega),zab (by omega),Int.toNat_natCast,ew]
   have hlt:i < ([((⟨c.Points⟩:GCurve),(⟨r5.fst.Points⟩:GCurve)),(⟨r5.fst.Points⟩,⟨c.Points⟩)]:List (GCurve×GCurve)).length:=by simp; omega
   refine (zdV (D:=zpf) (List.getElem?_eq_getElem hlt) _).trans ?_
   have hsum:∀ q∈([((⟨c.Points⟩:GCurve),(⟨r5.fst.Points⟩:GCurve)),(⟨r5.fst.Points⟩,⟨c.Points⟩)]:List (GCurve×GCurve)),q.1.Points.length+q.2.Points.length < 100:=fun q hq=>by
    simp only [List.mem_cons,List.not_mem_nil,or_false] at hq
    rcases hq with rfl | rfl <;> (dsimp only; omega)
   obtain ⟨v,p,r,hl⟩:=zwy _ _ (hsum _ (List.getElem_mem hlt))
   rw [p,znf,r,zqb,zoM v.1 v.1 (by omega),zfA,zbD rfl,brn_nt,bne_self_eq_false,zar]
   exact ih (i+1) _ _ (by omega)
theorem law_1 (h4:r4.1.Points.length≤5) (h5:r5.1.Points.length≤5) (h6:r6.1.Points.length≤5) (h7:r7.1.Points.length≤5) (hr:raw.Points.length≤40):∀ (k i:Nat) (d:GmarkDice),DOk d→i+k=4→zb4 raw x y m most r4 r5 r6 r7 d (i:Int)=some (zbv true):=by
 intro k
 induction k with
 | zero =>
   intro i d hd hi
   obtain ⟨a,d1,n1,hd1⟩:=zq2 d hd
   obtain ⟨b,d2,n2,hd2⟩:=zq2 d1 hd1
   refine zir _ _ _ _ _ _ _ _ _ _ _ ?_
   rw [zaf,if_neg (by omega),n1,zhc,n2,zhc,ziU,zdc,ziU,zdc]
   exact law_5 x y _ _ _ _ 3 0 (by omega)
 | succ k ih =>
   intro i d hd hi
   have ew:w64 ((i:Int)+1)=((i+1:Nat):Int):=by rw [w64_id (by omega) (by omega)]; omega
   refine zir _ _ _ _ _ _ _ _ _ _ _ ?_
   rw [zaf,if_pos (by omega),zab (by omega),zab (by omega),Int.toNat_natCast]
   have hlt:i < ([r4.fst,r6.fst,raw,r7.fst]:List GCurve).length:=by simp; omega
   refine (zdV (D:=zao) (List.getElem?_eq_getElem hlt) _).trans ?_
   have hc:([r4.fst,r6.fst,raw,r7.fst][i]'hlt).Points.length≤40:=by
    have:∀ q∈[r4.fst,r6.fst,raw,r7.fst],q.Points.length≤40:=fun q hq=>by
     simp only [List.mem_cons,List.not_mem_nil,or_false] at hq
     rcases hq with rfl | rfl | rfl | rfl <;> omega
    exact this _ (List.getElem_mem hlt)
   generalize ([r4.fst,r6.fst,raw,r7.fst][i]'hlt)=c at hc
   obtain ⟨v,p1,q1,hl1⟩:=zod c
   obtain ⟨w,p2,q2⟩:=both_Same c r4.1
   obtain ⟨u,p3,q3,hl3⟩:=zxB c
   rw [p1,zcx,q1,zdD,zde,zaL,zdo,zbt,brn_f (by simp),zoM v.1 v.1 (by omega),zfA,zbD rfl,brn_nt,bne_self_eq_false,zar,
    p2,zoF,q2,zsF,brn_f (by simp),p3,znb,q3,zqr,zoM u.1 u.1 (by omega),zfA,zbD rfl,brn_nt,bne_self_eq_false,zar]
   refine law_2 raw x y m most r4 r5 r6 r7 (i:Int) c u.1 u.1 d hd hc h5 (fun d hd=>?_) 2 0 _ _ (by omega)
   rw [ew]
   exact ih (i+1) d hd (by omega)
end
theorem zql (t:List Int) (raw:GCurve) (x y:GRatio) (m most:Int) :
  cw zjy [.sl 1 (List.map zbl t),.agg (zah raw),.agg (zaa x),.agg (zaa y),I m,I most] []=some (zbv true):=by
 refine znB _ _ _ _ _ _ ?_
 rw [c_Light,zsZ]
 by_cases ht:(t.length:Int)≤600
 · rw [decide_eq_true ht,brn_nt,zaf,lenG]
   by_cases hr:40 < (raw.Points.length:Int)
   · rw [if_pos hr,zsY,zkn]; rfl
   · have hd0:DOk ⟨t,0⟩:=⟨by show (0:Int)≤0; omega,by show t.length≤600; omega⟩
     obtain ⟨c,d1,n1,hd1,l1,l2⟩:=zuZ ⟨t,0⟩ hd0
     obtain ⟨o,d2,n2,hd2,l3,l4⟩:=zuZ d1 hd1
     obtain ⟨c',d3,n3,hd3,l5⟩:=c_odd d2 c hd2 l1 l2
     obtain ⟨o',d4,n4,hd4,l6⟩:=c_odd d3 o hd3 l3 l4
     rw [if_neg hr,c_Roll,ztd,n1,zkx,n2,zkx,n3,znK,n4,znK]
     exact law_1 raw x y m most (c,d1) (o,d2) (c',d3) (o',d4) l2 l4 l5 l6 (by omega) 4 0 d4 hd4 (by omega)
 · rw [decide_eq_false ht,brn_nf,zsY,zkn]; rfl
end Go.Proofs.YtbhkcgaanaelfaaGreat
