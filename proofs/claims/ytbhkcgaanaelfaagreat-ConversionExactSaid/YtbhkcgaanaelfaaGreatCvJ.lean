/- Conversion in the program, for curves of any size: each function's value where all steps fit, its error where one does not. -/
import Derived.Test.YtbhkcgaanaelfaaGreatRatJ
import Derived.Test.YtbhkcgaanaelfaaGreatBas
namespace Go.Proofs.YtbhkcgaanaelfaaGreat
open Go.Ab Go.Pure
set_option linter.unusedSimpArgs false
set_option linter.unusedVariables false
set_option maxRecDepth 20000
def ofP (p:Pt):GPoint:=⟨ofR p.1,ofR p.2⟩
noncomputable abbrev ptsE (l:List Pt):List (List AV):=List.map zae (l.map ofP)
noncomputable abbrev mS (e:Int):Mem:=[(1000,⟨1,zap,[zaw ⟨e⟩],true⟩)]
noncomputable abbrev lS0:AV:=.loc 1000 1 0 0
theorem elemP {β:Type} {l:List Pt} {i:Nat} {p:Pt} (h:l[i]?=some p) (k:GPoint→Option β):elemD zaq (ptsE l) i k=k (ofP p):=
 zdV (D:=zaq) (l:=l.map ofP) (by rw [List.getElem?_map,h]; rfl) k
theorem lenP (l:List Pt):(ptsE l).length=l.length:=by simp
theorem zdZ {r:Rat} (h:Fit r):fitR r=(ofR r,0):=if_pos h
theorem zf2 {r:Rat} (h:¬ Fit r):fitR r=(⟨0,0⟩,6):=if_neg h
theorem zuR {a b:Rat} (ha:Fit a) (hb:Fit b) (h:Fit (a+b)):cw zan [lS0,.fn zcI [],aR a,aR b] (mS 0)=some (zaZ (ofR (a+b),⟨0⟩)):=by
 refine zfO _ _ _ ?_
 rw [c_AddF a b ha hb,zfm,zdZ h]; rfl
theorem zvp {a b:Rat} (ha:Fit a) (hb:Fit b) (h:¬ Fit (a+b)):cw zan [lS0,.fn zcI [],aR a,aR b] (mS 0)=some (zaZ (⟨0,0⟩,⟨6⟩)):=by
 refine zfO _ _ _ ?_
 rw [c_AddF a b ha hb,zfm,zf2 h]; rfl
theorem znJ (a b:GRatio):cw zan [lS0,.fn zcI [],.agg (zaa a),.agg (zaa b)] (mS 6)=some (zaZ (⟨0,0⟩,⟨6⟩)):=by
 refine zfO _ _ _ ?_
 rfl
theorem zi5 {a b:Rat} (ha:Fit a) (hb:Fit b) (h:Fit (a - b)):cw zan [lS0,.fn zbW [],aR a,aR b] (mS 0)=some (zaZ (ofR (a - b),⟨0⟩)):=by
 refine zfI _ _ _ ?_
 rw [c_SubF a b ha hb,znU,zdZ h]; rfl
theorem znQ {a b:Rat} (ha:Fit a) (hb:Fit b) (h:¬ Fit (a - b)):cw zan [lS0,.fn zbW [],aR a,aR b] (mS 0)=some (zaZ (⟨0,0⟩,⟨6⟩)):=by
 refine zfI _ _ _ ?_
 rw [c_SubF a b ha hb,znU,zf2 h]; rfl
theorem znX (a b:GRatio):cw zan [lS0,.fn zbW [],.agg (zaa a),.agg (zaa b)] (mS 6)=some (zaZ (⟨0,0⟩,⟨6⟩)):=by
 refine zfI _ _ _ ?_
 rfl
theorem zve {a b:Rat} (ha:Fit a) (hb:Fit b) (h:Fit (a*b)):cw zan [lS0,.fn zdH [],aR a,aR b] (mS 0)=some (zaZ (ofR (a*b),⟨0⟩)):=by
 refine zfT _ _ _ ?_
 rw [c_MulF a b ha hb,ziC,zdZ h]; rfl
theorem do_Mul_no {a b:Rat} (ha:Fit a) (hb:Fit b) (h:¬ Fit (a*b)):cw zan [lS0,.fn zdH [],aR a,aR b] (mS 0)=some (zaZ (⟨0,0⟩,⟨6⟩)):=by
 refine zfT _ _ _ ?_
 rw [c_MulF a b ha hb,ziC,zf2 h]; rfl
theorem zu3 (a b:GRatio):cw zan [lS0,.fn zdH [],.agg (zaa a),.agg (zaa b)] (mS 6)=some (zaZ (⟨0,0⟩,⟨6⟩)):=by
 refine zfT _ _ _ ?_
 rfl
theorem do_Div_ok {a b:Rat} (ha:Fit a) (hb:Fit b) (h0:b≠0) (h:Fit (a / b)):cw zan [lS0,.fn zer [],aR a,aR b] (mS 0)=some (zaZ (ofR (a / b),⟨0⟩)):=by
 refine zfN _ _ _ ?_
 rw [c_DivF a b ha hb h0,znM,zdZ h]; rfl
theorem do_Div_no {a b:Rat} (ha:Fit a) (hb:Fit b) (h0:b≠0) (h:¬ Fit (a / b)):cw zan [lS0,.fn zer [],aR a,aR b] (mS 0)=some (zaZ (⟨0,0⟩,⟨6⟩)):=by
 refine zfN _ _ _ ?_
 rw [c_DivF a b ha hb h0,znM,zf2 h]; rfl
theorem zq6 (a b:GRatio):cw zan [lS0,.fn zer [],.agg (zaa a),.agg (zaa b)] (mS 6)=some (zaZ (⟨0,0⟩,⟨6⟩)):=by
 refine zfN _ _ _ ?_
 rfl
def PF (p:Pt):Prop:=Fit p.1∧Fit p.2
theorem zlD {p q:Pt} (hp:PF p) (hq:PF q) (h:p.1 < q.1) (hs:SlF p q) :
  cw zci [lS0,.agg (zae (ofP p)),.agg (zae (ofP q))] (mS 0)=some (zdB (ofR (sl p q),⟨0⟩)):=by
 refine zgd _ _ _ ?_
 have c1:=zi5 hq.2 hp.2 hs.1
 have c2:=zi5 hq.1 hp.1 hs.2.1
 have c3:=do_Div_ok hs.1 hs.2.1 (by grind) hs.2.2
 show callD zav (cw zan [lS0,.fn zbW [],aR q.2,aR p.2] (mS 0)) _=_
 rw [c1,zam]
 show callD zav (cw zan [lS0,.fn zbW [],aR q.1,aR p.1] (mS 0)) _=_
 rw [c2,zam]
 show callD zav (cw zan [lS0,.fn zer [],aR (q.2 - p.2),aR (q.1 - p.1)] (mS 0)) _=_
 rw [c3,zam]
 rfl
theorem zs5 {p q:Pt} (hp:PF p) (hq:PF q) (h:p.1 < q.1) (hs:¬ SlF p q) :
  cw zci [lS0,.agg (zae (ofP p)),.agg (zae (ofP q))] (mS 0)=some (zdB (⟨0,0⟩,⟨6⟩)):=by
 refine zgd _ _ _ ?_
 show callD zav (cw zan [lS0,.fn zbW [],aR q.2,aR p.2] (mS 0)) _=_
 by_cases h1:Fit (q.2 - p.2)
 · rw [zi5 hq.2 hp.2 h1,zam]
   show callD zav (cw zan [lS0,.fn zbW [],aR q.1,aR p.1] (mS 0)) _=_
   by_cases h2:Fit (q.1 - p.1)
   · rw [zi5 hq.1 hp.1 h2,zam]
     show callD zav (cw zan [lS0,.fn zer [],aR (q.2 - p.2),aR (q.1 - p.1)] (mS 0)) _=_
     rw [do_Div_no h1 h2 (by grind) (fun h3=>hs ⟨h1,h2,h3⟩),zam]
     rfl
   · rw [znQ hq.1 hp.1 h2,zam]
     dsimp only
     rw [zq6,zam]
     rfl
 · rw [znQ hq.2 hp.2 h1,zam]
   dsimp only
   rw [znX,zam]
   dsimp only
   rw [zq6,zam]
   rfl
theorem slope_er (p q:GPoint):cw zci [lS0,.agg (zae p),.agg (zae q)] (mS 6)=some (zdB (⟨0,0⟩,⟨6⟩)):=by
 refine zgd _ _ _ ?_
 rw [znX,zam]
 dsimp only
 rw [znX,zam]
 dsimp only
 rw [zq6,zam]
 rfl
theorem c_eval_1 (l:List Pt) (x:Rat) (hb:AllF l) (hx:Fit x) (i:Nat) (hi:i < 1000000) (q:Pt) (hq:l[i+1]?=some q) :
  cw zdi [I (i:Int),.fp [I (ofR x).Num,I (ofR x).Den],.fp [.sl 4 (ptsE l)]] []=some (ziq (decide (x≤q.1))):=by
 refine zqf (i:Int) (ofR x) (l.map ofP) ?_
 have e:w64 ((i:Int)+1)=((i+1:Nat):Int):=by rw [w64_id (by omega) (by omega)]; omega
 rw [e,zab (by omega),Int.toNat_natCast,elemP hq]
 have hm:=hb q (List.mem_of_getElem? hq)
 show callD zaB (cw zag [aR x,aR q.1] []) _=_
 rw [zpV x q.1 hx hm.1,zls]
 have:decide (cmpZ (x.num*(q.1.den:Int)) (q.1.num*(x.den:Int))≤0)=decide (x≤q.1):=by rw [decide_eq_decide]; exact cmpR_le x q.1
 rw [this]
 rfl
theorem k_Search (l:List Pt) (x:Rat) (hb:AllF l) (hx:Fit x) (hl:l.length≤1000000) :
  ∀ (k i j:Nat),j=i+k→j+2≤l.length→(i=0∨∃ p,l[i]?=some p∧p.1 < x)→(j+2=l.length∨∃ q,l[j+1]?=some q∧x≤q.1) →
    ∃ r:Nat,zeA (ofR x) (l.map ofP) (i:Int) (j:Int)=some (zkb (r:Int))∧r+2≤l.length∧(r=0∨∃ p,l[r]?=some p∧p.1 < x)∧(r+2=l.length∨∃ q,l[r+1]?=some q∧x≤q.1):=by
 intro k
 induction k using Nat.strongRecOn with
 | _ k ih =>
   intro i j hj hj2 hi hq
   by_cases hk:k=0
   · refine ⟨i,zhF _ _ _ _ ?_,by omega,hi,?_⟩
     · rw [zaf,if_neg (by omega)]
       rfl
     · rw [show i=j by omega]; exact hq
   · have hm:w64 ((wu64 (w64 ((i:Int)+(j:Int)))).fdiv (2 ^ Min.min (Int.toNat 1) 64))=(((i+j) / 2:Nat):Int):=by
      have e2:((2:Int) ^ Min.min (Int.toNat 1) 64)=2:=by decide
      rw [e2,w64_id (n:=(i:Int)+j) (by omega) (by omega),zdb (by omega) (by omega),Int.fdiv_eq_ediv_of_nonneg _ (by omega),w64_id (by omega) (by omega)]
      omega
     have hlt:(i+j) / 2+1 < l.length:=by omega
     have hg:l[(i+j) / 2+1]?=some l[(i+j) / 2+1]:=List.getElem?_eq_getElem hlt
     have hc:=c_eval_1 l x hb hx ((i+j) / 2) (by omega) _ hg
     have hn:w64 ((((i+j) / 2:Nat):Int)+1)=(((i+j) / 2+1:Nat):Int):=by rw [w64_id (by omega) (by omega)]; omega
     by_cases hle:x≤(l[(i+j) / 2+1]).1
     · obtain ⟨r,r1,r2,r3,r4⟩:=ih ((i+j) / 2 - i) (by omega) i ((i+j) / 2) (by omega) (by omega) hi (.inr ⟨_,hg,hle⟩)
       refine ⟨r,zhF _ _ _ _ ?_,r2,r3,r4⟩
       rw [zaf,if_pos (by omega),zab (by omega),hm,hc,zjx,decide_eq_true hle,brn_nt]
       exact r1
     · obtain ⟨r,r1,r2,r3,r4⟩:=ih (j - ((i+j) / 2+1)) (by omega) ((i+j) / 2+1) j (by omega) (by omega) (.inr ⟨_,hg,by grind⟩) hq
       refine ⟨r,zhF _ _ _ _ ?_,r2,r3,r4⟩
       rw [zaf,if_pos (by omega),zab (by omega),hm,hc,zjx,decide_eq_false hle,brn_nf,hn]
       exact r1
theorem eval_pc (l:List Pt) (x:Rat) (ha:Asc l) (hl:2≤l.length) (hl2:l.length≤1000000) (hb:AllF l) (hx:Fit x) :
  ∃ r:Nat,cw zmi [I ((l.length - 2:Nat):Int),.fn zdi [.fp [I (ofR x).Num,I (ofR x).Den],.fp [.sl 4 (ptsE l)]]] []=some (zkb (r:Int))∧r+2≤l.length∧l[r]?=some (pc l x).1∧l[r+1]?=some (pc l x).2:=by
 obtain ⟨r,r1,r2,r3,r4⟩:=k_Search l x hb hx hl2 (l.length - 2) 0 (l.length - 2) (by omega) (by omega) (.inl rfl) (.inl (by omega))
 have hp:l[r]?=some l[r]:=List.getElem?_eq_getElem (by omega)
 have hq:l[r+1]?=some l[r+1]:=List.getElem?_eq_getElem (by omega)
 generalize l[r]=p at hp
 generalize l[r+1]=q at hq
 have hv:pc l x=(p,q):=pc_at l r x p q ha hp hq (by
  rcases r3 with r3 | ⟨p',h,h'⟩
  · exact .inl r3
  · rw [hp] at h; injection h with h; rw [h]; exact .inr h') (by
  rcases r4 with r4 | ⟨q',h,h'⟩
  · exact .inl r4
  · rw [hq] at h; injection h with h; rw [h]; exact .inr h')
 exact ⟨r,zq7 _ (ofR x) (l.map ofP) r1,r2,by rw [hv]; exact hp,by rw [hv]; exact hq⟩
theorem zmT (l:List Pt) (x:Rat) (ha:Asc l) (hl:2≤l.length) (hl2:l.length≤1000000) (hb:AllF l) (hx:Fit x) (he:EvF l x) :
  cw zbu [.sl 4 (ptsE l),aR x] []=some (zg1 (ofR (cv l x),0)):=by
 obtain ⟨r,hs,hr,hp,hq⟩:=eval_pc l x ha hl hl2 hb hx
 have hval:=cv_pc l x hl
 unfold EvF at he
 generalize (pc l x).1=p at *
 generalize (pc l x).2=q at *
 have bp:=hb p (List.mem_of_getElem? hp)
 have bq:=hb q (List.mem_of_getElem? hq)
 refine zmo (l.map ofP) (ofR x) ?_
 have e0:w64 (w64 (((ptsE l).length:Int) - 1) - 1)=((l.length - 2:Nat):Int):=by
  rw [lenP,w64_id (n:=(l.length:Int) - 1) (by omega) (by omega),w64_id (by omega) (by omega)]; omega
 have e1:w64 (1+(r:Int))=((r+1:Nat):Int):=by rw [w64_id (by omega) (by omega)]; omega
 have e2:w64 (((r+1:Nat):Int) - 1)=(r:Int):=by rw [w64_id (by omega) (by omega)]; omega
 rw [e0,hs,zms,e1,e2,zab (by omega),Int.toNat_natCast,elemP hp,zab (by omega),Int.toNat_natCast,elemP hq,zlD bp bq (zft ha hp hq).1 he.1,za1]
 show callD zav (cw zan [lS0,.fn zbW [],aR x,aR p.1] (mS 0)) _=_
 rw [zi5 hx bp.1 he.2.1,zam]
 show callD zav (cw zan [lS0,.fn zdH [],aR (x - p.1),aR (sl p q)] (mS 0)) _=_
 rw [zve he.2.1 he.1.2.2 he.2.2.1,zam]
 show callD zav (cw zan [lS0,.fn zcI [],aR p.2,aR ((x - p.1)*sl p q)] (mS 0)) _=_
 rw [zuR bp.2 he.2.2.1 he.2.2.2,zam,hval]
 rfl
theorem zoN (l:List Pt) (x:Rat) (ha:Asc l) (hl:2≤l.length) (hl2:l.length≤1000000) (hb:AllF l) (hx:Fit x) (he:¬ EvF l x) :
  cw zbu [.sl 4 (ptsE l),aR x] []=some (zg1 (⟨0,0⟩,6)):=by
 obtain ⟨r,hs,hr,hp,hq⟩:=eval_pc l x ha hl hl2 hb hx
 unfold EvF at he
 generalize (pc l x).1=p at *
 generalize (pc l x).2=q at *
 have bp:=hb p (List.mem_of_getElem? hp)
 have bq:=hb q (List.mem_of_getElem? hq)
 refine zmo (l.map ofP) (ofR x) ?_
 have e0:w64 (w64 (((ptsE l).length:Int) - 1) - 1)=((l.length - 2:Nat):Int):=by
  rw [lenP,w64_id (n:=(l.length:Int) - 1) (by omega) (by omega),w64_id (by omega) (by omega)]; omega
 have e1:w64 (1+(r:Int))=((r+1:Nat):Int):=by rw [w64_id (by omega) (by omega)]; omega
 have e2:w64 (((r+1:Nat):Int) - 1)=(r:Int):=by rw [w64_id (by omega) (by omega)]; omega
 have hpq:=(zft ha hp hq).1
 rw [e0,hs,zms,e1,e2,zab (by omega),Int.toNat_natCast,elemP hp,zab (by omega),Int.toNat_natCast,elemP hq]
 by_cases h1:SlF p q
 · rw [zlD bp bq hpq h1,za1]
   show callD zav (cw zan [lS0,.fn zbW [],aR x,aR p.1] (mS 0)) _=_
   by_cases h2:Fit (x - p.1)
   · rw [zi5 hx bp.1 h2,zam]
     show callD zav (cw zan [lS0,.fn zdH [],aR (x - p.1),aR (sl p q)] (mS 0)) _=_
     by_cases h3:Fit ((x - p.1)*sl p q)
     · rw [zve h2 h1.2.2 h3,zam]
       show callD zav (cw zan [lS0,.fn zcI [],aR p.2,aR ((x - p.1)*sl p q)] (mS 0)) _=_
       rw [zvp bp.2 h3 (fun h4=>he ⟨h1,h2,h3,h4⟩),zam]
       rfl
     · rw [do_Mul_no h2 h1.2.2 h3,zam]
       dsimp only
       rw [znJ,zam]
       rfl
   · rw [znQ hx bp.1 h2,zam]
     dsimp only
     rw [zu3,zam]
     dsimp only
     rw [znJ,zam]
     rfl
 · rw [zs5 bp bq hpq h1,za1]
   dsimp only
   rw [znX,zam]
   dsimp only
   rw [zu3,zam]
   dsimp only
   rw [znJ,zam]
   rfl
theorem point_ok (l:List Pt) (x:Rat) (ha:Asc l) (hl:2≤l.length) (hl2:l.length≤1000000) (hb:AllF l) (hx:Fit x) (he:EvF l x) :
  cw zb2 [.sl 4 (ptsE l),aR x] []=some (zfM (ofP (x,cv l x),0)):=by
 refine zk2 (l.map ofP) (ofR x) ?_
 rw [zmT l x ha hl hl2 hb hx he,zbw]
 rfl
theorem point_no (l:List Pt) (x:Rat) (ha:Asc l) (hl:2≤l.length) (hl2:l.length≤1000000) (hb:AllF l) (hx:Fit x) (he:¬ EvF l x) :
  cw zb2 [.sl 4 (ptsE l),aR x] []=some (zfM (⟨⟨0,0⟩,⟨0,0⟩⟩,6)):=by
 refine zk2 (l.map ofP) (ofR x) ?_
 rw [zoN l x ha hl hl2 hb hx he,zbw]
 rfl
end Go.Proofs.YtbhkcgaanaelfaaGreat
namespace Go.Proofs.YtbhkcgaanaelfaaGreat
open Go.Ab Go.Pure
set_option linter.unusedSimpArgs false
set_option linter.unusedVariables false
set_option maxRecDepth 20000
theorem zjg (n:Int):cw zcG [I n] []=some (ziQ (ofR (n:Rat))):=zrr n rfl
theorem ztN (l:List Pt) (hl:l.length≤100000):∀ (k i:Nat) (found:List GPoint) (b:GRatio),i+1+k=l.length→found.length≤i →
  zc4 (l.map ofP) (List.map zae found) ⟨6⟩ b (i:Int)=some (zcX ([],6)):=by
 intro k
 induction k with
 | zero =>
   intro i found b hk hf
   refine zes _ _ _ _ _ ?_
   have e:w64 ((i:Int)+1)=((i+1:Nat):Int):=by rw [w64_id (by omega) (by omega)]; omega
   rw [e,zaf,if_neg (by rw [lenP]; omega)]
   rfl
 | succ k ih =>
   intro i found b hk hf
   have e:w64 ((i:Int)+1)=((i+1:Nat):Int):=by rw [w64_id (by omega) (by omega)]; omega
   have hp:l[i]?=some l[i]:=List.getElem?_eq_getElem (by omega)
   have hq:l[i+1]?=some l[i+1]:=List.getElem?_eq_getElem (by omega)
   refine zes _ _ _ _ _ ?_
   rw [e,zaf,if_pos (by rw [lenP]; omega),zab (by omega),Int.toNat_natCast,elemP hp,zab (by omega),Int.toNat_natCast,elemP hq,slope_er,za1,zrx]
   dsimp only
   split
   · rw [zab (by omega),elemP hp,zab rfl,zab (by simp; omega),zab rfl]
     have:=ih (i+1) (found++[ofP l[i]]) ⟨0,0⟩ (by omega) (by simp; omega)
     rw [List.map_append] at this
     exact this
   · exact ih (i+1) found ⟨0,0⟩ (by omega) (by omega)
theorem k_bends_ok (l:List Pt) (hl:l.length≤100000) (ha:Asc l) (hb:AllF l) :
  ∀ (r pre:List Pt) (p q:Pt) (found:List Pt),l=pre++p :: q :: r→found.length≤pre.length→BnF (q :: r) →
    zc4 (l.map ofP) (ptsE found) ⟨0⟩ (ofR (sl p q)) ((pre.length+1:Nat):Int)=some (zcX ((found++bn (p :: q :: r)).map ofP,0)):=by
 intro r
 induction r with
 | nil =>
   intro pre p q found he hf _
   refine zes _ _ _ _ _ ?_
   have hlen:l.length=pre.length+2:=by rw [he]; simp
   have e:w64 (((pre.length+1:Nat):Int)+1)=((pre.length+2:Nat):Int):=by rw [w64_id (by omega) (by omega)]; omega
   rw [e,zaf,if_neg (by rw [lenP]; omega),brn_f (by rfl),zab (by omega),List.take_length]
   show _=some (zcX ((found++[]).map ofP,0))
   rw [List.append_nil]
   rfl
 | cons s r ih =>
   intro pre p q found he hf hbn
   have hlen:l.length=pre.length+3+r.length:=by rw [he]; simp; omega
   have e:w64 (((pre.length+1:Nat):Int)+1)=((pre.length+2:Nat):Int):=by rw [w64_id (by omega) (by omega)]; omega
   have hq:l[pre.length+1]?=some q:=by
    rw [he,List.getElem?_append_right (by omega),show pre.length+1 - pre.length=1 by omega]; rfl
   have hs:l[pre.length+1+1]?=some s:=by
    rw [he,List.getElem?_append_right (by omega),show pre.length+1+1 - pre.length=2 by omega]; rfl
   have mq:=hb q (by rw [he]; simp)
   have ms:=hb s (by rw [he]; simp)
   have he':l=(pre++[p])++q :: s :: r:=by rw [he]; simp
   refine zes _ _ _ _ _ ?_
   rw [e,zaf,if_pos (by rw [lenP]; omega),zab (by omega),Int.toNat_natCast,elemP hq,zab (by omega),Int.toNat_natCast,elemP hs,
    zlD mq ms (zft ha hq hs).1 hbn.1,za1]
   show brn (!((ofR (sl q s)).Num == (ofR (sl p q)).Num && ((ofR (sl q s)).Den == (ofR (sl p q)).Den && true))) _ _=_
   rw [eqR,zly,zaf]
   have ih1:=ih (pre++[p]) q s found he' (by simp; omega) hbn.2
   have ih2:=ih (pre++[p]) q s (found++[q]) he' (by simp; omega) hbn.2
   have el:(pre++[p]).length+1=pre.length+2:=by simp
   rw [el] at ih1 ih2
   unfold bn
   by_cases hc:sl q s=sl p q
   · rw [if_pos hc,if_pos hc]
     exact ih1
   · rw [if_neg hc,if_neg hc,zab (by omega),elemP hq,zab rfl,zab (by rw [lenP]; omega),zab rfl]
     have ea:ptsE found++[zae (ofP q)]=ptsE (found++[q]):=by simp only [ptsE,List.map_append,List.map_cons,List.map_nil]
     rw [ea]
     have eb:found++q :: bn (q :: s :: r)=(found++[q])++bn (q :: s :: r):=by simp
     rw [eb]
     exact ih2
theorem k_bends_no (l:List Pt) (hl:l.length≤100000) (ha:Asc l) (hb:AllF l) :
  ∀ (r pre:List Pt) (p q:Pt) (found:List Pt),l=pre++p :: q :: r→found.length≤pre.length→¬ BnF (q :: r) →
    zc4 (l.map ofP) (ptsE found) ⟨0⟩ (ofR (sl p q)) ((pre.length+1:Nat):Int)=some (zcX ([],6)):=by
 intro r
 induction r with
 | nil =>
   intro pre p q found he hf h
   exact absurd trivial h
 | cons s r ih =>
   intro pre p q found he hf hbn
   have hlen:l.length=pre.length+3+r.length:=by rw [he]; simp; omega
   have e:w64 (((pre.length+1:Nat):Int)+1)=((pre.length+2:Nat):Int):=by rw [w64_id (by omega) (by omega)]; omega
   have hq:l[pre.length+1]?=some q:=by
    rw [he,List.getElem?_append_right (by omega),show pre.length+1 - pre.length=1 by omega]; rfl
   have hs:l[pre.length+1+1]?=some s:=by
    rw [he,List.getElem?_append_right (by omega),show pre.length+1+1 - pre.length=2 by omega]; rfl
   have mq:=hb q (by rw [he]; simp)
   have ms:=hb s (by rw [he]; simp)
   have he':l=(pre++[p])++q :: s :: r:=by rw [he]; simp
   refine zes _ _ _ _ _ ?_
   rw [e,zaf,if_pos (by rw [lenP]; omega),zab (by omega),Int.toNat_natCast,elemP hq,zab (by omega),Int.toNat_natCast,elemP hs]
   have ea:ptsE found++[zae (ofP q)]=ptsE (found++[q]):=by simp only [ptsE,List.map_append,List.map_cons,List.map_nil]
   by_cases h1:SlF q s
   · have hbn2:¬ BnF (s :: r):=fun h2=>hbn ⟨h1,h2⟩
     rw [zlD mq ms (zft ha hq hs).1 h1,za1]
     show brn (!((ofR (sl q s)).Num == (ofR (sl p q)).Num && ((ofR (sl q s)).Den == (ofR (sl p q)).Den && true))) _ _=_
     rw [eqR,zly,zaf]
     have ih1:=ih (pre++[p]) q s found he' (by simp; omega) hbn2
     have ih2:=ih (pre++[p]) q s (found++[q]) he' (by simp; omega) hbn2
     have el:(pre++[p]).length+1=pre.length+2:=by simp
     rw [el] at ih1 ih2
     by_cases hc:sl q s=sl p q
     · rw [if_pos hc]
       exact ih1
     · rw [if_neg hc,zab (by omega),elemP hq,zab rfl,zab (by rw [lenP]; omega),zab rfl,ea]
       exact ih2
   · rw [zs5 mq ms (zft ha hq hs).1 h1,za1,zrx]
     dsimp only
     have er:=ztN l hl (r.length) (pre.length+2)
     split
     · rw [zab (by omega),elemP hq,zab rfl,zab (by rw [lenP]; omega),zab rfl,ea]
       exact er ((found++[q]).map ofP) ⟨0,0⟩ (by omega) (by simp; omega)
     · exact er (found.map ofP) ⟨0,0⟩ (by omega) (by simp; omega)
theorem bends_ok (l:List Pt) (ha:Asc l) (hl:2≤l.length) (hl2:l.length≤100000) (hb:AllF l) (h:BnF l) :
  cw zgy [.sl 4 (ptsE l)] []=some (zcX ((bn l).map ofP,0)):=by
 match l,ha,hl,hl2,hb,h with
 | p :: q :: r,ha,hl,hl2,hb,h =>
   refine zlR ((p :: q :: r).map ofP) ?_
   have hp:(p :: q :: r)[Int.toNat 0]?=some p:=rfl
   have hq:(p :: q :: r)[Int.toNat 1]?=some q:=rfl
   rw [zab (by omega),elemP hp,zab (by omega),elemP hq,zlD (hb p (by simp)) (hb q (by simp)) (zft (i:=0) ha rfl rfl).1 h.1,za1]
   exact k_bends_ok (p :: q :: r) hl2 ha hb r [] p q [] rfl (Nat.le_refl _) h.2
theorem bends_no (l:List Pt) (ha:Asc l) (hl:2≤l.length) (hl2:l.length≤100000) (hb:AllF l) (h:¬ BnF l) :
  cw zgy [.sl 4 (ptsE l)] []=some (zcX ([],6)):=by
 match l,ha,hl,hl2,hb,h with
 | p :: q :: r,ha,hl,hl2,hb,h =>
   refine zlR ((p :: q :: r).map ofP) ?_
   have hp:(p :: q :: r)[Int.toNat 0]?=some p:=rfl
   have hq:(p :: q :: r)[Int.toNat 1]?=some q:=rfl
   rw [zab (by omega),elemP hp,zab (by omega),elemP hq]
   by_cases h1:SlF p q
   · rw [zlD (hb p (by simp)) (hb q (by simp)) (zft (i:=0) ha rfl rfl).1 h1,za1]
     exact k_bends_no (p :: q :: r) hl2 ha hb r [] p q [] rfl (Nat.le_refl _) (fun h2=>h ⟨h1,h2⟩)
   · rw [zs5 (hb p (by simp)) (hb q (by simp)) (zft (i:=0) ha rfl rfl).1 h1,za1]
     exact ztN (p :: q :: r) hl2 r.length 1 [] ⟨0,0⟩ (by simp; omega) (by simp)
theorem bn_len (l:List Pt) (h:2≤l.length):(bn l).length+2≤l.length:=by
 match l,h with
 | p :: q :: r,_ =>
   induction r generalizing p q with
   | nil=>simp [bn]
   | cons s r ih =>
     unfold bn
     have:=ih q s (by simp)
     simp only [List.length_cons] at this ⊢
     split
     · omega
     · simp only [List.length_cons]; omega
theorem fit_0:Fit ((0:Int):Rat):=by decide
theorem fit_1:Fit ((1:Int):Rat):=by decide
theorem nf_tail (l:List Pt) (ha:Asc l) (hl:2≤l.length) (hl2:l.length≤410) (hb:AllF l) (u v:Rat) (hu:Fit u) (hv:Fit v) :
  (callD zb8 (cw zb2 [.sl 4 (ptsE l),aR u] []) fun (r11:GPoint×Int) =>
 brn (r11.snd != 0) (some (.tup [.agg (zah ⟨[]⟩),I r11.snd],[]))
 (callD zb8 (cw zb2 [.sl 4 (ptsE l),aR v] []) fun (r12:GPoint×Int) =>
  brn (r12.snd != 0) (some (.tup [.agg (zah ⟨[]⟩),I r12.snd],[]))
  (brn (decide (410 < w64 ((((ptsE (bn l)).length:Nat):Int)+2))) (some (.tup [.agg (zah ⟨[]⟩),I 3],[]))
   (chk (1=1)<|
    chk ((1+(ptsE (bn l)).length)*(32+1)≤1099511627776)<|
    chk (([[I r11.fst.X.Num,I r11.fst.X.Den,I r11.fst.Y.Num,I r11.fst.Y.Den]]++ptsE (bn l)).length=([[I r11.fst.X.Num,I r11.fst.X.Den,I r11.fst.Y.Num,I r11.fst.Y.Den]]++ptsE (bn l)).length)<|
    chk ((([[I r11.fst.X.Num,I r11.fst.X.Den,I r11.fst.Y.Num,I r11.fst.Y.Den]]++ptsE (bn l)).length+1)*(32+1)≤1099511627776)<|
    chk (0+([[I r11.fst.X.Num,I r11.fst.X.Den,I r11.fst.Y.Num,I r11.fst.Y.Den]]++ptsE (bn l)++[[I r12.fst.X.Num,I r12.fst.X.Den,I r12.fst.Y.Num,I r12.fst.Y.Den]]).length≤([[I r11.fst.X.Num,I r11.fst.X.Den,I r11.fst.Y.Num,I r11.fst.Y.Den]]++ptsE (bn l)++[[I r12.fst.X.Num,I r12.fst.X.Den,I r12.fst.Y.Num,I r12.fst.Y.Den]]).length)<|
    some (.tup [.agg [.sl 4 (List.take (([[I r11.fst.X.Num,I r11.fst.X.Den,I r11.fst.Y.Num,I r11.fst.Y.Den]]++ptsE (bn l)++[[I r12.fst.X.Num,I r12.fst.X.Den,I r12.fst.Y.Num,I r12.fst.Y.Den]]).length) ((([[I r11.fst.X.Num,I r11.fst.X.Den,I r11.fst.Y.Num,I r11.fst.Y.Den]])++(ptsE (bn l)))++([[I r12.fst.X.Num,I r12.fst.X.Den,I r12.fst.Y.Num,I r12.fst.Y.Den]])))],I 0],[]))))) =
   @ite (Option (AV×Mem)) (EvF l u∧EvF l v) (Classical.propDecidable _) (some (ze0 (⟨((u,cv l u) :: (bn l++[(v,cv l v)])).map ofP⟩,0))) (some (ze0 (⟨[]⟩,6))):=by
 have hlen:=bn_len l hl
 by_cases h1:EvF l u
 · rw [point_ok l u ha hl (by omega) hb hu h1,zeH,brn_f (by rfl)]
   by_cases h2:EvF l v
   · have hll:w64 ((((ptsE (bn l)).length:Nat):Int)+2)=(bn l).length+2:=by rw [lenP,w64_id (by omega) (by omega)]
     rw [point_ok l v ha hl (by omega) hb hv h2,zeH,brn_f (by rfl),zaf,hll,if_neg (by omega),if_pos ⟨h1,h2⟩,zab rfl,zab (by rw [lenP]; omega),zab rfl,zab (by rw [List.length_append,lenP]; simp; omega),zab (by omega),List.take_of_length_le (by exact Nat.le_refl _)]
     have:[[I (ofP (u,cv l u)).X.Num,I (ofP (u,cv l u)).X.Den,I (ofP (u,cv l u)).Y.Num,I (ofP (u,cv l u)).Y.Den]]++ptsE (bn l)++[[I (ofP (v,cv l v)).X.Num,I (ofP (v,cv l v)).X.Den,I (ofP (v,cv l v)).Y.Num,I (ofP (v,cv l v)).Y.Den]]=ptsE ((u,cv l u) :: (bn l++[(v,cv l v)])):=by
      simp only [ptsE,List.map_append,List.map_cons,List.map_nil,List.cons_append,List.nil_append]
      rfl
     dsimp only
     rw [this]
     rfl
   · rw [point_no l v ha hl (by omega) hb hv h2,zeH,if_neg (fun h=>h2 h.2)]
     rfl
 · rw [point_no l u ha hl (by omega) hb hu h1,zeH,if_neg (fun h=>h1 h.1)]
   rfl
theorem rt_last:∀ (m:List Pt) (hm:m≠[]),rt m=(m.getLast hm).1+1:=fun m hm=>by
 cases m with
 | nil=>exact absurd rfl hm
 | cons a r=>rfl
theorem lf_head {m:List Pt} {a:Pt} {t:List Pt} (h:m=a :: t):lf m=a.1 - 1:=by rw [h]; rfl
noncomputable def nfR (l:List Pt):GCurve×Int:=@ite _ (NfF l) (Classical.propDecidable _) (⟨(nf l).map ofP⟩,0) (⟨[]⟩,6)
theorem nfR_ok {l:List Pt} (h:NfF l):nfR l=(⟨(nf l).map ofP⟩,0):=if_pos h
theorem nfR_no {l:List Pt} (h:¬ NfF l):nfR l=(⟨[]⟩,6):=if_neg h
theorem zn0 (l:List Pt) (ha:Asc l) (hl:2≤l.length) (hl2:l.length≤410) (hb:AllF l) :
  cw zcN [.sl 4 (ptsE l)] []=some (ze0 (nfR l)):=by
 have hbs:AllF (bn l):=fun p hp=>hb p ((bn_sub l).subset hp)
 have hlen:=bn_len l hl
 refine zqh (l.map ofP) ?_
 by_cases h0:BnF l
 · rw [bends_ok l ha hl (by omega) hb h0,zjR,brn_f (by rfl),zjg 0,zbk,zjg 1,zbk,zaf]
   show (if 0 < ((ptsE (bn l)).length:Int) then _ else _)=_
   by_cases hne:bn l=[]
   · rw [if_neg (by rw [hne]; simp)]
     refine zl2 _ _ _ _ ?_
     refine (nf_tail l ha hl hl2 hb ((0:Int):Rat) ((1:Int):Rat) fit_0 fit_1).trans ?_
     have e1:lf (bn l)=((0:Int):Rat):=by rw [hne]; rfl
     have e2:rt (bn l)=((1:Int):Rat):=by rw [hne]; rfl
     by_cases h1:EvF l ((0:Int):Rat)∧EvF l ((1:Int):Rat)
     · have hn:NfF l:=⟨h0,by rw [e1]; exact fit_0,by rw [e2]; exact fit_1,by rw [e1]; exact h1.1,by rw [e2]; exact h1.2⟩
       rw [if_pos h1,nfR_ok hn]
       unfold nf
       rw [e1,e2]
     · have hn:¬ NfF l:=fun h=>h1 ⟨by rw [← e1]; exact h.2.2.2.1,by rw [← e2]; exact h.2.2.2.2⟩
       rw [if_neg h1,nfR_no hn]
   · obtain ⟨a,t,hat⟩:=List.exists_cons_of_ne_nil hne
     have hpos:0 < (bn l).length:=List.length_pos_iff.2 hne
     have hA:(bn l)[Int.toNat 0]?=some a:=by rw [hat]; rfl
     have hZ:(bn l)[(bn l).length - 1]?=some ((bn l).getLast hne):=by rw [← List.getLast?_eq_getElem?,List.getLast?_eq_some_getLast hne]
     have ba:=hbs a (by rw [hat]; simp)
     have bz:=hbs _ (List.getLast_mem hne)
     have elf:lf (bn l)=a.1 - ((1:Int):Rat):=lf_head hat
     have ert:rt (bn l)=((bn l).getLast hne).1+((1:Int):Rat):=rt_last _ hne
     rw [if_pos (by rw [lenP]; omega),zab (by omega)]
     show elemD zaq (ptsE (bn l)) (Int.toNat 0) _=_
     have ez:w64 (((ptsE (bn l)).length:Int) - 1)=(((bn l).length - 1:Nat):Int):=by rw [lenP,w64_id (by omega) (by omega)]; omega
     rw [elemP hA,zbk]
     show callD zav (cw zan [lS0,.fn zbW [],aR a.1,aR ((1:Int):Rat)] (mS 0)) _=_
     by_cases h1:Fit (a.1 - ((1:Int):Rat))
     · rw [zi5 ba.1 fit_1 h1,zam]
       show chk (0≤w64 (((ptsE (bn l)).length:Int) - 1)) (elemD zaq (ptsE (bn l)) (w64 (((ptsE (bn l)).length:Int) - 1)).toNat _)=_
       rw [ez,zab (by omega),Int.toNat_natCast,elemP hZ,zbk]
       show callD zav (cw zan [lS0,.fn zcI [],aR ((bn l).getLast hne).1,aR ((1:Int):Rat)] (mS 0)) _=_
       by_cases h2:Fit (((bn l).getLast hne).1+((1:Int):Rat))
       · rw [zuR bz.1 fit_1 h2,zam]
         refine zgc _ _ _ _ ?_
         rw [brn_f (by rfl)]
         refine (nf_tail l ha hl hl2 hb (a.1 - ((1:Int):Rat)) (((bn l).getLast hne).1+((1:Int):Rat)) h1 h2).trans ?_
         rw [← elf,← ert] at *
         by_cases h3:EvF l (lf (bn l))∧EvF l (rt (bn l))
         · have hn:NfF l:=⟨h0,h1,h2,h3.1,h3.2⟩
           rw [if_pos h3,nfR_ok hn]
           rfl
         · have hn:¬ NfF l:=fun h=>h3 ⟨h.2.2.2.1,h.2.2.2.2⟩
           rw [if_neg h3,nfR_no hn]
       · rw [zvp bz.1 fit_1 h2,zam]
         refine zgc _ _ _ _ ?_
         have hn:¬ NfF l:=fun h=>h2 (by rw [← ert]; exact h.2.2.1)
         rw [brn_t (by rfl),nfR_no hn]
         rfl
     · rw [znQ ba.1 fit_1 h1,zam]
       show chk (0≤w64 (((ptsE (bn l)).length:Int) - 1)) (elemD zaq (ptsE (bn l)) (w64 (((ptsE (bn l)).length:Int) - 1)).toNat _)=_
       rw [ez,zab (by omega),Int.toNat_natCast,elemP hZ,zbk]
       dsimp only
       rw [znJ,zam]
       refine zgc _ _ _ _ ?_
       have hn:¬ NfF l:=fun h=>h1 (by rw [← elf]; exact h.2.1)
       rw [brn_t (by rfl),nfR_no hn]
       rfl
 · have hn:¬ NfF l:=fun h=>h0 h.1
   rw [bends_no l ha hl (by omega) hb h0,zjR,nfR_no hn]
   rfl
end Go.Proofs.YtbhkcgaanaelfaaGreat
namespace Go.Proofs.YtbhkcgaanaelfaaGreat
open Go.Ab Go.Pure
set_option linter.unusedSimpArgs false
set_option linter.unusedVariables false
set_option maxRecDepth 20000
noncomputable abbrev rsE (l:List Rat):List (List AV):=List.map zaa (l.map ofR)
theorem elemR {β:Type} {l:List Rat} {i:Nat} {x:Rat} (h:l[i]?=some x) (k:GRatio→Option β):elemD zad (rsE l) i k=k (ofR x):=
 zdV (D:=zad) (l:=l.map ofR) (by rw [List.getElem?_map,h]; rfl) k
theorem lenR (l:List Rat):(rsE l).length=l.length:=by simp
theorem zlU {l:List Pt} {i:Nat} {p q:Pt} (hl:l.length≤100000) (ha:Asc l) (hb:AllF l) (hp:l[i]?=some p) (hq:l[i+1]?=some q) (hs:SlF p q) :
  cw zgs [.sl 4 (ptsE l),I (i:Int)] []=some (zke (ofR (sl p q),true)):=by
 have hi:i+1 < l.length:=(List.getElem?_eq_some_iff.1 hq).1
 have e:w64 ((i:Int)+1)=((i+1:Nat):Int):=by rw [w64_id (by omega) (by omega)]; omega
 have bp:=hb p (List.mem_of_getElem? hp)
 have bq:=hb q (List.mem_of_getElem? hq)
 have hlt:=(zft ha hp hq).1
 refine zp0 (l.map ofP) (i:Int) ?_
 rw [e]
 simp only [Int.toNat_natCast]
 rw [zab (by omega),elemP hq,zab (by omega),elemP hp]
 show callD zda (cw zdG [aR q.2,aR p.2] []) _=_
 rw [zlA _ _ bq.2 bp.2,zeD,zab (by omega),elemP hq,zab (by omega),elemP hp]
 show callD zda (cw zdG [aR q.1,aR p.1] []) _=_
 rw [zlA _ _ bq.1 bp.1,zeD,zdZ hs.1,zdZ hs.2.1,brn_f (by rfl),brn_f (by rfl)]
 show callD zib (cw zjQ [aR (q.2 - p.2),aR (q.1 - p.1)] []) _=_
 have hd:Fit ((q.2 - p.2) / (q.1 - p.1)):=hs.2.2
 rw [c_rDivF _ _ hs.1 hs.2.1 (by grind),znN,zdZ hd]
 rfl
theorem zrq {l:List Pt} {i:Nat} {p q:Pt} (hl:l.length≤100000) (ha:Asc l) (hb:AllF l) (hp:l[i]?=some p) (hq:l[i+1]?=some q) (hs:¬ SlF p q) :
  cw zgs [.sl 4 (ptsE l),I (i:Int)] []=some (zke (⟨0,0⟩,false)):=by
 have hi:i+1 < l.length:=(List.getElem?_eq_some_iff.1 hq).1
 have e:w64 ((i:Int)+1)=((i+1:Nat):Int):=by rw [w64_id (by omega) (by omega)]; omega
 have bp:=hb p (List.mem_of_getElem? hp)
 have bq:=hb q (List.mem_of_getElem? hq)
 have hlt:=(zft ha hp hq).1
 refine zp0 (l.map ofP) (i:Int) ?_
 rw [e]
 simp only [Int.toNat_natCast]
 rw [zab (by omega),elemP hq,zab (by omega),elemP hp]
 show callD zda (cw zdG [aR q.2,aR p.2] []) _=_
 rw [zlA _ _ bq.2 bp.2,zeD,zab (by omega),elemP hq,zab (by omega),elemP hp]
 show callD zda (cw zdG [aR q.1,aR p.1] []) _=_
 rw [zlA _ _ bq.1 bp.1,zeD]
 by_cases h1:Fit (q.2 - p.2)
 · rw [zdZ h1,brn_f (by rfl)]
   by_cases h2:Fit (q.1 - p.1)
   · rw [zdZ h2,brn_f (by rfl)]
     show callD zib (cw zjQ [aR (q.2 - p.2),aR (q.1 - p.1)] []) _=_
     have hd:¬ Fit ((q.2 - p.2) / (q.1 - p.1)):=fun h3=>hs ⟨h1,h2,h3⟩
     rw [c_rDivF _ _ h1 h2 (by grind),znN,zf2 hd]
     rfl
   · rw [zf2 h2]
     rfl
 · rw [zf2 h1]
   rfl
theorem zu6 {l:List Pt} {i:Nat} {p q:Pt} {x:Rat} (hl:l.length≤100000) (ha:Asc l) (hb:AllF l) (hx:Fit x) (hp:l[i]?=some p) (hq:l[i+1]?=some q) :
  (LnF p q x→zeh (l.map ofP) (ofR x) (i:Int)=some (zeT (ofR (ln p (sl p q) x),true)))∧(¬ LnF p q x→zeh (l.map ofP) (ofR x) (i:Int)=some (zeT (⟨0,0⟩,false))):=by
 have hi:i+1 < l.length:=(List.getElem?_eq_some_iff.1 hq).1
 have bp:=hb p (List.mem_of_getElem? hp)
 have bq:=hb q (List.mem_of_getElem? hq)
 refine ⟨fun h=>?_,fun h=>?_⟩
 · refine zlT _ _ _ ?_
   rw [zlU hl ha hb hp hq h.1,zdd,zab (by omega),Int.toNat_natCast,elemP hp]
   show callD zda (cw zdG [aR x,aR p.1] []) _=_
   rw [zlA _ _ hx bp.1,zeD,zdZ h.2.1,brn_f (by rfl),brn_f (by rfl)]
   show callD zh0 (cw zh3 [aR (x - p.1),aR (sl p q)] []) _=_
   rw [c_rMulF _ _ h.2.1 h.1.2.2,znY,zdZ h.2.2.1,brn_f (by rfl),zab (by omega),elemP hp]
   show callD zd4 (cw zeq [aR p.2,aR ((x - p.1)*sl p q)] []) _=_
   have h4:Fit (p.2+(x - p.1)*sl p q):=h.2.2.2
   rw [zmQ _ _ bp.2 h.2.2.1,zeE,zdZ h4]
   rfl
 · refine zlT _ _ _ ?_
   by_cases h1:SlF p q
   · rw [zlU hl ha hb hp hq h1,zdd,zab (by omega),Int.toNat_natCast,elemP hp]
     show callD zda (cw zdG [aR x,aR p.1] []) _=_
     rw [zlA _ _ hx bp.1,zeD,brn_f (by rfl)]
     by_cases h2:Fit (x - p.1)
     · rw [zdZ h2,brn_f (by rfl)]
       show callD zh0 (cw zh3 [aR (x - p.1),aR (sl p q)] []) _=_
       rw [c_rMulF _ _ h2 h1.2.2,znY]
       by_cases h3:Fit ((x - p.1)*sl p q)
       · rw [zdZ h3,brn_f (by rfl),zab (by omega),elemP hp]
         show callD zd4 (cw zeq [aR p.2,aR ((x - p.1)*sl p q)] []) _=_
         have h4:¬ Fit (p.2+(x - p.1)*sl p q):=fun h4=>h ⟨h1,h2,h3,h4⟩
         rw [zmQ _ _ bp.2 h3,zeE,zf2 h4]
         rfl
       · rw [zf2 h3]
         rfl
     · rw [zf2 h2]
       rfl
   · rw [zrq hl ha hb hp hq h1,zdd,zab (by omega),Int.toNat_natCast,elemP hp]
     show callD zda (cw zdG [aR x,aR p.1] []) _=_
     rw [zlA _ _ hx bp.1,zeD]
     rfl
theorem k_rvalue {l:List Pt} {x:Rat} (hl:l.length≤100000) (h2:2≤l.length) (ha:Asc l) (hb:AllF l) (hx:Fit x):∀ (k i:Nat),i+2+k=l.length→(i=0∨∃ p,l[i]?=some p∧p.1 < x) →
  (EvF l x→zdY (l.map ofP) (ofR x) (i:Int)=some (zeT (ofR (cv l x),true)))∧(¬ EvF l x→zdY (l.map ofP) (ofR x) (i:Int)=some (zeT (⟨0,0⟩,false))):=by
 intro k
 induction k with
 | zero =>
   intro i hk hi
   have e:w64 ((i:Int)+2)=((i+2:Nat):Int):=by rw [w64_id (by omega) (by omega)]; omega
   have hp:l[i]?=some l[i]:=List.getElem?_eq_getElem (by omega)
   have hq:l[i+1]?=some l[i+1]:=List.getElem?_eq_getElem (by omega)
   have hpc:=pc_at l i x l[i] l[i+1] ha hp hq (by
    rcases hi with hi | ⟨p,h1,h2⟩
    · exact .inl hi
    · rw [hp] at h1; injection h1 with h1; rw [h1]; exact .inr h2) (.inl (by omega))
   have hv:=cv_pc l x h2
   have H:=zu6 hl ha hb hx hp hq
   unfold EvF
   rw [hv,hpc]
   refine ⟨fun h=>?_,fun h=>?_⟩
   · refine ziy _ _ _ ?_
     rw [e,zaf,if_neg (by rw [lenP]; omega)]
     exact H.1 h
   · refine ziy _ _ _ ?_
     rw [e,zaf,if_neg (by rw [lenP]; omega)]
     exact H.2 h
 | succ k ih =>
   intro i hk hi
   have e:w64 ((i:Int)+2)=((i+2:Nat):Int):=by rw [w64_id (by omega) (by omega)]; omega
   have e1:w64 ((i:Int)+1)=((i+1:Nat):Int):=by rw [w64_id (by omega) (by omega)]; omega
   have hp:l[i]?=some l[i]:=List.getElem?_eq_getElem (by omega)
   have hq:l[i+1]?=some l[i+1]:=List.getElem?_eq_getElem (by omega)
   have bq:=hb _ (List.mem_of_getElem? hq)
   by_cases hlt:(l[i+1]).1 < x
   · have IH:=ih (i+1) (by omega) (.inr ⟨_,hq,hlt⟩)
     have st:∀ y,zdY (l.map ofP) (ofR x) ((i+1:Nat):Int)=some y→zdY (l.map ofP) (ofR x) (i:Int)=some y:=fun y h=>by
      refine ziy _ _ _ ?_
      rw [e,zaf,if_pos (by rw [lenP]; omega),e1,zab (by omega),Int.toNat_natCast,elemP hq]
      show callD zd6 (cw zew [aR (l[i+1]).1,aR x] []) _=_
      rw [znk _ _ bq.1 hx,zf9,decide_eq_true hlt,zay]
      exact h
     exact ⟨fun h=>st _ (IH.1 h),fun h=>st _ (IH.2 h)⟩
   · have hpc:=pc_at l i x l[i] l[i+1] ha hp hq (by
      rcases hi with hi | ⟨p,h1,h2⟩
      · exact .inl hi
      · rw [hp] at h1; injection h1 with h1; rw [h1]; exact .inr h2) (.inr (by grind))
     have hv:=cv_pc l x h2
     have H:=zu6 hl ha hb hx hp hq
     have st:∀ y,zeh (l.map ofP) (ofR x) (i:Int)=some y→zdY (l.map ofP) (ofR x) (i:Int)=some y:=fun y h=>by
      refine ziy _ _ _ ?_
      rw [e,zaf,if_pos (by rw [lenP]; omega),e1,zab (by omega),Int.toNat_natCast,elemP hq]
      show callD zd6 (cw zew [aR (l[i+1]).1,aR x] []) _=_
      rw [znk _ _ bq.1 hx,zf9,decide_eq_false hlt,zar]
      exact h
     unfold EvF
     rw [hv,hpc]
     exact ⟨fun h=>st _ (H.1 h),fun h=>st _ (H.2 h)⟩
theorem zjk (l:List Pt) (x:Rat) (ha:Asc l) (h2:2≤l.length) (hl:l.length≤100000) (hb:AllF l) (hx:Fit x) (he:EvF l x) :
  cw zcA [.sl 4 (ptsE l),aR x] []=some (zeT (ofR (cv l x),true)):=
 zpW _ _ ((k_rvalue hl h2 ha hb hx (l.length - 2) 0 (by omega) (.inl rfl)).1 he)
theorem zjb (l:List Pt) (x:Rat) (ha:Asc l) (h2:2≤l.length) (hl:l.length≤100000) (hb:AllF l) (hx:Fit x) (he:¬ EvF l x) :
  cw zcA [.sl 4 (ptsE l),aR x] []=some (zeT (⟨0,0⟩,false)):=
 zpW _ _ ((k_rvalue hl h2 ha hb hx (l.length - 2) 0 (by omega) (.inl rfl)).2 he)
theorem step_ok {x:Rat} {n:Int} (hx:Fit x) (hn:Fit (n:Rat)) (h:Fit (x+(n:Rat))):cw ziV [aR x,I n] []=some (zkW (ofR (x+(n:Rat)),true)):=by
 refine zrb _ _ ?_
 show callD zd4 (cw zeq [aR x,aR (n:Rat)] []) _=_
 rw [zmQ _ _ hx hn,zeE,zdZ h]
 rfl
theorem step_no {x:Rat} {n:Int} (hx:Fit x) (hn:Fit (n:Rat)) (h:¬ Fit (x+(n:Rat))):cw ziV [aR x,I n] []=some (zkW (⟨0,0⟩,false)):=by
 refine zrb _ _ ?_
 show callD zd4 (cw zeq [aR x,aR (n:Rat)] []) _=_
 rw [zmQ _ _ hx hn,zeE,zf2 h]
 rfl
section
variable {l:List Pt} {xs:List Rat}
theorem k3_end (hl:l.length≤100000) (hx:xs.length≤100000) {out:List Pt} {i:Nat} {x:Rat} (hi:xs[i]?=some x) (hend:i=0∨i+1=xs.length) (ho:out.length≤100000) (v:Rat) {y:AV×Mem}
  (K:zbG (l.map ofP) (rsE xs) (ptsE (out++[(x,v)])) ((i+1:Nat):Int)=some y) :
  ∀ (n k:Nat),k+n=l.length→zc0 (l.map ofP) (rsE xs) (ptsE out) (i:Int) (ofR v) true (k:Int)=some y:=by
 have hil:i < xs.length:=(List.getElem?_eq_some_iff.1 hi).1
 have ei:w64 ((i:Int)+1)=((i+1:Nat):Int):=by rw [w64_id (by omega) (by omega)]; omega
 intro n
 induction n with
 | zero =>
   intro k hk
   refine ze6 _ _ _ _ _ _ _ ?_
   rw [zaf,if_neg (by rw [lenP]; omega),brn_nt,zab (by omega),zab (by rw [lenR]; omega),Nat.zero_add,Int.toNat_natCast,elemR hi,zab rfl,zab (by rw [lenP]; omega),ei]
   have:ptsE out++[zae ⟨⟨(ofR x).Num,(ofR x).Den⟩,⟨(ofR v).Num,(ofR v).Den⟩⟩]=ptsE (out++[(x,v)]):=by simp only [ptsE,List.map_append,List.map_cons,List.map_nil]; rfl
   rw [this]
   exact K
 | succ n ih =>
   intro k hk
   have ek:w64 ((k:Int)+1)=((k+1:Nat):Int):=by rw [w64_id (by omega) (by omega)]; omega
   have hp:l[k]?=some l[k]:=List.getElem?_eq_getElem (by omega)
   have IH:=ih (k+1) (by omega)
   refine ze6 _ _ _ _ _ _ _ ?_
   rw [zaf,if_pos (by rw [lenP]; omega),zab (by omega),Int.toNat_natCast,elemP hp,zab (by omega),zab (by rw [lenR]; omega),Nat.zero_add,Int.toNat_natCast,elemR hi,ei,ek]
   rw [zrx]
   split
   · rw [zaf]
     split
     · rw [zaf,if_neg (by rw [lenR]; omega)]
       exact IH
     · exact IH
   · exact IH
theorem k3_fail (hl:l.length≤100000) (hx:xs.length≤100000) {out:List Pt} {i:Nat} {x:Rat} (hi:xs[i]?=some x) (hend:i=0∨i+1=xs.length) (v:GRatio) :
  ∀ (n k:Nat),k+n=l.length→zc0 (l.map ofP) (rsE xs) (ptsE out) (i:Int) v false (k:Int)=some (zcz (⟨[]⟩,6)):=by
 have hil:i < xs.length:=(List.getElem?_eq_some_iff.1 hi).1
 have ei:w64 ((i:Int)+1)=((i+1:Nat):Int):=by rw [w64_id (by omega) (by omega)]; omega
 intro n
 induction n with
 | zero =>
   intro k hk
   refine ze6 _ _ _ _ _ _ _ ?_
   rw [zaf,if_neg (by rw [lenP]; omega),brn_nf]
   rfl
 | succ n ih =>
   intro k hk
   have ek:w64 ((k:Int)+1)=((k+1:Nat):Int):=by rw [w64_id (by omega) (by omega)]; omega
   have hp:l[k]?=some l[k]:=List.getElem?_eq_getElem (by omega)
   have IH:=ih (k+1) (by omega)
   refine ze6 _ _ _ _ _ _ _ ?_
   rw [zaf,if_pos (by rw [lenP]; omega),zab (by omega),Int.toNat_natCast,elemP hp,zab (by omega),zab (by rw [lenR]; omega),Nat.zero_add,Int.toNat_natCast,elemR hi,ei,ek]
   rw [zrx]
   split
   · rw [zaf]
     split
     · rw [zaf,if_neg (by rw [lenR]; omega)]
       exact IH
     · exact IH
   · exact IH
theorem k3_in (hl:l.length≤100000) (hx:xs.length≤100000) (ha:Asc l) {out:List Pt} {i m:Nat} {p:Pt} (hi:xs[i]?=some p.1) (h0:0 < i) (h1:i+1 < xs.length) (hm:l[m]?=some p) (ho:out.length≤100000) {y:AV×Mem}
  (K:zbG (l.map ofP) (rsE xs) (ptsE (out++[p])) ((i+1:Nat):Int)=some y) :
  ∀ (n k:Nat) (v:GRatio) (b:Bool),k+n=l.length→(k≤m∨(v=ofR p.2∧b=true))→zc0 (l.map ofP) (rsE xs) (ptsE out) (i:Int) v b (k:Int)=some y:=by
 have ei:w64 ((i:Int)+1)=((i+1:Nat):Int):=by rw [w64_id (by omega) (by omega)]; omega
 have hml:m < l.length:=(List.getElem?_eq_some_iff.1 hm).1
 intro n
 induction n with
 | zero =>
   intro k v b hk hv
   rcases hv with hv | ⟨rfl,rfl⟩
   · omega
   refine ze6 _ _ _ _ _ _ _ ?_
   rw [zaf,if_neg (by rw [lenP]; omega),brn_nt,zab (by omega),zab (by rw [lenR]; omega),Nat.zero_add,Int.toNat_natCast,elemR hi,zab rfl,zab (by rw [lenP]; omega),ei]
   have:ptsE out++[zae ⟨⟨(ofR p.1).Num,(ofR p.1).Den⟩,⟨(ofR p.2).Num,(ofR p.2).Den⟩⟩]=ptsE (out++[p]):=by simp only [ptsE,List.map_append,List.map_cons,List.map_nil]; rfl
   rw [this]
   exact K
 | succ n ih =>
   intro k v b hk hv
   have ek:w64 ((k:Int)+1)=((k+1:Nat):Int):=by rw [w64_id (by omega) (by omega)]; omega
   have hp:l[k]?=some l[k]:=List.getElem?_eq_getElem (by omega)
   refine ze6 _ _ _ _ _ _ _ ?_
   rw [zaf,if_pos (by rw [lenP]; omega),zab (by omega),Int.toNat_natCast,elemP hp,zab (by omega),zab (by rw [lenR]; omega),Nat.zero_add,Int.toNat_natCast,elemR hi,ei,ek]
   have eq1:((ofP l[k]).X.Num == (ofR p.1).Num && ((ofP l[k]).X.Den == (ofR p.1).Den && true))=decide ((l[k]).1=p.1):=eqR (l[k]).1 p.1
   rw [eq1,zaf]
   by_cases hkm:(l[k]).1=p.1
   · have hke:k=m:=by
      rcases Nat.lt_trichotomy k m with h | h | h
      · have:=(List.pairwise_iff_getElem.1 ha k m (by omega) hml h).1
        rw [(List.getElem?_eq_some_iff.1 hm).2,hkm] at this
        grind
      · exact h
      · have:=(List.pairwise_iff_getElem.1 ha m k hml (by omega) h).1
        rw [(List.getElem?_eq_some_iff.1 hm).2,hkm] at this
        grind
     subst hke
     have hpe:l[k]=p:=(List.getElem?_eq_some_iff.1 hm).2
     rw [if_pos hkm,zaf,if_pos (by omega),zaf,if_pos (by rw [lenR]; omega),zab (by omega),elemP hp]
     exact ih (k+1) _ _ (by omega) (.inr ⟨by rw [hpe]; rfl,rfl⟩)
   · rw [if_neg hkm]
     refine ih (k+1) v b (by omega) ?_
     rcases hv with hv | hv
     · left
       rcases Nat.lt_or_eq_of_le hv with h | h
       · omega
       · subst h
         exact absurd (by rw [(List.getElem?_eq_some_iff.1 hm).2]) hkm
     · exact .inr hv
end
end Go.Proofs.YtbhkcgaanaelfaaGreat
namespace Go.Proofs.YtbhkcgaanaelfaaGreat
open Go.Ab Go.Pure
set_option linter.unusedSimpArgs false
set_option linter.unusedVariables false
set_option maxRecDepth 20000
def nfX (l:List Pt) (u v:Rat):List Rat:=u :: ((bn l).map (·.1)++[v])
theorem zgt (l:List Pt) (u v:Rat):(nfX l u v).length=(bn l).length+2:=by simp [nfX]
theorem nfX_mid {l:List Pt} {u v:Rat} {j:Nat} {p:Pt} (h:(bn l)[j]?=some p):(nfX l u v)[j+1]?=some p.1:=by
 have hj:j < (bn l).length:=(List.getElem?_eq_some_iff.1 h).1
 unfold nfX
 rw [List.getElem?_cons_succ,List.getElem?_append_left (by simpa using hj),List.getElem?_map,h]
 rfl
theorem nfX_last (l:List Pt) (u v:Rat):(nfX l u v)[(bn l).length+1]?=some v:=by
 unfold nfX
 rw [List.getElem?_cons_succ,List.getElem?_append_right (by simp)]
 simp
theorem k2_end {l:List Pt} {u v:Rat} (hl2:l.length≤410) (hl:2≤l.length) :
  zbG (l.map ofP) (rsE (nfX l u v)) (ptsE ((u,cv l u) :: (bn l++[(v,cv l v)]))) (((bn l).length+2:Nat):Int)=some (zcz (⟨((u,cv l u) :: (bn l++[(v,cv l v)])).map ofP⟩,0)):=by
 have hlen:=bn_len l hl
 refine zgf _ _ _ _ ?_
 rw [zaf,if_neg (by rw [lenR,zgt]; omega),zaf,if_neg (by rw [lenP]; simp; omega),zab (by omega),List.take_length]
 rfl
theorem k2_mid {l:List Pt} {u v:Rat} (ha:Asc l) (hl:2≤l.length) (hl2:l.length≤410) (hb:AllF l) {y:AV×Mem}
  (K:zbG (l.map ofP) (rsE (nfX l u v)) (ptsE ((u,cv l u) :: bn l)) (((bn l).length+1:Nat):Int)=some y) :
  ∀ (m j:Nat),j+m=(bn l).length→zbG (l.map ofP) (rsE (nfX l u v)) (ptsE ((u,cv l u) :: (bn l).take j)) ((j+1:Nat):Int)=some y:=by
 have hlen:=bn_len l hl
 intro m
 induction m with
 | zero =>
   intro j hj
   rw [show j=(bn l).length by omega,List.take_length]
   exact K
 | succ m ih =>
   intro j hj
   have hp:(bn l)[j]?=some (bn l)[j]:=List.getElem?_eq_getElem (by omega)
   have hx:=nfX_mid (u:=u) (v:=v) hp
   have hin:(bn l)[j]∈l:=(bn_sub l).subset (List.getElem_mem _)
   obtain ⟨k,hk⟩:=List.getElem?_of_mem hin
   have hf:=hb _ hin
   have IH:=ih (j+1) (by omega)
   rw [List.take_add_one,hp,← List.cons_append] at IH
   have hol:((u,cv l u) :: (bn l).take j).length≤100000:=by simp; omega
   have R:=k3_in (xs:=nfX l u v) (out:=(u,cv l u) :: (bn l).take j) (y:=y) (by omega) (by rw [zgt]; omega) ha hx (by omega) (by rw [zgt]; omega) hk hol IH l.length 0
   refine zgf _ _ _ _ ?_
   rw [zaf,if_pos (by rw [lenR,zgt]; omega),zab (by omega),zab (by rw [lenR,zgt]; omega),Nat.zero_add,Int.toNat_natCast,elemR hx]
   by_cases he:EvF l (bn l)[j].1
   · rw [zjk l _ ha hl (by omega) hb hf.1 he,zbr]
     exact R _ _ (by omega) (.inl (by omega))
   · rw [zjb l _ ha hl (by omega) hb hf.1 he,zbr]
     exact R _ _ (by omega) (.inl (by omega))
theorem k2_all {l:List Pt} {u v:Rat} (ha:Asc l) (hl:2≤l.length) (hl2:l.length≤410) (hb:AllF l) (hu:Fit u) (hv:Fit v) :
  zbG (l.map ofP) (rsE (nfX l u v)) [] 0=@ite (Option (AV×Mem)) (EvF l u∧EvF l v) (Classical.propDecidable _) (some (zcz (⟨((u,cv l u) :: (bn l++[(v,cv l v)])).map ofP⟩,0))) (some (zcz (⟨[]⟩,6))):=by
 have hlen:=bn_len l hl
 have h0:(nfX l u v)[0]?=some u:=rfl
 have hz:=nfX_last l u v
 have hzl:(nfX l u v).length=(bn l).length+2:=zgt l u v
 by_cases h1:EvF l u
 ·
  have last:∀ y,((EvF l v→some y=some (zcz (⟨((u,cv l u) :: (bn l++[(v,cv l v)])).map ofP⟩,0)))∧(¬ EvF l v→some y=some (zcz (⟨[]⟩,6)))) →
    zbG (l.map ofP) (rsE (nfX l u v)) (ptsE ((u,cv l u) :: bn l)) (((bn l).length+1:Nat):Int)=some y:=fun y hy=>by
   refine zgf _ _ _ _ ?_
   rw [zaf,if_pos (by rw [lenR,zgt]; omega),zab (by omega),zab (by rw [lenR,zgt]; omega),Nat.zero_add,Int.toNat_natCast,elemR hz]
   by_cases h2:EvF l v
   · rw [zjk l _ ha hl (by omega) hb hv h2,zbr]
     have K:=k2_end (l:=l) (u:=u) (v:=v) hl2 hl
     rw [← hy.1 h2,← List.cons_append] at K
     exact k3_end (xs:=nfX l u v) (out:=(u,cv l u) :: bn l) (by omega) (by omega) hz (.inr (by omega)) (by simp; omega) (cv l v) K l.length 0 (by omega)
   · rw [zjb l _ ha hl (by omega) hb hv h2,zbr]
     rw [hy.2 h2]
     exact k3_fail (xs:=nfX l u v) (out:=(u,cv l u) :: bn l) (by omega) (by omega) hz (.inr (by omega)) ⟨0,0⟩ l.length 0 (by omega)
  have first:∀ y,zbG (l.map ofP) (rsE (nfX l u v)) (ptsE ((u,cv l u) :: bn l)) (((bn l).length+1:Nat):Int)=some y→zbG (l.map ofP) (rsE (nfX l u v)) [] 0=some y:=fun y hy=>by
   refine zgf _ _ _ _ ?_
   rw [zaf,if_pos (by rw [lenR,zgt]; omega),zab (by omega),zab (by rw [lenR,zgt]; omega),Nat.zero_add,show (0:Int).toNat=0 from rfl,elemR h0,zjk l _ ha hl (by omega) hb hu h1,zbr]
   have K:=k2_mid (u:=u) (v:=v) ha hl hl2 hb hy (bn l).length 0 (by omega)
   exact k3_end (xs:=nfX l u v) (out:=[]) (i:=0) (by omega) (by omega) h0 (.inl rfl) (by simp) (cv l u) K l.length 0 (by omega)
  by_cases h2:EvF l v
  · rw [if_pos ⟨h1,h2⟩]
    exact first _ (last _ ⟨fun _=>rfl,fun h=>absurd h2 h⟩)
  · rw [if_neg (fun h=>h2 h.2)]
    exact first _ (last _ ⟨fun h=>absurd h h2,fun _=>rfl⟩)
 · rw [if_neg (fun h=>h1 h.1)]
   refine zgf _ _ _ _ ?_
   rw [zaf,if_pos (by rw [lenR,zgt]; omega),zab (by omega),zab (by rw [lenR,zgt]; omega),Nat.zero_add,show (0:Int).toNat=0 from rfl,elemR h0,zjb l _ ha hl (by omega) hb hu h1,zbr]
   exact k3_fail (xs:=nfX l u v) (out:=[]) (i:=0) (by omega) (by omega) h0 (.inl rfl) ⟨0,0⟩ l.length 0 (by omega)
theorem sub_one (x:Rat):x+((-1:Int):Rat)=x - ((1:Int):Rat):=by
 have:((-1:Int):Rat)=-((1:Int):Rat):=by rfl
 rw [this]; grind
theorem fit_m1:Fit ((-1:Int):Rat):=by decide
theorem k1_end (l:List Pt) (ha:Asc l) (hl:2≤l.length) (hl2:l.length≤410) (hb:AllF l) (h0:BnF l) (s:GRatio) :
  zc2 (l.map ofP) (rsE ((bn l).map (·.1))) s ((l.length - 1:Nat):Int)=some (zcz (nfR l)):=by
 have hlen:=bn_len l hl
 have hbs:AllF (bn l):=fun p hp=>hb p ((bn_sub l).subset hp)
 have e:w64 (((l.length - 1:Nat):Int)+1)=(l.length:Int):=by rw [w64_id (by omega) (by omega)]; omega
 have hxl:(rsE ((bn l).map (·.1))).length=(bn l).length:=by simp
 refine zhK _ _ _ _ ?_
 rw [e,zaf,if_neg (by rw [lenP]; omega),zaf,hxl]
 have tail:∀ u v,Fit u→Fit v→u=lf (bn l)→v=rt (bn l)→zbG (l.map ofP) (rsE (nfX l u v)) [] 0=some (zcz (nfR l)):=fun u v hu hv eu ev=>by
  rw [k2_all ha hl hl2 hb hu hv]
  by_cases h3:EvF l u∧EvF l v
  · rw [if_pos h3,nfR_ok ⟨h0,by rw [← eu]; exact hu,by rw [← ev]; exact hv,by rw [← eu]; exact h3.1,by rw [← ev]; exact h3.2⟩]
    unfold nf
    rw [eu,ev]
  · rw [if_neg h3,nfR_no (fun h=>h3 ⟨by rw [eu]; exact h.2.2.2.1,by rw [ev]; exact h.2.2.2.2⟩)]
 by_cases hne:bn l=[]
 · rw [if_neg (by rw [hne]; simp)]
   refine zoB _ _ ?_
   have ex:(rsE ((bn l).map (·.1)))=[]:=by rw [hne]; rfl
   rw [ex]
   have:=tail ((0:Int):Rat) ((1:Int):Rat) fit_0 fit_1 (by rw [hne]; rfl) (by rw [hne]; rfl)
   have e2:nfX l ((0:Int):Rat) ((1:Int):Rat)=[((0:Int):Rat),((1:Int):Rat)]:=by unfold nfX; rw [hne]; rfl
   rw [e2] at this
   rw [zab (by simp),zab rfl,zab (by simp),zab rfl,zab (by simp),zab rfl]
   exact this
 · obtain ⟨a,t,hat⟩:=List.exists_cons_of_ne_nil hne
   have hpos:0 < (bn l).length:=List.length_pos_iff.2 hne
   have hA:((bn l).map (·.1))[0]?=some a.1:=by rw [hat]; rfl
   have hZ:((bn l).map (·.1))[(bn l).length - 1]?=some ((bn l).getLast hne).1:=by rw [List.getElem?_map,← List.getLast?_eq_getElem?,List.getLast?_eq_some_getLast hne]; rfl
   have ba:=hbs a (by rw [hat]; simp)
   have bz:=hbs _ (List.getLast_mem hne)
   have elf:lf (bn l)=a.1 - ((1:Int):Rat):=lf_head hat
   have ert:rt (bn l)=((bn l).getLast hne).1+((1:Int):Rat):=rt_last _ hne
   have ez:w64 ((((bn l).length:Nat):Int) - 1)=(((bn l).length - 1:Nat):Int):=by rw [w64_id (by omega) (by omega)]; omega
   rw [if_pos (by omega),zab (by omega),zab (by omega),show (0:Nat)+Int.toNat 0=0 from rfl,elemR hA]
   by_cases h1:Fit (a.1+((-1:Int):Rat))
   · rw [step_ok ba.1 fit_m1 h1,ze5,ez,zab (by omega),zab (by omega),Nat.zero_add,Int.toNat_natCast,elemR hZ]
     by_cases h2:Fit (((bn l).getLast hne).1+((1:Int):Rat))
     · rw [step_ok bz.1 fit_1 h2,ze5,brn_f (by rfl),brn_f (by rfl)]
       refine zqj _ _ _ _ ?_
       rw [List.take_length,hxl,zab (by omega),zab rfl,zab (by omega),zab rfl,zab (by simp; omega),zab rfl]
       have e3:=sub_one a.1
       have:=tail (a.1+((-1:Int):Rat)) (((bn l).getLast hne).1+((1:Int):Rat)) h1 h2 (by rw [elf,e3]) ert.symm
       have e2:[zaa (ofR (a.1+((-1:Int):Rat)))]++rsE ((bn l).map (·.1))++[zaa (ofR (((bn l).getLast hne).1+((1:Int):Rat)))]=rsE (nfX l (a.1+((-1:Int):Rat)) (((bn l).getLast hne).1+((1:Int):Rat))):=by
        simp only [rsE,nfX,List.map_append,List.map_cons,List.map_nil,List.cons_append,List.nil_append]
       rw [← e2] at this
       exact this
     · rw [step_no bz.1 fit_1 h2,ze5,brn_f (by rfl),brn_t (by rfl),nfR_no (fun h=>h2 (by rw [← ert]; exact h.2.2.1))]
       rfl
   · have hn:¬ NfF l:=fun h=>h1 (by rw [sub_one,← elf]; exact h.2.1)
     rw [step_no ba.1 fit_m1 h1,ze5,ez,zab (by omega),zab (by omega),Nat.zero_add,Int.toNat_natCast,elemR hZ,nfR_no hn]
     by_cases h2:Fit (((bn l).getLast hne).1+((1:Int):Rat))
     · rw [step_ok bz.1 fit_1 h2,ze5,brn_t (by rfl)]
       rfl
     · rw [step_no bz.1 fit_1 h2,ze5,brn_t (by rfl)]
       rfl
theorem k1_ok (l:List Pt) (ha:Asc l) (hl2:l.length≤410) (hb:AllF l) {y:AV×Mem} (K:∀ s,zc2 (l.map ofP) (rsE ((bn l).map (·.1))) s ((l.length - 1:Nat):Int)=some y) :
  ∀ (r pre:List Pt) (p q:Pt) (found:List Pt),l=pre++p :: q :: r→found.length≤pre.length→BnF (q :: r)→found++bn (p :: q :: r)=bn l →
    zc2 (l.map ofP) (rsE (found.map (·.1))) (ofR (sl p q)) ((pre.length+1:Nat):Int)=some y:=by
 intro r
 induction r with
 | nil =>
   intro pre p q found he hf _ hbn
   have hlen:l.length=pre.length+2:=by rw [he]; simp
   have:found=bn l:=by rw [← hbn]; simp [bn]
   rw [this]
   have K':=K (ofR (sl p q))
   rw [hlen] at K'
   exact K'
 | cons s r ih =>
   intro pre p q found he hf hbf hbn
   have hlen:l.length=pre.length+3+r.length:=by rw [he]; simp; omega
   have e:w64 (((pre.length+1:Nat):Int)+1)=((pre.length+2:Nat):Int):=by rw [w64_id (by omega) (by omega)]; omega
   have hq:l[pre.length+1]?=some q:=by
    rw [he,List.getElem?_append_right (by omega),show pre.length+1 - pre.length=1 by omega]; rfl
   have hs:l[pre.length+1+1]?=some s:=by
    rw [he,List.getElem?_append_right (by omega),show pre.length+1+1 - pre.length=2 by omega]; rfl
   have he':l=(pre++[p])++q :: s :: r:=by rw [he]; simp
   refine zhK _ _ _ _ ?_
   rw [e,zaf,if_pos (by rw [lenP]; omega),zlU (by omega) ha hb hq hs hbf.1,zdd,brn_nt,zaf,if_pos (by omega)]
   show brn (!((ofR (sl q s)).Num == (ofR (sl p q)).Num && ((ofR (sl q s)).Den == (ofR (sl p q)).Den && true))) _ _=_
   rw [eqR,zly,zaf]
   have el:(pre++[p]).length+1=pre.length+2:=by simp
   have hb2:bn (p :: q :: s :: r)=if sl q s=sl p q then bn (q :: s :: r) else q :: bn (q :: s :: r):=rfl
   rw [hb2] at hbn
   by_cases hc:sl q s=sl p q
   · rw [if_pos hc]
     rw [if_pos hc] at hbn
     have ih1:=ih (pre++[p]) q s found he' (by simp; omega) hbf.2 hbn
     rw [el] at ih1
     exact ih1
   · rw [if_neg hc] at hbn
     have ih2:=ih (pre++[p]) q s (found++[q]) he' (by simp; omega) hbf.2 (by rw [← hbn]; simp)
     rw [el] at ih2
     rw [if_neg hc,zab (by omega),Int.toNat_natCast,elemP hq,zab rfl,zab (by simp; omega),zab rfl]
     have ea:rsE (found.map (·.1))++[zaa (ofP q).X]=rsE ((found++[q]).map (·.1)):=by simp only [rsE,List.map_append,List.map_cons,List.map_nil]; rfl
     rw [ea]
     exact ih2
theorem k1_no (l:List Pt) (ha:Asc l) (hl2:l.length≤410) (hb:AllF l) :
  ∀ (r pre:List Pt) (p q:Pt) (found:List Pt),l=pre++p :: q :: r→found.length≤pre.length→¬ BnF (q :: r) →
    zc2 (l.map ofP) (rsE (found.map (·.1))) (ofR (sl p q)) ((pre.length+1:Nat):Int)=some (zcz (⟨[]⟩,6)):=by
 intro r
 induction r with
 | nil =>
   intro pre p q found he hf h
   exact absurd trivial h
 | cons s r ih =>
   intro pre p q found he hf hbf
   have hlen:l.length=pre.length+3+r.length:=by rw [he]; simp; omega
   have e:w64 (((pre.length+1:Nat):Int)+1)=((pre.length+2:Nat):Int):=by rw [w64_id (by omega) (by omega)]; omega
   have hq:l[pre.length+1]?=some q:=by
    rw [he,List.getElem?_append_right (by omega),show pre.length+1 - pre.length=1 by omega]; rfl
   have hs:l[pre.length+1+1]?=some s:=by
    rw [he,List.getElem?_append_right (by omega),show pre.length+1+1 - pre.length=2 by omega]; rfl
   have he':l=(pre++[p])++q :: s :: r:=by rw [he]; simp
   refine zhK _ _ _ _ ?_
   rw [e,zaf,if_pos (by rw [lenP]; omega)]
   by_cases h1:SlF q s
   · have hbn2:¬ BnF (s :: r):=fun h2=>hbf ⟨h1,h2⟩
     rw [zlU (by omega) ha hb hq hs h1,zdd,brn_nt,zaf,if_pos (by omega)]
     show brn (!((ofR (sl q s)).Num == (ofR (sl p q)).Num && ((ofR (sl q s)).Den == (ofR (sl p q)).Den && true))) _ _=_
     rw [eqR,zly,zaf]
     have el:(pre++[p]).length+1=pre.length+2:=by simp
     have ih1:=ih (pre++[p]) q s found he' (by simp; omega) hbn2
     have ih2:=ih (pre++[p]) q s (found++[q]) he' (by simp; omega) hbn2
     rw [el] at ih1 ih2
     by_cases hc:sl q s=sl p q
     · rw [if_pos hc]
       exact ih1
     · rw [if_neg hc,zab (by omega),Int.toNat_natCast,elemP hq,zab rfl,zab (by simp; omega),zab rfl]
       have ea:rsE (found.map (·.1))++[zaa (ofP q).X]=rsE ((found++[q]).map (·.1)):=by simp only [rsE,List.map_append,List.map_cons,List.map_nil]; rfl
       rw [ea]
       exact ih2
   · rw [zrq (by omega) ha hb hq hs h1,zdd]
     rfl
theorem zpc (l:List Pt) (ha:Asc l) (hl:2≤l.length) (hl2:l.length≤410) (hb:AllF l) :
  cw ze4 [.sl 4 (ptsE l)] []=some (zcz (nfR l)):=by
 match l,ha,hl,hl2,hb with
 | p :: q :: r,ha,hl,hl2,hb =>
   refine zur ((p :: q :: r).map ofP) ?_
   have hp:(p :: q :: r)[0]?=some p:=rfl
   have hq:(p :: q :: r)[0+1]?=some q:=rfl
   refine zhK _ _ _ _ ?_
   have e:w64 ((0:Int)+1)=1:=by rw [w64_id (by omega) (by omega)]; omega
   rw [e,zaf,if_pos (by rw [lenP]; simp; omega)]
   show callD zgu (cw zgs [.sl 4 (ptsE (p :: q :: r)),I ((0:Nat):Int)] []) _=_
   by_cases h1:SlF p q
   · rw [zlU (by omega) ha hb hp hq h1,zdd,brn_nt,zaf,if_neg (by omega)]
     by_cases h2:BnF (q :: r)
     · exact k1_ok (p :: q :: r) ha hl2 hb (k1_end _ ha hl hl2 hb ⟨h1,h2⟩) r [] p q [] rfl (Nat.le_refl _) h2 rfl
     · rw [nfR_no (l:=p :: q :: r) (fun h=>h2 h.1.2)]
       exact k1_no (p :: q :: r) ha hl2 hb r [] p q [] rfl (Nat.le_refl _) h2
   · rw [zrq (by omega) ha hb hp hq h1,zdd,nfR_no (l:=p :: q :: r) (fun h=>h1 h.1.1)]
     rfl
end Go.Proofs.YtbhkcgaanaelfaaGreat
