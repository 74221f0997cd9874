/- Conversion in the reference: values and normal forms of curves of any size. -/
import Derived.Test.YtbhkcgaanaelfaaGreatJ0
import Derived.Test.YtbhkcgaanaelfaaGreatAll
import Derived.Test.YtbhkcgaanaelfaaGreatAbTop
import Derived.Sort.AssemblyPlain
namespace Go.Proofs.YtbhkcgaanaelfaaGreat
open Go.Ab Go.Pure
set_option linter.unusedSimpArgs false
set_option linter.unusedVariables false
set_option maxRecDepth 20000
noncomputable abbrev rsE (l:List Rat):List (List AV):=List.map zaa (l.map ofR)
theorem elemR {β:Type} {l:List Rat} {i:Nat} {x:Rat} (h:l[i]?=some x) (k:GRatio→Option β):elemD zaf (rsE l) i k=k (ofR x):=
 zdY (D:=zaf) (l:=l.map ofR) (by rw [List.getElem?_map,h]; rfl) k
theorem lenR (l:List Rat):(rsE l).length=l.length:=by simp
theorem zph {l:List Pt} {i:Nat} {p q:Pt} (hl:l.length≤100000) (ha:Asc l) (hb:AllF l) (hp:l[i]?=some p) (hq:l[i+1]?=some q) (hs:SlF p q) :
  cw zhN [.sl 4 (ptsE l),I (i:Int)] []=some (zmQ (ofR (sl p q),true)):=by
 have hi:i+1 < l.length:=(List.getElem?_eq_some_iff.1 hq).1
 have e:w64 ((i:Int)+1)=((i+1:Nat):Int):=by rw [w64_id (by omega) (by omega)]; omega
 have bp:=hb p (List.mem_of_getElem? hp)
 have bq:=hb q (List.mem_of_getElem? hq)
 have hlt:=(zgs ha hp hq).1
 refine ztZ (l.map ofP) (i:Int) ?_
 rw [e]
 simp only [Int.toNat_natCast]
 rw [zac (by omega),elemP hq,zac (by omega),elemP hp]
 show callD zc5 (cw zdp [aR q.2,aR p.2] []) _=_
 rw [zlV _ _ bq.2 bp.2,zdF,zac (by omega),elemP hq,zac (by omega),elemP hp]
 show callD zc5 (cw zdp [aR q.1,aR p.1] []) _=_
 rw [zlV _ _ bq.1 bp.1,zdF,zbI hs.1,zbI hs.2.1,brn_f (by rfl),brn_f (by rfl)]
 show callD zg2 (cw ziq [aR (q.2 - p.2),aR (q.1 - p.1)] []) _=_
 have hd:Fit ((q.2 - p.2) / (q.1 - p.1)):=hs.2.2
 rw [zvp _ _ hs.1 hs.2.1 (by grind),zkM,zbI hd]
 rfl
theorem zu0 {l:List Pt} {i:Nat} {p q:Pt} (hl:l.length≤100000) (ha:Asc l) (hb:AllF l) (hp:l[i]?=some p) (hq:l[i+1]?=some q) (hs:¬ SlF p q) :
  cw zhN [.sl 4 (ptsE l),I (i:Int)] []=some (zmQ (⟨0,0⟩,false)):=by
 have hi:i+1 < l.length:=(List.getElem?_eq_some_iff.1 hq).1
 have e:w64 ((i:Int)+1)=((i+1:Nat):Int):=by rw [w64_id (by omega) (by omega)]; omega
 have bp:=hb p (List.mem_of_getElem? hp)
 have bq:=hb q (List.mem_of_getElem? hq)
 have hlt:=(zgs ha hp hq).1
 refine ztZ (l.map ofP) (i:Int) ?_
 rw [e]
 simp only [Int.toNat_natCast]
 rw [zac (by omega),elemP hq,zac (by omega),elemP hp]
 show callD zc5 (cw zdp [aR q.2,aR p.2] []) _=_
 rw [zlV _ _ bq.2 bp.2,zdF,zac (by omega),elemP hq,zac (by omega),elemP hp]
 show callD zc5 (cw zdp [aR q.1,aR p.1] []) _=_
 rw [zlV _ _ bq.1 bp.1,zdF]
 by_cases h1:Fit (q.2 - p.2)
 · rw [zbI h1,brn_f (by rfl)]
   by_cases h2:Fit (q.1 - p.1)
   · rw [zbI h2,brn_f (by rfl)]
     show callD zg2 (cw ziq [aR (q.2 - p.2),aR (q.1 - p.1)] []) _=_
     have hd:¬ Fit ((q.2 - p.2) / (q.1 - p.1)):=fun h3=>hs ⟨h1,h2,h3⟩
     rw [zvp _ _ h1 h2 (by grind),zkM,zd8 hd]
     rfl
   · rw [zd8 h2]
     rfl
 · rw [zd8 h1]
   rfl
theorem zyR {l:List Pt} {i:Nat} {p q:Pt} {x:Rat} (hl:l.length≤100000) (ha:Asc l) (hb:AllF l) (hx:Fit x) (hp:l[i]?=some p) (hq:l[i+1]?=some q) :
  (LnF p q x→zeW (l.map ofP) (ofR x) (i:Int)=some (zfB (ofR (ln p (sl p q) x),true)))∧(¬ LnF p q x→zeW (l.map ofP) (ofR x) (i:Int)=some (zfB (⟨0,0⟩,false))):=by
 have hi:i+1 < l.length:=(List.getElem?_eq_some_iff.1 hq).1
 have bp:=hb p (List.mem_of_getElem? hp)
 have bq:=hb q (List.mem_of_getElem? hq)
 refine ⟨fun h=>?_,fun h=>?_⟩
 · refine zpq _ _ _ ?_
   rw [zph hl ha hb hp hq h.1,zds,zac (by omega),Int.toNat_natCast,elemP hp]
   show callD zc5 (cw zdp [aR x,aR p.1] []) _=_
   rw [zlV _ _ hx bp.1,zdF,zbI h.2.1,brn_f (by rfl),brn_f (by rfl)]
   show callD zif (cw zib [aR (x - p.1),aR (sl p q)] []) _=_
   rw [zsk _ _ h.2.1 h.1.2.2,zhZ,zbI h.2.2.1,brn_f (by rfl),zac (by omega),elemP hp]
   show callD zd5 (cw zeB [aR p.2,aR ((x - p.1)*sl p q)] []) _=_
   have h4:Fit (p.2+(x - p.1)*sl p q):=h.2.2.2
   rw [zoP _ _ bp.2 h.2.2.1,zes,zbI h4]
   rfl
 · refine zpq _ _ _ ?_
   by_cases h1:SlF p q
   · rw [zph hl ha hb hp hq h1,zds,zac (by omega),Int.toNat_natCast,elemP hp]
     show callD zc5 (cw zdp [aR x,aR p.1] []) _=_
     rw [zlV _ _ hx bp.1,zdF,brn_f (by rfl)]
     by_cases h2:Fit (x - p.1)
     · rw [zbI h2,brn_f (by rfl)]
       show callD zif (cw zib [aR (x - p.1),aR (sl p q)] []) _=_
       rw [zsk _ _ h2 h1.2.2,zhZ]
       by_cases h3:Fit ((x - p.1)*sl p q)
       · rw [zbI h3,brn_f (by rfl),zac (by omega),elemP hp]
         show callD zd5 (cw zeB [aR p.2,aR ((x - p.1)*sl p q)] []) _=_
         have h4:¬ Fit (p.2+(x - p.1)*sl p q):=fun h4=>h ⟨h1,h2,h3,h4⟩
         rw [zoP _ _ bp.2 h3,zes,zd8 h4]
         rfl
       · rw [zd8 h3]
         rfl
     · rw [zd8 h2]
       rfl
   · rw [zu0 hl ha hb hp hq h1,zds,zac (by omega),Int.toNat_natCast,elemP hp]
     show callD zc5 (cw zdp [aR x,aR p.1] []) _=_
     rw [zlV _ _ hx bp.1,zdF]
     rfl
theorem k_rvalue {l:List Pt} {x:Rat} (hl:l.length≤100000) (h2:2≤l.length) (ha:Asc l) (hb:AllF l) (hx:Fit x):∀ (k i:Nat),i+2+k=l.length→(i=0∨∃ p,l[i]?=some p∧p.1 < x) →
  (EvF l x→zep (l.map ofP) (ofR x) (i:Int)=some (zfB (ofR (cv l x),true)))∧(¬ EvF l x→zep (l.map ofP) (ofR x) (i:Int)=some (zfB (⟨0,0⟩,false))):=by
 intro k
 induction k with
 | zero =>
   intro i hk hi
   have e:w64 ((i:Int)+2)=((i+2:Nat):Int):=by rw [w64_id (by omega) (by omega)]; omega
   have hp:l[i]?=some l[i]:=List.getElem?_eq_getElem (by omega)
   have hq:l[i+1]?=some l[i+1]:=List.getElem?_eq_getElem (by omega)
   have hpc:=pc_at l i x l[i] l[i+1] ha hp hq (by
    rcases hi with hi | ⟨p,h1,h2⟩
    · exact .inl hi
    · rw [hp] at h1; injection h1 with h1; rw [h1]; exact .inr h2) (.inl (by omega))
   have hv:=cv_pc l x h2
   have H:=zyR hl ha hb hx hp hq
   unfold EvF
   rw [hv,hpc]
   refine ⟨fun h=>?_,fun h=>?_⟩
   · refine zkS _ _ _ ?_
     rw [e,zad,if_neg (by rw [lenP]; omega)]
     exact H.1 h
   · refine zkS _ _ _ ?_
     rw [e,zad,if_neg (by rw [lenP]; omega)]
     exact H.2 h
 | succ k ih =>
   intro i hk hi
   have e:w64 ((i:Int)+2)=((i+2:Nat):Int):=by rw [w64_id (by omega) (by omega)]; omega
   have e1:w64 ((i:Int)+1)=((i+1:Nat):Int):=by rw [w64_id (by omega) (by omega)]; omega
   have hp:l[i]?=some l[i]:=List.getElem?_eq_getElem (by omega)
   have hq:l[i+1]?=some l[i+1]:=List.getElem?_eq_getElem (by omega)
   have bq:=hb _ (List.mem_of_getElem? hq)
   by_cases hlt:(l[i+1]).1 < x
   · have IH:=ih (i+1) (by omega) (.inr ⟨_,hq,hlt⟩)
     have st:∀ y,zep (l.map ofP) (ofR x) ((i+1:Nat):Int)=some y→zep (l.map ofP) (ofR x) (i:Int)=some y:=fun y h=>by
      refine zkS _ _ _ ?_
      rw [e,zad,if_pos (by rw [lenP]; omega),e1,zac (by omega),Int.toNat_natCast,elemP hq]
      show callD zeA (cw zfo [aR (l[i+1]).1,aR x] []) _=_
      rw [zq9 _ _ bq.1 hx,zhd,decide_eq_true hlt,zaG]
      exact h
     exact ⟨fun h=>st _ (IH.1 h),fun h=>st _ (IH.2 h)⟩
   · have hpc:=pc_at l i x l[i] l[i+1] ha hp hq (by
      rcases hi with hi | ⟨p,h1,h2⟩
      · exact .inl hi
      · rw [hp] at h1; injection h1 with h1; rw [h1]; exact .inr h2) (.inr (by grind))
     have hv:=cv_pc l x h2
     have H:=zyR hl ha hb hx hp hq
     have st:∀ y,zeW (l.map ofP) (ofR x) (i:Int)=some y→zep (l.map ofP) (ofR x) (i:Int)=some y:=fun y h=>by
      refine zkS _ _ _ ?_
      rw [e,zad,if_pos (by rw [lenP]; omega),e1,zac (by omega),Int.toNat_natCast,elemP hq]
      show callD zeA (cw zfo [aR (l[i+1]).1,aR x] []) _=_
      rw [zq9 _ _ bq.1 hx,zhd,decide_eq_false hlt,zat]
      exact h
     unfold EvF
     rw [hv,hpc]
     exact ⟨fun h=>st _ (H.1 h),fun h=>st _ (H.2 h)⟩
theorem zlA (l:List Pt) (x:Rat) (ha:Asc l) (h2:2≤l.length) (hl:l.length≤100000) (hb:AllF l) (hx:Fit x) (he:EvF l x) :
  cw zcF [.sl 4 (ptsE l),aR x] []=some (zfB (ofR (cv l x),true)):=
 ztS _ _ ((k_rvalue hl h2 ha hb hx (l.length - 2) 0 (by omega) (.inl rfl)).1 he)
theorem zlz (l:List Pt) (x:Rat) (ha:Asc l) (h2:2≤l.length) (hl:l.length≤100000) (hb:AllF l) (hx:Fit x) (he:¬ EvF l x) :
  cw zcF [.sl 4 (ptsE l),aR x] []=some (zfB (⟨0,0⟩,false)):=
 ztS _ _ ((k_rvalue hl h2 ha hb hx (l.length - 2) 0 (by omega) (.inl rfl)).2 he)
theorem step_ok {x:Rat} {n:Int} (hx:Fit x) (hn:Fit (n:Rat)) (h:Fit (x+(n:Rat))):cw zlr [aR x,I n] []=some (znM (ofR (x+(n:Rat)),true)):=by
 refine zuw _ _ ?_
 show callD zd5 (cw zeB [aR x,aR (n:Rat)] []) _=_
 rw [zoP _ _ hx hn,zes,zbI h]
 rfl
theorem step_no {x:Rat} {n:Int} (hx:Fit x) (hn:Fit (n:Rat)) (h:¬ Fit (x+(n:Rat))):cw zlr [aR x,I n] []=some (znM (⟨0,0⟩,false)):=by
 refine zuw _ _ ?_
 show callD zd5 (cw zeB [aR x,aR (n:Rat)] []) _=_
 rw [zoP _ _ hx hn,zes,zd8 h]
 rfl
section
variable {l:List Pt} {xs:List Rat}
theorem k3_end (hl:l.length≤100000) (hx:xs.length≤100000) {out:List Pt} {i:Nat} {x:Rat} (hi:xs[i]?=some x) (hend:i=0∨i+1=xs.length) (ho:out.length≤100000) (v:Rat) {y:AV×Mem}
  (K:zby (l.map ofP) (rsE xs) (ptsE (out++[(x,v)])) ((i+1:Nat):Int)=some y) :
  ∀ (n k:Nat),k+n=l.length→zda (l.map ofP) (rsE xs) (ptsE out) (i:Int) (ofR v) true (k:Int)=some y:=by
 have hil:i < xs.length:=(List.getElem?_eq_some_iff.1 hi).1
 have ei:w64 ((i:Int)+1)=((i+1:Nat):Int):=by rw [w64_id (by omega) (by omega)]; omega
 intro n
 induction n with
 | zero =>
   intro k hk
   refine zfQ _ _ _ _ _ _ _ ?_
   rw [zad,if_neg (by rw [lenP]; omega),brn_nt,zac (by omega),zac (by rw [lenR]; omega),Nat.zero_add,Int.toNat_natCast,elemR hi,zac rfl,zac (by rw [lenP]; omega),ei]
   have:ptsE out++[zag ⟨⟨(ofR x).Num,(ofR x).Den⟩,⟨(ofR v).Num,(ofR v).Den⟩⟩]=ptsE (out++[(x,v)]):=by simp only [ptsE,List.map_append,List.map_cons,List.map_nil]; rfl
   rw [this]
   exact K
 | succ n ih =>
   intro k hk
   have ek:w64 ((k:Int)+1)=((k+1:Nat):Int):=by rw [w64_id (by omega) (by omega)]; omega
   have hp:l[k]?=some l[k]:=List.getElem?_eq_getElem (by omega)
   have IH:=ih (k+1) (by omega)
   refine zfQ _ _ _ _ _ _ _ ?_
   rw [zad,if_pos (by rw [lenP]; omega),zac (by omega),Int.toNat_natCast,elemP hp,zac (by omega),zac (by rw [lenR]; omega),Nat.zero_add,Int.toNat_natCast,elemR hi,ei,ek]
   rw [zvu]
   split
   · rw [zad]
     split
     · rw [zad,if_neg (by rw [lenR]; omega)]
       exact IH
     · exact IH
   · exact IH
theorem k3_fail (hl:l.length≤100000) (hx:xs.length≤100000) {out:List Pt} {i:Nat} {x:Rat} (hi:xs[i]?=some x) (hend:i=0∨i+1=xs.length) (v:GRatio) :
  ∀ (n k:Nat),k+n=l.length→zda (l.map ofP) (rsE xs) (ptsE out) (i:Int) v false (k:Int)=some (zcG (⟨[]⟩,6)):=by
 have hil:i < xs.length:=(List.getElem?_eq_some_iff.1 hi).1
 have ei:w64 ((i:Int)+1)=((i+1:Nat):Int):=by rw [w64_id (by omega) (by omega)]; omega
 intro n
 induction n with
 | zero =>
   intro k hk
   refine zfQ _ _ _ _ _ _ _ ?_
   rw [zad,if_neg (by rw [lenP]; omega),brn_nf]
   rfl
 | succ n ih =>
   intro k hk
   have ek:w64 ((k:Int)+1)=((k+1:Nat):Int):=by rw [w64_id (by omega) (by omega)]; omega
   have hp:l[k]?=some l[k]:=List.getElem?_eq_getElem (by omega)
   have IH:=ih (k+1) (by omega)
   refine zfQ _ _ _ _ _ _ _ ?_
   rw [zad,if_pos (by rw [lenP]; omega),zac (by omega),Int.toNat_natCast,elemP hp,zac (by omega),zac (by rw [lenR]; omega),Nat.zero_add,Int.toNat_natCast,elemR hi,ei,ek]
   rw [zvu]
   split
   · rw [zad]
     split
     · rw [zad,if_neg (by rw [lenR]; omega)]
       exact IH
     · exact IH
   · exact IH
theorem k3_in (hl:l.length≤100000) (hx:xs.length≤100000) (ha:Asc l) {out:List Pt} {i m:Nat} {p:Pt} (hi:xs[i]?=some p.1) (h0:0 < i) (h1:i+1 < xs.length) (hm:l[m]?=some p) (ho:out.length≤100000) {y:AV×Mem}
  (K:zby (l.map ofP) (rsE xs) (ptsE (out++[p])) ((i+1:Nat):Int)=some y) :
  ∀ (n k:Nat) (v:GRatio) (b:Bool),k+n=l.length→(k≤m∨(v=ofR p.2∧b=true))→zda (l.map ofP) (rsE xs) (ptsE out) (i:Int) v b (k:Int)=some y:=by
 have ei:w64 ((i:Int)+1)=((i+1:Nat):Int):=by rw [w64_id (by omega) (by omega)]; omega
 have hml:m < l.length:=(List.getElem?_eq_some_iff.1 hm).1
 intro n
 induction n with
 | zero =>
   intro k v b hk hv
   rcases hv with hv | ⟨rfl,rfl⟩
   · omega
   refine zfQ _ _ _ _ _ _ _ ?_
   rw [zad,if_neg (by rw [lenP]; omega),brn_nt,zac (by omega),zac (by rw [lenR]; omega),Nat.zero_add,Int.toNat_natCast,elemR hi,zac rfl,zac (by rw [lenP]; omega),ei]
   have:ptsE out++[zag ⟨⟨(ofR p.1).Num,(ofR p.1).Den⟩,⟨(ofR p.2).Num,(ofR p.2).Den⟩⟩]=ptsE (out++[p]):=by simp only [ptsE,List.map_append,List.map_cons,List.map_nil]; rfl
   rw [this]
   exact K
 | succ n ih =>
   intro k v b hk hv
   have ek:w64 ((k:Int)+1)=((k+1:Nat):Int):=by rw [w64_id (by omega) (by omega)]; omega
   have hp:l[k]?=some l[k]:=List.getElem?_eq_getElem (by omega)
   refine zfQ _ _ _ _ _ _ _ ?_
   rw [zad,if_pos (by rw [lenP]; omega),zac (by omega),Int.toNat_natCast,elemP hp,zac (by omega),zac (by rw [lenR]; omega),Nat.zero_add,Int.toNat_natCast,elemR hi,ei,ek]
   have eq1:((ofP l[k]).X.Num == (ofR p.1).Num && ((ofP l[k]).X.Den == (ofR p.1).Den && true))=decide ((l[k]).1=p.1):=eqR (l[k]).1 p.1
   rw [eq1,zad]
   by_cases hkm:(l[k]).1=p.1
   · have hke:k=m:=by
      rcases Nat.lt_trichotomy k m with h | h | h
      · have:=(List.pairwise_iff_getElem.1 ha k m (by omega) hml h).1
        rw [(List.getElem?_eq_some_iff.1 hm).2,hkm] at this
        grind
      · exact h
      · have:=(List.pairwise_iff_getElem.1 ha m k hml (by omega) h).1
        rw [(List.getElem?_eq_some_iff.1 hm).2,hkm] at this
        grind
     subst hke
     have hpe:l[k]=p:=(List.getElem?_eq_some_iff.1 hm).2
     rw [if_pos hkm,zad,if_pos (by omega),zad,if_pos (by rw [lenR]; omega),zac (by omega),elemP hp]
     exact ih (k+1) _ _ (by omega) (.inr ⟨by rw [hpe]; rfl,rfl⟩)
   · rw [if_neg hkm]
     refine ih (k+1) v b (by omega) ?_
     rcases hv with hv | hv
     · left
       rcases Nat.lt_or_eq_of_le hv with h | h
       · omega
       · subst h
         exact absurd (by rw [(List.getElem?_eq_some_iff.1 hm).2]) hkm
     · exact .inr hv
end
end Go.Proofs.YtbhkcgaanaelfaaGreat
namespace Go.Proofs.YtbhkcgaanaelfaaGreat
open Go.Ab Go.Pure
set_option linter.unusedSimpArgs false
set_option linter.unusedVariables false
set_option maxRecDepth 20000
def nfX (l:List Pt) (u v:Rat):List Rat:=u :: ((bn l).map (·.1)++[v])
theorem zhJ (l:List Pt) (u v:Rat):(nfX l u v).length=(bn l).length+2:=by simp [nfX]
theorem nfX_mid {l:List Pt} {u v:Rat} {j:Nat} {p:Pt} (h:(bn l)[j]?=some p):(nfX l u v)[j+1]?=some p.1:=by
 have hj:j < (bn l).length:=(List.getElem?_eq_some_iff.1 h).1
 unfold nfX
 rw [List.getElem?_cons_succ,List.getElem?_append_left (by simpa using hj),List.getElem?_map,h]
 rfl
theorem nfX_last (l:List Pt) (u v:Rat):(nfX l u v)[(bn l).length+1]?=some v:=by
 unfold nfX
 rw [List.getElem?_cons_succ,List.getElem?_append_right (by simp)]
 simp
theorem k2_end {l:List Pt} {u v:Rat} (hl2:l.length≤410) (hl:2≤l.length) :
  zby (l.map ofP) (rsE (nfX l u v)) (ptsE ((u,cv l u) :: (bn l++[(v,cv l v)]))) (((bn l).length+2:Nat):Int)=some (zcG (⟨((u,cv l u) :: (bn l++[(v,cv l v)])).map ofP⟩,0)):=by
 have hlen:=bn_len l hl
 refine zhk _ _ _ _ ?_
 rw [zad,if_neg (by rw [lenR,zhJ]; omega),zad,if_neg (by rw [lenP]; simp; omega),zac (by omega),List.take_length]
 rfl
theorem k2_mid {l:List Pt} {u v:Rat} (ha:Asc l) (hl:2≤l.length) (hl2:l.length≤410) (hb:AllF l) {y:AV×Mem}
  (K:zby (l.map ofP) (rsE (nfX l u v)) (ptsE ((u,cv l u) :: bn l)) (((bn l).length+1:Nat):Int)=some y) :
  ∀ (m j:Nat),j+m=(bn l).length→zby (l.map ofP) (rsE (nfX l u v)) (ptsE ((u,cv l u) :: (bn l).take j)) ((j+1:Nat):Int)=some y:=by
 have hlen:=bn_len l hl
 intro m
 induction m with
 | zero =>
   intro j hj
   rw [show j=(bn l).length by omega,List.take_length]
   exact K
 | succ m ih =>
   intro j hj
   have hp:(bn l)[j]?=some (bn l)[j]:=List.getElem?_eq_getElem (by omega)
   have hx:=nfX_mid (u:=u) (v:=v) hp
   have hin:(bn l)[j]∈l:=(bn_sub l).subset (List.getElem_mem _)
   obtain ⟨k,hk⟩:=List.getElem?_of_mem hin
   have hf:=hb _ hin
   have IH:=ih (j+1) (by omega)
   rw [List.take_add_one,hp,← List.cons_append] at IH
   have hol:((u,cv l u) :: (bn l).take j).length≤100000:=by simp; omega
   have R:=k3_in (xs:=nfX l u v) (out:=(u,cv l u) :: (bn l).take j) (y:=y) (by omega) (by rw [zhJ]; omega) ha hx (by omega) (by rw [zhJ]; omega) hk hol IH l.length 0
   refine zhk _ _ _ _ ?_
   rw [zad,if_pos (by rw [lenR,zhJ]; omega),zac (by omega),zac (by rw [lenR,zhJ]; omega),Nat.zero_add,Int.toNat_natCast,elemR hx]
   by_cases he:EvF l (bn l)[j].1
   · rw [zlA l _ ha hl (by omega) hb hf.1 he,zbr]
     exact R _ _ (by omega) (.inl (by omega))
   · rw [zlz l _ ha hl (by omega) hb hf.1 he,zbr]
     exact R _ _ (by omega) (.inl (by omega))
theorem k2_all {l:List Pt} {u v:Rat} (ha:Asc l) (hl:2≤l.length) (hl2:l.length≤410) (hb:AllF l) (hu:Fit u) (hv:Fit v) :
  zby (l.map ofP) (rsE (nfX l u v)) [] 0=@ite (Option (AV×Mem)) (EvF l u∧EvF l v) (Classical.propDecidable _) (some (zcG (⟨((u,cv l u) :: (bn l++[(v,cv l v)])).map ofP⟩,0))) (some (zcG (⟨[]⟩,6))):=by
 have hlen:=bn_len l hl
 have h0:(nfX l u v)[0]?=some u:=rfl
 have hz:=nfX_last l u v
 have hzl:(nfX l u v).length=(bn l).length+2:=zhJ l u v
 by_cases h1:EvF l u
 ·
  have last:∀ y,((EvF l v→some y=some (zcG (⟨((u,cv l u) :: (bn l++[(v,cv l v)])).map ofP⟩,0)))∧(¬ EvF l v→some y=some (zcG (⟨[]⟩,6)))) →
    zby (l.map ofP) (rsE (nfX l u v)) (ptsE ((u,cv l u) :: bn l)) (((bn l).length+1:Nat):Int)=some y:=fun y hy=>by
   refine zhk _ _ _ _ ?_
   rw [zad,if_pos (by rw [lenR,zhJ]; omega),zac (by omega),zac (by rw [lenR,zhJ]; omega),Nat.zero_add,Int.toNat_natCast,elemR hz]
   by_cases h2:EvF l v
   · rw [zlA l _ ha hl (by omega) hb hv h2,zbr]
     have K:=k2_end (l:=l) (u:=u) (v:=v) hl2 hl
     rw [← hy.1 h2,← List.cons_append] at K
     exact k3_end (xs:=nfX l u v) (out:=(u,cv l u) :: bn l) (by omega) (by omega) hz (.inr (by omega)) (by simp; omega) (cv l v) K l.length 0 (by omega)
   · rw [zlz l _ ha hl (by omega) hb hv h2,zbr]
     rw [hy.2 h2]
     exact k3_fail (xs:=nfX l u v) (out:=(u,cv l u) :: bn l) (by omega) (by omega) hz (.inr (by omega)) ⟨0,0⟩ l.length 0 (by omega)
  have first:∀ y,zby (l.map ofP) (rsE (nfX l u v)) (ptsE ((u,cv l u) :: bn l)) (((bn l).length+1:Nat):Int)=some y→zby (l.map ofP) (rsE (nfX l u v)) [] 0=some y:=fun y hy=>by
   refine zhk _ _ _ _ ?_
   rw [zad,if_pos (by rw [lenR,zhJ]; omega),zac (by omega),zac (by rw [lenR,zhJ]; omega),Nat.zero_add,show (0:Int).toNat=0 from rfl,elemR h0,zlA l _ ha hl (by omega) hb hu h1,zbr]
   have K:=k2_mid (u:=u) (v:=v) ha hl hl2 hb hy (bn l).length 0 (by omega)
   exact k3_end (xs:=nfX l u v) (out:=[]) (i:=0) (by omega) (by omega) h0 (.inl rfl) (by simp) (cv l u) K l.length 0 (by omega)
  by_cases h2:EvF l v
  · rw [if_pos ⟨h1,h2⟩]
    exact first _ (last _ ⟨fun _=>rfl,fun h=>absurd h2 h⟩)
  · rw [if_neg (fun h=>h2 h.2)]
    exact first _ (last _ ⟨fun h=>absurd h h2,fun _=>rfl⟩)
 · rw [if_neg (fun h=>h1 h.1)]
   refine zhk _ _ _ _ ?_
   rw [zad,if_pos (by rw [lenR,zhJ]; omega),zac (by omega),zac (by rw [lenR,zhJ]; omega),Nat.zero_add,show (0:Int).toNat=0 from rfl,elemR h0,zlz l _ ha hl (by omega) hb hu h1,zbr]
   exact k3_fail (xs:=nfX l u v) (out:=[]) (i:=0) (by omega) (by omega) h0 (.inl rfl) ⟨0,0⟩ l.length 0 (by omega)
theorem sub_one (x:Rat):x+((-1:Int):Rat)=x - ((1:Int):Rat):=by
 have:((-1:Int):Rat)=-((1:Int):Rat):=by rfl
 rw [this]; grind
theorem fit_m1:Fit ((-1:Int):Rat):=by decide
theorem k1_end (l:List Pt) (ha:Asc l) (hl:2≤l.length) (hl2:l.length≤410) (hb:AllF l) (h0:BnF l) (s:GRatio) :
  zdc (l.map ofP) (rsE ((bn l).map (·.1))) s ((l.length - 1:Nat):Int)=some (zcG (nfR l)):=by
 have hlen:=bn_len l hl
 have hbs:AllF (bn l):=fun p hp=>hb p ((bn_sub l).subset hp)
 have e:w64 (((l.length - 1:Nat):Int)+1)=(l.length:Int):=by rw [w64_id (by omega) (by omega)]; omega
 have hxl:(rsE ((bn l).map (·.1))).length=(bn l).length:=by simp
 refine zjs _ _ _ _ ?_
 rw [e,zad,if_neg (by rw [lenP]; omega),zad,hxl]
 have tail:∀ u v,Fit u→Fit v→u=lf (bn l)→v=rt (bn l)→zby (l.map ofP) (rsE (nfX l u v)) [] 0=some (zcG (nfR l)):=fun u v hu hv eu ev=>by
  rw [k2_all ha hl hl2 hb hu hv]
  by_cases h3:EvF l u∧EvF l v
  · rw [if_pos h3,nfR_ok ⟨h0,by rw [← eu]; exact hu,by rw [← ev]; exact hv,by rw [← eu]; exact h3.1,by rw [← ev]; exact h3.2⟩]
    unfold nf
    rw [eu,ev]
  · rw [if_neg h3,nfR_no (fun h=>h3 ⟨by rw [eu]; exact h.2.2.2.1,by rw [ev]; exact h.2.2.2.2⟩)]
 by_cases hne:bn l=[]
 · rw [if_neg (by rw [hne]; simp)]
   refine zsp _ _ ?_
   have ex:(rsE ((bn l).map (·.1)))=[]:=by rw [hne]; rfl
   rw [ex]
   have:=tail ((0:Int):Rat) ((1:Int):Rat) fit_0 fit_1 (by rw [hne]; rfl) (by rw [hne]; rfl)
   have e2:nfX l ((0:Int):Rat) ((1:Int):Rat)=[((0:Int):Rat),((1:Int):Rat)]:=by unfold nfX; rw [hne]; rfl
   rw [e2] at this
   rw [zac (by simp),zac rfl,zac (by simp),zac rfl,zac (by simp),zac rfl]
   exact this
 · obtain ⟨a,t,hat⟩:=List.exists_cons_of_ne_nil hne
   have hpos:0 < (bn l).length:=List.length_pos_iff.2 hne
   have hA:((bn l).map (·.1))[0]?=some a.1:=by rw [hat]; rfl
   have hZ:((bn l).map (·.1))[(bn l).length - 1]?=some ((bn l).getLast hne).1:=by rw [List.getElem?_map,← List.getLast?_eq_getElem?,List.getLast?_eq_some_getLast hne]; rfl
   have ba:=hbs a (by rw [hat]; simp)
   have bz:=hbs _ (List.getLast_mem hne)
   have elf:lf (bn l)=a.1 - ((1:Int):Rat):=lf_head hat
   have ert:rt (bn l)=((bn l).getLast hne).1+((1:Int):Rat):=rt_last _ hne
   have ez:w64 ((((bn l).length:Nat):Int) - 1)=(((bn l).length - 1:Nat):Int):=by rw [w64_id (by omega) (by omega)]; omega
   rw [if_pos (by omega),zac (by omega),zac (by omega),show (0:Nat)+Int.toNat 0=0 from rfl,elemR hA]
   by_cases h1:Fit (a.1+((-1:Int):Rat))
   · rw [step_ok ba.1 fit_m1 h1,zfL,ez,zac (by omega),zac (by omega),Nat.zero_add,Int.toNat_natCast,elemR hZ]
     by_cases h2:Fit (((bn l).getLast hne).1+((1:Int):Rat))
     · rw [step_ok bz.1 fit_1 h2,zfL,brn_f (by rfl),brn_f (by rfl)]
       refine zua _ _ _ _ ?_
       rw [List.take_length,hxl,zac (by omega),zac rfl,zac (by omega),zac rfl,zac (by simp; omega),zac rfl]
       have e3:=sub_one a.1
       have:=tail (a.1+((-1:Int):Rat)) (((bn l).getLast hne).1+((1:Int):Rat)) h1 h2 (by rw [elf,e3]) ert.symm
       have e2:[zaa (ofR (a.1+((-1:Int):Rat)))]++rsE ((bn l).map (·.1))++[zaa (ofR (((bn l).getLast hne).1+((1:Int):Rat)))]=rsE (nfX l (a.1+((-1:Int):Rat)) (((bn l).getLast hne).1+((1:Int):Rat))):=by
        simp only [rsE,nfX,List.map_append,List.map_cons,List.map_nil,List.cons_append,List.nil_append]
       rw [← e2] at this
       exact this
     · rw [step_no bz.1 fit_1 h2,zfL,brn_f (by rfl),brn_t (by rfl),nfR_no (fun h=>h2 (by rw [← ert]; exact h.2.2.1))]
       rfl
   · have hn:¬ NfF l:=fun h=>h1 (by rw [sub_one,← elf]; exact h.2.1)
     rw [step_no ba.1 fit_m1 h1,zfL,ez,zac (by omega),zac (by omega),Nat.zero_add,Int.toNat_natCast,elemR hZ,nfR_no hn]
     by_cases h2:Fit (((bn l).getLast hne).1+((1:Int):Rat))
     · rw [step_ok bz.1 fit_1 h2,zfL,brn_t (by rfl)]
       rfl
     · rw [step_no bz.1 fit_1 h2,zfL,brn_t (by rfl)]
       rfl
theorem k1_ok (l:List Pt) (ha:Asc l) (hl2:l.length≤410) (hb:AllF l) {y:AV×Mem} (K:∀ s,zdc (l.map ofP) (rsE ((bn l).map (·.1))) s ((l.length - 1:Nat):Int)=some y) :
  ∀ (r pre:List Pt) (p q:Pt) (found:List Pt),l=pre++p :: q :: r→found.length≤pre.length→BnF (q :: r)→found++bn (p :: q :: r)=bn l →
    zdc (l.map ofP) (rsE (found.map (·.1))) (ofR (sl p q)) ((pre.length+1:Nat):Int)=some y:=by
 intro r
 induction r with
 | nil =>
   intro pre p q found he hf _ hbn
   have hlen:l.length=pre.length+2:=by rw [he]; simp
   have:found=bn l:=by rw [← hbn]; simp [bn]
   rw [this]
   have K':=K (ofR (sl p q))
   rw [hlen] at K'
   exact K'
 | cons s r ih =>
   intro pre p q found he hf hbf hbn
   have hlen:l.length=pre.length+3+r.length:=by rw [he]; simp; omega
   have e:w64 (((pre.length+1:Nat):Int)+1)=((pre.length+2:Nat):Int):=by rw [w64_id (by omega) (by omega)]; omega
   have hq:l[pre.length+1]?=some q:=by
    rw [he,List.getElem?_append_right (by omega),show pre.length+1 - pre.length=1 by omega]; rfl
   have hs:l[pre.length+1+1]?=some s:=by
    rw [he,List.getElem?_append_right (by omega),show pre.length+1+1 - pre.length=2 by omega]; rfl
   have he':l=(pre++[p])++q :: s :: r:=by rw [he]; simp
   refine zjs _ _ _ _ ?_
   rw [e,zad,if_pos (by rw [lenP]; omega),zph (by omega) ha hb hq hs hbf.1,zds,brn_nt,zad,if_pos (by omega)]
   show brn (!((ofR (sl q s)).Num == (ofR (sl p q)).Num && ((ofR (sl q s)).Den == (ofR (sl p q)).Den && true))) _ _=_
   rw [eqR,zoR,zad]
   have el:(pre++[p]).length+1=pre.length+2:=by simp
   have hb2:bn (p :: q :: s :: r)=if sl q s=sl p q then bn (q :: s :: r) else q :: bn (q :: s :: r):=rfl
   rw [hb2] at hbn
   by_cases hc:sl q s=sl p q
   · rw [if_pos hc]
     rw [if_pos hc] at hbn
     have ih1:=ih (pre++[p]) q s found he' (by simp; omega) hbf.2 hbn
     rw [el] at ih1
     exact ih1
   · rw [if_neg hc] at hbn
     have ih2:=ih (pre++[p]) q s (found++[q]) he' (by simp; omega) hbf.2 (by rw [← hbn]; simp)
     rw [el] at ih2
     rw [if_neg hc,zac (by omega),Int.toNat_natCast,elemP hq,zac rfl,zac (by simp; omega),zac rfl]
     have ea:rsE (found.map (·.1))++[zaa (ofP q).X]=rsE ((found++[q]).map (·.1)):=by simp only [rsE,List.map_append,List.map_cons,List.map_nil]; rfl
     rw [ea]
     exact ih2
theorem k1_no (l:List Pt) (ha:Asc l) (hl2:l.length≤410) (hb:AllF l) :
  ∀ (r pre:List Pt) (p q:Pt) (found:List Pt),l=pre++p :: q :: r→found.length≤pre.length→¬ BnF (q :: r) →
    zdc (l.map ofP) (rsE (found.map (·.1))) (ofR (sl p q)) ((pre.length+1:Nat):Int)=some (zcG (⟨[]⟩,6)):=by
 intro r
 induction r with
 | nil =>
   intro pre p q found he hf h
   exact absurd trivial h
 | cons s r ih =>
   intro pre p q found he hf hbf
   have hlen:l.length=pre.length+3+r.length:=by rw [he]; simp; omega
   have e:w64 (((pre.length+1:Nat):Int)+1)=((pre.length+2:Nat):Int):=by rw [w64_id (by omega) (by omega)]; omega
   have hq:l[pre.length+1]?=some q:=by
    rw [he,List.getElem?_append_right (by omega),show pre.length+1 - pre.length=1 by omega]; rfl
   have hs:l[pre.length+1+1]?=some s:=by
    rw [he,List.getElem?_append_right (by omega),show pre.length+1+1 - pre.length=2 by omega]; rfl
   have he':l=(pre++[p])++q :: s :: r:=by rw [he]; simp
   refine zjs _ _ _ _ ?_
   rw [e,zad,if_pos (by rw [lenP]; omega)]
   by_cases h1:SlF q s
   · have hbn2:¬ BnF (s :: r):=fun h2=>hbf ⟨h1,h2⟩
     rw [zph (by omega) ha hb hq hs h1,zds,brn_nt,zad,if_pos (by omega)]
     show brn (!((ofR (sl q s)).Num == (ofR (sl p q)).Num && ((ofR (sl q s)).Den == (ofR (sl p q)).Den && true))) _ _=_
     rw [eqR,zoR,zad]
     have el:(pre++[p]).length+1=pre.length+2:=by simp
     have ih1:=ih (pre++[p]) q s found he' (by simp; omega) hbn2
     have ih2:=ih (pre++[p]) q s (found++[q]) he' (by simp; omega) hbn2
     rw [el] at ih1 ih2
     by_cases hc:sl q s=sl p q
     · rw [if_pos hc]
       exact ih1
     · rw [if_neg hc,zac (by omega),Int.toNat_natCast,elemP hq,zac rfl,zac (by simp; omega),zac rfl]
       have ea:rsE (found.map (·.1))++[zaa (ofP q).X]=rsE ((found++[q]).map (·.1)):=by simp only [rsE,List.map_append,List.map_cons,List.map_nil]; rfl
       rw [ea]
       exact ih2
   · rw [zu0 (by omega) ha hb hq hs h1,zds]
     rfl
theorem zxm (l:List Pt) (ha:Asc l) (hl:2≤l.length) (hl2:l.length≤410) (hb:AllF l) :
  cw zlR [.sl 4 (ptsE l)] []=some (zcG (nfR l)):=by
 match l,ha,hl,hl2,hb with
 | p :: q :: r,ha,hl,hl2,hb =>
   refine zyF ((p :: q :: r).map ofP) ?_
   have hp:(p :: q :: r)[0]?=some p:=rfl
   have hq:(p :: q :: r)[0+1]?=some q:=rfl
   refine zjs _ _ _ _ ?_
   have e:w64 ((0:Int)+1)=1:=by rw [w64_id (by omega) (by omega)]; omega
   rw [e,zad,if_pos (by rw [lenP]; simp; omega)]
   show callD zhH (cw zhN [.sl 4 (ptsE (p :: q :: r)),I ((0:Nat):Int)] []) _=_
   by_cases h1:SlF p q
   · rw [zph (by omega) ha hb hp hq h1,zds,brn_nt,zad,if_neg (by omega)]
     by_cases h2:BnF (q :: r)
     · exact k1_ok (p :: q :: r) ha hl2 hb (k1_end _ ha hl hl2 hb ⟨h1,h2⟩) r [] p q [] rfl (Nat.le_refl _) h2 rfl
     · rw [nfR_no (l:=p :: q :: r) (fun h=>h2 h.1.2)]
       exact k1_no (p :: q :: r) ha hl2 hb r [] p q [] rfl (Nat.le_refl _) h2
   · rw [zu0 (by omega) ha hb hp hq h1,zds,nfR_no (l:=p :: q :: r) (fun h=>h1 h.1.1)]
     rfl
end Go.Proofs.YtbhkcgaanaelfaaGreat
namespace Go.Proofs.YtbhkcgaanaelfaaGreat
open Go.Ab Go.Sort
set_option linter.unusedVariables false
instance:Inhabited GRatio:=⟨⟨0,0⟩⟩
noncomputable abbrev Er (d:Array GRatio):List (List AV):=List.map zaa d.toList
theorem lenE (d:Array GRatio):(Er d).length=d.size:=by simp
structure Cmp (lt:GRatio→GRatio→Bool) (P:GRatio→Prop):Prop where
 ans:∀ x y,P x→P y→∃ v:Int,cw zah [.agg (zaa x),.agg (zaa y)] []=some (zaH.enc v)∧decide (v < 0)=lt x y
def AllA (P:GRatio→Prop) (d:Array GRatio):Prop:=∀ i,i < d.size→P d[i]!
section
variable {lt:GRatio→GRatio→Bool} {P:GRatio→Prop}
theorem Cmp.step {β:Type} (hc:Cmp lt P) {x y:GRatio} (hx:P x) (hy:P y) (A B:Option β) :
  (callD zaH (cw zah [.agg (zaa x),.agg (zaa y)] []) fun (r:Int)=>brn (decide (r < 0)) A B)=brn (lt x y) A B:=by
 obtain ⟨v,h1,h2⟩:=hc.ans x y hx hy
 rw [zaA h1,h2]
theorem Cmp.stepN {β:Type} (hc:Cmp lt P) {x y:GRatio} (hx:P x) (hy:P y) (A B:Option β) :
  (callD zaH (cw zah [.agg (zaa x),.agg (zaa y)] []) fun (r:Int)=>brn (!decide (r < 0)) A B)=brn (lt x y) B A:=by
 obtain ⟨v,h1,h2⟩:=hc.ans x y hx hy
 rw [zaA h1,h2,zoR]
theorem rdA {β:Type} {d:Array GRatio} {n i:Nat} (hn:n=d.size) (hi:i < d.size) (K:GRatio→Option β) :
  (chk ((0:Int)≤(i:Int)) <| chk ((i:Int) < (n:Int)) <| elemD zaf (Er d) (0+((i:Nat):Int).toNat) K)=K d[i]!:=by
 rw [zac (by omega),zac (by omega),Int.toNat_natCast,Nat.zero_add,zdY (D:=zaf) (l:=d.toList) (x:=d[i]!) (by simp [hi])]
theorem setA (d:Array GRatio) (i:Nat) (x:GRatio):List.set (Er d) i (zaa x)=Er (d.setIfInBounds i x):=by
 show List.set (List.map zaa d.toList) i (zaa x)=List.map zaa (d.setIfInBounds i x).toList
 rw [Array.toList_setIfInBounds,List.map_set]
theorem rdS {β:Type} {d:Array GRatio} {n i j:Nat} {x:GRatio} (hn:n=d.size) (hj:j < d.size) (K:GRatio→Option β) :
  (chk ((0:Int)≤(j:Int)) <| chk ((j:Int) < (n:Int)) <| elemD zaf (List.set (Er d) (0+((i:Nat):Int).toNat) (zaa x)) (0+((j:Nat):Int).toNat) K)=K (d.setIfInBounds i x)[j]!:=by
 rw [Int.toNat_natCast,Nat.zero_add i,setA]
 exact rdA (by rw [Array.size_setIfInBounds]; exact hn) (by rw [Array.size_setIfInBounds]; exact hj) K
theorem swpE (d:Array GRatio) (i j:Nat):List.set (List.set (Er d) (0+((i:Nat):Int).toNat) (zaa d[j]!)) (0+((j:Nat):Int).toNat) (zaa d[i]!)=Er (swp d i j):=by
 rw [Int.toNat_natCast,Int.toNat_natCast,Nat.zero_add,Nat.zero_add,setA,setA]
 rfl
theorem zaM (d:Array GRatio) (i j:Nat):(swp d i j).size=d.size:=by unfold swp; rw [Array.size_setIfInBounds,Array.size_setIfInBounds]
theorem AllA.swp {d:Array GRatio} (h:AllA P d) {i j:Nat} (hi:i < d.size) (hj:j < d.size):AllA P (swp d i j):=by
 intro k hk
 rw [zaM] at hk
 have hP:=swp_permIn d 0 d.size i j (by omega) hi (by omega) hj (Nat.le_refl _)
 exact permIn_all d (Go.Sort.swp d i j) 0 d.size P (Nat.le_refl _) hP (fun k _ hk=>h k hk) k (by omega) hk
theorem AllA.perm {d d':Array GRatio} {a b:Nat} (h:AllA P d) (hab:a≤b) (hb:b≤d.size) (hP:PermIn a b d d'):AllA P d':=by
 intro k hk
 rw [hP.1] at hk
 have hP':=permIn_mono d d' a b 0 d.size (by omega) hb (Nat.le_refl _) hP
 exact permIn_all d d' 0 d.size P (Nat.le_refl _) hP' (fun k _ hk=>h k hk) k (by omega) hk
theorem k_ins2 (hc:Cmp lt P) (a0:List GRatio) (a b i:Nat):∀ (j:Nat) (d:Array GRatio) (y:AV×Mem),a0.length=d.size→AllA P d→j < d.size→d.size≤1000000→i≤1000000 →
  za9 a0 (a:Int) (b:Int) (Er (insInner lt a j d)) ((i+1:Nat):Int)=some y →
  zb0 a0 (a:Int) (b:Int) (i:Int) (Er d) (j:Int)=some y:=by
 have ei:∀ i:Nat,i≤1000000→w64 ((i:Int)+1)=((i+1:Nat):Int):=fun i hi=>by rw [w64_id (by omega) (by omega)]; omega
 intro j
 induction j with
 | zero =>
   intro d y hn hP hj hs hi h
   refine ze2 _ _ _ _ _ _ ?_
   rw [zad,if_neg (by omega),ei i hi]
   exact h
 | succ j ih =>
   intro d y hn hP hj hs hi h
   refine ze2 _ _ _ _ _ _ ?_
   unfold insInner at h
   have e1:w64 (((j+1:Nat):Int) - 1)=(j:Int):=by rw [w64_id (by omega) (by omega)]; omega
   rw [zad,e1,ei i hi,List.length_map]
   by_cases ha:a < j+1
   · rw [if_pos (by omega),rdA hn hj,rdA hn (by omega),hc.step (hP _ hj) (hP _ (by omega))]
     cases hlt:lt d[j+1]! d[j]! with
     | false =>
       rw [hlt,Bool.and_false,if_neg (by simp)] at h
       rw [zat]; exact h
     | true =>
       rw [hlt,Bool.and_true,if_pos (by simpa using ha)] at h
       rw [zaG,rdA hn (by omega),rdA hn hj,rdA hn hj,rdS hn (by omega),swpE]
       exact ih _ y (by rw [zaM]; exact hn) (hP.swp hj (by omega)) (by rw [zaM]; omega) (by rw [zaM]; exact hs) hi h
   · rw [if_neg (by omega)]
     rw [if_neg (by simp; omega)] at h
     exact h
theorem zmP (a:Nat):∀ (j:Nat) (d:Array GRatio),(insInner lt a j d).size=d.size
 | 0,d=>rfl
 | j+1,d=>by
   unfold insInner
   split
   · rw [zmP a j,zaM]
   · rfl
theorem zux (a:Nat):∀ (j:Nat) (d:Array GRatio),j < d.size→AllA P d→AllA P (insInner lt a j d)
 | 0,d,_,h=>h
 | j+1,d,hj,h=>by
   unfold insInner
   split
   · exact zux a j _ (by rw [zaM]; omega) (h.swp hj (by omega))
   · exact h
theorem k_ins1 (hc:Cmp lt P) (a0:List GRatio) (a b:Nat):∀ (k i:Nat) (d:Array GRatio),b≤i+k→a0.length=d.size→AllA P d→b≤d.size→d.size≤1000000→i≤1000000 →
  za9 a0 (a:Int) (b:Int) (Er d) (i:Int)=some (zck.enc (insOuter lt a b i d).toList):=by
 intro k
 induction k with
 | zero =>
   intro i d hk hn hP hb hs hi
   refine ze3 _ _ _ _ _ ?_
   unfold insOuter
   rw [zad,if_neg (by omega),if_neg (by omega)]
   rfl
 | succ k ih =>
   intro i d hk hn hP hb hs hi
   refine ze3 _ _ _ _ _ ?_
   unfold insOuter
   rw [zad]
   by_cases hib:i < b
   · rw [if_pos (by omega),if_pos hib]
     refine k_ins2 hc a0 a b i i d _ hn hP (by omega) hs hi ?_
     exact ih (i+1) _ (by omega) (by rw [zmP]; exact hn) (zux a i d (by omega) hP) (by rw [zmP]; exact hb) (by rw [zmP]; exact hs) (by omega)
   · rw [if_neg (by omega),if_neg hib]
     rfl
noncomputable abbrev mA (d:Array GRatio):Mem:=[(1000,⟨2,zae,Er d,false⟩)]
noncomputable abbrev rA (d:Array GRatio):AV:=.row 1000 2 0 (List.length (Er d))
theorem zBQ (hc:Cmp lt P) (d:Array GRatio) (a b:Nat) (hP:AllA P d) (hab:a≤b) (hb:b≤d.size) (hs:d.size≤100000) :
  cw zdm [rA d,I (a:Int),I (b:Int),.fn zah []] (mA d)=some (zck.enc (insertionSort lt d a b).toList):=by
 refine zj5 d.toList _ _ ?_
 have e:w64 ((a:Int)+1)=((a+1:Nat):Int):=by rw [w64_id (by omega) (by omega)]; omega
 rw [e]
 exact k_ins1 hc d.toList a b b (a+1) d (by omega) (by simp) hP hb (by omega) (by omega)
theorem zuH (hi first:Nat):∀ (k root:Nat) (d:Array GRatio),hi≤root+k→first+hi≤d.size→AllA P d→AllA P (siftDown lt hi first root d)∧(siftDown lt hi first root d).size=d.size:=by
 intro k
 induction k with
 | zero =>
   intro root d hk hs h
   unfold siftDown
   rw [dif_pos (by omega)]
   exact ⟨h,rfl⟩
 | succ k ih =>
   intro root d hk hs h
   unfold siftDown
   split
   · exact ⟨h,rfl⟩
   · rename_i h1
     split
     · split
       · exact ⟨h,rfl⟩
       · split
         · rename_i h2
           have:=ih (2*root+2) (swp d (first+root) (first+(2*root+2))) (by omega) (by rw [zaM]; exact hs) (h.swp (by omega) (by omega))
           rw [zaM] at this
           exact this
         · exact ⟨h,rfl⟩
     · split
       · exact ⟨h,rfl⟩
       · have:=ih (2*root+1) (swp d (first+root) (first+(2*root+1))) (by omega) (by rw [zaM]; exact hs) (h.swp (by omega) (by omega))
         rw [zaM] at this
         exact this
theorem k_sift (hc:Cmp lt P) (a0:List GRatio) (hi first:Nat):∀ (k root:Nat) (d:Array GRatio),hi≤root+k→first+hi≤d.size→a0.length=d.size→AllA P d→d.size≤100000→root≤100000 →
  zbS a0 (hi:Int) (first:Int) (Er d) (root:Int)=some (zbf.enc (siftDown lt hi first root d).toList):=by
 intro k
 induction k with
 | zero =>
   intro root d hk hs hn hP hsz hr
   refine zgc _ _ _ _ _ ?_
   unfold siftDown
   rw [w64_id (n:=2*(root:Int)) (by omega) (by omega),w64_id (n:=2*(root:Int)+1) (by omega) (by omega),zad,if_pos (by omega),dif_pos (by omega)]
   rfl
 | succ k ih =>
   intro root d hk hs hn hP hsz hr
   refine zgc _ _ _ _ _ ?_
   unfold siftDown
   have e1:w64 (w64 (2*(root:Int))+1)=((2*root+1:Nat):Int):=by rw [w64_id (n:=2*(root:Int)) (by omega) (by omega),w64_id (by omega) (by omega)]; omega
   have e2:w64 (((2*root+1:Nat):Int)+1)=((2*root+2:Nat):Int):=by rw [w64_id (by omega) (by omega)]; omega
   have e3:w64 ((first:Int)+((2*root+1:Nat):Int))=((first+(2*root+1):Nat):Int):=by rw [w64_id (by omega) (by omega)]; omega
   have e4:w64 (((first+(2*root+1):Nat):Int)+1)=((first+(2*root+1)+1:Nat):Int):=by rw [w64_id (by omega) (by omega)]; omega
   have e5:w64 ((first:Int)+(root:Int))=((first+root:Nat):Int):=by rw [w64_id (by omega) (by omega)]; omega
   have e6:w64 ((first:Int)+((2*root+2:Nat):Int))=((first+(2*root+2):Nat):Int):=by rw [w64_id (by omega) (by omega)]; omega
   rw [e1,e2,e3,e4,zad,List.length_map]
   by_cases h1:2*root+1 ≥ hi
   · rw [if_pos (by omega),dif_pos h1]
     rfl
   · rw [if_neg (by omega),dif_neg h1,zad]
     have low:zb2 a0 (hi:Int) (first:Int) (Er d) (root:Int)=some (zbf.enc (if (!lt d[first+root]! d[first+(2*root+1)]!)=true then d else siftDown lt hi first (2*root+1) (swp d (first+root) (first+(2*root+1)))).toList):=by
      refine zja _ _ _ _ _ ?_
      rw [e1,e3,e5,List.length_map,rdA hn (by omega),rdA hn (by omega),hc.stepN (hP _ (by omega)) (hP _ (by omega))]
      cases hl:lt d[first+root]! d[first+(2*root+1)]! with
      | false=>rw [zat,if_pos (by simp)]; rfl
      | true =>
        rw [zaG,if_neg (by simp),rdA hn (by omega),rdA hn (by omega),rdA hn (by omega),rdS hn (by omega),swpE]
        exact ih (2*root+1) _ (by omega) (by rw [zaM]; exact hs) (by rw [zaM]; exact hn) (hP.swp (by omega) (by omega)) (by rw [zaM]; exact hsz) (by omega)
     by_cases h2:2*root+1+1 < hi
     · rw [if_pos (by omega),rdA hn (by omega),rdA hn (by omega),hc.step (hP _ (by omega)) (hP _ (by omega))]
       cases hl:lt d[first+(2*root+1)]! d[first+(2*root+1)+1]! with
       | false =>
         rw [zat,if_neg (by simp)]
         exact low
       | true =>
         rw [zaG,if_pos (by simpa using h2)]
         refine zjV _ _ _ _ _ ?_
         rw [e1,e2,e5,e6,List.length_map,rdA hn (by omega),rdA hn (by omega),hc.stepN (hP _ (by omega)) (hP _ (by omega))]
         cases hl2:lt d[first+root]! d[first+(2*root+2)]! with
         | false=>rw [zat,if_pos (by simp)]; rfl
         | true =>
           rw [zaG,if_neg (by simp),dif_pos (by omega),rdA hn (by omega),rdA hn (by omega),rdA hn (by omega),rdS hn (by omega),swpE]
           exact ih (2*root+2) _ (by omega) (by rw [zaM]; exact hs) (by rw [zaM]; exact hn) (hP.swp (by omega) (by omega)) (by rw [zaM]; exact hsz) (by omega)
     · rw [if_neg (by omega),if_neg (by simp; omega)]
       exact low
theorem c_sift (hc:Cmp lt P) (d:Array GRatio) (root hi first:Nat) (hs:first+hi≤d.size) (hP:AllA P d) (hsz:d.size≤100000) (hr:root≤100000) :
  cw zb4 [rA d,I (root:Int),I (hi:Int),I (first:Int),.fn zah []] (mA d)=some (zbf.enc (siftDown lt hi first root d).toList):=
 zmd d.toList _ _ _ (k_sift hc d.toList hi first hi root d (by omega) hs (by simp) hP hsz hr)
theorem row_eq {a0:List GRatio} {d:Array GRatio} (h:a0.length=d.size):AV.row 1000 2 0 ((List.map zaa a0).length)=rA d:=by
 show AV.row 1000 2 0 _=AV.row 1000 2 0 _
 rw [List.length_map,lenE,h]
theorem k_heap2 (hc:Cmp lt P) (a0:List GRatio) (first:Nat):∀ (k:Nat) (d:Array GRatio),first+k≤d.size→a0.length=d.size→AllA P d→d.size≤100000 →
  zcJ a0 (first:Int) (Er d) ((k:Int) - 1)=some (zb5.enc (heapPop lt first k d).toList):=by
 intro k
 induction k with
 | zero =>
   intro d hs hn hP hsz
   refine zf7 _ _ _ _ ?_
   rw [zad,if_neg (by omega)]
   rfl
 | succ k ih =>
   intro d hs hn hP hsz
   refine zf7 _ _ _ _ ?_
   have e0:((k+1:Nat):Int) - 1=(k:Int):=by omega
   have e1:w64 ((first:Int)+(k:Int))=((first+k:Nat):Int):=by rw [w64_id (by omega) (by omega)]; omega
   have e2:w64 ((k:Int) - 1)=(k:Int) - 1:=w64_id (by omega) (by omega)
   have hP':=hP.swp (i:=first) (j:=first+k) (by omega) (by omega)
   have hsi:=zuH (lt:=lt) k first k 0 (swp d first (first+k)) (by omega) (by rw [zaM]; omega) hP'
   rw [e0,zad,if_pos (by omega),e1,e2,List.length_map,rdA hn (by omega),rdA hn (by omega),rdA hn (by omega),rdS hn (by omega),swpE]
   have hrow:AV.row 1000 2 0 a0.length=rA (swp d first (first+k)):=by
    have:=row_eq (a0:=a0) (d:=swp d first (first+k)) (by rw [zaM]; exact hn)
    rwa [List.length_map] at this
   have hcs:cw zb4 [rA (swp d first (first+k)),I 0,I (k:Int),I (first:Int),.fn zah []] (mA (swp d first (first+k)))=some (zbf.enc (siftDown lt k first 0 (swp d first (first+k))).toList):=
    c_sift hc _ 0 k first (by rw [zaM]; omega) hP' (by rw [zaM]; exact hsz) (by omega)
   rw [hrow,zaA hcs]
   have h3:(siftDown lt k first 0 (swp d first (first+k))).size=d.size:=by rw [hsi.2,zaM]
   exact ih _ (by rw [h3]; omega) (by rw [h3]; exact hn) hsi.1 (by rw [h3]; exact hsz)
theorem k_heap1 (hc:Cmp lt P) (a0:List GRatio) (a b:Nat) (hab:a≤b):∀ (k:Nat) (d:Array GRatio),k≤100000→b≤d.size→a0.length=d.size→AllA P d→d.size≤100000 →
  zcN a0 (a:Int) (b:Int) (Er d) ((k:Int) - 1)=some (zb5.enc (heapPop lt a (b - a) (heapBuild lt (b - a) a k d)).toList):=by
 intro k
 induction k with
 | zero =>
   intro d hk hb hn hP hsz
   refine zf8 _ _ _ _ _ ?_
   have e:w64 (w64 ((b:Int) - (a:Int)) - 1)=((b - a:Nat):Int) - 1:=by rw [w64_id (n:=(b:Int) - a) (by omega) (by omega),w64_id (by omega) (by omega)]; omega
   rw [zad,if_neg (by omega),e]
   exact k_heap2 hc a0 a (b - a) d (by omega) hn hP hsz
 | succ k ih =>
   intro d hk hb hn hP hsz
   refine zf8 _ _ _ _ _ ?_
   have e0:((k+1:Nat):Int) - 1=(k:Int):=by omega
   have e1:w64 ((b:Int) - (a:Int))=((b - a:Nat):Int):=by rw [w64_id (by omega) (by omega)]; omega
   have e2:w64 ((k:Int) - 1)=(k:Int) - 1:=w64_id (by omega) (by omega)
   have hsi:=zuH (lt:=lt) (b - a) a (b - a) k d (by omega) (by omega) hP
   rw [e0,zad,if_pos (by omega),e1,e2,row_eq hn,zaA (c_sift hc d k (b - a) a (by omega) hP hsz (by omega))]
   exact ih _ (by omega) (by rw [hsi.2]; exact hb) (by rw [hsi.2]; exact hn) hsi.1 (by rw [hsi.2]; exact hsz)
theorem c_heap (hc:Cmp lt P) (d:Array GRatio) (a b:Nat) (hP:AllA P d) (hab:a < b) (hb:b≤d.size) (hs:d.size≤100000) :
  cw zel [rA d,I (a:Int),I (b:Int),.fn zah []] (mA d)=some (zb5.enc (heapSort lt d a b).toList):=by
 refine zmn d.toList _ _ ?_
 have e0:w64 (w64 ((b:Int) - (a:Int)) - 1)=((b - a - 1:Nat):Int):=by rw [w64_id (n:=(b:Int) - a) (by omega) (by omega),w64_id (by omega) (by omega)]; omega
 have e1:(((b - a - 1:Nat):Int)).tdiv 2=(((b - a - 1) / 2:Nat):Int):=rfl
 have e2:w64 (((b - a - 1) / 2:Nat):Int)=(((b - a - 1) / 2+1:Nat):Int) - 1:=by rw [w64_id (by omega) (by omega)]; omega
 rw [zac (by omega),e0,e1,e2]
 exact k_heap1 hc d.toList a b (by omega) ((b - a - 1) / 2+1) d (by omega) hb (by simp) hP hs
theorem k_reverse (a0:List GRatio):∀ (k i j:Nat) (d:Array GRatio),j≤i+k→j < d.size∨j≤i→a0.length=d.size→d.size≤100000→i≤100000 →
  zcd a0 (Er d) (i:Int) (j:Int)=some (zbF.enc (reverseLoop i j d).toList):=by
 intro k
 induction k with
 | zero =>
   intro i j d hk hj hn hs hi
   refine zfb _ _ _ _ ?_
   unfold reverseLoop
   rw [zad,if_neg (by omega),if_neg (by omega)]
   rfl
 | succ k ih =>
   intro i j d hk hj hn hs hi
   refine zfb _ _ _ _ ?_
   unfold reverseLoop
   rw [zad]
   by_cases hij:i < j
   · have e1:w64 ((i:Int)+1)=((i+1:Nat):Int):=by rw [w64_id (by omega) (by omega)]; omega
     have e2:w64 ((j:Int) - 1)=((j - 1:Nat):Int):=by rw [w64_id (by omega) (by omega)]; omega
     rw [if_pos (by omega),if_pos hij,List.length_map,rdA hn (by omega),rdA hn (by omega),rdA hn (by omega),rdS hn (by omega),swpE,e1,e2]
     exact ih (i+1) (j - 1) _ (by omega) (by rw [zaM]; omega) (by rw [zaM]; exact hn) (by rw [zaM]; exact hs) (by omega)
   · rw [if_neg (by omega),if_neg hij]
     rfl
theorem zzm (d:Array GRatio) (a b:Nat) (hab:a < b) (hb:b≤d.size) (hs:d.size≤100000) :
  cw zcx [rA d,I (a:Int),I (b:Int),.fn zah []] (mA d)=some (zbF.enc (reverseRange d a b).toList):=by
 refine zkr d.toList _ _ ?_
 have e:w64 ((b:Int) - 1)=((b - 1:Nat):Int):=by rw [w64_id (by omega) (by omega)]; omega
 rw [e]
 exact k_reverse d.toList b a (b - 1) d (by omega) (by omega) (by simp) hs (by omega)
end
end Go.Proofs.YtbhkcgaanaelfaaGreat
namespace Go.Proofs.YtbhkcgaanaelfaaGreat
open Go.Ab Go.Sort
set_option linter.unusedVariables false
section
variable {lt:GRatio→GRatio→Bool} {P:GRatio→Prop}
theorem up1 {i:Nat} (h:i≤1000000):w64 ((i:Int)+1)=((i+1:Nat):Int):=by rw [w64_id (by omega) (by omega)]; omega
theorem dn1 {i:Nat} (h0:1≤i) (h:i≤1000000):w64 ((i:Int) - 1)=((i - 1:Nat):Int):=by rw [w64_id (by omega) (by omega)]; omega
theorem zdo (p:GRatio→Bool) (d:Array GRatio) (j i:Nat):scanUp p d j i=if (decide (i≤j) && p d[i]!)=true then scanUp p d j (i+1) else i:=by
 conv=>lhs; unfold scanUp
theorem zfA (p:GRatio→Bool) (d:Array GRatio) (i:Nat) {j:Nat} (hj:1≤j):scanDown p d i j=if (decide (i≤j) && p d[j]!)=true then scanDown p d i (j - 1) else j:=by
 obtain ⟨k,rfl⟩:∃ k,j=k+1:=⟨j - 1,by omega⟩
 rfl
theorem zry (p:GRatio→Bool) (d:Array GRatio) (j:Nat):∀ (k i:Nat),j≤i+k→i≤j+1→scanUp p d j i≤j+1
 | 0,i,hk,hi=>by
   rw [zdo]
   split
   · rw [zdo]
     rename_i h
     simp only [Bool.and_eq_true,decide_eq_true_eq] at h
     rw [if_neg (by simp; omega)]
     omega
   · exact hi
 | k+1,i,hk,hi=>by
   rw [zdo]
   split
   · rename_i h
     simp only [Bool.and_eq_true,decide_eq_true_eq] at h
     exact zry p d j k (i+1) (by omega) (by omega)
   · exact hi
theorem zo4 (p:GRatio→Bool) (d:Array GRatio) (i:Nat) (hi:1≤i):∀ (j:Nat),i≤j+1→i≤scanDown p d i j+1
 | 0,h=>by simpa [scanDown] using h
 | j+1,h=>by
   unfold scanDown
   split
   · rename_i h1
     simp only [Bool.and_eq_true,decide_eq_true_eq] at h1
     exact zo4 p d i hi j (by omega)
   · omega
theorem zo5 (p:GRatio→Bool) (d:Array GRatio) (j:Nat):∀ (k i:Nat),j+1≤i+k→scanUp p d j i≤j→p d[scanUp p d j i]! = false
 | 0,i,hk,h=>by
   rw [zdo,if_neg (by simp; omega)] at h
   omega
 | k+1,i,hk,h=>by
   rw [zdo] at h ⊢
   split
   · rename_i h1
     rw [if_pos h1] at h
     exact zo5 p d j k (i+1) (by omega) h
   · rename_i h1
     rw [if_neg h1] at h
     simp only [Bool.and_eq_true,decide_eq_true_eq,not_and,Bool.not_eq_true] at h1
     exact h1 h
theorem zm5 (q:GRatio→Bool) (d:Array GRatio) (i:Nat) (hi:1≤i):∀ (j:Nat),i≤scanDown q d i j→q d[scanDown q d i j]! = false
 | 0,h=>by simp [scanDown] at h; omega
 | j+1,h=>by
   unfold scanDown at h ⊢
   split
   · rename_i h1
     rw [if_pos h1] at h
     exact zm5 q d i hi j h
   · rename_i h1
     rw [if_neg h1] at h
     simp only [Bool.and_eq_true,decide_eq_true_eq,not_and,Bool.not_eq_true] at h1
     exact h1 h
noncomputable abbrev rPart (m:Nat) (b:Bool) (d:Array GRatio):Option (AV×Mem):=some (zea.enc ((( m:Int),b),d.toList))
theorem k_part4 (hc:Cmp lt P) (a0:List GRatio) (a:Nat) (d:Array GRatio) (hn:a0.length=d.size) (hP:AllA P d) (hs:d.size≤100000) (ha:a < d.size) (j:Nat) (hj:j < d.size) (y:AV×Mem) :
  ∀ (k i:Nat),j+1≤i+k→i≤100001 →
    zbL a0 (a:Int) (Er d) (j:Int) ((scanUp (fun x=>lt x d[a]!) d j i:Nat):Int)=some y →
    zcB a0 (a:Int) (Er d) (j:Int) (i:Int)=some y:=by
 intro k
 induction k with
 | zero =>
   intro i hk hi h
   refine zfT _ _ _ _ _ ?_
   rw [zdo,if_neg (by simp; omega)] at h
   rw [zad,if_neg (by omega)]
   exact h
 | succ k ih =>
   intro i hk hi h
   refine zfT _ _ _ _ _ ?_
   rw [zdo] at h
   rw [zad,up1 (by omega),List.length_map]
   by_cases hij:i≤j
   · rw [if_pos (by omega),rdA hn (by omega),rdA hn ha,hc.step (hP _ (by omega)) (hP _ ha)]
     cases hl:lt d[i]! d[a]! with
     | true =>
       rw [hl,if_pos (by simpa using hij)] at h
       rw [zaG]
       exact ih (i+1) (by omega) (by omega) h
     | false =>
       rw [hl,if_neg (by simp)] at h
       rw [zat]
       exact h
   · rw [if_neg (by simp; omega)] at h
     rw [if_neg (by omega)]
     exact h
theorem k_part5 (hc:Cmp lt P) (a0:List GRatio) (a:Nat) (d:Array GRatio) (hn:a0.length=d.size) (hP:AllA P d) (hs:d.size≤100000) (ha:a < d.size) (i:Nat) (hi:1≤i) (hi2:i≤100001) (y:AV×Mem) :
  ∀ (j:Nat),j < d.size→i≤j+1 →
    za0 a0 (a:Int) (Er d) (i:Int) ((scanDown (fun x=>!lt x d[a]!) d i j:Nat):Int)=some y →
    zci a0 (a:Int) (Er d) (i:Int) (j:Int)=some y:=by
 intro j
 induction j with
 | zero =>
   intro hj hij h
   refine zfx _ _ _ _ _ ?_
   rw [zad,if_neg (by omega)]
   exact h
 | succ j ih =>
   intro hj hij h
   refine zfx _ _ _ _ _ ?_
   rw [zfA _ _ _ (by omega)] at h
   rw [zad,dn1 (by omega) (by omega),List.length_map]
   by_cases hle:i≤j+1
   · rw [if_pos (by omega),rdA hn (by omega),rdA hn ha,hc.stepN (hP _ (by omega)) (hP _ ha)]
     cases hl:lt d[j+1]! d[a]! with
     | false =>
       rw [hl,if_pos (by simpa using hle)] at h
       rw [zat]
       by_cases h0:i≤j+1 - 1+1
       · exact ih (by omega) h0 h
       · omega
     | true =>
       rw [hl,if_neg (by simp)] at h
       rw [zaG]
       exact h
   · rw [if_neg (by simp; omega)] at h
     rw [if_neg (by omega)]
     exact h
theorem k_part5' (hc:Cmp lt P) (a0:List GRatio) (a:Nat) (d:Array GRatio) (hn:a0.length=d.size) (hP:AllA P d) (hs:d.size≤100000) (ha:a < d.size) (i:Nat) (hi:1≤i) (hi2:i≤100001) (y:AV×Mem)
  (j:Nat) (hj:j < d.size) (hij:i≤j+1) (h:za0 a0 (a:Int) (Er d) (i:Int) ((scanDown (fun x=>!lt x d[a]!) d i j:Nat):Int)=some y) :
   zbL a0 (a:Int) (Er d) (j:Int) (i:Int)=some y:=by
 refine zk2 _ _ _ _ _ ?_
 by_cases h0:j=0
 · subst h0
   rw [zad,if_neg (by omega)]
   exact h
 · rw [zfA _ _ _ (by omega)] at h
   rw [zad,dn1 (by omega) (by omega),List.length_map]
   by_cases hle:i≤j
   · rw [if_pos (by omega),rdA hn (by omega),rdA hn ha,hc.stepN (hP _ (by omega)) (hP _ ha)]
     cases hl:lt d[j]! d[a]! with
     | false =>
       rw [hl,if_pos (by simpa using hle)] at h
       rw [zat]
       exact k_part5 hc a0 a d hn hP hs ha i hi hi2 y (j - 1) (by omega) (by omega) h
     | true =>
       rw [hl,if_neg (by simp)] at h
       rw [zaG]
       exact h
   · rw [if_neg (by simp; omega)] at h
     rw [if_neg (by omega)]
     exact h
theorem k_partLoop (hc:Cmp lt P) (a0:List GRatio) (a:Nat):∀ (n i j:Nat) (d:Array GRatio),j+1 - i≤n→a < i→i≤j+1→j < d.size→a0.length=d.size→AllA P d→d.size≤100000 →
  zcE a0 (a:Int) (Er d) (i:Int) (j:Int)=rPart (partLoop lt a i j d).1 false (swp (partLoop lt a i j d).2 (partLoop lt a i j d).1 a):=by
 intro n
 induction n with
 | zero =>
   intro i j d hn hai hij hj hl hP hs
   refine zfS _ _ _ _ _ ?_
   refine k_part4 hc a0 a d hl hP hs (by omega) j hj _ (j+1) i (by omega) (by omega) ?_
   have hu:scanUp (fun x=>lt x d[a]!) d j i=i:=by rw [zdo,if_neg (by simp; omega)]
   rw [hu]
   refine k_part5' hc a0 a d hl hP hs (by omega) i (by omega) (by omega) _ j hj hij ?_
   have hd:scanDown (fun x=>!lt x d[a]!) d i j=j:=by
    by_cases h0:j=0
    · subst h0; rfl
    · rw [zfA _ _ _ (by omega),if_neg (by simp; omega)]
   rw [hd]
   refine ze9 _ _ _ _ _ ?_
   rw [partLoop_eq]
   simp only [hu,hd]
   rw [if_pos (show i > j by omega),zad,if_pos (by omega),List.length_map,rdA hl (by omega),rdA hl (by omega),rdA hl (by omega),rdS hl (by omega),swpE]
   rfl
 | succ n ih =>
   intro i j d hn hai hij hj hl hP hs
   refine zfS _ _ _ _ _ ?_
   refine k_part4 hc a0 a d hl hP hs (by omega) j hj _ (j+1) i (by omega) (by omega) ?_
   have u1:=scanUp_ge (fun x=>lt x d[a]!) d j i
   have u2:=zry (fun x=>lt x d[a]!) d j (j+1) i (by omega) hij
   refine k_part5' hc a0 a d hl hP hs (by omega) _ (by omega) (by omega) _ j hj (by omega) ?_
   have d1:=scanDown_le (fun x=>!lt x d[a]!) d (scanUp (fun x=>lt x d[a]!) d j i) j
   have d2:=zo4 (fun x=>!lt x d[a]!) d (scanUp (fun x=>lt x d[a]!) d j i) (by omega) j (by omega)
   have u3:=zo5 (fun x=>lt x d[a]!) d j (j+1) i (by omega)
   have d3:=zm5 (fun x=>!lt x d[a]!) d (scanUp (fun x=>lt x d[a]!) d j i) (by omega) j
   refine ze9 _ _ _ _ _ ?_
   rw [partLoop_eq]
   generalize scanUp (fun x=>lt x d[a]!) d j i=i2 at *
   generalize scanDown (fun x=>!lt x d[a]!) d i2 j=j2 at *
   rw [zad]
   by_cases hgt:i2 > j2
   · rw [if_pos (by omega)]
     simp only [hgt,if_true]
     rw [List.length_map,rdA hl (by omega),rdA hl (by omega),rdA hl (by omega),rdS hl (by omega),swpE]
     rfl
   · rw [if_neg (by omega)]
     simp only [hgt,if_false]
     rw [List.length_map,rdA hl (by omega),rdA hl (by omega),rdA hl (by omega),rdS hl (by omega),swpE,up1 (by omega),dn1 (by omega) (by omega)]
     by_cases heq:i2=j2
     · exfalso
       have w1:=u3 (by omega)
       have w2:=d3 (by omega)
       rw [heq] at w1
       rw [w1] at w2
       cases w2
     · exact ih (i2+1) (j2 - 1) _ (by omega) (by omega) (by omega) (by rw [zaM]; omega) (by rw [zaM]; exact hl) (hP.swp (by omega) (by omega)) (by rw [zaM]; exact hs)
theorem k_part1 (hc:Cmp lt P) (d0 d:Array GRatio) (a b pivot:Nat) (c0 c1 c2 c3:GRatio) (hrow:List.set (List.set (Er d0) (0+((a:Nat):Int).toNat) (zaa c0)) (0+((pivot:Nat):Int).toNat) (zaa c1)=Er d)
  (hn:d0.toList.length=d.size) (hP:AllA P d) (hs:d.size≤100000) (hab:a < b) (hb:b≤d.size) (y:AV×Mem) :
  ∀ (k i:Nat),b≤i+k→a < i→i≤100001 →
    zbp d0.toList (a:Int) (b:Int) (pivot:Int) c0 c1 c2 c3 ((scanUp (fun x=>lt x d[a]!) d (b - 1) i:Nat):Int)=some y →
    zcD d0.toList (a:Int) (b:Int) (pivot:Int) c0 c1 c2 c3 (i:Int)=some y:=by
 have eb:w64 ((b:Int) - 1)=((b - 1:Nat):Int):=dn1 (by omega) (by omega)
 intro k
 induction k with
 | zero =>
   intro i hk hai hi h
   refine zfR _ _ _ _ _ _ _ _ _ ?_
   rw [zdo,if_neg (by simp; omega)] at h
   rw [zad,eb,if_neg (by omega)]
   exact h
 | succ k ih =>
   intro i hk hai hi h
   refine zfR _ _ _ _ _ _ _ _ _ ?_
   rw [zdo] at h
   rw [zad,eb,up1 (by omega),List.length_map,hrow]
   by_cases hij:i≤b - 1
   · rw [if_pos (by omega),rdA hn (by omega),rdA hn (by omega),hc.step (hP _ (by omega)) (hP _ (by omega))]
     cases hl:lt d[i]! d[a]! with
     | true =>
       rw [hl,if_pos (by simpa using hij)] at h
       rw [zaG]
       exact ih (i+1) (by omega) (by omega) (by omega) h
     | false =>
       rw [hl,if_neg (by simp)] at h
       rw [zat]
       exact h
   · rw [if_neg (by simp; omega)] at h
     rw [if_neg (by omega)]
     exact h
theorem k_part2 (hc:Cmp lt P) (d0 d:Array GRatio) (a b pivot:Nat) (c0 c1 c2 c3:GRatio) (hrow:List.set (List.set (Er d0) (0+((a:Nat):Int).toNat) (zaa c0)) (0+((pivot:Nat):Int).toNat) (zaa c1)=Er d)
  (hn:d0.toList.length=d.size) (hP:AllA P d) (hs:d.size≤100000) (ha:a < d.size) (i:Nat) (hi:1≤i) (hi2:i≤100001) (y:AV×Mem) :
  ∀ (j:Nat),j < d.size→i≤j+1 →
    za1 d0.toList (a:Int) (b:Int) (pivot:Int) c0 c1 c2 c3 (i:Int) ((scanDown (fun x=>!lt x d[a]!) d i j:Nat):Int)=some y →
    zcm d0.toList (a:Int) (b:Int) (pivot:Int) c0 c1 c2 c3 (i:Int) (j:Int)=some y:=by
 intro j
 induction j with
 | zero =>
   intro hj hij h
   refine zfu _ _ _ _ _ _ _ _ _ _ ?_
   rw [zad,if_neg (by omega)]
   exact h
 | succ j ih =>
   intro hj hij h
   refine zfu _ _ _ _ _ _ _ _ _ _ ?_
   rw [zfA _ _ _ (by omega)] at h
   rw [zad,dn1 (by omega) (by omega),List.length_map,hrow]
   by_cases hle:i≤j+1
   · rw [if_pos (by omega),rdA hn (by omega),rdA hn ha,hc.stepN (hP _ (by omega)) (hP _ ha)]
     cases hl:lt d[j+1]! d[a]! with
     | false =>
       rw [hl,if_pos (by simpa using hle)] at h
       rw [zat]
       exact ih (by omega) (by omega) h
     | true =>
       rw [hl,if_neg (by simp)] at h
       rw [zaG]
       exact h
   · rw [if_neg (by simp; omega)] at h
     rw [if_neg (by omega)]
     exact h
theorem zCF (hc:Cmp lt P) (d0:Array GRatio) (a b pivot:Nat) (hP0:AllA P d0) (ha:a≤pivot) (hp:pivot < b) (hb:b≤d0.size) (hs0:d0.size≤100000) (hab:a+1 < b) :
  ∃ flag:Bool,cw zcQ [rA d0,I (a:Int),I (b:Int),I (pivot:Int),.fn zah []] (mA d0)=rPart (partition lt d0 a b pivot).1 flag (partition lt d0 a b pivot).2.2:=by
 have hn0:d0.toList.length=d0.size:=by simp
 rw [partition_fst,partition_arr]
 have hrow:=swpE d0 a pivot
 have hP:=hP0.swp (i:=a) (j:=pivot) (by omega) (by omega)
 have hsz:=zaM d0 a pivot
 generalize hd:swp d0 a pivot=d at *
 have hn:d0.toList.length=d.size:=by rw [hn0,hsz]
 have eb:w64 ((b:Int) - 1)=((b - 1:Nat):Int):=dn1 (by omega) (by omega)
 have u1:=scanUp_ge (fun x=>lt x d[a]!) d (b - 1) (a+1)
 have u2:=zry (fun x=>lt x d[a]!) d (b - 1) b (a+1) (by omega) (by omega)
 have u3:=zo5 (fun x=>lt x d[a]!) d (b - 1) b (a+1) (by omega)
 rw [partLoop_eq]
 have head:∀ y,zbp d0.toList (a:Int) (b:Int) (pivot:Int) d0[pivot]! d0[a]! d0[a]! (d0.setIfInBounds a d0[pivot]!)[pivot]! ((scanUp (fun x=>lt x d[a]!) d (b - 1) (a+1):Nat):Int)=some y →
   cw zcQ [rA d0,I (a:Int),I (b:Int),I (pivot:Int),.fn zah []] (mA d0)=some y:=by
  intro y h
  refine zlO d0.toList _ _ _ ?_
  rw [List.length_map,rdA hn0 (by omega),rdA hn0 (by omega),rdA hn0 (by omega),rdS hn0 (by omega),up1 (by omega)]
  exact k_part1 hc d0 d a b pivot _ _ _ _ hrow hn hP (by omega) (by omega) (by omega) _ b (a+1) (by omega) (by omega) (by omega) h
 generalize scanUp (fun x=>lt x d[a]!) d (b - 1) (a+1)=i at *
 have d1:=scanDown_le (fun x=>!lt x d[a]!) d i (b - 1)
 have d2:=zo4 (fun x=>!lt x d[a]!) d i (by omega) (b - 1) (by omega)
 have d3:=zm5 (fun x=>!lt x d[a]!) d i (by omega) (b - 1)
 have mid:∀ y,za1 d0.toList (a:Int) (b:Int) (pivot:Int) d0[pivot]! d0[a]! d0[a]! (d0.setIfInBounds a d0[pivot]!)[pivot]! (i:Int) ((scanDown (fun x=>!lt x d[a]!) d i (b - 1):Nat):Int)=some y →
   zbp d0.toList (a:Int) (b:Int) (pivot:Int) d0[pivot]! d0[a]! d0[a]! (d0.setIfInBounds a d0[pivot]!)[pivot]! (i:Int)=some y:=by
  intro y h
  refine zkX _ _ _ _ _ _ _ _ _ ?_
  rw [zad,eb,hrow,List.length_map]
  rw [zfA _ _ _ (by omega)] at h
  by_cases hle:i≤b - 1
  · rw [if_pos (by omega),rdA hn (by omega),rdA hn (by omega),hc.stepN (hP _ (by omega)) (hP _ (by omega)),dn1 (by omega) (by omega)]
    cases hl:lt d[b - 1]! d[a]! with
    | false =>
      rw [hl,if_pos (by simpa using hle)] at h
      rw [zat]
      exact k_part2 hc d0 d a b pivot _ _ _ _ hrow hn hP (by omega) (by omega) i (by omega) (by omega) _ (b - 1 - 1) (by omega) (by omega) h
    | true =>
      rw [hl,if_neg (by simp)] at h
      rw [zaG]
      exact h
  · rw [if_neg (by simp; omega)] at h
    rw [if_neg (by omega)]
    exact h
 generalize scanDown (fun x=>!lt x d[a]!) d i (b - 1)=j at *
 by_cases hgt:i > j
 · refine ⟨true,head _ (mid _ (zfc _ _ _ _ _ _ _ _ _ _ ?_))⟩
   rw [zad,hrow,List.length_map,if_pos (by omega),if_pos hgt,rdA hn (by omega),rdA hn (by omega),rdA hn (by omega),rdS hn (by omega),swpE]
   rfl
 · refine ⟨false,head _ (mid _ (zfc _ _ _ _ _ _ _ _ _ _ ?_))⟩
   have hne:i≠j:=by
    intro heq
    have w1:=u3 (by omega)
    have w2:=d3 (by omega)
    rw [heq] at w1
    rw [w1] at w2
    cases w2
   rw [zad,hrow,List.length_map,if_neg (by omega),if_neg hgt,rdA hn (by omega),rdA hn (by omega),rdA hn (by omega),rdS hn (by omega),swpE,up1 (by omega),dn1 (by omega) (by omega)]
   exact k_partLoop hc d0.toList a (j+1) (i+1) (j - 1) _ (by omega) (by omega) (by omega) (by rw [zaM]; omega) (by rw [zaM]; exact hn) (hP.swp (by omega) (by omega)) (by rw [zaM]; omega)
noncomputable abbrev rEq (m:Nat) (d:Array GRatio):Option (AV×Mem):=some (zca.enc ((m:Int),d.toList))
theorem k_eq2 (hc:Cmp lt P) (a0:List GRatio) (a:Nat) (d:Array GRatio) (hn:a0.length=d.size) (hP:AllA P d) (hs:d.size≤100000) (ha:a < d.size) (j:Nat) (hj:j < d.size) (y:AV×Mem) :
  ∀ (k i:Nat),j+1≤i+k→i≤100001 →
    zbu a0 (a:Int) (Er d) (j:Int) ((scanUp (fun x=>!lt d[a]! x) d j i:Nat):Int)=some y →
    zbW a0 (a:Int) (Er d) (j:Int) (i:Int)=some y:=by
 intro k
 induction k with
 | zero =>
   intro i hk hi h
   refine zeT _ _ _ _ _ ?_
   rw [zdo,if_neg (by simp; omega)] at h
   rw [zad,if_neg (by omega)]
   exact h
 | succ k ih =>
   intro i hk hi h
   refine zeT _ _ _ _ _ ?_
   rw [zdo] at h
   rw [zad,up1 (by omega),List.length_map]
   by_cases hij:i≤j
   · rw [if_pos (by omega),rdA hn ha,rdA hn (by omega),hc.stepN (hP _ ha) (hP _ (by omega))]
     cases hl:lt d[a]! d[i]! with
     | false =>
       rw [hl,if_pos (by simpa using hij)] at h
       rw [zat]
       exact ih (i+1) (by omega) (by omega) h
     | true =>
       rw [hl,if_neg (by simp)] at h
       rw [zaG]
       exact h
   · rw [if_neg (by simp; omega)] at h
     rw [if_neg (by omega)]
     exact h
theorem k_eq3 (hc:Cmp lt P) (a0:List GRatio) (a:Nat) (d:Array GRatio) (hn:a0.length=d.size) (hP:AllA P d) (hs:d.size≤100000) (ha:a < d.size) (i:Nat) (hi:1≤i) (hi2:i≤100001) (y:AV×Mem) :
  ∀ (j:Nat),j < d.size→i≤j+1 →
    zaW a0 (a:Int) (Er d) (i:Int) ((scanDown (fun x=>lt d[a]! x) d i j:Nat):Int)=some y →
    zbO a0 (a:Int) (Er d) (i:Int) (j:Int)=some y:=by
 intro j
 induction j with
 | zero =>
   intro hj hij h
   refine zeE _ _ _ _ _ ?_
   rw [zad,if_neg (by omega)]
   exact h
 | succ j ih =>
   intro hj hij h
   refine zeE _ _ _ _ _ ?_
   rw [zfA _ _ _ (by omega)] at h
   rw [zad,dn1 (by omega) (by omega),List.length_map]
   by_cases hle:i≤j+1
   · rw [if_pos (by omega),rdA hn ha,rdA hn (by omega),hc.step (hP _ ha) (hP _ (by omega))]
     cases hl:lt d[a]! d[j+1]! with
     | true =>
       rw [hl,if_pos (by simpa using hle)] at h
       rw [zaG]
       exact ih (by omega) (by omega) h
     | false =>
       rw [hl,if_neg (by simp)] at h
       rw [zat]
       exact h
   · rw [if_neg (by simp; omega)] at h
     rw [if_neg (by omega)]
     exact h
theorem k_eq3' (hc:Cmp lt P) (a0:List GRatio) (a:Nat) (d:Array GRatio) (hn:a0.length=d.size) (hP:AllA P d) (hs:d.size≤100000) (ha:a < d.size) (i:Nat) (hi:1≤i) (hi2:i≤100001) (y:AV×Mem)
  (j:Nat) (hj:j < d.size) (hij:i≤j+1) (h:zaW a0 (a:Int) (Er d) (i:Int) ((scanDown (fun x=>lt d[a]! x) d i j:Nat):Int)=some y) :
   zbu a0 (a:Int) (Er d) (j:Int) (i:Int)=some y:=by
 refine ziO _ _ _ _ _ ?_
 by_cases h0:j=0
 · subst h0
   rw [zad,if_neg (by omega)]
   exact h
 · rw [zfA _ _ _ (by omega)] at h
   rw [zad,dn1 (by omega) (by omega),List.length_map]
   by_cases hle:i≤j
   · rw [if_pos (by omega),rdA hn ha,rdA hn (by omega),hc.step (hP _ ha) (hP _ (by omega))]
     cases hl:lt d[a]! d[j]! with
     | true =>
       rw [hl,if_pos (by simpa using hle)] at h
       rw [zaG]
       exact k_eq3 hc a0 a d hn hP hs ha i hi hi2 y (j - 1) (by omega) (by omega) h
     | false =>
       rw [hl,if_neg (by simp)] at h
       rw [zat]
       exact h
   · rw [if_neg (by simp; omega)] at h
     rw [if_neg (by omega)]
     exact h
theorem k_eqLoop (hc:Cmp lt P) (a0:List GRatio) (a:Nat):∀ (n i j:Nat) (d:Array GRatio),j+1 - i≤n→a < i→i≤j+1→j < d.size→a0.length=d.size→AllA P d→d.size≤100000 →
  zbV a0 (a:Int) (Er d) (i:Int) (j:Int)=rEq (partEqLoop lt a i j d).1 (partEqLoop lt a i j d).2:=by
 intro n
 induction n with
 | zero =>
   intro i j d hn hai hij hj hl hP hs
   refine zeX _ _ _ _ _ ?_
   refine k_eq2 hc a0 a d hl hP hs (by omega) j hj _ (j+1) i (by omega) (by omega) ?_
   have hu:scanUp (fun x=>!lt d[a]! x) d j i=i:=by rw [zdo,if_neg (by simp; omega)]
   rw [hu]
   refine k_eq3' hc a0 a d hl hP hs (by omega) i (by omega) (by omega) _ j hj hij ?_
   have hd:scanDown (fun x=>lt d[a]! x) d i j=j:=by
    by_cases h0:j=0
    · subst h0; rfl
    · rw [zfA _ _ _ (by omega),if_neg (by simp; omega)]
   rw [hd]
   refine zeu _ _ _ _ _ ?_
   rw [partEqLoop_eq,hu,hd,if_pos (show i > j by omega),zad,if_pos (by omega)]
   rfl
 | succ n ih =>
   intro i j d hn hai hij hj hl hP hs
   refine zeX _ _ _ _ _ ?_
   refine k_eq2 hc a0 a d hl hP hs (by omega) j hj _ (j+1) i (by omega) (by omega) ?_
   have u1:=scanUp_ge (fun x=>!lt d[a]! x) d j i
   have u2:=zry (fun x=>!lt d[a]! x) d j (j+1) i (by omega) hij
   refine k_eq3' hc a0 a d hl hP hs (by omega) _ (by omega) (by omega) _ j hj (by omega) ?_
   have d1:=scanDown_le (fun x=>lt d[a]! x) d (scanUp (fun x=>!lt d[a]! x) d j i) j
   have d2:=zo4 (fun x=>lt d[a]! x) d (scanUp (fun x=>!lt d[a]! x) d j i) (by omega) j (by omega)
   have u3:=zo5 (fun x=>!lt d[a]! x) d j (j+1) i (by omega)
   have d3:=zm5 (fun x=>lt d[a]! x) d (scanUp (fun x=>!lt d[a]! x) d j i) (by omega) j
   refine zeu _ _ _ _ _ ?_
   rw [partEqLoop_eq]
   generalize scanUp (fun x=>!lt d[a]! x) d j i=i2 at *
   generalize scanDown (fun x=>lt d[a]! x) d i2 j=j2 at *
   rw [zad]
   by_cases hgt:i2 > j2
   · rw [if_pos (by omega),if_pos hgt]
     rfl
   · have hne:i2≠j2:=by
      intro heq
      have w1:=u3 (by omega)
      have w2:=d3 (by omega)
      rw [heq,w2] at w1
      cases w1
     rw [if_neg (by omega),if_neg hgt,List.length_map,rdA hl (by omega),rdA hl (by omega),rdA hl (by omega),rdS hl (by omega),swpE,up1 (by omega),dn1 (by omega) (by omega)]
     exact ih (i2+1) (j2 - 1) _ (by omega) (by omega) (by omega) (by rw [zaM]; omega) (by rw [zaM]; exact hl) (hP.swp (by omega) (by omega)) (by rw [zaM]; exact hs)
theorem zqI (hc:Cmp lt P) (d0:Array GRatio) (a b pivot:Nat) (hP0:AllA P d0) (ha:a≤pivot) (hp:pivot < b) (hb:b≤d0.size) (hs0:d0.size≤100000) :
  cw zcb [rA d0,I (a:Int),I (b:Int),I (pivot:Int),.fn zah []] (mA d0)=rEq (partitionEqual lt d0 a b pivot).1 (partitionEqual lt d0 a b pivot).2:=by
 have hn0:d0.toList.length=d0.size:=by simp
 refine zjl d0.toList _ _ _ ?_
 rw [List.length_map,rdA hn0 (by omega),rdA hn0 (by omega),rdA hn0 (by omega),rdS hn0 (by omega),up1 (by omega),dn1 (by omega) (by omega),swpE]
 exact k_eqLoop hc d0.toList a b (a+1) (b - 1) _ (by omega) (by omega) (by omega) (by rw [zaM]; omega) (by rw [zaM]; exact hn0) (hP0.swp (by omega) (by omega)) (by rw [zaM]; exact hs0)
theorem rdL {β:Type} {d:Array GRatio} {i:Nat} (hi:i < d.size) (K:GRatio→Option β) :
  (chk ((0:Int)≤(i:Int)) <| elemD zaf (Er d) (((i:Nat):Int).toNat) K)=K d[i]!:=by
 rw [zac (by omega),Int.toNat_natCast,zdY (D:=zaf) (l:=d.toList) (x:=d[i]!) (by simp [hi])]
noncomputable abbrev mSw (k:Nat) (s:Int):Mem:=[(k,⟨1,zaJ,[zai s],true⟩)]
theorem zwO (hc:Cmp lt P) (d:Array GRatio) (hP:AllA P d) (a b:Nat) (s:Int) (ha:a < d.size) (hb:b < d.size) (hs0:0≤s) (hs:s≤1000) :
  ∃ (x y:Nat) (s':Int),cw zco [.sl 2 (Er d),I (a:Int),I (b:Int),.loc 1003 1 0 0,.fn zah []] (mSw 1003 s)=some (zcp.enc (((x:Int),(y:Int)),s'))∧((x=a∧y=b)∨(x=b∧y=a))∧0≤s'∧s'≤s+1:=by
 cases hl:lt d[b]! d[a]! with
 | true =>
   refine ⟨b,a,s+1,zhh d.toList _ _ _ ?_,.inr ⟨rfl,rfl⟩,by omega,by omega⟩
   rw [rdL hb,rdL ha,hc.step (hP _ hb) (hP _ ha),hl,zaG,w64_id (by omega) (by omega)]
   rfl
 | false =>
   refine ⟨a,b,s,zhh d.toList _ _ _ ?_,.inl ⟨rfl,rfl⟩,by omega,by omega⟩
   rw [rdL hb,rdL ha,hc.step (hP _ hb) (hP _ ha),hl,zat]
   rfl
theorem zwJ (hc:Cmp lt P) (d:Array GRatio) (hP:AllA P d) (a b c:Nat) (s:Int) (ha:a < d.size) (hb:b < d.size) (hcc:c < d.size) (hs0:0≤s) (hs:s≤900) :
  ∃ (x:Nat) (s':Int),cw zct [.sl 2 (Er d),I (a:Int),I (b:Int),I (c:Int),.loc 1004 1 0 0,.fn zah []] (mSw 1004 s)=some (zcr.enc ((x:Int),s'))∧(x=a∨x=b∨x=c)∧0≤s'∧s'≤s+3:=by
 obtain ⟨x1,y1,s1,h1,o1,p1,q1⟩:=zwO hc d hP a b s ha hb hs0 (by omega)
 obtain ⟨x2,y2,s2,h2,o2,p2,q2⟩:=zwO hc d hP y1 c s1 (by omega) hcc p1 (by omega)
 obtain ⟨x3,y3,s3,h3,o3,p3,q3⟩:=zwO hc d hP x1 x2 s2 (by omega) (by omega) p2 (by omega)
 refine ⟨y3,s3,zne d.toList _ _ _ _ ?_,by omega,p3,by omega⟩
 rw [zaA h1,zaA h2,zaA h3]
 rfl
theorem znb (hc:Cmp lt P) (d:Array GRatio) (hP:AllA P d) (a:Nat) (s:Int) (ha:a+1 < d.size) (ha1:1≤a) (hsz:d.size≤100000) (hs0:0≤s) (hs:s≤900) :
  ∃ (x:Nat) (s':Int),cw zbA [.sl 2 (Er d),I (a:Int),.loc 1002 1 0 0,.fn zah []] (mSw 1002 s)=some (zbz.enc ((x:Int),s'))∧(x=a - 1∨x=a∨x=a+1)∧0≤s'∧s'≤s+3:=by
 obtain ⟨x,s',h,o,p,q⟩:=zwJ hc d hP (a - 1) a (a+1) s (by omega) (by omega) ha hs0 hs
 refine ⟨x,s',zjG d.toList _ _ ?_,o,p,q⟩
 rw [dn1 ha1 (by omega),up1 (by omega),zaA h]
 rfl
set_option maxHeartbeats 1000000 in
theorem zt3 (hc:Cmp lt P) (d:Array GRatio) (hP:AllA P d) (a b:Nat) (hab:a < b) (hb:b≤d.size) (hsz:d.size≤100000) :
  ∃ (m:Nat) (h:Int),cw zcC [.sl 2 (Er d),I (a:Int),I (b:Int),.fn zah []] []=some (zbK.enc ((m:Int),h))∧a≤m∧m < b∧(h=0∨h=1∨h=2):=by
 have e0:w64 ((b:Int) - (a:Int))=((b - a:Nat):Int):=by rw [w64_id (by omega) (by omega)]; omega
 have e1:(((b - a:Nat):Int)).tdiv 4=(((b - a) / 4:Nat):Int):=rfl
 have ew:w64 (((b - a) / 4:Nat):Int)=(((b - a) / 4:Nat):Int):=w64_id (by omega) (by omega)
 have ei:∀ c:Nat,c≤3→w64 ((a:Int)+w64 ((((b - a) / 4:Nat):Int)*(c:Int)))=((a+(b - a) / 4*c:Nat):Int):=fun c hc=>by
  have:(((b - a) / 4:Nat):Int)*(c:Int)=(((b - a) / 4*c:Nat):Int):=by push_cast; rfl
  have h2:(b - a) / 4*c≤(b - a) / 4*3:=Nat.mul_le_mul_left _ hc
  rw [this,w64_id (n:=(((b - a) / 4*c:Nat):Int)) (by omega) (by omega),w64_id (by omega) (by omega)]
  omega
 have ei1:=ei 1 (by omega)
 have ei2:=ei 2 (by omega)
 have ei3:=ei 3 (by omega)
 have c1:((1:Nat):Int)=1:=rfl
 have c2:((2:Nat):Int)=2:=rfl
 have c3:((3:Nat):Int)=3:=rfl
 rw [c1] at ei1
 rw [c2] at ei2
 rw [c3] at ei3
 have fin:∀ (m:Nat) (s:Int),∃ h:Int,(h=0∨h=1∨h=2)∧(brn (s == 0) (some (AV.tup [I (m:Int),I 1],([]:Mem))) (brn (s == 12) (some (.tup [I (m:Int),I 2],[])) (some (.tup [I (m:Int),I 0],[]))))=some (zbK.enc ((m:Int),h)):=by
  intro m s
  by_cases hz:s=0
  · exact ⟨1,by omega,by rw [hz]; rfl⟩
  · by_cases hz2:s=12
    · exact ⟨2,by omega,by rw [hz2]; rfl⟩
    · refine ⟨0,by omega,?_⟩
      rw [beq_false_of_ne hz,beq_false_of_ne hz2]; rfl
 by_cases h8:8≤b - a
 · by_cases h50:50≤b - a
   · obtain ⟨x1,s1,g1,o1,p1,q1⟩:=znb hc d hP (a+(b - a) / 4*1) 0 (by omega) (by omega) hsz (by omega) (by omega)
     have v1:a≤x1∧x1 < b:=by omega
     clear o1
     obtain ⟨x2,s2,g2,o2,p2,q2⟩:=znb hc d hP (a+(b - a) / 4*2) s1 (by omega) (by omega) hsz p1 (by omega)
     have v2:a≤x2∧x2 < b:=by omega
     clear o2
     obtain ⟨x3,s3,g3,o3,p3,q3⟩:=znb hc d hP (a+(b - a) / 4*3) s2 (by omega) (by omega) hsz p2 (by omega)
     have v3:a≤x3∧x3 < b:=by omega
     clear o3
     obtain ⟨x4,s4,g4,o4,p4,q4⟩:=zwJ hc d hP x1 x2 x3 s3 (by omega) (by omega) (by omega) p3 (by omega)
     have v4:a≤x4∧x4 < b:=by omega
     clear o4
     obtain ⟨h,hh,hf⟩:=fin x4 s4
     refine ⟨x4,h,zdJ d.toList _ _ ?_,v4.1,v4.2,hh⟩
     clear hh
     rw [zac (by omega),zac (by omega),zac (by omega),e0,e1,ew,ei1,ei2,ei3,zad,if_pos (by omega),zad,if_pos (by omega),zaA g1,zaA g2,zaA g3]
     refine ziZ _ _ _ _ ?_
     rw [zaA g4]
     exact hf
   · obtain ⟨x4,s4,g4,o4,p4,q4⟩:=zwJ hc d hP (a+(b - a) / 4*1) (a+(b - a) / 4*2) (a+(b - a) / 4*3) 0 (by omega) (by omega) (by omega) (by omega) (by omega)
     have v4:a≤x4∧x4 < b:=by omega
     clear o4
     obtain ⟨h,hh,hf⟩:=fin x4 s4
     refine ⟨x4,h,zdJ d.toList _ _ ?_,v4.1,v4.2,hh⟩
     clear hh
     rw [zac (by omega),zac (by omega),zac (by omega),e0,zad,if_pos (by omega),zad,if_neg (by omega)]
     refine zig _ _ _ ?_
     rw [e0,e1,ew,ei1,ei2,ei3,zaA g4]
     exact hf
 · refine ⟨a+(b - a) / 4*2,1,zdJ d.toList _ _ ?_,by omega,by omega,by omega⟩
   rw [zac (by omega),zac (by omega),zac (by omega),e0,e1,ew,ei2,zad,if_neg (by omega)]
   rfl
end
end Go.Proofs.YtbhkcgaanaelfaaGreat
namespace Go.Proofs.YtbhkcgaanaelfaaGreat
open Go.Ab Go.Sort
set_option linter.unusedVariables false
theorem blen_bits:∀ n:Fin 100,blen n.val=bitsLen n.val:=by decide
theorem c_Len64s (n:Nat) (h:n < 100):cw zly [.v (.int .u64 (n:Int))] []=some (zfh ((bitsLen n:Nat):Int)):=by
 rw [c_Len64 n (by omega),blen_bits ⟨n,h⟩]
theorem c_Len (n:Nat) (h:n < 100):cw zqb [.v (.int .u64 (n:Int))] []=some (zqf.enc ((bitsLen n:Nat):Int)):=by
 refine e_bits_Len _ ?_
 rw [c_Len64s n h,zqG]
 rfl
theorem zwv {n:Nat} (h:n < 100):bitsLen n≤7:=(bitsLen_le_iff n 7).2 (by omega)
theorem c_nextPow (n:Nat) (h:n < 100):cw zhG [I (n:Int)] []=some (zhB.enc ((2 ^ bitsLen n:Nat):Int)):=by
 refine zrd _ ?_
 have hb:=zwv h
 have hp:2 ^ bitsLen n≤2 ^ 7:=Nat.pow_le_pow_right (by omega) hb
 rw [zdq (n:=(n:Int)) (by omega) (by omega),zaA (c_Len n h),zac (by omega),Int.toNat_natCast,Nat.min_eq_left (by omega)]
 have e:(1:Int)*2 ^ bitsLen n=((2 ^ bitsLen n:Nat):Int):=by push_cast; rw [Int.one_mul]
 rw [e]
 clear e
 have hp':2 ^ bitsLen n≤128:=hp
 clear hp
 generalize 2 ^ bitsLen n=z at hp' ⊢
 rw [zdq (by omega) (by omega)]
 rfl
theorem c_xor (x:Int):∃ v w:Int,cw zim [.loc 1000 1 0 0] [(1000,⟨1,zbR,[zod x],true⟩)]=some (zid.enc (v,w)):=by
 apply Exists.intro
 apply Exists.intro
 apply zrT
 rw [zac (by omega),zac (by omega),zac (by omega)]
 rfl
section
variable {lt:GRatio→GRatio→Bool} {P:GRatio→Prop}
theorem and_bd (v:Nat) (M:Nat) (h1:1≤M) (h2:M≤1000):v &&& (wu64 ((M:Int) - 1) % Int.ofNat (2 ^ 64)).toNat < M:=by
 have e:(wu64 ((M:Int) - 1) % Int.ofNat (2 ^ 64)).toNat=M - 1:=by
  rw [zdq (by omega) (by omega)]
  show (((M:Int) - 1) % (18446744073709551616:Int)).toNat=M - 1
  omega
 rw [e]
 have:=Nat.and_le_right (n:=v) (m:=M - 1)
 omega
theorem k_break (a0:List GRatio) (a b M:Nat) (hab:a+8≤b) (hM:1≤M) (hM2:M≤2*(b - a)) (hM3:M≤1000) (hbs:b≤100000):∀ (k i:Nat) (x:Int) (d:Array GRatio),a+(b - a) / 4*2+2≤i+k→a≤i→a0.length=d.size→b≤d.size→d.size≤100000 →
  ∃ d',zbx a0 (a:Int) (b:Int) (M:Int) x (Er d) (i:Int)=some (zbe.enc d'.toList)∧PermIn a b d d':=by
 have e0:w64 ((b:Int) - (a:Int))=((b - a:Nat):Int):=by rw [w64_id (by omega) (by omega)]; omega
 have e1:(((b - a:Nat):Int)).tdiv 4=(((b - a) / 4:Nat):Int):=rfl
 intro k
 induction k with
 | zero =>
   intro i x d hk hi hn hb hs
   refine ⟨d,zb1 _ _ _ _ _ _ _ ?_,permIn_refl _ _ _⟩
   have e2:w64 (w64 ((a:Int)+w64 (w64 (((b - a:Nat):Int).tdiv 4)*2))+1)=((a+(b - a) / 4*2+1:Nat):Int):=by
    rw [e1,w64_id (n:=(((b - a) / 4:Nat):Int)) (by omega) (by omega),w64_id (n:=(((b - a) / 4:Nat):Int)*2) (by omega) (by omega),w64_id (n:=(a:Int)+_) (by omega) (by omega),w64_id (by omega) (by omega)]
    omega
   rw [zac (by omega),e0,e2,zad,if_neg (by omega)]
   rfl
 | succ k ih =>
   intro i x d hk hi hn hb hs
   have e2:w64 (w64 ((a:Int)+w64 (w64 (((b - a:Nat):Int).tdiv 4)*2))+1)=((a+(b - a) / 4*2+1:Nat):Int):=by
    rw [e1,w64_id (n:=(((b - a) / 4:Nat):Int)) (by omega) (by omega),w64_id (n:=(((b - a) / 4:Nat):Int)*2) (by omega) (by omega),w64_id (n:=(a:Int)+_) (by omega) (by omega),w64_id (by omega) (by omega)]
    omega
   by_cases hle:i≤a+(b - a) / 4*2+1
   · obtain ⟨v,w,hx⟩:=c_xor x
     have hq:=and_bd (v % Int.ofNat (2 ^ 64)).toNat M hM hM3
     have hl2:(b - a) / 4*2+1 < b - a:=by omega
     by_cases hge:b - a≤((v % Int.ofNat (2 ^ 64)).toNat &&& (wu64 ((M:Int) - 1) % Int.ofNat (2 ^ 64)).toNat)
     · obtain ⟨d',g1,g2⟩:=ih (i+1) w (swp d i (a+(((v % Int.ofNat (2 ^ 64)).toNat &&& (wu64 ((M:Int) - 1) % Int.ofNat (2 ^ 64)).toNat) - (b - a)))) (by omega) (by omega) (by rw [zaM]; exact hn) (by rw [zaM]; exact hb) (by rw [zaM]; exact hs)
       refine ⟨d',zb1 _ _ _ _ _ _ _ ?_,permIn_trans _ _ _ _ _ (swp_permIn d a b i _ hi (by omega) (by omega) (by omega) hb) g2⟩
       rw [zac (by omega),e0,e2,zad,if_pos (by omega),zaA hx]
       dsimp only
       have hT:∀ y,zbP a0 (a:Int) (b:Int) (M:Int) (Er d) (i:Int) (v,w)=some y→(chk ((4:Int)≠0) <| zbP a0 (a:Int) (b:Int) (M:Int) (Er d) (i:Int) (v,w))=some y:=fun y h=>by rw [zac (by omega)]; exact h
       have hG:=zie a0 (a:Int) (b:Int) (M:Int) (Er d) (i:Int) (v,w) (y:=zbe.enc d'.toList)
       dsimp only at hG
       generalize ((v % Int.ofNat (2 ^ 64)).toNat &&& (wu64 ((M:Int) - 1) % Int.ofNat (2 ^ 64)).toNat)=q at hq hge g1 hG ⊢
       rw [zdq (n:=(q:Int)) (by omega) (by omega),w64_id (n:=(q:Int)) (by omega) (by omega),zad,if_pos (by omega)]
       apply hG
       have ei:w64 ((a:Int)+w64 (w64 (wu64 (q:Int)) - w64 ((b:Int) - (a:Int))))=((a+(q - (b - a)):Nat):Int):=by
        rw [zdq (n:=(q:Int)) (by omega) (by omega),w64_id (n:=(q:Int)) (by omega) (by omega),e0,w64_id (n:=(q:Int) - _) (by omega) (by omega),w64_id (by omega) (by omega)]
        omega
       rw [ei,List.length_map,rdA hn (by omega),rdA hn (by omega),rdA hn (by omega),rdS hn (by omega),swpE,up1 (by omega)]
       exact g1
     · obtain ⟨d',g1,g2⟩:=ih (i+1) w (swp d i (a+(((v % Int.ofNat (2 ^ 64)).toNat &&& (wu64 ((M:Int) - 1) % Int.ofNat (2 ^ 64)).toNat)))) (by omega) (by omega) (by rw [zaM]; exact hn) (by rw [zaM]; exact hb) (by rw [zaM]; exact hs)
       refine ⟨d',zb1 _ _ _ _ _ _ _ ?_,permIn_trans _ _ _ _ _ (swp_permIn d a b i _ hi (by omega) (by omega) (by omega) hb) g2⟩
       rw [zac (by omega),e0,e2,zad,if_pos (by omega),zaA hx]
       dsimp only
       have hG:=zhE a0 (a:Int) (b:Int) (M:Int) (Er d) (i:Int) (v,w) (y:=zbe.enc d'.toList)
       dsimp only at hG
       generalize ((v % Int.ofNat (2 ^ 64)).toNat &&& (wu64 ((M:Int) - 1) % Int.ofNat (2 ^ 64)).toNat)=q at hq hge g1 hG ⊢
       rw [zdq (n:=(q:Int)) (by omega) (by omega),w64_id (n:=(q:Int)) (by omega) (by omega),zad,if_neg (by omega)]
       apply hG
       have ei:w64 ((a:Int)+w64 (wu64 (q:Int)))=((a+q:Nat):Int):=by
        rw [zdq (n:=(q:Int)) (by omega) (by omega),w64_id (n:=(q:Int)) (by omega) (by omega),w64_id (by omega) (by omega)]
        omega
       rw [ei,List.length_map,rdA hn (by omega),rdA hn (by omega),rdA hn (by omega),rdS hn (by omega),swpE,up1 (by omega)]
       exact g1
   · refine ⟨d,zb1 _ _ _ _ _ _ _ ?_,permIn_refl _ _ _⟩
     rw [zac (by omega),e0,e2,zad,if_neg (by omega)]
     rfl
theorem c_break (d:Array GRatio) (a b:Nat) (hab:a≤b) (hb:b≤d.size) (hs:d.size < 100) :
  ∃ d',cw zdj [rA d,I (a:Int),I (b:Int),.fn zah []] (mA d)=some (zbe.enc d'.toList)∧PermIn a b d d':=by
 have e0:w64 ((b:Int) - (a:Int))=((b - a:Nat):Int):=by rw [w64_id (by omega) (by omega)]; omega
 have e1:(((b - a:Nat):Int)).tdiv 4=(((b - a) / 4:Nat):Int):=rfl
 by_cases h8:8≤b - a
 · have hM2:=two_pow_bitsLen_le (n:=b - a) (by omega)
   have e2:w64 (w64 ((a:Int)+w64 (w64 (((b - a:Nat):Int).tdiv 4)*2)) - 1)=((a+(b - a) / 4*2 - 1:Nat):Int):=by
    rw [e1,w64_id (n:=(((b - a) / 4:Nat):Int)) (by omega) (by omega),w64_id (n:=(((b - a) / 4:Nat):Int)*2) (by omega) (by omega),w64_id (n:=(a:Int)+_) (by omega) (by omega),w64_id (by omega) (by omega)]
    omega
   obtain ⟨d',g1,g2⟩:=k_break d.toList a b (2 ^ bitsLen (b - a)) (by omega) (Nat.one_le_two_pow) hM2 (by omega) (by omega) 100 (a+(b - a) / 4*2 - 1) (wu64 ((b - a:Nat):Int)) d (by omega) (by omega) (by simp) hb (by omega)
   refine ⟨d',zfz d.toList _ _ ?_,g2⟩
   rw [e0,zad,if_pos (by omega),zaA (c_nextPow (b - a) (by omega)),zac (by omega),e2]
   exact g1
 · refine ⟨d,zfz d.toList _ _ ?_,permIn_refl _ _ _⟩
   rw [e0,zad,if_neg (by omega)]
   rfl
theorem zuO:∀ (j:Nat) (d:Array GRatio),j < d.size→(shiftDown lt j d).size=d.size∧(AllA P d→AllA P (shiftDown lt j d))
 | 0,d,_=>⟨rfl,fun h=>h⟩
 | j+1,d,h=>by
   unfold shiftDown
   split
   · exact ⟨rfl,fun h=>h⟩
   · have ih:=zuO j (swp d (j+1) j) (by rw [zaM]; omega)
     rw [zaM] at ih
     exact ⟨ih.1,fun hP=>ih.2 (hP.swp h (by omega))⟩
theorem shiftUp_ok (b:Nat):∀ (k j:Nat) (d:Array GRatio),b≤j+k→b≤d.size→(shiftUp lt b j d).size=d.size∧(AllA P d→AllA P (shiftUp lt b j d)):=by
 intro k
 induction k with
 | zero =>
   intro j d hk _
   rw [shiftUp,if_neg (by omega)]
   exact ⟨rfl,fun h=>h⟩
 | succ k ih =>
   intro j d hk hb
   rw [shiftUp]
   split
   · split
     · exact ⟨rfl,fun h=>h⟩
     · have ih:=ih (j+1) (swp d j (j - 1)) (by omega) (by rw [zaM]; exact hb)
       rw [zaM] at ih
       exact ⟨ih.1,fun hP=>ih.2 (hP.swp (by omega) (by omega))⟩
   · exact ⟨rfl,fun h=>h⟩
theorem k_up (hc:Cmp lt P) (a0:List GRatio) (a b i c:Nat) (y:AV×Mem):∀ (k j:Nat) (d:Array GRatio),b≤j+k→1≤j→b≤d.size→d.size≤100000→a0.length=d.size→AllA P d →
  zaz a0 (a:Int) (b:Int) (Er (shiftUp lt b j d)) (i:Int) (w64 ((c:Int)+1))=some y→zaN a0 (a:Int) (b:Int) (c:Int) (i:Int) (Er d) (j:Int)=some y:=by
 intro k
 induction k with
 | zero =>
   intro j d hk hj hb hs hn hP h
   rw [shiftUp,if_neg (by omega)] at h
   refine zdQ _ _ _ _ _ _ _ ?_
   rw [zad,if_neg (by omega)]
   exact h
 | succ k ih =>
   intro j d hk hj hb hs hn hP h
   refine zdQ _ _ _ _ _ _ _ ?_
   by_cases hjb:j < b
   · rw [shiftUp,if_pos hjb] at h
     rw [zad,if_pos (by omega),dn1 (by omega) (by omega),List.length_map,rdA hn (by omega),rdA hn (by omega),hc.stepN (hP _ (by omega)) (hP _ (by omega))]
     cases hl:lt d[j]! d[j - 1]! with
     | false =>
       rw [hl,Bool.not_false,if_pos rfl] at h
       rw [zat]
       exact h
     | true =>
       rw [hl,Bool.not_true,if_neg (by simp)] at h
       rw [zaG,rdA hn (by omega),rdA hn (by omega),rdA hn (by omega),rdS hn (by omega),swpE,up1 (by omega)]
       exact ih (j+1) (swp d j (j - 1)) (by omega) (by omega) (by rw [zaM]; exact hb) (by rw [zaM]; exact hs) (by rw [zaM]; exact hn) (hP.swp (by omega) (by omega)) h
   · rw [shiftUp,if_neg hjb] at h
     rw [zad,if_neg (by omega)]
     exact h
theorem k_down (hc:Cmp lt P) (a0:List GRatio) (a b i c:Nat) (y:AV×Mem):∀ (j:Nat) (d:Array GRatio),j < d.size→d.size≤100000→a0.length=d.size→AllA P d →
  (brn (decide (2≤w64 ((b:Int) - (i:Int)))) (zaN a0 (a:Int) (b:Int) (c:Int) (i:Int) (Er (shiftDown lt j d)) (w64 ((i:Int)+1)))
   (zaz a0 (a:Int) (b:Int) (Er (shiftDown lt j d)) (i:Int) (w64 ((c:Int)+1))))=some y →
  zbB a0 (a:Int) (b:Int) (c:Int) (i:Int) (Er d) (j:Int)=some y:=by
 intro j
 induction j with
 | zero =>
   intro d _ hs hn hP h
   refine zd1 _ _ _ _ _ _ _ ?_
   rw [zad,if_neg (by omega)]
   exact h
 | succ j ih =>
   intro d hj hs hn hP h
   unfold shiftDown at h
   refine zd1 _ _ _ _ _ _ _ ?_
   rw [zad,if_pos (by omega),dn1 (by omega) (by omega),Nat.add_sub_cancel,List.length_map,rdA hn (by omega),rdA hn (by omega),hc.stepN (hP _ (by omega)) (hP _ (by omega))]
   cases hl:lt d[j+1]! d[j]! with
   | false =>
     rw [hl,Bool.not_false,if_pos rfl] at h
     rw [zat]
     exact h
   | true =>
     rw [hl,Bool.not_true,if_neg (by simp)] at h
     rw [zaG,rdA hn (by omega),rdA hn (by omega),rdA hn (by omega),rdS hn (by omega),swpE]
     exact ih (swp d (j+1) j) (by rw [zaM]; omega) (by rw [zaM]; exact hs) (by rw [zaM]; exact hn) (hP.swp hj (by omega)) h
theorem k_scan (hc:Cmp lt P) (a0:List GRatio) (a b c:Nat) (d:Array GRatio) (hb:b≤d.size) (hs:d.size≤100000) (hn:a0.length=d.size) (hP:AllA P d) (y:AV×Mem):∀ (k i:Nat),b≤i+k→1≤i →
  zaO a0 (a:Int) (b:Int) (Er d) (c:Int) ((scanSorted lt d b i:Nat):Int)=some y→zbw a0 (a:Int) (b:Int) (Er d) (c:Int) (i:Int)=some y:=by
 intro k
 induction k with
 | zero =>
   intro i hk hi h
   rw [scanSorted,if_neg (by simp; omega)] at h
   refine zdG _ _ _ _ _ _ ?_
   rw [zad,if_neg (by omega)]
   exact h
 | succ k ih =>
   intro i hk hi h
   refine zdG _ _ _ _ _ _ ?_
   by_cases hib:i < b
   · rw [zad,if_pos (by omega),dn1 (by omega) (by omega),List.length_map,rdA hn (by omega),rdA hn (by omega),hc.stepN (hP _ (by omega)) (hP _ (by omega))]
     cases hl:lt d[i]! d[i - 1]! with
     | false =>
       rw [scanSorted,if_pos (by rw [hl]; simp; omega)] at h
       rw [zat,up1 (by omega)]
       exact ih (i+1) (by omega) (by omega) h
     | true =>
       rw [scanSorted,if_neg (by rw [hl]; simp)] at h
       rw [zaG]
       exact h
   · rw [scanSorted,if_neg (by simp; omega)] at h
     rw [zad,if_neg (by omega)]
     exact h
theorem k_scan0 (hc:Cmp lt P) (a0:List GRatio) (a b c:Nat) (d:Array GRatio) (hb:b≤d.size) (hs:d.size≤100000) (hn:a0.length=d.size) (hP:AllA P d) (y:AV×Mem) (i:Nat) (hi:1≤i)
  (h:zaO a0 (a:Int) (b:Int) (Er d) (c:Int) ((scanSorted lt d b i:Nat):Int)=some y):zcs a0 (a:Int) (b:Int) (Er d) (i:Int) (c:Int)=some y:=by
 refine zho _ _ _ _ _ _ ?_
 by_cases hib:i < b
 · rw [zad,if_pos (by omega),dn1 (by omega) (by omega),List.length_map,rdA hn (by omega),rdA hn (by omega),hc.stepN (hP _ (by omega)) (hP _ (by omega))]
   cases hl:lt d[i]! d[i - 1]! with
   | false =>
     rw [scanSorted,if_pos (by rw [hl]; simp; omega)] at h
     rw [zat,up1 (by omega)]
     exact k_scan hc a0 a b c d hb hs hn hP y b (i+1) (by omega) (by omega) h
   | true =>
     rw [scanSorted,if_neg (by rw [hl]; simp)] at h
     rw [zaG]
     exact h
 · rw [scanSorted,if_neg (by simp; omega)] at h
   rw [zad,if_neg (by omega)]
   exact h
theorem scan_le (d:Array GRatio) (b:Nat):∀ (k i:Nat),b≤i+k→i≤b→i≤scanSorted lt d b i∧scanSorted lt d b i≤b:=by
 intro k
 induction k with
 | zero =>
   intro i hk hi
   rw [scanSorted,if_neg (by simp; omega)]
   omega
 | succ k ih =>
   intro i hk hi
   rw [scanSorted]
   split
   · rename_i hc
     simp only [Bool.and_eq_true,decide_eq_true_eq] at hc
     have:=ih (i+1) (by omega) (by omega)
     omega
   · omega
theorem k_trial (hc:Cmp lt P) (a0:List GRatio) (a b:Nat):∀ (s i c:Nat) (d:Array GRatio),c+s=5→a < i→i≤b→b≤d.size→d.size≤100000→a0.length=d.size→AllA P d →
  zaz a0 (a:Int) (b:Int) (Er d) (i:Int) (c:Int)=some (zaZ.enc ((partialIns lt a b s i d).2,(partialIns lt a b s i d).1.toList)):=by
 intro s
 induction s with
 | zero =>
   intro i c d hcs ha hi hb hs hn hP
   refine zdU _ _ _ _ _ _ ?_
   rw [zad,if_neg (by omega)]
   rfl
 | succ s ih =>
   intro i c d hcs ha hi hb hs hn hP
   refine zdU _ _ _ _ _ _ ?_
   rw [zad,if_pos (by omega)]
   refine k_scan0 hc a0 a b c d hb hs hn hP _ i (by omega) ?_
   rw [partialIns_succ]
   obtain ⟨hk1,hk2⟩:=scan_le (lt:=lt) d b b i (by omega) hi
   generalize scanSorted lt d b i=k at hk1 hk2 ⊢
   refine zgC _ _ _ _ _ _ ?_
   by_cases hkb:k=b
   · rw [if_pos hkb,hkb,beq_self_eq_true,zaG]
     rfl
   · rw [if_neg hkb,beq_false_of_ne (by omega),zat,w64_id (n:=(b:Int) - (a:Int)) (by omega) (by omega)]
     by_cases h50:b - a < 50
     · rw [if_pos h50,zad,if_pos (by omega)]
       rfl
     · have hkl:k < b:=by omega
       rw [if_neg h50,zad,if_neg (by omega),dn1 (by omega) (by omega),List.length_map,rdA hn (by omega),rdA hn (by omega),rdA hn (by omega),rdS hn (by omega),swpE,w64_id (n:=(k:Int) - (a:Int)) (by omega) (by omega)]
       have hP1:=hP.swp (show k < d.size by omega) (show k - 1 < d.size by omega)
       have z1:(swp d k (k - 1)).size=d.size:=zaM _ _ _
       generalize swp d k (k - 1)=d1 at hP1 z1 ⊢
       have hx:(fixDown lt a k d1).size=d1.size∧AllA P (fixDown lt a k d1):=by
        unfold fixDown
        split
        · have:=zuO (lt:=lt) (P:=P) (k - 1) d1 (by omega)
          exact ⟨this.1,this.2 hP1⟩
        · exact ⟨rfl,hP1⟩
       have hy:(fixUp lt b k (fixDown lt a k d1)).size=d1.size∧AllA P (fixUp lt b k (fixDown lt a k d1)):=by
        unfold fixUp
        split
        · have:=shiftUp_ok (lt:=lt) (P:=P) b b (k+1) (fixDown lt a k d1) (by omega) (by omega)
          exact ⟨by rw [this.1]; exact hx.1,this.2 hx.2⟩
        · exact hx
       have fin:=ih k (c+1) (fixUp lt b k (fixDown lt a k d1)) (by omega) (by omega) (by omega) (by omega) (by omega) (by omega) hy.2
       have tail:(brn (decide (2≤w64 ((b:Int) - (k:Int)))) (zaN a0 (a:Int) (b:Int) (c:Int) (k:Int) (Er (fixDown lt a k d1)) (w64 ((k:Int)+1)))
         (zaz a0 (a:Int) (b:Int) (Er (fixDown lt a k d1)) (k:Int) (w64 ((c:Int)+1))))=some (zaZ.enc ((partialIns lt a b s k (fixUp lt b k (fixDown lt a k d1))).2,(partialIns lt a b s k (fixUp lt b k (fixDown lt a k d1))).1.toList)):=by
        rw [← up1 (i:=c) (by omega)] at fin
        rw [w64_id (n:=(b:Int) - (k:Int)) (by omega) (by omega)]
        by_cases h2:b - k ≥ 2
        · rw [zad,if_pos (by omega),up1 (i:=k) (by omega)]
          refine k_up hc a0 a b k c _ b (k+1) (fixDown lt a k d1) (by omega) (by omega) (by omega) (by omega) (by omega) hx.2 ?_
          unfold fixUp at fin ⊢
          rw [if_pos h2] at fin ⊢
          exact fin
        · rw [zad,if_neg (by omega)]
          unfold fixUp at fin ⊢
          rw [if_neg h2] at fin ⊢
          exact fin
       by_cases h2:k - a ≥ 2
       · rw [zad,if_pos (by omega)]
         refine k_down hc a0 a b k c _ (k - 1) d1 (by omega) (by omega) (by omega) hP1 ?_
         unfold fixDown at tail ⊢
         rw [if_pos h2] at tail ⊢
         exact tail
       · rw [zad,if_neg (by omega)]
         unfold fixDown at tail ⊢
         rw [if_neg h2] at tail ⊢
         exact tail
theorem c_trial (hc:Cmp lt P) (hW:SWO lt) (d:Array GRatio) (a b:Nat) (hP:AllA P d) (hab:a < b) (hb:b≤d.size) (hs:d.size < 100) (hB:Below lt a b d) :
  ∃ (f:Bool) (d':Array GRatio),cw zbD [rA d,I (a:Int),I (b:Int),.fn zah []] (mA d)=some (zaZ.enc (f,d'.toList))∧PermIn a b d d'∧(f=true→SortedIn lt a b d'):=by
 have hsp:=partialInsertionSort_holds hW d a b hab hb hB
 refine ⟨_,_,zhD d.toList _ _ ?_,hsp.1,hsp.2⟩
 rw [up1 (by omega)]
 exact k_trial hc d.toList a b 5 (a+1) 0 d (by omega) (by omega) (by omega) hb (by omega) (by simp) hP
end
end Go.Proofs.YtbhkcgaanaelfaaGreat
namespace Go.Proofs.YtbhkcgaanaelfaaGreat
open Go.Ab Go.Sort
set_option linter.unusedVariables false
section
variable {lt:GRatio→GRatio→Bool} {P:GRatio→Prop}
def PdqOk (lt:GRatio→GRatio→Bool) (P:GRatio→Prop) (n:Nat):Prop:=∀ (a b:Nat) (d:Array GRatio) (a0:List GRatio) (lim:Nat) (wb wp:Bool),b - a < n→a≤b→b≤d.size→d.size < 100→a0.length=d.size→AllA P d→Below lt a b d→lim≤100 →
 ∃ d',zbb a0 (Er d) (a:Int) (b:Int) (lim:Int) wb wp=some (zaI.enc d'.toList)∧PermIn a b d d'∧SortedIn lt a b d'
theorem c_pdq {n:Nat} (h:PdqOk lt P n) (a b:Nat) (d:Array GRatio) (lim:Nat) (h1:b - a < n) (h2:a≤b) (h3:b≤d.size) (h4:d.size < 100) (hP:AllA P d) (hB:Below lt a b d) (hl:lim≤100) :
  ∃ d',cw zcg [rA d,I (a:Int),I (b:Int),I (lim:Int),.fn zah []] (mA d)=some (zaI.enc d'.toList)∧PermIn a b d d'∧SortedIn lt a b d':=by
 obtain ⟨d',g1,g2⟩:=h a b d d.toList lim true true h1 h2 h3 h4 (by simp) hP hB hl
 exact ⟨d',zmK d.toList _ _ _ g1,g2⟩
set_option maxHeartbeats 1000000 in
theorem k_1020 (hc:Cmp lt P) (hW:SWO lt) (a0:List GRatio) (a b m lim:Nat) (d:Array GRatio) (wb wp:Bool) (hI:PdqOk lt P (b - a)) (hab:a+1 < b) (hb:b≤d.size) (hs:d.size < 100) (hn:a0.length=d.size) (hP:AllA P d) (hB:Below lt a b d) (hm:a≤m) (hm2:m < b) (hl:lim≤100) :
  ∃ d',zbh a0 (a:Int) (b:Int) wb wp (Er d) (lim:Int) (m:Int)=some (zaI.enc d'.toList)∧PermIn a b d d'∧SortedIn lt a b d':=by
 obtain ⟨flag,hp⟩:=zCF hc d a b m hP hm hm2 hb (by omega) hab
 have hperm:PermIn a b d (partition lt d a b m).2.2:=(partition_holds lt hW d a b m hm hm2 hb).2.2.1
 generalize hx:partition lt d a b m=r at hp hperm
 obtain ⟨mid,ap,d4⟩:=r
 obtain ⟨q1,q2,q3,q4,q5,q6,q7⟩:=round_part hW (partition_holds lt) hm hm2 hb hB hx
 dsimp only at hp hperm
 have hP4:AllA P d4:=hP.perm (by omega) hb hperm
 have e1:w64 ((mid:Int) - (a:Int))=((mid - a:Nat):Int):=by rw [w64_id (by omega) (by omega)]; omega
 have e2:w64 ((b:Int) - (mid:Int))=((b - mid:Nat):Int):=by rw [w64_id (by omega) (by omega)]; omega
 by_cases hlt:mid - a < b - mid
 · obtain ⟨L,g1,g2,g3⟩:=c_pdq hI a mid d4 lim (by omega) q1 (by omega) (by omega) hP4 q4 hl
   obtain ⟨hBL,hR⟩:=q6 L g2 g3
   have hLs:L.size=d4.size:=g2.1
   obtain ⟨R,r1,r2,r3⟩:=hI (mid+1) b L a0 lim (decide (w64 ((w64 ((b:Int) - (a:Int))).tdiv 8)≤w64 ((mid:Int) - (a:Int)))) flag (by omega) (by omega) (by omega) (by omega) (by omega) (hP4.perm q1 (by omega) g2) hBL hl
   obtain ⟨z1,z2⟩:=hR R r2 r3
   refine ⟨R,zfF _ _ _ _ _ _ _ _ ?_,z1,z2⟩
   rw [row_eq hn,zaA hp,zac (by omega)]
   dsimp only
   rw [show rA d=rA d4 from by rw [rA,rA,lenE,lenE,q3],zad,if_pos (by rw [e1,e2]; omega),zaA g1,up1 (by omega)]
   exact r1
 · obtain ⟨L,g1,g2,g3⟩:=c_pdq hI (mid+1) b d4 lim (by omega) (by omega) (by omega) (by omega) hP4 q5 hl
   obtain ⟨hBL,hR⟩:=q7 L g2 g3
   have hLs:L.size=d4.size:=g2.1
   obtain ⟨R,r1,r2,r3⟩:=hI a mid L a0 lim (decide (w64 ((w64 ((b:Int) - (a:Int))).tdiv 8)≤w64 ((b:Int) - (mid:Int)))) flag (by omega) (by omega) (by omega) (by omega) (by omega) (hP4.perm (by omega) (by omega) g2) hBL hl
   obtain ⟨z1,z2⟩:=hR R r2 r3
   refine ⟨R,zfF _ _ _ _ _ _ _ _ ?_,z1,z2⟩
   rw [row_eq hn,zaA hp,zac (by omega)]
   dsimp only
   rw [show rA d=rA d4 from by rw [rA,rA,lenE,lenE,q3],zad,if_neg (by rw [e1,e2]; omega),up1 (by omega),zaA g1]
   exact r1
theorem k_1017 (hc:Cmp lt P) (hW:SWO lt) (a0:List GRatio) (a b m lim:Nat) (d:Array GRatio) (wb wp:Bool) (hI:PdqOk lt P (b - a)) (hab:a+1 < b) (hb:b≤d.size) (hs:d.size < 100) (hn:a0.length=d.size) (hP:AllA P d) (hB:Below lt a b d) (hm:a≤m) (hm2:m < b) (hl:lim≤100) :
  ∃ d',zcw a0 (a:Int) (b:Int) wb wp (Er d) (lim:Int) (m:Int)=some (zaI.enc d'.toList)∧PermIn a b d d'∧SortedIn lt a b d':=by
 by_cases ha:0 < a
 · cases hlt:lt d[a - 1]! d[m]! with
   | false =>
     have hp:=zqI hc d a b m hP hm hm2 hb (by omega)
     generalize hx:partitionEqual lt d a b m=r at hp
     obtain ⟨mid,d4⟩:=r
     obtain ⟨q1,q2,q3,q4,q5⟩:=round_eq hW (partitionEqual_holds lt) ha hm hm2 hb hB hlt hx
     have hge:∀ i,a≤i→i < b→lt d[i]! d[m]! = false:=fun i hi hi'=>by
      rcases hB with h0 | hB
      · omega
      · exact hW.ntrans _ _ _ (hB i hi hi') hlt
     have hperm:PermIn a b d (partitionEqual lt d a b m).2:=(partitionEqual_holds lt hW d a b m hm hm2 hb hge).2.2.1
     rw [hx] at hperm
     dsimp only at hp hperm
     obtain ⟨R,r1,r2,r3⟩:=hI mid b d4 a0 lim wb wp (by omega) q2 (by omega) (by omega) (by omega) (hP.perm (by omega) hb hperm) q4 hl
     obtain ⟨z1,z2⟩:=q5 R r2 r3
     refine ⟨R,zdz _ _ _ _ _ _ _ _ ?_,z1,z2⟩
     rw [row_eq hn,List.length_map,zad,if_pos (by omega),dn1 (by omega) (by omega),rdA hn (by omega),rdA hn (by omega),hc.stepN (hP _ (by omega)) (hP _ (by omega)),hlt,zat,zaA hp]
     exact r1
   | true =>
     obtain ⟨R,r1,r2⟩:=k_1020 hc hW a0 a b m lim d wb wp hI hab hb hs hn hP hB hm hm2 hl
     refine ⟨R,zdz _ _ _ _ _ _ _ _ ?_,r2⟩
     rw [row_eq hn,List.length_map,zad,if_pos (by omega),dn1 (by omega) (by omega),rdA hn (by omega),rdA hn (by omega),hc.stepN (hP _ (by omega)) (hP _ (by omega)),hlt,zaG]
     exact r1
 · obtain ⟨R,r1,r2⟩:=k_1020 hc hW a0 a b m lim d wb wp hI hab hb hs hn hP hB hm hm2 hl
   refine ⟨R,zdz _ _ _ _ _ _ _ _ ?_,r2⟩
   rw [zad,if_neg (by omega)]
   exact r1
theorem k_1017v1 (hc:Cmp lt P) (hW:SWO lt) (a0:List GRatio) (a b m lim:Nat) (d:Array GRatio) (wb wp:Bool) (hI:PdqOk lt P (b - a)) (hab:a+1 < b) (hb:b≤d.size) (hs:d.size < 100) (hn:a0.length=d.size) (hP:AllA P d) (hB:Below lt a b d) (hm:a≤m) (hm2:m < b) (hl:lim≤100) :
  ∃ d',zaV a0 (a:Int) (b:Int) wb wp (Er d) (lim:Int) (m:Int)=some (zaI.enc d'.toList)∧PermIn a b d d'∧SortedIn lt a b d':=by
 by_cases ha:0 < a
 · cases hlt:lt d[a - 1]! d[m]! with
   | false =>
     have hp:=zqI hc d a b m hP hm hm2 hb (by omega)
     generalize hx:partitionEqual lt d a b m=r at hp
     obtain ⟨mid,d4⟩:=r
     obtain ⟨q1,q2,q3,q4,q5⟩:=round_eq hW (partitionEqual_holds lt) ha hm hm2 hb hB hlt hx
     have hge:∀ i,a≤i→i < b→lt d[i]! d[m]! = false:=fun i hi hi'=>by
      rcases hB with h0 | hB
      · omega
      · exact hW.ntrans _ _ _ (hB i hi hi') hlt
     have hperm:PermIn a b d (partitionEqual lt d a b m).2:=(partitionEqual_holds lt hW d a b m hm hm2 hb hge).2.2.1
     rw [hx] at hperm
     dsimp only at hp hperm
     obtain ⟨R,r1,r2,r3⟩:=hI mid b d4 a0 lim wb wp (by omega) q2 (by omega) (by omega) (by omega) (hP.perm (by omega) hb hperm) q4 hl
     obtain ⟨z1,z2⟩:=q5 R r2 r3
     refine ⟨R,zdf _ _ _ _ _ _ _ _ ?_,z1,z2⟩
     rw [row_eq hn,List.length_map,zad,if_pos (by omega),dn1 (by omega) (by omega),rdA hn (by omega),rdA hn (by omega),hc.stepN (hP _ (by omega)) (hP _ (by omega)),hlt,zat,zaA hp]
     exact r1
   | true =>
     obtain ⟨R,r1,r2⟩:=k_1020 hc hW a0 a b m lim d wb wp hI hab hb hs hn hP hB hm hm2 hl
     refine ⟨R,zdf _ _ _ _ _ _ _ _ ?_,r2⟩
     rw [row_eq hn,List.length_map,zad,if_pos (by omega),dn1 (by omega) (by omega),rdA hn (by omega),rdA hn (by omega),hc.stepN (hP _ (by omega)) (hP _ (by omega)),hlt,zaG]
     exact r1
 · obtain ⟨R,r1,r2⟩:=k_1020 hc hW a0 a b m lim d wb wp hI hab hb hs hn hP hB hm hm2 hl
   refine ⟨R,zdf _ _ _ _ _ _ _ _ ?_,r2⟩
   rw [zad,if_neg (by omega)]
   exact r1
theorem k_1015 (hc:Cmp lt P) (hW:SWO lt) (a0:List GRatio) (a b m lim:Nat) (d:Array GRatio) (wb wp:Bool) (hI:PdqOk lt P (b - a)) (hab:a+1 < b) (hb:b≤d.size) (hs:d.size < 100) (hn:a0.length=d.size) (hP:AllA P d) (hB:Below lt a b d) (hm:a≤m) (hm2:m < b) (hl:lim≤100) :
  ∃ d',zbg a0 (a:Int) (b:Int) wb wp (Er d) (lim:Int) (m:Int)=some (zaI.enc d'.toList)∧PermIn a b d d'∧SortedIn lt a b d':=by
 obtain ⟨R',r1',r2'⟩:=k_1017v1 hc hW a0 a b m lim d wb wp hI hab hb hs hn hP hB hm hm2 hl
 obtain ⟨f,d2,hf,hp2,hfs⟩:=c_trial hc hW d a b hP (by omega) hb hs hB
 have hs2:d2.size=d.size:=hp2.1
 obtain ⟨R,r1,r2⟩:=k_1017 hc hW a0 a b m lim d2 wb wp hI hab (by omega) (by omega) (by omega) (hP.perm (by omega) hb hp2) (hB.perm hb hp2) hm hm2 hl
 have hU:=fun y=>zks a0 (a:Int) (b:Int) wb wp (Er d) (lim:Int) (m:Int) (y:=y)
 rw [row_eq hn,zaA hf,r1'] at hU
 dsimp only at hU
 rw [r1] at hU
 cases wb with
 | false=>exact ⟨R',hU _ rfl,r2'⟩
 | true =>
   cases wp with
   | false=>exact ⟨R',hU _ rfl,r2'⟩
   | true =>
     rw [zaG,zaG] at hU
     cases hh:((1:Nat) == 1) with
     | false =>
       rw [hh,zat] at hU
       exact ⟨R',hU _ rfl,r2'⟩
     | true =>
       rw [hh,zaG] at hU
       cases f with
       | false=>exact ⟨R,hU _ rfl,permIn_trans _ _ _ _ _ hp2 r2.1,r2.2⟩
       | true=>exact ⟨d2,hU _ rfl,hp2,hfs rfl⟩
theorem k_1015v1 (hc:Cmp lt P) (hW:SWO lt) (a0:List GRatio) (a b m lim:Nat) (d:Array GRatio) (wb wp:Bool) (h:Int) (hI:PdqOk lt P (b - a)) (hab:a+1 < b) (hb:b≤d.size) (hs:d.size < 100) (hn:a0.length=d.size) (hP:AllA P d) (hB:Below lt a b d) (hm:a≤m) (hm2:m < b) (hl:lim≤100) :
  ∃ d',zcc a0 (a:Int) (b:Int) wb wp (Er d) (lim:Int) (m:Int) h=some (zaI.enc d'.toList)∧PermIn a b d d'∧SortedIn lt a b d':=by
 obtain ⟨R',r1',r2'⟩:=k_1017v1 hc hW a0 a b m lim d wb wp hI hab hb hs hn hP hB hm hm2 hl
 obtain ⟨f,d2,hf,hp2,hfs⟩:=c_trial hc hW d a b hP (by omega) hb hs hB
 have hs2:d2.size=d.size:=hp2.1
 obtain ⟨R,r1,r2⟩:=k_1017 hc hW a0 a b m lim d2 wb wp hI hab (by omega) (by omega) (by omega) (hP.perm (by omega) hb hp2) (hB.perm hb hp2) hm hm2 hl
 have hU:=fun y=>zjn a0 (a:Int) (b:Int) wb wp (Er d) (lim:Int) (m:Int) h (y:=y)
 rw [row_eq hn,zaA hf,r1'] at hU
 dsimp only at hU
 rw [r1] at hU
 cases wb with
 | false=>exact ⟨R',hU _ rfl,r2'⟩
 | true =>
   cases wp with
   | false=>exact ⟨R',hU _ rfl,r2'⟩
   | true =>
     rw [zaG,zaG] at hU
     cases hh:(h == 1) with
     | false =>
       rw [hh,zat] at hU
       exact ⟨R',hU _ rfl,r2'⟩
     | true =>
       rw [hh,zaG] at hU
       cases f with
       | false=>exact ⟨R,hU _ rfl,permIn_trans _ _ _ _ _ hp2 r2.1,r2.2⟩
       | true=>exact ⟨d2,hU _ rfl,hp2,hfs rfl⟩
theorem ks_1010 (hc:Cmp lt P) (hW:SWO lt) (a0:List GRatio) (a b lim:Nat) (d:Array GRatio) (wb wp:Bool) (hI:PdqOk lt P (b - a)) (hab:a+1 < b) (hb:b≤d.size) (hs:d.size < 100) (hn:a0.length=d.size) (hP:AllA P d) (hB:Below lt a b d) (hl:lim≤100) (hl1:1≤lim) :
  ∃ d',zdA a0 (a:Int) (b:Int) (lim:Int) wb wp d.toList=some (zaI.enc d'.toList)∧PermIn a b d d'∧SortedIn lt a b d':=by
 obtain ⟨m,h,hp,hm,hm2,hh⟩:=zt3 hc d hP a b (by omega) hb (by omega)
 have hU:=fun y=>zkv a0 (a:Int) (b:Int) (lim:Int) wb wp d.toList (y:=y)
 have ht:List.take ((List.map zaa a0).length) (List.map zaa d.toList)=Er d:=List.take_of_length_le (by simp [hn])
 rw [zac (by simp [hn]),ht,zaA hp,row_eq hn] at hU
 dsimp only at hU
 by_cases h2:h=2
 · have hr:=zzm d a b (by omega) hb (by omega)
   have hrp:=reverseRange_holds d a b (by omega) hb
   have e:w64 (w64 ((b:Int) - 1) - w64 ((m:Int) - (a:Int)))=((b - 1 - (m - a):Nat):Int):=by
    rw [w64_id (n:=(b:Int) - 1) (by omega) (by omega),w64_id (n:=(m:Int) - a) (by omega) (by omega),w64_id (by omega) (by omega)]; omega
   obtain ⟨R,r1,r2,r3⟩:=k_1015 hc hW a0 a b (b - 1 - (m - a)) (lim - 1) (reverseRange d a b) wb wp hI hab (by rw [hrp.1]; exact hb) (by rw [hrp.1]; exact hs) (by rw [hrp.1]; exact hn) (hP.perm (by omega) hb hrp) (hB.perm hb hrp) (by omega) (by omega) (by omega)
   rw [h2,zaA hr,e] at hU
   refine ⟨R,hU _ ?_,permIn_trans _ _ _ _ _ hrp r2,r3⟩
   show zbg a0 (a:Int) (b:Int) wb wp (Er (reverseRange d a b)) _ _=_
   rw [dn1 hl1 (by omega)]
   exact r1
 · obtain ⟨R,r1,r2⟩:=k_1015v1 hc hW a0 a b m (lim - 1) d wb wp h hI hab hb hs hn hP hB hm hm2 (by omega)
   rw [beq_false_of_ne h2,zat] at hU
   refine ⟨R,hU _ ?_,r2⟩
   rw [dn1 hl1 (by omega)]
   exact r1
theorem k_1010v1 (hc:Cmp lt P) (hW:SWO lt) (a0:List GRatio) (a b lim:Nat) (d:Array GRatio) (wb wp:Bool) (hI:PdqOk lt P (b - a)) (hab:a+1 < b) (hb:b≤d.size) (hs:d.size < 100) (hn:a0.length=d.size) (hP:AllA P d) (hB:Below lt a b d) (hl:lim≤100) :
  ∃ d',zdd a0 (Er d) (a:Int) (b:Int) (lim:Int) wb wp=some (zaI.enc d'.toList)∧PermIn a b d d'∧SortedIn lt a b d':=by
 obtain ⟨m,h,hp,hm,hm2,hh⟩:=zt3 hc d hP a b (by omega) hb (by omega)
 have hU:=fun y=>zjB a0 (Er d) (a:Int) (b:Int) (lim:Int) wb wp (y:=y)
 have ht:List.take ((List.map zaa a0).length) (List.map zaa d.toList)=Er d:=List.take_of_length_le (by simp [hn])
 rw [zac (by simp [hn]),ht,zaA hp,row_eq hn] at hU
 dsimp only at hU
 by_cases h2:h=2
 · have hr:=zzm d a b (by omega) hb (by omega)
   have hrp:=reverseRange_holds d a b (by omega) hb
   have e:w64 (w64 ((b:Int) - 1) - w64 ((m:Int) - (a:Int)))=((b - 1 - (m - a):Nat):Int):=by
    rw [w64_id (n:=(b:Int) - 1) (by omega) (by omega),w64_id (n:=(m:Int) - a) (by omega) (by omega),w64_id (by omega) (by omega)]; omega
   obtain ⟨R,r1,r2,r3⟩:=k_1015 hc hW a0 a b (b - 1 - (m - a)) (lim) (reverseRange d a b) wb wp hI hab (by rw [hrp.1]; exact hb) (by rw [hrp.1]; exact hs) (by rw [hrp.1]; exact hn) (hP.perm (by omega) hb hrp) (hB.perm hb hrp) (by omega) (by omega) (by omega)
   rw [h2,zaA hr,e] at hU
   refine ⟨R,hU _ ?_,permIn_trans _ _ _ _ _ hrp r2,r3⟩
   show zbg a0 (a:Int) (b:Int) wb wp (Er (reverseRange d a b)) _ _=_
   exact r1
 · obtain ⟨R,r1,r2⟩:=k_1015v1 hc hW a0 a b m (lim) d wb wp h hI hab hb hs hn hP hB hm hm2 (by omega)
   rw [beq_false_of_ne h2,zat] at hU
   refine ⟨R,hU _ ?_,r2⟩
   exact r1
theorem k_pdq (hc:Cmp lt P) (hW:SWO lt):∀ n,PdqOk lt P n:=by
 intro n
 induction n with
 | zero=>intro a b d a0 lim wb wp h; omega
 | succ n ih =>
   intro a b d a0 lim wb wp h hab hb hs hn hP hB hl
   have hI:PdqOk lt P (b - a):=fun a' b' d' a0' lim' wb' wp' h'=>ih a' b' d' a0' lim' wb' wp' (by omega)
   have e0:w64 ((b:Int) - (a:Int))=((b - a:Nat):Int):=by rw [w64_id (by omega) (by omega)]; omega
   by_cases h12:b - a≤12
   · have hi:=insertionSort_holds hW d a b hab hb
     refine ⟨insertionSort lt d a b,zcR _ _ _ _ _ _ _ ?_,hi.1,hi.2⟩
     rw [e0,zad,if_pos (by omega),row_eq hn,zaA (zBQ hc d a b hP hab hb (by omega))]
     rfl
   · by_cases h0:lim=0
     · have hi:=heapSort_holds hW d a b hab hb
       refine ⟨heapSort lt d a b,zcR _ _ _ _ _ _ _ ?_,hi.1,hi.2⟩
       rw [e0,zad,if_neg (by omega),h0,row_eq hn,zaA (c_heap hc d a b hP (by omega) hb (by omega))]
       rfl
     · cases wb with
       | false =>
         obtain ⟨d1,g1,g2⟩:=c_break d a b hab hb hs
         have hs1:d1.size=d.size:=g2.1
         obtain ⟨R,r1,r2,r3⟩:=ks_1010 hc hW a0 a b lim d1 false wp hI (by omega) (by omega) (by omega) (by omega) (hP.perm hab hb g2) (hB.perm hb g2) hl (by omega)
         refine ⟨R,zcR _ _ _ _ _ _ _ ?_,permIn_trans _ _ _ _ _ g2 r2,r3⟩
         rw [e0,zad,if_neg (by omega),beq_false_of_ne (by omega),zat,Bool.not_false,zaG,row_eq hn,zaA g1]
         exact r1
       | true =>
         obtain ⟨R,r1,r2,r3⟩:=k_1010v1 hc hW a0 a b lim d true wp hI (by omega) (by omega) (by omega) (by omega) hP hB hl
         refine ⟨R,zcR _ _ _ _ _ _ _ ?_,r2,r3⟩
         rw [e0,zad,if_neg (by omega),beq_false_of_ne (by omega),zat,Bool.not_true,zat]
         exact r1
theorem c_SortFunc (hc:Cmp lt P) (hW:SWO lt) (l:List GRatio) (hP:∀ x∈l,P x) (hs:l.length < 100) :
  ∃ l':List GRatio,cw zbJ [.row 1000 2 0 (List.map zaa l).length,.fn zah []] [(1000,⟨2,zae,List.map zaa l,false⟩)]=some (zbo.enc l')∧l'.Perm l∧l'.Pairwise (fun x y=>lt y x=false):=by
 have hPA:AllA P l.toArray:=by
  intro i hi
  have:l.toArray[i]! = l[i]'(by simpa using hi):=by
   rw [getElem!_pos l.toArray i hi]; simp
  rw [this]
  exact hP _ (List.getElem_mem _)
 have hsz:l.toArray.size=l.length:=by simp
 obtain ⟨d',g1,g2,g3⟩:=c_pdq (k_pdq hc hW 100) 0 l.length l.toArray (bitsLen l.length) (by omega) (by omega) (by omega) (by omega) hPA (Or.inl rfl) (by have:=zwv hs; omega)
 refine ⟨d'.toList,zkY l ?_,?_,?_⟩
 · rw [List.length_map,zdq (by omega) (by omega),zaA (c_Len l.length hs)]
   have hr:rA l.toArray=AV.row 1000 2 0 l.length:=by simp [rA]
   rw [hr] at g1
   rw [show ((0:Nat):Int)=0 from rfl] at g1
   rw [zaA g1]
   rfl
 · have h:=g2.2.2
   have e1:d'.extract 0 l.length=d':=by
    have:d'.size=l.length:=by rw [g2.1]; simp
    rw [← this]; simp
   have e2:l.toArray.extract 0 l.length=l.toArray:=by simp
   rw [e1,e2] at h
   simpa using h
 · have hd:d'.size=l.length:=by rw [g2.1]; simp
   rw [List.pairwise_iff_getElem]
   intro i j hi hj hij
   have hi':i < d'.size:=by simpa using hi
   have hj':j < d'.size:=by simpa using hj
   have:=g3 i j (by omega) hij (by omega)
   rw [getElem!_pos d' i hi',getElem!_pos d' j hj'] at this
   simpa using this
end
end Go.Proofs.YtbhkcgaanaelfaaGreat
namespace Go.Proofs.YtbhkcgaanaelfaaGreat
open Go.Ab Go.Sort
set_option linter.unusedVariables false
deriving instance DecidableEq for GRatio
def dq (l:List GRatio):Nat→List GRatio
 | 0=>[]
 | q+1=>dq l q++(if q≠0∧l[q]! = l[q - 1]! then [] else [l[q]!])
theorem eqG (x y:GRatio):(x.Num == y.Num && (x.Den == y.Den && true))=decide (x=y):=by
 cases x; cases y
 rw [Bool.eq_iff_iff]
 simp
theorem getL {l:List GRatio} {i:Nat} (h:i < l.length):l[i]?=some l[i]!:=by
 rw [getElem!_pos l i h,List.getElem?_eq_getElem h]
theorem rdL2 {β:Type} {l:List GRatio} {i:Nat} (hi:i < l.length) (K:GRatio→Option β):elemD zaf (List.map zaa l) i K=K l[i]!:=
 zdY (D:=zaf) (getL hi) K
noncomputable abbrev rCp (n:Nat) (l:List GRatio):AV×Mem:=zbT.enc (n,l)
theorem k_compact2 (l:List GRatio) (i:Nat) (hl:l.length≤100000) (hi:1≤i):∀ (k q:Nat) (e:List GRatio) (p:Nat),q+k=l.length→i < q→p < q→e.length=l.length→p=(dq l q).length→e.take p=dq l q→(∀ j,p≤j→e[j]! = l[j]!) →
  ∃ l',zbG l (i:Int) (List.map zaa e) (p:Int) ((q - i:Nat):Int)=some (rCp (dq l l.length).length l')∧l'.take (dq l l.length).length=dq l l.length∧l'.length=l.length:=by
 intro k
 induction k with
 | zero =>
   intro q e p hk hiq hpq he hp ht hrest
   have hq:q=l.length:=by omega
   subst hq
   refine ⟨e.take p++List.replicate (l.length - p) ⟨0,0⟩++e.drop (p+(l.length - p)),zdB _ _ _ _ _ ?_,?_,?_⟩
   · simp only [List.length_map,Int.toNat_natCast]
     rw [zad,if_neg (by omega),zac (by omega),zac (by omega),zac (by omega),zac (by omega),zac (by omega),zac (by omega),zac (by omega)]
     rw [← hp]
     simp only [Nat.zero_add,Nat.sub_zero,← List.map_take,← List.map_drop]
     show some (AV.row 1000 2 0 p,_)=some (AV.row 1000 2 0 p,_)
     congr 4
     simp only [List.map_append,List.map_replicate]
   · rw [← hp,List.append_assoc,List.take_append_of_le_length (by simp; omega),List.take_take,Nat.min_self,ht]
   · simp; omega
 | succ k ih =>
   intro q e p hk hiq hpq he hp ht hrest
   have e1:w64 (((q - i:Nat):Int) - 1)=((q - i - 1:Nat):Int):=by rw [w64_id (by omega) (by omega)]; omega
   have e2:w64 (((q - i:Nat):Int)+1)=((q+1 - i:Nat):Int):=by rw [w64_id (by omega) (by omega)]; omega
   have eq1:e[q]! = l[q]!:=hrest q (by omega)
   have eq2:e[q - 1]! = l[q - 1]!:=hrest (q - 1) (by omega)
   by_cases hd:l[q]! = l[q - 1]!
   · have hdq:dq l (q+1)=dq l q:=by simp only [dq]; rw [if_pos ⟨by omega,hd⟩,List.append_nil]
     obtain ⟨l',h1,h2⟩:=ih (q+1) e p (by omega) (by omega) (by omega) he (by rw [hdq]; exact hp) (by rw [hdq]; exact ht) hrest
     refine ⟨l',zdB _ _ _ _ _ ?_,h2⟩
     simp only [List.length_map,Int.toNat_natCast,e1,e2]
     rw [zad,if_pos (by omega),zac (by omega),zac (by omega),rdL2 (by omega),zac (by omega),zac (by omega),rdL2 (by omega),zoR,eqG]
     have a1:0+i+(q - i)=q:=by omega
     have a2:0+i+(q - i - 1)=q - 1:=by omega
     rw [a1,a2,eq1,eq2,hd,decide_eq_true rfl,zaG]
     exact h1
   · have hdq:dq l (q+1)=dq l q++[l[q]!]:=by simp only [dq]; rw [if_neg (fun h=>hd h.2)]
     obtain ⟨l',h1,h2⟩:=ih (q+1) (e.set p l[q]!) (p+1) (by omega) (by omega) (by omega) (by simp [he]) (by rw [hdq,List.length_append,← hp]; rfl) (by
       rw [hdq,List.take_add_one,List.take_set_of_le (Nat.le_refl _),ht,List.getElem?_set_self (by omega)]
       rfl) (fun j hj=>by
       rw [List.getElem!_eq_getElem?_getD,List.getElem?_set_ne (by omega),← List.getElem!_eq_getElem?_getD]
       exact hrest j (by omega))
     refine ⟨l',zdB _ _ _ _ _ ?_,h2⟩
     simp only [List.length_map,Int.toNat_natCast,e1,e2]
     rw [zad,if_pos (by omega),zac (by omega),zac (by omega),rdL2 (by omega),zac (by omega),zac (by omega),rdL2 (by omega),zoR,eqG]
     have a1:0+i+(q - i)=q:=by omega
     have a2:0+i+(q - i - 1)=q - 1:=by omega
     rw [a1,a2,eq1,eq2,decide_eq_false hd,zat,zac (by omega),zac (by omega),rdL2 (by omega),zac (by omega),zac (by omega),rdL2 (by omega),up1 (by omega),eq1,Nat.zero_add,← List.map_set]
     exact h1
theorem k_compact1 (l:List GRatio) (hl:l.length≤100000):∀ (k i:Nat),i+k=l.length→1≤i→dq l i=l.take i →
  ∃ l',zcv l (i:Int)=some (rCp (dq l l.length).length l')∧l'.take (dq l l.length).length=dq l l.length∧l'.length=l.length:=by
 intro k
 induction k with
 | zero =>
   intro i hk hi hd
   have hq:i=l.length:=by omega
   subst hq
   have hlen:(dq l l.length).length=l.length:=by rw [hd]; simp
   refine ⟨l,zdE _ _ ?_,by rw [hlen,hd],rfl⟩
   rw [List.length_map,zad,if_neg (by omega),hlen]
   rfl
 | succ k ih =>
   intro i hk hi hd
   have e1:=dn1 hi (show i≤1000000 by omega)
   have htk:l.take (i+1)=l.take i++[l[i]!]:=by rw [List.take_add_one,getL (by omega)]; rfl
   by_cases hdd:l[i]! = l[i - 1]!
   · have hdq:dq l (i+1)=dq l i:=by simp only [dq]; rw [if_pos ⟨by omega,hdd⟩,List.append_nil]
     obtain ⟨l',h1,h2⟩:=k_compact2 l i hl hi k (i+1) l i (by omega) (by omega) (by omega) rfl (by rw [hdq,hd]; simp; omega) (by rw [hdq,hd]) (fun _ _=>rfl)
     refine ⟨l',zdE _ _ ?_,h2⟩
     simp only [List.length_map,Int.toNat_natCast,e1]
     rw [zad,if_pos (by omega),zac (by omega),zac (by omega),rdL2 (by omega),zac (by omega),zac (by omega),rdL2 (by omega),eqG,Nat.zero_add,Nat.zero_add,hdd,decide_eq_true rfl,zaG,zac (by omega),zac (by omega),zac (by omega)]
     have:((i+1 - i:Nat):Int)=1:=by omega
     rw [this] at h1
     exact h1
   · have hdq:dq l (i+1)=dq l i++[l[i]!]:=by simp only [dq]; rw [if_neg (fun h=>hdd h.2)]
     obtain ⟨l',h1,h2⟩:=ih (i+1) (by omega) (by omega) (by rw [hdq,hd,htk])
     refine ⟨l',zdE _ _ ?_,h2⟩
     simp only [List.length_map,Int.toNat_natCast,e1]
     rw [zad,if_pos (by omega),zac (by omega),zac (by omega),rdL2 (by omega),zac (by omega),zac (by omega),rdL2 (by omega),eqG,Nat.zero_add,Nat.zero_add,decide_eq_false hdd,zat,up1 (by omega)]
     exact h1
theorem c_Compact (l:List GRatio) (hl:l.length≤100000) :
  ∃ l',cw zbU [.row 1000 2 0 (List.map zaa l).length] [(1000,⟨2,zae,List.map zaa l,false⟩)]=some (rCp (dq l l.length).length l')∧l'.take (dq l l.length).length=dq l l.length∧l'.length=l.length:=by
 by_cases h2:l.length < 2
 · have hd:dq l l.length=l:=by
    match l,h2 with
    | [],_=>rfl
    | [x],_=>simp [dq]
   refine ⟨l,zgb l ?_,by rw [hd]; simp,rfl⟩
   rw [List.length_map,zad,if_pos (by omega),hd]
   rfl
 · obtain ⟨l',h1,h3⟩:=k_compact1 l hl (l.length - 1) 1 (by omega) (by omega) (by
    have h0:0 < l.length:=by omega
    simp [dq,List.take_one,List.head?_eq_getElem?,List.getElem?_eq_getElem h0])
   refine ⟨l',zgb l ?_,h3⟩
   rw [List.length_map,zad,if_neg (by omega)]
   exact h1
theorem dq_of (l:List GRatio):∀ q x,x∈dq l q→∃ j,j < q∧x=l[j]!
 | 0,x,h=>by simp [dq] at h
 | q+1,x,h=>by
   simp only [dq,List.mem_append] at h
   rcases h with h | h
   · obtain ⟨j,h1,h2⟩:=dq_of l q x h
     exact ⟨j,by omega,h2⟩
   · split at h
     · cases h
     · exact ⟨q,by omega,List.mem_singleton.1 h⟩
theorem dq_in (l:List GRatio):∀ q j,j < q→l[j]!∈dq l q
 | 0,j,h=>by omega
 | q+1,j,h=>by
   simp only [dq,List.mem_append]
   by_cases hj:j < q
   · exact .inl (dq_in l q j hj)
   · have:j=q:=by omega
     subst this
     split
     · rename_i hc
       rw [hc.2]
       exact .inl (dq_in l j (j - 1) (by omega))
     · exact .inr (by simp)
theorem dq_mem (l:List GRatio) (x:GRatio):x∈dq l l.length↔x∈l:=by
 constructor
 · intro h
   obtain ⟨j,h1,h2⟩:=dq_of l _ x h
   rw [h2]
   exact List.mem_of_getElem? (getL h1)
 · intro h
   obtain ⟨j,hj⟩:=List.getElem?_of_mem h
   have hlt:=(List.getElem?_eq_some_iff.1 hj).1
   rw [getL hlt] at hj
   injection hj with hj
   rw [← hj]
   exact dq_in l _ j hlt
theorem dq_asc (l:List GRatio) (v:GRatio→Rat) (hv:∀ x∈l,∀ y∈l,v x=v y→x=y) (hs:l.Pairwise (fun x y=>v x≤v y)):∀ q,q≤l.length→(dq l q).Pairwise (fun x y=>v x < v y)
 | 0,_=>by simp [dq]
 | q+1,hq=>by
   have ih:=dq_asc l v hv hs q (by omega)
   simp only [dq]
   split
   · rw [List.append_nil]; exact ih
   · rename_i hc
     rw [List.pairwise_append]
     refine ⟨ih,by simp,fun x hx y hy=>?_⟩
     simp at hy
     subst hy
     obtain ⟨j,hj,rfl⟩:=dq_of l q x hx
     have mem:∀ j,j < l.length→l[j]!∈l:=fun j hj=>List.mem_of_getElem? (getL hj)
     have le:∀ i j,i≤j→j < l.length→v l[i]!≤v l[j]!:=by
      intro i j hij hjl
      by_cases he:i=j
      · subst he; exact Rat.le_refl
      · rw [List.pairwise_iff_getElem] at hs
        have:=hs i j (by omega) hjl (by omega)
        rw [getElem!_pos l i (by omega),getElem!_pos l j hjl]
        exact this
     have h1:=le j (q - 1) (by omega) (by omega)
     have h2:=le (q - 1) q (by omega) (by omega)
     have h3:v l[q - 1]!≠v l[q]!:=fun h=>hc ⟨by omega,(hv _ (mem _ (by omega)) _ (mem _ (by omega)) h).symm⟩
     grind
end Go.Proofs.YtbhkcgaanaelfaaGreat
namespace Go.Proofs.YtbhkcgaanaelfaaGreat
open Go.Ab Go.Pure Go.Sort
set_option linter.unusedVariables false
set_option linter.unusedSimpArgs false
set_option maxRecDepth 20000
def vG (x:GRatio):Rat:=mkRat x.Num x.Den.toNat
theorem vG_of (r:Rat):vG (ofR r)=r:=by simp [vG,ofR,Rat.mkRat_self]
def ltG (x y:GRatio):Bool:=decide (vG x < vG y)
def PG (x:GRatio):Prop:=∃ r,x=ofR r∧Fit r
theorem swoG:SWO ltG where
 irrefl:=fun x=>by simp only [ltG,decide_eq_false_iff_not]; grind
 trans:=fun x y z h1 h2=>by simp only [ltG,decide_eq_true_eq] at *; grind
 ntrans:=fun x y z h1 h2=>by simp only [ltG,decide_eq_false_iff_not] at *; grind
theorem cmpG:Cmp ltG PG:=⟨fun x y hx hy=>by
 obtain ⟨a,rfl,ha⟩:=hx
 obtain ⟨b,rfl,hb⟩:=hy
 refine ⟨_,zs0 a b ha hb,?_⟩
 have h1:(a < b)↔a.num*b.den < b.num*a.den:=Rat.lt_iff a b
 unfold ltG
 rw [vG_of,vG_of]
 by_cases h:a < b
 · rw [decide_eq_true h,decide_eq_true_eq]
   have:=h1.1 h
   unfold cmpZ
   repeat' split
   all_goals omega
 · rw [decide_eq_false h,decide_eq_false_iff_not]
   have:¬ (a.num*b.den < b.num*a.den):=fun h'=>h (h1.2 h')
   unfold cmpZ
   repeat' split
   all_goals omega⟩
theorem zB5 {l:List GRatio} {rs:List Rat} (h:l.Perm (rs.map ofR)):l=(l.map vG).map ofR∧(l.map vG).Perm rs:=by
 constructor
 · rw [List.map_map]
   conv=>lhs; rw [← List.map_id l]
   refine List.map_congr_left (fun x hx=>?_)
   have:=h.mem_iff.1 hx
   obtain ⟨r,_,rfl⟩:=List.mem_map.1 this
   simp [vG_of]
 · have:=h.map vG
   rw [List.map_map] at this
   have e:(vG ∘ ofR)=id:=by funext r; exact vG_of r
   rw [e,List.map_id] at this
   exact this
theorem c_sortR (rs:List Rat) (hv:∀ r∈rs,Fit r) (hl:rs.length < 100) :
  ∃ ss:List Rat,cw zbJ [.row 1000 2 0 (List.map zaa (rs.map ofR)).length,.fn zah []] [(1000,⟨2,zae,List.map zaa (rs.map ofR),false⟩)]=some (zbo.enc (ss.map ofR))∧ss.Perm rs∧ss.Pairwise (·≤·):=by
 obtain ⟨l',h1,h2,h3⟩:=c_SortFunc cmpG swoG (rs.map ofR) (fun x hx=>by
  obtain ⟨r,hr,rfl⟩:=List.mem_map.1 hx
  exact ⟨r,rfl,hv r hr⟩) (by simpa using hl)
 obtain ⟨e1,e2⟩:=zB5 h2
 refine ⟨l'.map vG,by rw [← e1]; exact h1,e2,?_⟩
 rw [List.pairwise_map]
 refine h3.imp (fun {x y} h=>?_)
 simp only [ltG,decide_eq_false_iff_not] at h
 grind
theorem c_compactR (ss:List Rat) (hl:ss.length≤100000) (hs:ss.Pairwise (·≤·)) :
  ∃ (xs:List Rat) (l':List GRatio),cw zbU [.row 1000 2 0 (List.map zaa (ss.map ofR)).length] [(1000,⟨2,zae,List.map zaa (ss.map ofR),false⟩)]=some (rCp xs.length l') ∧
    l'.take xs.length=xs.map ofR∧xs.Pairwise (· < ·)∧(∀ x,x∈xs↔x∈ss)∧l'.length=ss.length:=by
 obtain ⟨l',h1,h2,h3⟩:=c_Compact (ss.map ofR) (by simpa using hl)
 have hm:∀ x,x∈dq (ss.map ofR) (ss.map ofR).length↔x∈ss.map ofR:=dq_mem _
 have ha:=dq_asc (ss.map ofR) vG (fun x hx y hy h=>by
  obtain ⟨a,_,rfl⟩:=List.mem_map.1 hx
  obtain ⟨b,_,rfl⟩:=List.mem_map.1 hy
  rw [vG_of,vG_of] at h
  rw [h]) (by
  rw [List.pairwise_map]
  refine hs.imp (fun {x y} h=>?_)
  rw [vG_of,vG_of]
  exact h) _ (Nat.le_refl _)
 generalize dq (ss.map ofR) (ss.map ofR).length=m at h1 h2 hm ha
 have e1:m=(m.map vG).map ofR:=by
  rw [List.map_map]
  conv=>lhs; rw [← List.map_id m]
  refine List.map_congr_left (fun x hx=>?_)
  obtain ⟨r,_,rfl⟩:=List.mem_map.1 ((hm x).1 hx)
  simp [vG_of]
 have eL:(m.map vG).length=m.length:=List.length_map _
 refine ⟨m.map vG,l',by rw [eL]; exact h1,by rw [eL,← e1]; exact h2,?_,fun x=>?_,by simpa using h3⟩
 · rw [List.pairwise_map]; exact ha
 · rw [List.mem_map]
   constructor
   · rintro ⟨g,hg,rfl⟩
     obtain ⟨r,hr,rfl⟩:=List.mem_map.1 ((hm g).1 hg)
     rw [vG_of]; exact hr
   · intro hx
     exact ⟨ofR x,(hm _).2 (List.mem_map.2 ⟨x,hx,rfl⟩),vG_of x⟩
theorem zyl:∀ {l m:List Rat},l.Pairwise (· < ·)→m.Pairwise (· < ·)→(∀ x,x∈l↔x∈m)→l=m
 | [],[],_,_,_=>rfl
 | [],y :: m,_,_,h=>absurd ((h y).2 List.mem_cons_self) (by simp)
 | x :: l,[],_,_,h=>absurd ((h x).1 List.mem_cons_self) (by simp)
 | x :: l,y :: m,hl,hm,h=>by
   rw [List.pairwise_cons] at hl hm
   have hxy:x=y:=by
    rcases List.mem_cons.1 ((h x).1 List.mem_cons_self) with h1 | h1
    · exact h1
    · rcases List.mem_cons.1 ((h y).2 List.mem_cons_self) with h2 | h2
      · exact h2.symm
      · have:=hm.1 x h1
        have:=hl.1 y h2
        grind
   subst hxy
   refine congrArg _ (zyl hl.2 hm.2 (fun z=>?_))
   have hz:=h z
   simp only [List.mem_cons] at hz
   constructor
   · intro h1
     rcases hz.1 (.inr h1) with h2 | h2
     · subst h2; have:=hl.1 z h1; grind
     · exact h2
   · intro h1
     rcases hz.2 (.inr h1) with h2 | h2
     · subst h2; have:=hm.1 z h1; grind
     · exact h2
def insA (x:Rat):List Rat→List Rat
 | []=>[x]
 | y :: l=>if x < y then x :: y :: l else if x=y then y :: l else y :: insA x l
theorem zwP (x z:Rat):∀ l,z∈insA x l↔z=x∨z∈l
 | []=>by simp [insA]
 | y :: l=>by
   have ih:=zwP x z l
   unfold insA
   split
   · simp
   · split
     · rename_i h; simp only [List.mem_cons]; grind
     · simp only [List.mem_cons,ih]; grind
theorem insA_asc (x:Rat):∀ l,l.Pairwise (· < ·)→(insA x l).Pairwise (· < ·)
 | [],_=>by simp [insA]
 | y :: l,h=>by
   have h':=List.pairwise_cons.1 h
   have ih:=insA_asc x l h'.2
   unfold insA
   split
   · rename_i hlt
     refine List.pairwise_cons.2 ⟨fun z hz=>?_,h⟩
     rcases List.mem_cons.1 hz with e | hz
     · rw [e]; exact hlt
     · have:=h'.1 z hz; grind
   · split
     · exact h
     · refine List.pairwise_cons.2 ⟨fun z hz=>?_,ih⟩
       rcases (zwP x z l).1 hz with e | hz
       · rw [e]; grind
       · exact h'.1 z hz
theorem insA_len (x:Rat):∀ l,(insA x l).length≤l.length+1
 | []=>by simp [insA]
 | y :: l=>by
   have ih:=insA_len x l
   unfold insA
   split
   · simp
   · split <;> simp <;> omega
theorem insA_at (x:Rat):∀ (l:List Rat) (i:Nat),i≤l.length→(∀ j (h:j < l.length),j < i→l[j] < x)→(∀ j (h:j < l.length),i≤j→x < l[j])→insA x l=l.take i++x :: l.drop i
 | [],i,hi,_,_=>by
   have:i=0:=by simp at hi; omega
   subst this; rfl
 | y :: l,0,_,_,h2=>by
   have:=h2 0 (by simp) (by omega)
   simp only [List.getElem_cons_zero] at this
   unfold insA
   rw [if_pos this]
   rfl
 | y :: l,i+1,hi,h1,h2=>by
   have hy:=h1 0 (by simp) (by omega)
   simp only [List.getElem_cons_zero] at hy
   have ih:=insA_at x l i (by simp at hi; omega) (fun j h hj=>by have:=h1 (j+1) (by simp; omega) (by omega); rwa [List.getElem_cons_succ] at this) (fun j h hj=>by have:=h2 (j+1) (by simp; omega) (by omega); rwa [List.getElem_cons_succ] at this)
   unfold insA
   rw [if_neg (by grind),if_neg (by grind),ih]
   rfl
theorem insA_old (x:Rat):∀ (l:List Rat),l.Pairwise (· < ·)→x∈l→insA x l=l
 | [],_,h=>by simp at h
 | y :: l,hp,h=>by
   have h':=List.pairwise_cons.1 hp
   unfold insA
   by_cases e:x=y
   · rw [if_neg (by grind),if_pos e]
   · have hm:x∈l:=by
      rcases List.mem_cons.1 h with h | h
      · exact absurd h e
      · exact h
     have:=h'.1 x hm
     rw [if_neg (by grind),if_neg e,insA_old x l h'.2 hm]
theorem copy_set {α:Type} (L:List α) (z:α) (i:Nat) (hi:i≤L.length) :
  ((List.take (i+1) (L++[z])++List.take ((L++[z]).length - (i+1)) (List.take ((L++[z]).length - i) (List.drop i (L++[z])))) ++
    List.drop (i+1+Min.min (List.take ((L++[z]).length - i) (List.drop i (L++[z]))).length ((L++[z]).length - (i+1))) (L++[z])).set i z=L.take i++z :: L.drop i:=by
 have hz:(L++[z]).length=L.length+1:=by simp
 have h1:List.drop i (L++[z])=L.drop i++[z]:=List.drop_append_of_le_length hi
 have h2:List.take ((L++[z]).length - i) (List.drop i (L++[z]))=L.drop i++[z]:=by
  rw [h1,hz]; exact List.take_of_length_le (by simp; omega)
 have h3:List.take ((L++[z]).length - (i+1)) (L.drop i++[z])=L.drop i:=by
  rw [hz,List.take_append_of_le_length (by simp)]
  exact List.take_of_length_le (by simp)
 have h4:List.drop (i+1+Min.min (L.drop i++[z]).length ((L++[z]).length - (i+1))) (L++[z])=[]:=by
  apply List.drop_eq_nil_of_le
  rw [hz]; simp; omega
 rw [h2,h3,h4,List.append_nil]
 have h5:List.take (i+1) (L++[z])=L.take i++[(L++[z])[i]'(by simp; omega)]:=by
  rw [List.take_add_one,List.getElem?_eq_getElem (by simp; omega),List.take_append_of_le_length hi]
  rfl
 rw [h5,List.append_assoc,List.set_append_right _ _ (by simp; omega)]
 simp
 rw [Nat.min_eq_left hi,Nat.sub_self]
 rfl
theorem ins_fin (xs:List Rat) (x:Rat) (i:Nat) (hi:i≤xs.length) (hl:xs.length≤1000) :
  zhx (xs.map ofR) (ofR x) (i:Int)=some (zha ((xs.take i++x :: xs.drop i).map ofR)):=by
 have e1:w64 ((i:Int)+1)=((i+1:Nat):Int):=by rw [w64_id (by omega) (by omega)]; omega
 have hr:([[I (ofR x).Num,I (ofR x).Den]]:List (List AV))=[zaa (ofR x)]:=rfl
 have rows:List.map zaa (xs.map ofR)++[zaa (ofR x)]=List.map zaa ((xs++[x]).map ofR):=by simp
 have hz:(List.map zaa ((xs++[x]).map ofR)).length=xs.length+1:=by simp
 have hz0:(List.map zaa (xs.map ofR)).length=xs.length:=by simp
 have hc:=copy_set xs x i hi
 have hs:=congrArg (List.map (fun r=>zaa (ofR r))) hc
 refine zun _ _ _ ?_
 have cm:∀ {β:Type} (W:List Rat) (hW:i < W.length) (K:GRatio→Option β),elemD zaf (List.map zaa (W.map ofR)) i K=K (ofR W[i]):=fun W hW K=>elemR (List.getElem?_eq_getElem hW) K
 have fold:∀ Z:List Rat,((List.take (i+1) (List.map zaa (Z.map ofR))++List.take ((List.map zaa (Z.map ofR)).length - (i+1)) (List.take ((List.map zaa (Z.map ofR)).length - i) (List.drop i (List.map zaa (Z.map ofR))))) ++
   List.drop (i+1+Min.min (List.take ((List.map zaa (Z.map ofR)).length - i) (List.drop i (List.map zaa (Z.map ofR)))).length ((List.map zaa (Z.map ofR)).length - (i+1))) (List.map zaa (Z.map ofR))) =
   List.map zaa ((((List.take (i+1) Z++List.take (Z.length - (i+1)) (List.take (Z.length - i) (List.drop i Z)))) ++
   List.drop (i+1+Min.min (List.take (Z.length - i) (List.drop i Z)).length (Z.length - (i+1))) Z).map ofR):=fun Z=>by
  simp only [List.map_append,List.map_take,List.map_drop,List.length_map,List.length_take,List.length_drop]
 have wl:=congrArg List.length hc
 rw [List.length_set] at wl
 rw [hr,e1]
 simp only [Int.toNat_natCast,Nat.zero_add,rows]
 rw [fold]
 generalize hW:((List.take (i+1) (xs++[x])++List.take ((xs++[x]).length - (i+1)) (List.take ((xs++[x]).length - i) (List.drop i (xs++[x])))) ++
   List.drop (i+1+Min.min (List.take ((xs++[x]).length - i) (List.drop i (xs++[x]))).length ((xs++[x]).length - (i+1))) (xs++[x]))=W at hc hs wl
 have wl2:W.length=xs.length+1:=by rw [wl]; simp; omega
 have hset:(List.map zaa (W.map ofR)).set i (zaa (ofR x))=List.map zaa ((xs.take i++x :: xs.drop i).map ofR):=by
  rw [← hc,List.map_set,List.map_set]
 rw [hz,hz0,zac trivial,zac (by omega),zac trivial,zac (by omega),zac (by omega),zac (by omega),zac (by omega),zac (by omega),zac (by omega),zac (by omega),zac (by omega),zac (by omega),zac (by omega),cm W (by omega),zac (by simp; omega),hset]
 rfl
theorem k_ins {xs:List Rat} {x:Rat} (hxs:xs.Pairwise (· < ·)) (hl:xs.length≤1000) (hf:∀ z∈xs,Fit z) (hx:Fit x):∀ (i:Nat),i≤xs.length→(∀ j (h:j < xs.length),i≤j→x < xs[j]) →
  zjC (xs.map ofR) (ofR x) (i:Int)=some (zha ((insA x xs).map ofR)):=by
 have elem:∀ {β:Type} (k:Nat) (hk:k < xs.length) (K:GRatio→Option β),elemD zaf (List.map zaa (xs.map ofR)) k K=K (ofR xs[k]):=fun k hk K=>elemR (List.getElem?_eq_getElem hk) K
 have len:(List.map zaa (xs.map ofR)).length=xs.length:=by simp
 intro i
 induction i with
 | zero =>
   intro _ hgt
   refine zqD _ _ _ ?_
   rw [zad,if_neg (by omega)]
   refine zoz _ _ _ ?_
   rw [zad,if_neg (by omega)]
   have e:=insA_at x xs 0 (by omega) (fun j h hj=>by omega) hgt
   rw [e]
   exact ins_fin xs x 0 (by omega) hl
 | succ i ih =>
   intro hi hgt
   have e1:w64 (((i+1:Nat):Int) - 1)=(i:Int):=by rw [w64_id (by omega) (by omega)]; omega
   have hfi:=hf xs[i] (List.getElem_mem (by omega))
   refine zqD _ _ _ ?_
   rw [zad,if_pos (by omega),e1,zac (by omega),zac (by rw [len]; omega),Nat.zero_add,Int.toNat_natCast,elem i (by omega)]
   show callD zeA (cw zfo [aR x,aR xs[i]] []) _=_
   rw [zq9 _ _ hx hfi,zhd]
   by_cases hlt:x < xs[i]
   · rw [decide_eq_true hlt,zaG]
     refine ih (by omega) (fun j h hj=>?_)
     rcases Nat.lt_or_eq_of_le hj with h2 | h2
     · exact hgt j h (by omega)
     · subst h2; exact hlt
   · rw [decide_eq_false hlt,zat]
     refine zoz _ _ _ ?_
     rw [zad,if_pos (by omega),e1,zac (by omega),zac (by rw [len]; omega),Nat.zero_add,Int.toNat_natCast,elem i (by omega),eqR,zad]
     by_cases he:xs[i]=x
     · rw [if_pos he,insA_old x xs hxs (he▸List.getElem_mem _),zac rfl]
       rfl
     · rw [if_neg he]
       have e:=insA_at x xs (i+1) (by omega) (fun j h hj=>by
        rcases Nat.lt_or_eq_of_le (Nat.le_of_lt_succ hj) with h2 | h2
        · have:=List.pairwise_iff_getElem.1 hxs j i h (by omega) h2
          grind
        · subst h2; grind) hgt
       rw [e]
       exact ins_fin xs x (i+1) (by omega) hl
end Go.Proofs.YtbhkcgaanaelfaaGreat
namespace Go.Proofs.YtbhkcgaanaelfaaGreat
open Go.Ab Go.Pure Go.Sort
set_option linter.unusedSimpArgs false
set_option linter.unusedVariables false
set_option maxRecDepth 20000
noncomputable abbrev cF (f:List Pt):GCurve:=⟨f.map ofP⟩
theorem zCn (l:List Pt) (hl:l.length≤100000):∀ (k i:Nat) (m:List GPoint),i+k=l.length→m.length=l.length→m.take i=((ex l).take i).map ofP →
  zff (l.map ofP) (List.map zag m) (i:Int)=some (zfW ((ex l).map ofP)):=by
 intro k
 induction k with
 | zero =>
   intro i m hk hm ht
   refine zll _ _ _ ?_
   have hi:i=l.length:=by omega
   subst hi
   rw [List.take_of_length_le (by omega),List.take_of_length_le (by simp [ex])] at ht
   subst ht
   rw [zad,if_neg (by rw [lenP]; omega),zac (by simp [ex])]
   rfl
 | succ k ih =>
   intro i m hk hm ht
   have hp:l[i]?=some l[i]:=List.getElem?_eq_getElem (by omega)
   have hx:(ex l)[i]?=some (l[i].2,l[i].1):=by unfold ex; rw [List.getElem?_map,hp]; rfl
   have hmi:m[i]?=some m[i]:=List.getElem?_eq_getElem (by omega)
   have hw:w64 ((i:Int)+1)=((i+1:Nat):Int):=by rw [w64_id (by omega) (by omega)]; omega
   refine zll _ _ _ ?_
   rw [zad,if_pos (by rw [lenP]; omega),zac (by omega),Int.toNat_natCast,elemP hp,zac (by omega),zac (by simp; omega),Nat.zero_add,zdY (D:=zau) hmi,hw]
   have:=ih (i+1) (m.set i (ofP (l[i].2,l[i].1))) (by omega) (by simp [hm]) (by
    rw [List.take_add_one,List.take_set_of_le (Nat.le_refl _),List.getElem?_set_self (by omega),ht,List.take_add_one,hx,List.map_append]
    rfl)
   rw [List.map_set] at this
   exact this
theorem zCd (l:List Pt) (hl:l.length≤100000):cw zin [.sl 4 (ptsE l)] []=some (zfW ((ex l).map ofP)):=by
 refine zr4 _ ?_
 rw [zac rfl,zac (by omega),zac (by rw [lenP]; omega)]
 have:=zCn l hl l.length 0 (List.replicate l.length ⟨⟨0,0⟩,⟨0,0⟩⟩) (by omega) (by simp) (by simp)
 rw [List.map_replicate] at this
 rw [lenP]
 exact this
theorem c_flip (l:List Pt) (hl:l.length≤100000):cw zq5 [.sl 4 (ptsE l)] []=some (znU ((ex l).map ofP)):=by
 have key:∀ (k i:Nat),i+k=l.length→zlW (l.map ofP) (ptsE ((ex l).take i)) (i:Int)=some (znU ((ex l).map ofP)):=by
  intro k
  induction k with
  | zero =>
    intro i hk
    have hi:i=l.length:=by omega
    refine zsi _ _ _ ?_
    rw [zad,if_neg (by rw [lenP]; omega),List.take_of_length_le (by rw [ex_len]; omega),zac rfl]
    rfl
  | succ k ih =>
    intro i hk
    have hp:l[i]?=some l[i]:=List.getElem?_eq_getElem (by omega)
    have hx:(ex l)[i]?=some (l[i].2,l[i].1):=by unfold ex; rw [List.getElem?_map,hp]; rfl
    have hw:w64 ((i:Int)+1)=((i+1:Nat):Int):=by rw [w64_id (by omega) (by omega)]; omega
    have IH:=ih (i+1) (by omega)
    rw [List.take_add_one,hx] at IH
    refine zsi _ _ _ ?_
    rw [zad,if_pos (by rw [lenP]; omega),zac (by omega),Int.toNat_natCast,elemP hp,zac (by omega),elemP hp,zac rfl,zac (by rw [lenP]; simp; omega),zac rfl,hw]
    have e:ptsE ((ex l).take i)++[zag ⟨⟨(ofP l[i]).Y.Num,(ofP l[i]).Y.Den⟩,⟨(ofP l[i]).X.Num,(ofP l[i]).X.Den⟩⟩]=ptsE ((ex l).take i++(some (l[i].2,l[i].1)).toList):=by
     simp only [ptsE,List.map_append,Option.toList,List.map_cons,List.map_nil]
     rfl
    rw [e]
    exact IH
 exact zAO _ (key l.length 0 (by omega))
def raws (f g:List Pt):List Rat:=f.map (·.1)++g.map (fun q=>cv (ex f) q.1)
def insAll (rs:List Rat):List Rat:=rs.foldl (fun l x=>insA x l) []
def plc (f g:List Pt):List Rat:=insAll (raws f g)
theorem zpE (z:Rat):∀ (rs l:List Rat),z∈rs.foldl (fun l x=>insA x l) l↔z∈rs∨z∈l
 | [],l=>by simp
 | x :: rs,l=>by
   rw [List.foldl_cons,zpE z rs,zwP]
   simp only [List.mem_cons]
   grind
theorem zpL:∀ (rs l:List Rat),l.Pairwise (· < ·)→(rs.foldl (fun l x=>insA x l) l).Pairwise (· < ·)
 | [],l,h=>h
 | x :: rs,l,h=>zpL rs _ (insA_asc x l h)
theorem ztQ:∀ (rs l:List Rat),(rs.foldl (fun l x=>insA x l) l).length≤l.length+rs.length
 | [],l=>by simp
 | x :: rs,l=>by
   have:=ztQ rs (insA x l)
   have h2:=insA_len x l
   simp only [List.foldl_cons,List.length_cons]
   omega
theorem zxY (rs:List Rat):(insAll rs).Pairwise (· < ·):=zpL rs [] List.Pairwise.nil
theorem ztd (rs:List Rat):(insAll rs).length≤rs.length:=by
 have h:=ztQ rs []
 show (rs.foldl (fun l x=>insA x l) []).length≤_
 rw [List.length_nil,Nat.zero_add] at h
 exact h
theorem zxZ (z:Rat) (rs:List Rat):z∈insAll rs↔z∈rs:=by
 have h:=zpE z rs []
 simp only [List.not_mem_nil,or_false] at h
 exact h
theorem zsA (f g:List Pt) (x:Rat):x∈plc f g↔x∈raws f g:=by
 unfold plc insAll
 rw [zpE]
 simp
theorem plc_asc (f g:List Pt):(plc f g).Pairwise (· < ·):=zpL _ _ List.Pairwise.nil
theorem zvs (f g:List Pt):(plc f g).length≤f.length+g.length:=by
 have h:=ztd (raws f g)
 have e:(raws f g).length=f.length+g.length:=by simp [raws]
 rw [e] at h
 exact h
theorem two_mem {xs:List Rat} {a b:Rat} (ha:a∈xs) (hb:b∈xs) (h:a≠b):2≤xs.length:=by
 match xs,ha,hb with
 | [x],ha,hb=>simp at ha hb; exact absurd (ha.trans hb.symm) h
 | x :: y :: r,_,_=>simp
structure CpH (f g:List Pt):Prop where
 fa:Asc f
 fl:2≤f.length
 fv:AllF f
 ga:Asc g
 gl:2≤g.length
 gv:AllF g
 len:f.length+g.length < 100
theorem plc_two {f g:List Pt} (h:CpH f g):2≤(plc f g).length:=by
 match f,h with
 | [],h=>have:=h.fl; simp at this
 | [_],h=>have:=h.fl; simp at this
 | p :: q :: r,h =>
   have hlt:=(zgs (i:=0) h.fa rfl rfl).1
   refine two_mem (a:=p.1) (b:=q.1) ?_ ?_ (by grind)
   · rw [zsA]; simp [raws]
   · rw [zsA]; simp [raws]
theorem exF {f:List Pt} (h:AllF f):AllF (ex f):=fun p hp=>by
 unfold ex at hp
 obtain ⟨q,hq,rfl⟩:=List.mem_map.1 hp
 exact ⟨(h q hq).2,(h q hq).1⟩
theorem zvm {f g:List Pt} (h:CpH f g) (hb:∀ q∈g,EvF (ex f) q.1):∀ x∈plc f g,Fit x:=fun x hx=>by
 rw [zsA] at hx
 unfold raws at hx
 rcases List.mem_append.1 hx with hx | hx
 · obtain ⟨p,hp,rfl⟩:=List.mem_map.1 hx
   exact (h.fv p hp).1
 · obtain ⟨q,hq,rfl⟩:=List.mem_map.1 hx
   exact (hb q hq).val (by rw [ex_len]; exact h.fl)
def PlF (f g:List Pt) (x:Rat):Prop:=EvF f x∧EvF g (cv f x)
noncomputable def cpR (f g:List Pt):GCurve×Int:=@ite _ ((∀ q∈g,EvF (ex f) q.1)∧∀ x∈plc f g,PlF f g x) (Classical.propDecidable _) (nfR (cps f g (plc f g))) (⟨[]⟩,6)
theorem cpR_ok {f g:List Pt} (h:(∀ q∈g,EvF (ex f) q.1)∧∀ x∈plc f g,PlF f g x):cpR f g=nfR (cps f g (plc f g)):=if_pos h
theorem cpR_no {f g:List Pt} (h:¬ ((∀ q∈g,EvF (ex f) q.1)∧∀ x∈plc f g,PlF f g x)):cpR f g=(⟨[]⟩,6):=if_neg h
theorem zwL {f g:List Pt} (h:CpH f g) (hb:(∀ q∈g,EvF (ex f) q.1)∧∀ x∈plc f g,PlF f g x):Asc (cps f g (plc f g))∧2≤(cps f g (plc f g)).length∧(cps f g (plc f g)).length≤410∧AllF (cps f g (plc f g)):=by
 have h1:=plc_two h
 have h2:=zvs f g
 have h3:=h.len
 have hl:(cps f g (plc f g)).length=(plc f g).length:=by simp [cps]
 refine ⟨cps_asc h.fa h.fl h.ga h.gl (plc_asc f g),by omega,by omega,fun p hp=>?_⟩
 unfold cps at hp
 obtain ⟨x,hx,rfl⟩:=List.mem_map.1 hp
 exact ⟨zvm h hb.1 x hx,(hb.2 x hx).2.val h.gl⟩
theorem k_comp3 {f g:List Pt} (h:CpH f g) (hb:∀ q∈g,EvF (ex f) q.1) (l':List GRatio) (hl':l'.take (plc f g).length=(plc f g).map ofR):∀ (k i:Nat) (m:List GPoint),i+k=(plc f g).length→m.length=(plc f g).length→m.take i=((cps f g (plc f g)).take i).map ofP→(∀ j (hj:j < (plc f g).length),j < i→PlF f g (plc f g)[j]) →
  zfX (cF f) (cF g) ((plc f g).length,l') (List.map zag m) (i:Int)=some (zd9 (cpR f g)):=by
 have hcl:(cps f g (plc f g)).length=(plc f g).length:=by simp [cps]
 have hx:=zvs f g
 have hlen:=h.len
 have hfit:=zvm h hb
 intro k
 induction k with
 | zero =>
   intro i m hk hm ht hok
   have hi:i=(plc f g).length:=by omega
   subst hi
   rw [List.take_of_length_le (by omega),List.take_of_length_le (by omega)] at ht
   subst ht
   have hall:(∀ q∈g,EvF (ex f) q.1)∧∀ x∈plc f g,PlF f g x:=⟨hb,fun x hx=>by
    obtain ⟨j,hj,rfl⟩:=List.mem_iff_getElem.1 hx
    exact hok j hj hj⟩
   obtain ⟨c1,c2,c3,c4⟩:=zwL h hall
   refine zmC _ _ _ _ _ ?_
   dsimp only
   simp only [List.length_replicate,Int.toNat_natCast,List.length_map,Nat.zero_add]
   rw [zad,if_neg (by omega),zac (by omega),List.take_of_length_le (by simp [hcl]),zy2 (cps f g (plc f g)) c1 c2 c3 c4,zl0,zac (by omega),zac (by omega),cpR_ok hall]
   rfl
 | succ k ih =>
   intro i m hk hm ht hok
   have hi:i < (plc f g).length:=by omega
   have hxf:=hfit _ (List.getElem_mem hi)
   have hle:(plc f g).length≤l'.length:=by
    have:=congrArg List.length hl'
    simp at this
    omega
   have hli:l'[i]?=some (ofR (plc f g)[i]):=by
    have:(l'.take (plc f g).length)[i]?=((plc f g).map ofR)[i]?:=by rw [hl']
    rw [List.getElem?_take,if_pos hi,List.getElem?_map,List.getElem?_eq_getElem hi] at this
    exact this
   have hci:(cps f g (plc f g))[i]?=some ((plc f g)[i],cv g (cv f (plc f g)[i])):=by
    unfold cps
    rw [List.getElem?_map,List.getElem?_eq_getElem hi]
    rfl
   have hmi:m[i]?=some m[i]:=List.getElem?_eq_getElem (by omega)
   refine zmC _ _ _ _ _ ?_
   dsimp only
   simp only [List.length_replicate,Int.toNat_natCast,Nat.zero_add]
   rw [zad,if_pos (by omega),zac (by omega),zac (by omega),zdY (D:=zaf) hli]
   show callD zbs (cw zbq [.sl 4 (ptsE f),aR (plc f g)[i]] []) _=_
   have bad:¬ PlF f g (plc f g)[i]→cpR f g=(⟨[]⟩,6):=fun hn=>cpR_no (fun hh=>hn (hh.2 _ (List.getElem_mem hi)))
   by_cases h1:EvF f (plc f g)[i]
   · rw [zqu f _ h.fa h.fl (by omega) h.fv hxf h1,zbv,brn_f (by rfl)]
     show callD zbs (cw zbq [.sl 4 (ptsE g),aR (cv f (plc f g)[i])] []) _=_
     by_cases h2:EvF g (cv f (plc f g)[i])
     · rw [zqu g _ h.ga h.gl (by omega) h.gv (h1.val h.fl) h2,zbv,brn_f (by rfl),zac (by omega),zac (by omega),zdY (D:=zau) hmi]
       have hw:w64 ((i:Int)+1)=((i+1:Nat):Int):=by rw [w64_id (by omega) (by omega)]; omega
       rw [hw]
       have:=ih (i+1) (m.set i (ofP ((plc f g)[i],cv g (cv f (plc f g)[i])))) (by omega) (by simp [hm]) (by
        rw [List.take_add_one,List.take_set_of_le (Nat.le_refl _),List.getElem?_set_self (by omega),ht,List.take_add_one,hci,List.map_append]
        rfl) (fun j hj hji=>by
        rcases Nat.lt_or_eq_of_le (Nat.le_of_lt_succ hji) with hlt | heq
        · exact hok j hj hlt
        · subst heq; exact ⟨h1,h2⟩)
       rw [List.map_set] at this
       exact this
     · rw [zsM g _ h.ga h.gl (by omega) h.gv (h1.val h.fl) h2,zbv,bad (fun hh=>h2 hh.2)]
       rfl
   · rw [zsM f _ h.fa h.fl (by omega) h.fv hxf h1,zbv,bad (fun hh=>h1 hh.1)]
     rfl
theorem k_comp2 {f g:List Pt} (h:CpH f g):∀ (k i:Nat) (rs:List Rat),i+k=g.length→rs=f.map (·.1)++(g.take i).map (fun q=>cv (ex f) q.1)→(∀ j (hj:j < g.length),j < i→EvF (ex f) g[j].1) →
  zf1 (cF f) (cF g) ((ex f).map ofP) (rsE rs) (i:Int)=some (zd9 (cpR f g)):=by
 have hlen:=h.len
 intro k
 induction k with
 | zero =>
   intro i rs hk hrs hok
   have hi:i=g.length:=by omega
   subst hi
   rw [List.take_length] at hrs
   have hb:∀ q∈g,EvF (ex f) q.1:=fun q hq=>by
    obtain ⟨j,hj,rfl⟩:=List.mem_iff_getElem.1 hq
    exact hok j hj hj
   have hrl:rs.length=f.length+g.length:=by rw [hrs]; simp
   obtain ⟨ss,s1,s2,s3⟩:=c_sortR rs (fun r hr=>zvm h hb r (by rw [zsA]; unfold raws; rw [← hrs]; exact hr)) (by omega)
   have hsl:ss.length=rs.length:=s2.length_eq
   obtain ⟨ys,l',c1,c2,c3,c4,c5⟩:=c_compactR ss (by omega) s3
   have hy:ys=plc f g:=zyl c3 (plc_asc f g) (fun x=>by
    rw [c4,s2.mem_iff,zsA,hrs]; rfl)
   subst hy
   have hyl:=zvs f g
   have hcl:(cps f g (plc f g)).length=(plc f g).length:=by simp [cps]
   refine zmF _ _ _ _ _ ?_
   have hlg:(List.map zag (cF g).Points).length=g.length:=by simp
   have s1':cw zbJ [.row 1000 2 0 (rsE rs).length,.fn zah []] [(1000,⟨2,zae,rsE rs,false⟩)]=some (zdK (ss.map ofR)):=s1
   rw [hlg,zad,if_neg (by omega),s1',zjb]
   have e:(rsE rs).length=(rsE ss).length:=by simp [hsl]
   have c1':cw zbU [.row 1000 2 0 (rsE ss).length] [(1000,⟨2,zae,rsE ss,false⟩)]=some (zdW ((plc f g).length,l')):=c1
   rw [e,c1',zjK]
   dsimp only
   rw [zac rfl,zac (by omega),Int.toNat_natCast,zac (by omega)]
   have:=k_comp3 h hb l' c2 (plc f g).length 0 (List.replicate (plc f g).length ⟨⟨0,0⟩,⟨0,0⟩⟩) (by omega) (by simp) (by simp) (fun j _ hj=>by omega)
   rw [List.map_replicate] at this
   exact this
 | succ k ih =>
   intro i rs hk hrs hok
   have hi:i < g.length:=by omega
   have hrl:rs.length≤f.length+g.length:=by rw [hrs]; simp; omega
   have hgi:g[i]?=some g[i]:=List.getElem?_eq_getElem hi
   refine zmF _ _ _ _ _ ?_
   have hlg:(List.map zag (cF g).Points).length=g.length:=by simp
   rw [hlg,zad,if_pos (by omega),zac (by omega),Int.toNat_natCast,elemP hgi,zac (by omega),List.take_length]
   show callD zbs (cw zbq [.sl 4 (ptsE (ex f)),aR g[i].1] []) _=_
   have gf:=(h.gv g[i] (List.getElem_mem hi)).1
   by_cases h1:EvF (ex f) g[i].1
   · rw [zqu (ex f) g[i].1 (ex_asc h.fa) (by rw [ex_len]; exact h.fl) (by rw [ex_len]; omega) (exF h.fv) gf h1,zbv,brn_f (by rfl),zac rfl,zac (by simp; omega),zac rfl]
     have hw:w64 ((i:Int)+1)=((i+1:Nat):Int):=by rw [w64_id (by omega) (by omega)]; omega
     rw [hw]
     have:=ih (i+1) (rs++[cv (ex f) g[i].1]) (by omega) (by rw [hrs,List.take_add_one,hgi,List.map_append,List.append_assoc]; rfl) (fun j hj hji=>by
       rcases Nat.lt_or_eq_of_le (Nat.le_of_lt_succ hji) with hlt | heq
       · exact hok j hj hlt
       · subst heq; exact h1)
     unfold rsE at this
     rw [List.map_append,List.map_append] at this
     exact this
   · rw [zsM (ex f) g[i].1 (ex_asc h.fa) (by rw [ex_len]; exact h.fl) (by rw [ex_len]; omega) (exF h.fv) gf h1,zbv,cpR_no (fun hh=>h1 (hh.1 _ (List.getElem_mem hi)))]
     rfl
theorem k_comp1 {f g:List Pt} (h:CpH f g):∀ (k i:Nat) (rs:List Rat),i+k=f.length→rs=(f.take i).map (·.1) →
  zf0 (cF f) (cF g) (rsE rs) (i:Int)=some (zd9 (cpR f g)):=by
 have hlen:=h.len
 intro k
 induction k with
 | zero =>
   intro i rs hk hrs
   have hi:i=f.length:=by omega
   subst hi
   rw [List.take_length] at hrs
   refine zmx _ _ _ _ ?_
   have hlf:(List.map zag (cF f).Points).length=f.length:=by simp
   rw [hlf,zad,if_neg (by omega),zCd f (by omega),zpS]
   exact k_comp2 h g.length 0 rs (by omega) (by rw [hrs]; simp) (fun j _ hj=>by omega)
 | succ k ih =>
   intro i rs hk hrs
   have hi:i < f.length:=by omega
   have hrl:rs.length≤f.length:=by rw [hrs]; simp; omega
   have hfi:f[i]?=some f[i]:=List.getElem?_eq_getElem hi
   refine zmx _ _ _ _ ?_
   have hlf:(List.map zag (cF f).Points).length=f.length:=by simp
   rw [hlf,zad,if_pos (by omega),zac (by omega),Int.toNat_natCast,elemP hfi,zac rfl,zac (by simp; omega),zac rfl]
   have hw:w64 ((i:Int)+1)=((i+1:Nat):Int):=by rw [w64_id (by omega) (by omega)]; omega
   rw [hw]
   have:=ih (i+1) (rs++[f[i].1]) (by omega) (by rw [hrs,List.take_add_one,hfi,List.map_append]; rfl)
   unfold rsE at this
   rw [List.map_append,List.map_append] at this
   exact this
theorem c_insert {xs:List Rat} {x:Rat} (hxs:xs.Pairwise (· < ·)) (hl:xs.length≤1000) (hf:∀ z∈xs,Fit z) (hx:Fit x) :
  cw zi3 [.row 950 2 0 (List.length (rsE xs)),.agg (zaa (ofR x))] [(950,⟨2,zae,rsE xs,false⟩)]=some (zha ((insA x xs).map ofR)):=by
 refine zyD _ _ ?_
 have e:(((List.map zaa (xs.map ofR)).length:Nat):Int)=(xs.length:Int):=by simp
 rw [e]
 exact k_ins hxs hl hf hx xs.length (by omega) (fun j h hj=>by omega)
theorem kr_comp3 {f g:List Pt} (h:CpH f g) (hb:∀ q∈g,EvF (ex f) q.1):∀ (k i:Nat),i+k=(plc f g).length→(∀ j (hj:j < (plc f g).length),j < i→PlF f g (plc f g)[j]) →
  ziK (cF f) (cF g) (rsE (plc f g)) (ptsE ((cps f g (plc f g)).take i)) (i:Int)=some (zgh (cpR f g)):=by
 have hcl:(cps f g (plc f g)).length=(plc f g).length:=by simp [cps]
 have hx:=zvs f g
 have hlen:=h.len
 have hfit:=zvm h hb
 intro k
 induction k with
 | zero =>
   intro i hk hok
   have hi:i=(plc f g).length:=by omega
   subst hi
   have hall:(∀ q∈g,EvF (ex f) q.1)∧∀ x∈plc f g,PlF f g x:=⟨hb,fun x hx=>by
    obtain ⟨j,hj,rfl⟩:=List.mem_iff_getElem.1 hx
    exact hok j hj hj⟩
   obtain ⟨c1,c2,c3,c4⟩:=zwL h hall
   refine zp4 _ _ _ _ _ ?_
   rw [zad,if_neg (by rw [lenR]; omega),List.take_of_length_le (by omega),zac (by omega),List.take_length,zxm (cps f g (plc f g)) c1 c2 c3 c4,zpi,zac (by omega),zac (by omega),cpR_ok hall]
   rfl
 | succ k ih =>
   intro i hk hok
   have hi:i < (plc f g).length:=by omega
   have hxf:=hfit _ (List.getElem_mem hi)
   have hxi:(plc f g)[i]?=some (plc f g)[i]:=List.getElem?_eq_getElem hi
   have hci:(cps f g (plc f g))[i]?=some ((plc f g)[i],cv g (cv f (plc f g)[i])):=by
    unfold cps
    rw [List.getElem?_map,hxi]
    rfl
   refine zp4 _ _ _ _ _ ?_
   rw [zad,if_pos (by rw [lenR]; omega),zac (by omega),zac (by rw [lenR]; omega),Nat.zero_add,Int.toNat_natCast,elemR hxi]
   show callD zcH (cw zcF [.sl 4 (ptsE f),aR (plc f g)[i]] []) _=_
   have bad:¬ PlF f g (plc f g)[i]→cpR f g=(⟨[]⟩,6):=fun hn=>cpR_no (fun hh=>hn (hh.2 _ (List.getElem_mem hi)))
   by_cases h1:EvF f (plc f g)[i]
   · rw [zlA f _ h.fa h.fl (by omega) h.fv hxf h1,zbr,brn_f (by rfl)]
     show callD zcH (cw zcF [.sl 4 (ptsE g),aR (cv f (plc f g)[i])] []) _=_
     by_cases h2:EvF g (cv f (plc f g)[i])
     · rw [zlA g _ h.ga h.gl (by omega) h.gv (h1.val h.fl) h2,zbr,brn_f (by rfl),zac (by omega),zac (by rw [lenR]; omega),elemR hxi,zac rfl,zac (by rw [lenP]; simp; omega),zac rfl]
       have hw:w64 ((i:Int)+1)=((i+1:Nat):Int):=by rw [w64_id (by omega) (by omega)]; omega
       rw [hw]
       have IH:=ih (i+1) (by omega) (fun j hj hji=>by
        rcases Nat.lt_or_eq_of_le (Nat.le_of_lt_succ hji) with hlt | heq
        · exact hok j hj hlt
        · subst heq; exact ⟨h1,h2⟩)
       rw [List.take_add_one,hci] at IH
       have e:ptsE ((cps f g (plc f g)).take i)++[zag ⟨⟨(ofR (plc f g)[i]).Num,(ofR (plc f g)[i]).Den⟩,⟨(ofR (cv g (cv f (plc f g)[i]))).Num,(ofR (cv g (cv f (plc f g)[i]))).Den⟩⟩]=ptsE ((cps f g (plc f g)).take i++(some ((plc f g)[i],cv g (cv f (plc f g)[i]))).toList):=by
        simp only [ptsE,List.map_append,Option.toList,List.map_cons,List.map_nil]
        rfl
       dsimp only
       rw [e]
       exact IH
     · rw [zlz g _ h.ga h.gl (by omega) h.gv (h1.val h.fl) h2,zbr,bad (fun hh=>h2 hh.2)]
       rfl
   · rw [zlz f _ h.fa h.fl (by omega) h.fv hxf h1,zbr,bad (fun hh=>h1 hh.1)]
     rfl
theorem kr_comp2 {f g:List Pt} (h:CpH f g):∀ (k i:Nat) (rs:List Rat),i+k=g.length→rs=f.map (·.1)++(g.take i).map (fun q=>cv (ex f) q.1)→(∀ j (hj:j < g.length),j < i→EvF (ex f) g[j].1) →
  ziD (cF f) (cF g) ((ex f).map ofP) (rsE (insAll rs)) (i:Int)=some (zgh (cpR f g)):=by
 have hlen:=h.len
 intro k
 induction k with
 | zero =>
   intro i rs hk hrs hok
   have hi:i=g.length:=by omega
   subst hi
   rw [List.take_length] at hrs
   have hb:∀ q∈g,EvF (ex f) q.1:=fun q hq=>by
    obtain ⟨j,hj,rfl⟩:=List.mem_iff_getElem.1 hq
    exact hok j hj hj
   have hp:insAll rs=plc f g:=by rw [hrs]; rfl
   refine zpY _ _ _ _ _ ?_
   have hlg:(List.map zag (cF g).Points).length=g.length:=by simp
   rw [hlg,zad,if_neg (by omega),hp]
   have:=kr_comp3 h hb (plc f g).length 0 (by omega) (fun j _ hj=>by omega)
   rw [List.take_zero] at this
   exact this
 | succ k ih =>
   intro i rs hk hrs hok
   have hi:i < g.length:=by omega
   have hrl:rs.length≤f.length+g.length:=by rw [hrs]; simp; omega
   have hil:=ztd rs
   have hgi:g[i]?=some g[i]:=List.getElem?_eq_getElem hi
   have hrf:∀ z∈insAll rs,Fit z:=fun z hz=>by
    have hz2:z∈rs:=(zxZ z rs).1 hz
    rw [hrs] at hz2
    rcases List.mem_append.1 hz2 with hz2 | hz2
    · obtain ⟨p,hp,rfl⟩:=List.mem_map.1 hz2; exact (h.fv p hp).1
    · obtain ⟨q,hq,rfl⟩:=List.mem_map.1 hz2
      obtain ⟨j,hj,rfl⟩:=List.mem_iff_getElem.1 hq
      rw [List.length_take] at hj
      rw [List.getElem_take]
      exact (hok j (by omega) (by omega)).val (by rw [ex_len]; exact h.fl)
   refine zpY _ _ _ _ _ ?_
   have hlg:(List.map zag (cF g).Points).length=g.length:=by simp
   rw [hlg,zad,if_pos (by omega),zac (by omega),Int.toNat_natCast,elemP hgi,zac (by omega),List.take_length]
   show callD zcH (cw zcF [.sl 4 (ptsE (ex f)),aR g[i].1] []) _=_
   have gf:=(h.gv g[i] (List.getElem_mem hi)).1
   by_cases h1:EvF (ex f) g[i].1
   · rw [zlA (ex f) g[i].1 (ex_asc h.fa) (by rw [ex_len]; exact h.fl) (by rw [ex_len]; omega) (exF h.fv) gf h1,zbr,brn_f (by rfl),zac rfl]
     have hw:w64 ((i:Int)+1)=((i+1:Nat):Int):=by rw [w64_id (by omega) (by omega)]; omega
     dsimp only
     rw [c_insert (zxY rs) (by omega) hrf (h1.val (by rw [ex_len]; exact h.fl)),zpn,zac rfl,hw]
     have:=ih (i+1) (rs++[cv (ex f) g[i].1]) (by omega) (by rw [hrs,List.take_add_one,hgi,List.map_append,List.append_assoc]; rfl) (fun j hj hji=>by
       rcases Nat.lt_or_eq_of_le (Nat.le_of_lt_succ hji) with hlt | heq
       · exact hok j hj hlt
       · subst heq; exact h1)
     have e:insAll (rs++[cv (ex f) g[i].1])=insA (cv (ex f) g[i].1) (insAll rs):=by unfold insAll; rw [List.foldl_append]; rfl
     rw [e] at this
     exact this
   · rw [zlz (ex f) g[i].1 (ex_asc h.fa) (by rw [ex_len]; exact h.fl) (by rw [ex_len]; omega) (exF h.fv) gf h1,zbr,cpR_no (fun hh=>h1 (hh.1 _ (List.getElem_mem hi)))]
     rfl
theorem kr_comp1 {f g:List Pt} (h:CpH f g):∀ (k i:Nat) (rs:List Rat),i+k=f.length→rs=(f.take i).map (·.1) →
  ziz (cF f) (cF g) (rsE (insAll rs)) (i:Int)=some (zgh (cpR f g)):=by
 have hlen:=h.len
 intro k
 induction k with
 | zero =>
   intro i rs hk hrs
   have hi:i=f.length:=by omega
   subst hi
   rw [List.take_length] at hrs
   refine zp7 _ _ _ _ ?_
   have hlf:(List.map zag (cF f).Points).length=f.length:=by simp
   rw [hlf,zad,if_neg (by omega),c_flip f (by omega),zwF]
   exact kr_comp2 h g.length 0 rs (by omega) (by rw [hrs]; simp) (fun j _ hj=>by omega)
 | succ k ih =>
   intro i rs hk hrs
   have hi:i < f.length:=by omega
   have hrl:rs.length≤f.length:=by rw [hrs]; simp; omega
   have hil:=ztd rs
   have hfi:f[i]?=some f[i]:=List.getElem?_eq_getElem hi
   have hrf:∀ z∈insAll rs,Fit z:=fun z hz=>by
    have hz2:z∈rs:=(zxZ z rs).1 hz
    rw [hrs] at hz2
    obtain ⟨p,hp,rfl⟩:=List.mem_map.1 hz2
    exact (h.fv p ((List.take_sublist _ _).subset hp)).1
   refine zp7 _ _ _ _ ?_
   have hlf:(List.map zag (cF f).Points).length=f.length:=by simp
   rw [hlf,zad,if_pos (by omega),zac (by omega),Int.toNat_natCast,elemP hfi,zac rfl]
   have hw:w64 ((i:Int)+1)=((i+1:Nat):Int):=by rw [w64_id (by omega) (by omega)]; omega
   have ci:=c_insert (zxY rs) (by omega) hrf (h.fv f[i] (List.getElem_mem hi)).1
   have ci':cw zi3 [.row 950 2 0 (List.length (rsE (insAll rs))),.agg (zaa (ofP f[i]).X)] [(950,⟨2,zae,rsE (insAll rs),false⟩)]=some (zha ((insA f[i].1 (insAll rs)).map ofR)):=ci
   rw [ci',zpn,zac rfl,hw]
   have:=ih (i+1) (rs++[f[i].1]) (by omega) (by rw [hrs,List.take_add_one,hfi,List.map_append]; rfl)
   have e:insAll (rs++[f[i].1])=insA f[i].1 (insAll rs):=by unfold insAll; rw [List.foldl_append]; rfl
   rw [e] at this
   exact this
end Go.Proofs.YtbhkcgaanaelfaaGreat
namespace Go.Proofs.YtbhkcgaanaelfaaGreat
open Go.Ab Go.Pure Go.Sort
set_option linter.unusedSimpArgs false
set_option linter.unusedVariables false
set_option maxRecDepth 20000
def GoodP (pts:List GPoint):Prop:=∃ l:List Pt,pts=l.map ofP∧AllF l∧Asc l
theorem good_mem {pts:List GPoint} (h:GoodP pts) {p:GPoint} (hp:p∈pts):VR p.X∧VR p.Y:=by
 obtain ⟨l,rfl,h1,_⟩:=h
 obtain ⟨q,hq,rfl⟩:=List.mem_map.1 hp
 exact ⟨fit_VR (h1 q hq).1,fit_VR (h1 q hq).2⟩
theorem VR_point {p:GPoint} (h1:VR p.X) (h2:VR p.Y):∃ q:Pt,Fit q.1∧Fit q.2∧p=ofP q:=by
 obtain ⟨a,ha,ea⟩:=VR_fit h1
 obtain ⟨b,hb,eb⟩:=VR_fit h2
 exact ⟨(a,b),ha,hb,by cases p; simp only at ea eb; rw [ea,eb]; rfl⟩
theorem zzj {l:List Pt} {q p:Pt} (h1:AllF l) (h2:Asc l) (hq:Fit q.1∧Fit q.2) (hz:∀ p,l.getLast?=some p→p.1 < q.1∧p.2 < q.2):AllF (l++[q])∧Asc (l++[q]):=by
 refine ⟨fun p hp=>?_,?_⟩
 · rcases List.mem_append.1 hp with hp | hp
   · exact h1 p hp
   · rw [List.mem_singleton.1 hp]; exact hq
 · unfold Asc
   rw [List.pairwise_append]
   refine ⟨h2,List.pairwise_singleton _ _,fun p hp z hz'=>?_⟩
   rw [List.mem_singleton.1 hz']
   have hne:l≠[]:=List.ne_nil_of_mem hp
   have hl:=hz _ (List.getLast?_eq_some_getLast hne)
   rcases List.mem_iff_getElem.1 hp with ⟨i,hi,rfl⟩
   rcases Nat.lt_or_ge (i+1) l.length with h | h
   · have hlast:l.getLast hne=l[l.length - 1]:=List.getLast_eq_getElem hne
     rw [hlast] at hl
     have:=List.pairwise_iff_getElem.1 h2 i (l.length - 1) hi (by omega) (by omega)
     grind
   · have hlast:l.getLast hne=l[i]:=by rw [List.getLast_eq_getElem hne]; congr 1; omega
     rw [hlast] at hl
     exact hl
section
variable {pts:List GPoint}
theorem elemG {β:Type} {i:Nat} (hi:i < pts.length) (k:GPoint→Option β):elemD zau (List.map zag pts) i k=k pts[i]:=
 zdY (D:=zau) (List.getElem?_eq_getElem hi) k
theorem lenG (l:List GPoint):(List.map zag l).length=l.length:=by simp
theorem zy7 {i:Nat} (hi:i < pts.length) (h:GoodP (pts.take i)):(¬ VR pts[i].X∨¬ VR pts[i].Y→¬ GoodP pts) ∧
  (VR pts[i].X→VR pts[i].Y→∃ q:Pt,Fit q.1∧Fit q.2∧pts[i]=ofP q∧(i=0→GoodP (pts.take (i+1))) ∧
   (0 < i→∃ p:Pt,Fit p.1∧Fit p.2∧(∃ h':i - 1 < pts.length,pts[i - 1]=ofP p)∧((p.1 < q.1∧p.2 < q.2)→GoodP (pts.take (i+1)))∧(¬ (p.1 < q.1∧p.2 < q.2)→¬ GoodP pts))):=by
 refine ⟨fun h1 h2=>?_,fun h1 h2=>?_⟩
 · have:=good_mem h2 (List.getElem_mem hi)
   rcases h1 with h1 | h1
   · exact h1 this.1
   · exact h1 this.2
 · obtain ⟨q,hq1,hq2,eq⟩:=VR_point h1 h2
   obtain ⟨l,hl,hf,ha⟩:=h
   have hll:l.length=i:=by
    have:=congrArg List.length hl
    simp at this
    omega
   have ht:pts.take (i+1)=(l++[q]).map ofP:=by
    rw [List.take_add_one,List.getElem?_eq_getElem hi,hl,eq,List.map_append]; rfl
   refine ⟨q,hq1,hq2,eq,fun h0=>?_,fun h0=>?_⟩
   · have hnil:l=[]:=List.length_eq_zero_iff.1 (by omega)
     obtain ⟨g1,g2⟩:=zzj (q:=q) (p:=q) hf ha ⟨hq1,hq2⟩ (fun p hp=>by rw [hnil] at hp; cases hp)
     exact ⟨l++[q],ht,g1,g2⟩
   · have hne:l≠[]:=by intro e; rw [e] at hll; simp at hll; omega
     have hp':l[i - 1]?=some l[i - 1]:=List.getElem?_eq_getElem (by omega)
     have hpf:=hf _ (List.getElem_mem (show i - 1 < l.length by omega))
     have epp:pts[i - 1]=ofP l[i - 1]:=by
      have e1:(pts.take i)[i - 1]?=some (ofP l[i - 1]):=by rw [hl,List.getElem?_map,hp']; rfl
      rw [List.getElem?_take,if_pos (by omega),List.getElem?_eq_getElem (by omega)] at e1
      injection e1
     refine ⟨l[i - 1],hpf.1,hpf.2,⟨by omega,epp⟩,fun hlt=>?_,fun hn hg=>?_⟩
     · obtain ⟨g1,g2⟩:=zzj (q:=q) (p:=q) hf ha ⟨hq1,hq2⟩ (fun p hp=>by
        rw [List.getLast?_eq_getElem?,hll,hp'] at hp
        injection hp with hp
        rw [← hp]; exact hlt)
       exact ⟨l++[q],ht,g1,g2⟩
     · obtain ⟨m,hm,_,hma⟩:=hg
       have hml:m.length=pts.length:=by rw [hm]; simp
       have e1:ofP m[i - 1]=ofP l[i - 1]:=by
        have:pts[i - 1]=ofP m[i - 1]:=by simp only [hm,List.getElem_map]
        rw [← this,epp]
       have e2:ofP m[i]=ofP q:=by
        have:pts[i]=ofP m[i]:=by simp only [hm,List.getElem_map]
        rw [← this,eq]
       have inj:∀ a b:Pt,ofP a=ofP b→a=b:=fun a b e=>by
        have e3:ofR a.1=ofR b.1:=congrArg GPoint.X e
        have e4:ofR a.2=ofR b.2:=congrArg GPoint.Y e
        exact Prod.ext (zvq e3) (zvq e4)
       have:=List.pairwise_iff_getElem.1 hma (i - 1) i (by omega) (by omega) (by omega)
       rw [inj _ _ e1,inj _ _ e2] at this
       exact hn this
theorem k_asc (hl:pts.length≤100000):∀ (k i:Nat),i+k=pts.length→GoodP (pts.take i)→zdS pts (i:Int)=some (zij (dec (GoodP pts))):=by
 intro k
 induction k with
 | zero =>
   intro i hk hg
   refine zlB _ _ ?_
   rw [List.take_of_length_le (by omega)] at hg
   rw [zad,if_neg (by rw [lenG]; omega),zav hg]
   rfl
 | succ k ih =>
   intro i hk hg
   have hi:i < pts.length:=by omega
   have ew:w64 ((i:Int)+1)=((i+1:Nat):Int):=by rw [w64_id (by omega) (by omega)]; omega
   obtain ⟨s1,s2⟩:=zy7 hi hg
   refine zlB _ _ ?_
   rw [zad,if_pos (by rw [lenG]; omega),zac (by omega),Int.toNat_natCast,elemG hi,zek,za5,ew]
   by_cases h1:VR pts[i].X
   · rw [decide_eq_true h1,brn_nt,zek,za5]
     by_cases h2:VR pts[i].Y
     · obtain ⟨q,hq1,hq2,eq,t1,t2⟩:=s2 h1 h2
       rw [decide_eq_true h2,brn_nt,zad]
       by_cases h0:i=0
       · rw [if_neg (by omega)]
         exact ih (i+1) (by omega) (t1 h0)
       · obtain ⟨p,hp1,hp2,⟨hi',ep⟩,t3,t4⟩:=t2 (by omega)
         have ew2:w64 ((i:Int) - 1)=((i - 1:Nat):Int):=by rw [w64_id (by omega) (by omega)]; omega
         have hl1:=c_LessF p.1 q.1 hp1 hq1
         have hl2:=c_LessF p.2 q.2 hp2 hq2
         have ex1:(pts[i - 1]).X=ofR p.1:=by rw [ep]; rfl
         have ex2:(pts[i - 1]).Y=ofR p.2:=by rw [ep]; rfl
         have ex3:(pts[i]).X=ofR q.1:=by rw [eq]; rfl
         have ex4:(pts[i]).Y=ofR q.2:=by rw [eq]; rfl
         rw [if_pos (by omega),ew2,zac (by omega),Int.toNat_natCast,elemG hi',ex1,ex3,hl1,zqH]
         by_cases l1:p.1 < q.1
         · rw [decide_eq_true l1,brn_nt,zac (by omega),elemG hi',ex2,ex4,hl2,zqH]
           by_cases l2:p.2 < q.2
           · rw [decide_eq_true l2,brn_nt]
             exact ih (i+1) (by omega) (t3 ⟨l1,l2⟩)
           · rw [decide_eq_false l2,brn_nf,zaF (t4 (fun h=>l2 h.2))]
             rfl
         · rw [decide_eq_false l1,brn_nf,zaF (t4 (fun h=>l1 h.1))]
           rfl
     · rw [decide_eq_false h2,brn_nf,zaF (s1 (.inr h2))]
       rfl
   · rw [decide_eq_false h1,brn_nf,zaF (s1 (.inl h1))]
     rfl
theorem k_ris (hl:pts.length≤100000):∀ (k i:Nat),i+k=pts.length→GoodP (pts.take i)→zhq pts (i:Int)=some (zoU (dec (GoodP pts∧2≤pts.length))):=by
 have no:¬ GoodP pts→dec (GoodP pts∧2≤pts.length)=false:=fun h=>zaF (fun h2=>h h2.1)
 intro k
 induction k with
 | zero =>
   intro i hk hg
   refine zrb _ _ ?_
   rw [List.take_of_length_le (by omega)] at hg
   rw [zad,if_neg (by rw [lenG]; omega),lenG]
   by_cases h2:2≤pts.length
   · rw [zav ⟨hg,h2⟩,decide_eq_true (by omega)]; rfl
   · rw [zaF (fun h=>h2 h.2),decide_eq_false (by omega)]; rfl
 | succ k ih =>
   intro i hk hg
   have hi:i < pts.length:=by omega
   have ew:w64 ((i:Int)+1)=((i+1:Nat):Int):=by rw [w64_id (by omega) (by omega)]; omega
   obtain ⟨s1,s2⟩:=zy7 hi hg
   refine zrb _ _ ?_
   rw [zad,if_pos (by rw [lenG]; omega),zac (by omega)]
   simp only [Int.toNat_natCast]
   rw [elemG hi,zc6,zaL,ew]
   by_cases h1:VR pts[i].X
   · rw [decide_eq_true h1,brn_nt,zac (by omega),elemG hi,zc6,zaL]
     by_cases h2:VR pts[i].Y
     · obtain ⟨q,hq1,hq2,eq,t1,t2⟩:=s2 h1 h2
       rw [decide_eq_true h2,brn_nt,zad]
       by_cases h0:i=0
       · rw [if_neg (by omega)]
         exact ih (i+1) (by omega) (t1 h0)
       · obtain ⟨p,hp1,hp2,⟨hi',ep⟩,t3,t4⟩:=t2 (by omega)
         have ew2:w64 ((i:Int) - 1)=((i - 1:Nat):Int):=by rw [w64_id (by omega) (by omega)]; omega
         have hl1:=zq9 p.1 q.1 hp1 hq1
         have hl2:=zq9 p.2 q.2 hp2 hq2
         have ex1:(pts[i - 1]).X=ofR p.1:=by rw [ep]; rfl
         have ex2:(pts[i - 1]).Y=ofR p.2:=by rw [ep]; rfl
         have ex3:(pts[i]).X=ofR q.1:=by rw [eq]; rfl
         have ex4:(pts[i]).Y=ofR q.2:=by rw [eq]; rfl
         rw [if_pos (by omega),ew2,zac (by omega),Int.toNat_natCast,elemG hi',zac (by omega),elemG hi,ex1,ex3,hl1,zhd]
         by_cases l1:p.1 < q.1
         · rw [decide_eq_true l1,brn_nt,zac (by omega),elemG hi',zac (by omega),elemG hi,ex2,ex4,hl2,zhd]
           by_cases l2:p.2 < q.2
           · rw [decide_eq_true l2,brn_nt]
             exact ih (i+1) (by omega) (t3 ⟨l1,l2⟩)
           · rw [decide_eq_false l2,brn_nf,no (t4 (fun h=>l2 h.2))]
             rfl
         · rw [decide_eq_false l1,brn_nf,no (t4 (fun h=>l1 h.1))]
           rfl
     · rw [decide_eq_false h2,brn_nf,no (s1 (.inr h2))]
       rfl
   · rw [decide_eq_false h1,brn_nf,no (s1 (.inl h1))]
     rfl
end
theorem good_nil:GoodP []:=⟨[],rfl,fun p hp=>absurd hp (List.not_mem_nil),List.Pairwise.nil⟩
def VC (c:GCurve):Prop:=2≤c.Points.length∧c.Points.length≤410∧GoodP c.Points
theorem VC.pts {c:GCurve} (h:VC c):∃ l:List Pt,c=cF l∧AllF l∧Asc l∧2≤l.length∧l.length≤410:=by
 obtain ⟨h1,h2,l,h3,h4,h5⟩:=h
 rw [h3,List.length_map] at h1 h2
 exact ⟨l,by cases c; simp only at h3; rw [h3],h4,h5,h1,h2⟩
theorem vc_of {l:List Pt} (h1:AllF l) (h2:Asc l) (h3:2≤l.length) (h4:l.length≤410):VC (cF l):=⟨by simpa using h3,by simpa using h4,l,rfl,h1,h2⟩
theorem zf9 (c:GCurve):cw zeQ [.agg (zak c)] []=some (zlx (dec (VC c))):=by
 refine zuM _ ?_
 rw [lenG,zad]
 by_cases h1:2≤c.Points.length
 · rw [if_pos (by omega),zad]
   by_cases h2:c.Points.length≤410
   · have h:=zrW c.Points (k_asc (pts:=c.Points) (by omega) c.Points.length 0 (by omega) (by rw [List.take_zero]; exact good_nil))
     rw [if_pos (by omega),h,zps]
     rw [zvr (show VC c↔GoodP c.Points from ⟨fun h=>h.2.2,fun h=>⟨h1,h2,h⟩⟩)]
     rfl
   · rw [if_neg (by omega),zaF (fun h=>h2 h.2.1)]; rfl
 · rw [if_neg (by omega),zaF (fun h=>h1 h.1)]; rfl
theorem zgY (c:GCurve):cw zjR [.agg (zak c)] []=some (zpA (dec (VC c))):=by
 refine zAa _ ?_
 rw [lenG,zad]
 by_cases h2:c.Points.length≤410
 · have h:=zyG c.Points (k_ris (pts:=c.Points) (by omega) c.Points.length 0 (by omega) (by rw [List.take_zero]; exact good_nil))
   rw [if_pos (by omega),h,zuC]
   rw [zvr (show VC c↔(GoodP c.Points∧2≤c.Points.length) from ⟨fun h=>⟨h.2.2,h.1⟩,fun h=>⟨h.2,h2,h.1⟩⟩)]
   rfl
 · rw [if_neg (by omega),zaF (fun h=>h2 h.2.1)]; rfl
theorem eqGP (x y:GPoint):(x.X.Num == y.X.Num && (x.X.Den == y.X.Den && true) && (x.Y.Num == y.Y.Num && (x.Y.Den == y.Y.Den && true) && true))=dec (x=y):=by
 refine dec_bool ?_
 cases x with | mk a b=>cases y with | mk c d =>
 cases a; cases b; cases c; cases d
 simp [and_assoc]
theorem eq_from {α:Type} (l m:List α) (hl:l.length=m.length) (i:Nat):(∀ j (h:j < l.length),i≤j→l[j]=m[j])→(∀ j (h:j < l.length),j < i→l[j]=m[j])→l=m:=fun h1 h2 =>
 List.ext_getElem hl fun j ha hb=>by
  rcases Nat.lt_or_ge j i with h | h
  · exact h2 j ha h
  · exact h1 j ha h
theorem k_Equal (a b:GCurve) (hl:a.Points.length=b.Points.length) (hn:a.Points.length≤100000):∀ (k i:Nat),i+k=a.Points.length→(∀ j (h:j < a.Points.length),j < i→a.Points[j]=b.Points[j])→zkN a b (i:Int)=some (zm4 (dec (a.Points=b.Points)))∧zdT a.Points b.Points (i:Int)=some (zgz (dec (a.Points=b.Points))):=by
 intro k
 induction k with
 | zero =>
   intro i hk hp
   have he:a.Points=b.Points:=eq_from _ _ hl i (fun j h hj=>by omega) hp
   constructor
   · refine zoq _ _ _ ?_
     rw [zad,if_neg (by rw [lenG]; omega),zav he]; rfl
   · refine zd0 _ _ _ ?_
     rw [zad,if_neg (by rw [lenG]; omega),zav he]; rfl
 | succ k ih =>
   intro i hk hp
   have hi:i < a.Points.length:=by omega
   have hi2:i < b.Points.length:=by omega
   have ew:w64 ((i:Int)+1)=((i+1:Nat):Int):=by rw [w64_id (by omega) (by omega)]; omega
   by_cases he:a.Points[i]=b.Points[i]
   · have IH:=ih (i+1) (by omega) (fun j h hj=>by
      rcases Nat.lt_or_eq_of_le (Nat.le_of_lt_succ hj) with h2 | h2
      · exact hp j h h2
      · subst h2; exact he)
     constructor
     · refine zoq _ _ _ ?_
       rw [zad,if_pos (by rw [lenG]; omega),zac (by omega),Int.toNat_natCast,elemG hi,zac (by omega),elemG hi2,eqGP,zav he,brn_nt,ew]
       exact IH.1
     · refine zd0 _ _ _ ?_
       rw [zad,if_pos (by rw [lenG]; omega),zac (by omega),Int.toNat_natCast,elemG hi,zac (by omega),elemG hi2,eqGP,zav he,brn_nt,ew]
       exact IH.2
   · have hne:¬ a.Points=b.Points:=fun e=>he (by simp only [e])
     constructor
     · refine zoq _ _ _ ?_
       rw [zad,if_pos (by rw [lenG]; omega),zac (by omega),Int.toNat_natCast,elemG hi,zac (by omega),elemG hi2,eqGP,zaF he,brn_nf,zaF hne]
       rfl
     · refine zd0 _ _ _ ?_
       rw [zad,if_pos (by rw [lenG]; omega),zac (by omega),Int.toNat_natCast,elemG hi,zac (by omega),elemG hi2,eqGP,zaF he,brn_nf,zaF hne]
       rfl
theorem zsK (a b:GCurve) (hn:a.Points.length≤100000):cw zgr [.agg (zak a),.agg (zak b)] []=some (zm4 (dec (a.Points=b.Points))):=by
 refine zz1 _ _ ?_
 rw [lenG,lenG]
 by_cases hl:a.Points.length=b.Points.length
 · rw [hl,bne_self_eq_false,zat]
   exact (k_Equal a b hl hn a.Points.length 0 (by omega) (fun j _ h=>by omega)).1
 · have:(((a.Points.length:Nat):Int) != ((b.Points.length:Nat):Int))=true:=bne_iff_ne.2 (by omega)
   rw [this,zaG,zaF (fun e=>hl (by rw [e]))]
   rfl
theorem nfR_len (l:List Pt) (h:2≤l.length):(nfR l).1.Points.length≤l.length:=by
 unfold nfR
 split
 · have:=bn_len l h
   simp [nf]; omega
 · simp
theorem cpR_len {f g:List Pt} (h:CpH f g):(cpR f g).1.Points.length≤410:=by
 unfold cpR
 split
 · rename_i hc
   obtain ⟨_,h2,h3,_⟩:=zwL h hc
   have:=nfR_len _ h2
   omega
 · simp
theorem zAI (a b:GCurve) (hl:a.Points.length+b.Points.length < 100):∃ v:GCurve×Int,cw zjv [.agg (zak a),.agg (zak b)] []=some (zd9 v)∧cw znW [.agg (zak a),.agg (zak b)] []=some (zgh v)∧v.1.Points.length≤410:=by
 by_cases h:VC a
 · by_cases h':VC b
   · obtain ⟨f,rfl,h1,h2,h3,h4⟩:=h.pts
     obtain ⟨g,rfl,g1,g2,g3,g4⟩:=h'.pts
     simp only [List.length_map] at hl
     have hc:CpH f g:=⟨h2,h3,h1,g2,g3,g1,hl⟩
     refine ⟨cpR f g,zjJ _ _ ?_,zor _ _ ?_,cpR_len hc⟩
     · rw [zf9,zbi,zav h,brn_nt,zf9,zbi,zav h',brn_nt]
       exact k_comp1 hc f.length 0 [] (by omega) (by simp)
     · rw [zgY,zcW,zav h,brn_nt,zgY,zcW,zav h',brn_nt]
       exact kr_comp1 hc f.length 0 [] (by omega) (by simp)
   · refine ⟨(⟨[]⟩,1),zjJ _ _ ?_,zor _ _ ?_,by simp⟩
     · rw [zf9,zbi,zav h,brn_nt,zf9,zbi,zaF h']; rfl
     · rw [zgY,zcW,zav h,brn_nt,zgY,zcW,zaF h']; rfl
 · refine ⟨(⟨[]⟩,1),zjJ _ _ ?_,zor _ _ ?_,by simp⟩
   · rw [zf9,zbi,zaF h]; rfl
   · rw [zgY,zcW,zaF h]; rfl
theorem both_Eval (c:GCurve) (x:GRatio):∃ v:GRatio×Int,cw zdu [.agg (zak c),.agg (zaa x)] []=some (zgD v)∧cw znP [.agg (zak c),.agg (zaa x)] []=some (zoj v)∧(v.2=0→∃ r,Fit r∧v.1=ofR r):=by
 by_cases h:VC c
 · by_cases hx:VR x
   · obtain ⟨l,rfl,h1,h2,h3,h4⟩:=h.pts
     obtain ⟨r,hr,rfl⟩:=VR_fit hx
     by_cases he:EvF l r
     · refine ⟨(ofR (cv l r),0),zgw _ _ ?_,znF _ _ ?_,fun _=>⟨_,he.val h3,rfl⟩⟩
       · rw [zf9,zbi,zav h,brn_nt,zek,za5,decide_eq_true hx,brn_nt]
         show callD zbs (cw zbq [.sl 4 (ptsE l),aR r] []) _=_
         rw [zqu l r h2 h3 (by omega) h1 hr he,zbv]; rfl
       · rw [zgY,zcW,zav h,brn_nt,zc6,zaL,decide_eq_true hx,brn_nt]
         show callD zcH (cw zcF [.sl 4 (ptsE l),aR r] []) _=_
         rw [zlA l r h2 h3 (by omega) h1 hr he,zbr]; rfl
     · refine ⟨(⟨0,0⟩,6),zgw _ _ ?_,znF _ _ ?_,fun h=>by cases h⟩
       · rw [zf9,zbi,zav h,brn_nt,zek,za5,decide_eq_true hx,brn_nt]
         show callD zbs (cw zbq [.sl 4 (ptsE l),aR r] []) _=_
         rw [zsM l r h2 h3 (by omega) h1 hr he,zbv]; rfl
       · rw [zgY,zcW,zav h,brn_nt,zc6,zaL,decide_eq_true hx,brn_nt]
         show callD zcH (cw zcF [.sl 4 (ptsE l),aR r] []) _=_
         rw [zlz l r h2 h3 (by omega) h1 hr he,zbr]; rfl
   · refine ⟨(⟨0,0⟩,1),zgw _ _ ?_,znF _ _ ?_,fun h=>by cases h⟩
     · rw [zf9,zbi,zav h,brn_nt,zek,za5,decide_eq_false hx]; rfl
     · rw [zgY,zcW,zav h,brn_nt,zc6,zaL,decide_eq_false hx]; rfl
 · refine ⟨(⟨0,0⟩,1),zgw _ _ ?_,znF _ _ ?_,fun h=>by cases h⟩
   · rw [zf9,zbi,zaF h]; rfl
   · rw [zgY,zcW,zaF h]; rfl
end Go.Proofs.YtbhkcgaanaelfaaGreat
namespace Go.Proofs.YtbhkcgaanaelfaaGreat
open Go.Ab Go.Pure
set_option linter.unusedSimpArgs false
set_option linter.unusedVariables false
set_option maxRecDepth 20000
def rndR (a:Rat):Int:=(2*a.num+a.den) / (2*a.den)
theorem c_RoundF (a:Rat) (ha:Fit a):cw zpO [aR a] []=some (zpC (rndR a)):=by
 have ha1:=ha.1
 have ha2:=ha.2
 have pa:=a.den_pos
 refine zzv _ ?_
 have key:cw zox [aR a,.fn zfn []] []=some (zn1 (rndR a)):=by
  refine zrh _ ?_
  unfold rndR
  rw [zaA (zi4 a ha.bd (by omega) (by omega)),brn_nt,oN,oD,zac (by omega),zac (by omega),zad]
  generalize hn:a.num=N at *
  have hD:(0:Int) < (a.den:Int):=by omega
  generalize hd:(a.den:Int)=D at *
  have f1:=Int.mul_tdiv_add_tmod N D
  have f2:=Int.tmod_lt_of_pos N hD
  have f3:-D < N.tmod D:=by
   have:=Int.tmod_lt_of_pos (-N) hD
   rw [Int.neg_tmod] at this; omega
  have f5:-1152921504606846976≤N.tdiv D∧N.tdiv D≤1152921504606846976:=by
   have:=Int.natAbs_tdiv_le_natAbs N D
   omega
  have tr:∀ (q r:Int),-1152921504606846977≤q→q≤1152921504606846976→0≤r→r < D→D*q+r=N→cw zfn [I q,I r,I D] []=some (zon ((2*N+D) / (2*D))):=by
   intro q r hq1 hq2 hr0 hr1 he
   refine zxd _ _ _ ?_
   rw [w64_id (show _≤D - r by omega) (by omega),zad]
   have hv:(2*N+D) / (2*D)=if D - r≤r then q+1 else q:=by
    split
    · exact ((Int.ediv_emod_unique (a:=2*N+D) (b:=2*D) (r:=2*r - D) (q:=q+1) (by omega)).2 ⟨by grind,by omega,by omega⟩).1
    · exact ((Int.ediv_emod_unique (a:=2*N+D) (b:=2*D) (r:=2*r+D) (q:=q) (by omega)).2 ⟨by grind,by omega,by omega⟩).1
   rw [hv]
   split
   · rw [w64_id (by omega) (by omega)]; rfl
   · rfl
  by_cases hs:N.tmod D < 0
  · rw [if_pos hs,w64_id (show _≤N.tdiv D by omega) (by omega),w64_id (show _≤N.tdiv D - 1 by omega) (by omega),w64_id (by omega) (by omega),
     tr (N.tdiv D - 1) (N.tmod D+D) (by omega) (by omega) (by omega) (by omega) (by rw [Int.mul_sub]; omega),zoJ]; rfl
  · rw [if_neg hs,w64_id (show _≤N.tdiv D by omega) (by omega),tr (N.tdiv D) (N.tmod D) (by omega) (by omega) (by omega) (by omega) f1,zoJ]; rfl
 rw [key,zus]
 rfl
theorem c_rRoundF (a:Rat) (ha:Fit a):cw zpw [aR a] []=some (zpy (rndR a)):=by
 have ha1:=ha.1
 have ha2:=ha.2
 have pa:=a.den_pos
 refine zzF _ ?_
 rw [zhQ ha,zaL,brn_nt,oN,oD,w64_id (n:=2*a.num) (by omega) (by omega),w64_id (n:=2*a.num+a.den) (by omega) (by omega),w64_id (n:=2*(a.den:Int)) (by omega) (by omega)]
 have fl:cw zpJ [I (2*a.num+a.den),I (2*(a.den:Int))] []=some (zpt (rndR a)):=by
  refine zzt _ _ ?_
  unfold rndR
  generalize hN:2*a.num+(a.den:Int)=N
  have hD:(0:Int) < 2*(a.den:Int):=by omega
  have nb:-4611686018427387904≤N∧N≤4611686018427387904:=by omega
  generalize 2*(a.den:Int)=D at *
  rw [zac (by omega),zac (by omega),zad]
  have f1:=Int.mul_tdiv_add_tmod N D
  have f2:=Int.tmod_lt_of_pos N hD
  have f3:-D < N.tmod D:=by
   have:=Int.tmod_lt_of_pos (-N) hD
   rw [Int.neg_tmod] at this; omega
  have f5:-4611686018427387904≤N.tdiv D∧N.tdiv D≤4611686018427387904:=by
   have:=Int.natAbs_tdiv_le_natAbs N D
   omega
  by_cases hs:N.tmod D < 0
  · rw [if_pos hs,w64_id (n:=N.tdiv D) (by omega) (by omega),w64_id (by omega) (by omega)]
    have:=((Int.ediv_emod_unique (a:=N) (b:=D) (r:=N.tmod D+D) (q:=N.tdiv D - 1) (by omega)).2 ⟨by grind,by omega,by omega⟩).1
    rw [this]; rfl
  · rw [if_neg hs,w64_id (n:=N.tdiv D) (by omega) (by omega)]
    have:=((Int.ediv_emod_unique (a:=N) (b:=D) (r:=N.tmod D) (q:=N.tdiv D) (by omega)).2 ⟨by grind,by omega,by omega⟩).1
    rw [this]; rfl
 rw [fl,zvU]
 rfl
theorem zAT (c:GCurve) (m most:Int):∃ v:Int×Int,cw zjM [.agg (zak c),I m,I most] []=some (zjy v)∧cw znG [.agg (zak c),I m,I most] []=some (zn0 v)∧(v.2=0→0≤v.1∧v.1≤most):=by
 by_cases h1:m < 0
 · exact ⟨(0,2),zec _ _ _ (by rw [zad,if_pos h1]; rfl),zgm _ _ _ (by rw [zad,if_pos h1]; rfl),fun h=>by cases h⟩
 by_cases h2:200 < m
 · exact ⟨(0,2),zec _ _ _ (by rw [zad,if_neg h1,zad,if_pos h2]; rfl),zgm _ _ _ (by rw [zad,if_neg h1,zad,if_pos h2]; rfl),fun h=>by cases h⟩
 by_cases h3:most < 0
 · exact ⟨(0,2),zec _ _ _ (by rw [zad,if_neg h1,zad,if_neg h2,zad,if_pos h3]; rfl),zgm _ _ _ (by rw [zad,if_neg h1,zad,if_neg h2,zad,if_pos h3]; rfl),fun h=>by cases h⟩
 by_cases h4:200 < most
 · exact ⟨(0,2),zec _ _ _ (by rw [zad,if_neg h1,zad,if_neg h2,zad,if_neg h3,zad,if_pos h4]; rfl),zgm _ _ _ (by rw [zad,if_neg h1,zad,if_neg h2,zad,if_neg h3,zad,if_pos h4]; rfl),fun h=>by cases h⟩
 obtain ⟨v,p1,r1,hv⟩:=both_Eval c (ofR (m:Rat))
 have p1':cw zdu [.agg (zak c),.agg (zaa (ofR (m:Rat)))] []=some (zgD v):=p1
 have r1':cw znP [.agg (zak c),.agg (zaa ⟨m,1⟩)] []=some (zoj v):=r1
 by_cases h5:v.2=0
 · obtain ⟨r,hr,er⟩:=hv h5
   have k1:=c_RoundF r hr
   have k2:=c_rRoundF r hr
   have e:(if most < if 0 > rndR r then 0 else rndR r then most else if 0 > rndR r then 0 else rndR r)=(if (if rndR r < most then rndR r else most) > 0 then if rndR r < most then rndR r else most else 0):=by
    repeat' split
    all_goals omega
   have hb:0≤(if most < if 0 > rndR r then 0 else rndR r then most else if 0 > rndR r then 0 else rndR r)∧(if most < if 0 > rndR r then 0 else rndR r then most else if 0 > rndR r then 0 else rndR r)≤most:=by
    repeat' split
    all_goals omega
   refine ⟨(if most < if 0 > rndR r then 0 else rndR r then most else if 0 > rndR r then 0 else rndR r,0),zec _ _ _ ?_,zgm _ _ _ ?_,fun _=>hb⟩
   · rw [zad,if_neg h1,zad,if_neg h2,zad,if_neg h3,zad,if_neg h4,zlk,zbj,p1',zgp,h5,brn_f (by rfl),er,k1,zv8]; rfl
   · rw [zad,if_neg h1,zad,if_neg h2,zad,if_neg h3,zad,if_neg h4,r1',zqU,h5,brn_f (by rfl),er,k2,zvM,e]; rfl
 · refine ⟨(0,v.2),zec _ _ _ ?_,zgm _ _ _ ?_,fun h=>absurd h h5⟩
   · rw [zad,if_neg h1,zad,if_neg h2,zad,if_neg h3,zad,if_neg h4,zlk,zbj,p1',zgp,brn_t (bne_iff_ne.2 h5)]; rfl
   · rw [zad,if_neg h1,zad,if_neg h2,zad,if_neg h3,zad,if_neg h4,r1',zqU,brn_t (bne_iff_ne.2 h5)]; rfl
end Go.Proofs.YtbhkcgaanaelfaaGreat
