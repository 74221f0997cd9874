/- The law of totals. -/
import Derived.Test.YticojpmhlhfhlaaGreatArb
namespace Go.Proofs.YticojpmhlhfhlaaGreat
open Go.Ab
set_option linter.unusedSimpArgs false
theorem mean_bd (l:List GGiven) (h0:l≠[]) (M:Int) (hw:∀ g∈l,worth g≤M):0≤mean l∧mean l≤M:=by
 have hpos:0 < l.length:=List.length_pos_iff.2 h0
 have h1:=sumW_le l M hw
 have h2:=zlI l
 have h3:0≤(sumW l).tmod l.length:=Int.tmod_nonneg _ h2
 have h4:(sumW l).tmod l.length < l.length:=Int.tmod_lt_of_pos _ (by omega)
 have h5:0≤(sumW l).tdiv l.length:=Int.tdiv_nonneg h2 (by omega)
 have h6:=Int.mul_tdiv_add_tmod (sumW l) l.length
 unfold mean
 split
 · refine ⟨by omega,?_⟩
   by_cases hq:M≤(sumW l).tdiv l.length
   · have:=Int.mul_le_mul_of_nonneg_left hq (show (0:Int)≤(l.length:Int) by omega)
     omega
   · omega
 · refine ⟨h5,?_⟩
   by_cases hq:M+1≤(sumW l).tdiv l.length
   · have:=Int.mul_le_mul_of_nonneg_left hq (show (0:Int)≤(l.length:Int) by omega)
     rw [Int.mul_add] at this
     omega
   · omega
end Go.Proofs.YticojpmhlhfhlaaGreat
namespace Go.Proofs.YticojpmhlhfhlaaGreat
open Go.Ab
set_option linter.unusedSimpArgs false
theorem zzv (r:GMarkRule):cw zoN [.agg (zaU r)] []=some (ztk (chkR r)):=by
 refine zHK r ?_
 unfold chkR
 simp only [zb1,decide_eq_true_eq]
 split
 · rfl
 · split <;> rfl
theorem cmp_less (a b:GStamp):decide (0≤cmpS a b)=!lessS a b:=by
 unfold cmpS lessS
 simp only [zsa,cmpI]
 by_cases h1:a.Time=b.Time
 · by_cases h2:a.Source=b.Source
   · by_cases h3:a.Seq < b.Seq
     · simp [h1,h2,h3]
     · by_cases h4:b.Seq < a.Seq
       · simp [h1,h2,h3,h4]
       · simp [h1,h2,h3,h4]
   · by_cases h3:a.Source < b.Source
     · simp [h1,h2,h3]
     · have h4:b.Source < a.Source:=by omega
       simp [h1,h2,h3,h4]
 · by_cases h3:a.Time < b.Time
   · simp [h1,h3]
   · have h4:b.Time < a.Time:=by omega
     simp [h1,h3,h4]
theorem mean_ref (l:List GGiven) (h0:l≠[]):(2*sumW l+l.length).tdiv (2*l.length)=mean l:=by
 have hpos:0 < l.length:=List.length_pos_iff.2 h0
 have h2:=zlI l
 have h3:0≤(sumW l).tmod l.length:=Int.tmod_nonneg _ h2
 have h4:(sumW l).tmod l.length < l.length:=Int.tmod_lt_of_pos _ (by omega)
 have h6:=Int.mul_tdiv_add_tmod (sumW l) l.length
 generalize hn:(l.length:Int)=n at *
 generalize hq:(sumW l).tdiv n=q at *
 generalize hr:(sumW l).tmod n=t at *
 have key:∀ e:Int,0≤e→e < 2*n→2*sumW l+n=2*n*(q+(if n≤2*t then 1 else 0))+e→(2*sumW l+n).tdiv (2*n)=q+(if n≤2*t then 1 else 0):=by
  intro e he0 he1 he
  rw [Int.tdiv_eq_ediv_of_nonneg (by omega),he,Int.mul_add_ediv_left _ _ (by omega),Int.ediv_eq_zero_of_lt he0 he1,Int.add_zero]
 have hm:mean l=q+(if n≤2*t then 1 else 0):=by
  unfold mean
  rw [hn,hq,hr]
  split <;> omega
 rw [hm]
 split at key
 · rename_i hc
   rw [if_pos hc]
   refine key (2*t - n) (by omega) (by omega) ?_
   rw [Int.mul_add,Int.mul_assoc,← h6]
   omega
 · rename_i hc
   rw [if_neg hc]
   refine key (2*t+n) (by omega) (by omega) ?_
   rw [Int.add_zero,Int.mul_assoc,← h6]
   omega
theorem mean_one (g:GGiven):mean [g]=worth g:=by
 have h:=zge g
 have h1:sumW [g]=worth g:=by rw [zs8]; simp [sumW]
 unfold mean
 rw [h1]
 simp only [List.length_cons,List.length_nil]
 have h2:(worth g).tmod (((0+1:Nat):Nat):Int)=0:=by simp
 have h3:(worth g).tdiv (((0+1:Nat):Nat):Int)=worth g:=by simp
 rw [h2,h3]
 simp
theorem zFS (r:GMarkRule) (l:List GGiven) (hl:l.length≤100000) (hv:∀ g∈l,g.Value≤1099511627776) :
  cw zr3 [.agg (zaU r),.sl 8 (List.map zao l)] []=some (zeL (zfi r l)):=by
 have hw:∀ g∈l,worth g≤1099511627776:=fun g hg=>by have:=hv g hg; unfold worth; split <;> omega
 have hs:sumW l≤109951162777600000:=by
  have h1:=sumW_le l _ hw
  have h2:(l.length:Int)*1099511627776≤100000*1099511627776:=Int.mul_le_mul_of_nonneg_right (by omega) (by omega)
  omega
 have hs0:=zlI l
 refine zFR r l ?_
 have second:(zkL l).2=false→∀ g,l[0]?=some g→(l.length=1→r.Double=false)→zfF r l 0 (worth g) 0 0=some (zeL (zfi r l)):=by
  intro hd g hg h1
  have hlpos:0 < l.length:=(List.getElem?_eq_some_iff.1 hg).1
  have hne:l≠[]:=List.length_pos_iff.1 hlpos
  have hgm:=List.mem_of_getElem? hg
  have hmean:=mean_ref l hne
  have hmb:=mean_bd l hne _ hw
  have q1:=minW_bd l (worth g) (zge g)
  have q2:=maxW_bd l _ hw 0 (by omega)
  have hdv:zfi r l=if l.length=1 then ⟨3,mean l⟩ else if r.Tolerance < maxW l 0 - minW l (worth g) then ⟨2,0⟩ else ⟨3,mean l⟩:=by
   unfold zfi
   rw [if_neg (by simp [hd])]
   match l,hg,h1 with
   | [],hg,_=>simp at hg
   | [x],hg,h1 =>
     dsimp only
     rw [if_neg (by simp [h1 rfl]),mean_one]
     simp
   | x :: y :: t,hg,_ =>
     simp only [List.getElem?_cons_zero,Option.some.injEq] at hg
     subst hg
     have hm:maxW (x :: y :: t) 0=maxW (x :: y :: t) (worth x):=by
      have:=zge x
      simp only [maxW,List.foldl_cons]
      congr 1
      split <;> split <;> omega
     rw [hm]
     simp
  refine zaZ l (fun i s=>∀ (q a b:Int),0≤q→q+sumW s=sumW l→minW s a=minW l (worth g)→maxW s b=maxW l 0→zfF r l q a b i=some (zeL (zfi r l))) ?_ ?_ 0 (worth g) 0 (by omega) (by simp) rfl rfl
  · intro q a b hq hqs ha hb
    have hqs':q=sumW l:=by simpa [sumW] using hqs
    have ha':a=minW l (worth g):=ha
    have hb':b=maxW l 0:=hb
    have hwg:=hw g hgm
    refine zvi _ _ _ _ _ _ ?_
    simp (disch:=omega) only [List.length_map,zaq,w64_id,hqs',hmean,zac,ha',hb']
    rw [hdv]
    by_cases h2:l.length=1
    · simp (disch:=omega) only [zaq,if_pos h2]
      rfl
    · rw [if_neg h2]
      simp (disch:=omega) only [zak]
      simp only [zb1,decide_eq_true_eq]
      split <;> rfl
  · intro i hi s _ ih q a b hq hqs ha hb
    have hwi:=hw _ (List.getElem_mem hi)
    have hwi0:=zge l[i]
    have hss:=zlI s
    rw [zs8] at hqs
    have hwo:(if 0 > l[i].Value then 0 else l[i].Value)=worth l[i]:=by unfold worth; rfl
    refine zvi _ _ _ _ _ _ ?_
    simp (disch:=omega) only [List.length_map,zak,zac,Int.toNat_natCast,zbP,List.getElem?_eq_getElem hi,Option.bind_some,hwo,w64_id]
    exact ih _ _ _ (by omega) (by omega) ha hb
 have first:=zaZ l (fun i s=>∀ (b:GGiven×Bool) (k:Int),s.foldl stepD b=zkL l→(b.2=false→k=-1)→(b.2=true→0≤k∧l[k.toNat]?=some b.1)→zch r l k i=some (zeL (zfi r l))) ?_ ?_ (⟨0,0,0,0,0,⟨0,0,0⟩⟩,false) (-1) rfl (by simp) (by simp)
 · exact first
 · intro b k hb hk0 hk1
   have hb':b=zkL l:=hb
   subst hb'
   refine zu3 _ _ _ _ ?_
   cases hd:(zkL l).2 with
   | true =>
     obtain ⟨h0,hkl⟩:=hk1 hd
     simp (disch:=omega) only [List.length_map,zaq,zak,zac,zbP,hkl,Option.bind_some]
     rw [show zfi r l=⟨3,worth (zkL l).1⟩ by unfold zfi; rw [if_pos hd]]
     rfl
   | false =>
     have hk:=hk0 hd
     subst hk
     simp (disch:=omega) only [List.length_map,zaq]
     by_cases hz:l.length=0
     · have:l=[]:=List.eq_nil_of_length_eq_zero hz
       subst this
       rfl
     · have hlt:0 < l.length:=by omega
       have hz':((l.length:Int) == 0)=false:=by simp only [beq_eq_false_iff_ne,ne_eq]; omega
       have hwo:(if (0:Int) > (l[0]'hlt).Value then (0:Int) else (l[0]'hlt).Value)=worth (l[0]'hlt):=by unfold worth; rfl
       simp (disch:=omega) only [hz',zai,zac,zbP,show l[Int.toNat 0]?=some l[0] from List.getElem?_eq_getElem hlt,Option.bind_some,hwo]
       by_cases h1:l.length=1
       · simp only [show ((l.length:Int) == 1)=true by simp [h1],zap]
         cases hdb:r.Double with
         | true =>
           simp only [zap]
           match l,h1 with
           | [x],_ =>
             unfold zfi
             rw [if_neg (by simp [hd])]
             dsimp only
             rw [if_pos hdb]
             rfl
         | false =>
           simp only [zai]
           exact second hd _ (List.getElem?_eq_getElem hlt) (fun _=>hdb)
       · simp only [show ((l.length:Int) == 1)=false by simp only [beq_eq_false_iff_ne,ne_eq]; omega,zai]
         exact second hd _ (List.getElem?_eq_getElem hlt) (fun h=>absurd h h1)
 · intro i hi s _ ih b k hb hk0 hk1
   rw [List.foldl_cons] at hb
   have keep:stepD b l[i]=b→zch r l k ((i:Int)+1)=some (zeL (zfi r l)):=fun h=>ih b k (by rw [h] at hb; exact hb) hk0 hk1
   have take:stepD b l[i]=(l[i],true)→zch r l i ((i:Int)+1)=some (zeL (zfi r l)):=fun h=>ih (l[i],true) i (by rw [h] at hb; exact hb) (by simp) (fun _=>⟨by omega,by simp [hi]⟩)
   refine zu3 _ _ _ _ ?_
   simp (disch:=omega) only [List.length_map,zak,zac,Int.toNat_natCast,zbP,List.getElem?_eq_getElem hi,Option.bind_some,w64_id]
   by_cases h2:2≤l[i].Level
   · simp (disch:=omega) only [zak]
     cases hb2:b.2 with
     | false =>
       have hk:=hk0 hb2
       simp (disch:=omega) only [zak]
       exact take (by unfold stepD; rw [if_neg (by omega),if_pos (Or.inl hb2)])
     | true =>
       obtain ⟨h0,hkl⟩:=hk1 hb2
       simp (disch:=omega) only [zaq,zac,zbP,hkl,Option.bind_some,List.getElem?_eq_getElem hi]
       by_cases h3:b.1.Level < l[i].Level
       · simp (disch:=omega) only [zak]
         exact take (by unfold stepD; rw [if_neg (by omega),if_pos (Or.inr (Or.inl h3))])
       · simp (disch:=omega) only [zaq]
         by_cases h4:l[i].Level=b.1.Level
         · simp only [show (l[i].Level == b.1.Level)=true by simpa using h4,zap,zq2,zle]
           have hc:=cmp_less l[i].Stamp b.1.Stamp
           cases hls:lessS l[i].Stamp b.1.Stamp with
           | false =>
             simp only [Bool.not_false,zap]
             rw [hls] at hc
             exact take (by unfold stepD; rw [if_neg (by omega),if_pos (Or.inr (Or.inr ⟨h4,by simpa using hc⟩))])
           | true =>
             simp only [Bool.not_true,zai]
             rw [hls] at hc
             have hc':¬ 0≤cmpS l[i].Stamp b.1.Stamp:=by simpa using hc
             exact keep (by unfold stepD; rw [if_neg (by omega),if_neg (by rintro (h | h | h); · simp [hb2] at h
                                                                           · exact h3 h
                                                                           · exact hc' h.2)])
         · simp only [show (l[i].Level == b.1.Level)=false by simpa using h4,zai]
           exact keep (by unfold stepD; rw [if_neg (by omega),if_neg (by rintro (h | h | h); · simp [hb2] at h
                                                                         · exact h3 h
                                                                         · exact h4 h.1)])
   · simp (disch:=omega) only [zaq]
     exact keep (by unfold stepD; rw [if_pos (by omega)])
end Go.Proofs.YticojpmhlhfhlaaGreat
namespace Go.Proofs.YticojpmhlhfhlaaGreat
open Go.Ab
set_option linter.unusedSimpArgs false
theorem zEa (m:GMarking) (n p:Int) (hl:m.Given.length≤1000000):cw zpI [.agg (zbk m),I n,I p] []=some (zkY (countG m n p)):=by
 refine zDI m n p ?_
 refine zaZ m.Given (fun i r=>∀ out:List GGiven,(out.length:Int)≤i→zeB m n p (List.map zao out) i=some (zkY (out++r.filter fun g=>g.Script == n && g.Part == p))) ?_ ?_ [] (by simp)
 · intro out _
   refine zs5 _ _ _ _ _ ?_
   simp (disch:=omega) only [List.length_map,zaq,zaC,List.filter_nil,List.append_nil]
   rfl
 · intro i hi r _ ih out ho
   refine zs5 _ _ _ _ _ ?_
   simp (disch:=omega) only [List.length_map,zak,zac,Int.toNat_natCast,zbP,List.getElem?_eq_getElem hi,Option.bind_some,zaC,zbu zao,w64_id,List.filter_cons]
   cases m.Given[i].Script == n with
   | false =>
     simp only [zai,Bool.false_and,Bool.false_eq_true,if_false]
     exact ih out (by omega)
   | true =>
     simp only [zap,Bool.true_and]
     cases m.Given[i].Part == p with
     | false =>
       simp only [zai,Bool.false_eq_true,if_false]
       exact ih out (by omega)
     | true =>
       simp only [zap,if_true]
       have:=ih (out++[m.Given[i]]) (by simp; omega)
       rw [List.append_assoc,List.singleton_append] at this
       exact this
noncomputable def verdR (r:GMarkRule) (s:GSetup) (m:GMarking) (n:Int):List GVerdict×Int:=if chkR r=0 then match zd0 s.Scripts n with | some x=>(verdS r s m x,0) | none=>([],4) else ([],1)
theorem zDY (r:GMarkRule) (s:GSetup) (hs:OkSetup s) (m:GMarking) (hg:m.Given.length≤100000) (hm:SmallM m) (n:Int) :
  cw zpD [.agg (zaU r),.agg (zat s),.agg (zbk m),I n] []=some (zhB (verdR r s m n)):=by
 have hx60:=hs.scripts.1
 have hp32:=hs.papers
 have hsd:=hs.seeds
 refine zEi r s m n ?_
 unfold verdR
 simp only [ztC hs,znU,bne_self_eq_false,zai,zzv,ztZ]
 by_cases hr:chkR r=0
 case neg =>
  rw [if_neg hr]
  simp only [show (chkR r != 0)=true by simpa using hr,zap]
  rfl
 rw [if_pos hr]
 simp (disch:=omega) only [hr,bne_self_eq_false,zai,zsc s.Scripts n (show s.Scripts.length≤1000000 by omega),zm8]
 cases hso:zd0 s.Scripts n with
 | none =>
   simp only [scR,Bool.not_false,zap]
   rfl
 | some x =>
   obtain ⟨hx,hxn⟩:=zwV hso
   subst hxn
   obtain ⟨k,p,c,hk,hc,ha⟩:=hs.script x hx
   have hpk:=(ziI hk).1
   have hok:=hs.schemes k p c hpk hc
   have hparts:=hok.1.2.2.1
   have hwl:=hok.2.2.1
   have hpo:zgy s x.Number=some (k,p):=by unfold zgy; rw [hso]; exact hk
   obtain ⟨rc,erc,hrc,hrc2⟩:=zw8 p c x.Answers (hs.short c (List.mem_of_getElem? hc))
   have hz:=hrc.2 ⟨hok,ha⟩
   have hcl:=hrc2 hz
   obtain ⟨rc1,rc2⟩:=rc
   simp only at hz hcl
   subst hz
   subst hcl
   have hvS:verdS r s m x=verdL r m x p c (seedOf s.Seeds x.Number):=by
    unfold verdS
    rw [hk]
    dsimp only
    rw [hc]
    rfl
   dsimp only
   rw [hvS]
   simp (disch:=omega) only [scR,Bool.not_true,zai,zms s x.Number (show s.Scripts.length≤1000000 by omega) (show s.Papers.length≤1000000 by omega),hpo,ixR,zrM,zac,Int.toNat_natCast,zdN,hpk,Option.bind_some,zo4,hc,erc,zAt,
    zgf s.Seeds x.Number (show s.Seeds.length≤1000000 by omega) (zuj hs),zee,Option.getD_some]
   have loop:=zaZ p.Parts (fun i _=>zez r s m x.Number ((k:Int),true) (zdC p c x.Answers,0) (seedR (seedOf s.Seeds x.Number)) (List.map zaM ((List.range i.toNat).map (verdAt r m x p c (seedOf s.Seeds x.Number)))) i=some (zhB (verdL r m x p c (seedOf s.Seeds x.Number),0))) ?_ ?_
   · exact loop
   · refine zsI _ _ _ _ _ _ _ _ _ ?_
     simp (disch:=omega) only [zac,Int.toNat_natCast,zdN,hpk,Option.bind_some,List.length_map,List.length_range,zaq,Nat.zero_add,Nat.le_refl,zaC]
     rw [List.take_of_length_le (by simp)]
     rfl
   · intro i hi _ _ ih
     have hiw:i < c.Withdrawn.length:=by omega
     have hix:((i:Int)+1).toNat=i+1:=by omega
     rw [hix,List.range_succ,List.map_append,List.map_cons,List.map_nil,← zbu zaM] at ih
     have hcl:i < (zdC p c x.Answers).length:=by simp [zdC]; omega
     have hcv:(zdC p c x.Answers)[i]=zcN p c x.Answers i:=by simp [zdC]
     have hkd:=kind2 (hok.1.2.2.2.1 _ (List.getElem_mem hi))
     have hva:verdAt r m x p c (seedOf s.Seeds x.Number) i=if p.Parts[i].Kind=2∨c.Withdrawn[i]≠0 then ⟨3,if 0 > zcN p c x.Answers i then 0 else zcN p c x.Answers i⟩ else match seedOf s.Seeds x.Number with
        | some (_,sd)=>⟨3,sd.Marks.getD i 0⟩
        | none=>zfi r (countG m x.Number i):=by
       unfold verdAt
       rw [List.getElem?_eq_getElem hi,List.getElem?_eq_getElem hiw]
       rfl
     have hlr:(List.map (verdAt r m x p c (seedOf s.Seeds x.Number)) (List.range i)).length=i:=by simp
     have m1015:(p.Parts[i].Kind=2∨c.Withdrawn[i]≠0)→zgv r s m x.Number ((k:Int),true) (zdC p c x.Answers,0) (seedR (seedOf s.Seeds x.Number)) (List.map zaM ((List.range i).map (verdAt r m x p c (seedOf s.Seeds x.Number)))) i=some (zhB (verdL r m x p c (seedOf s.Seeds x.Number),0)):=by
      intro hor
      refine zxB _ _ _ _ _ _ _ _ _ ?_
      simp (disch:=omega) only [List.length_map,hlr,Int.toNat_natCast,zac,zaC,zbi,List.getElem?_eq_getElem hcl,Option.bind_some,hcv,w64_id]
      rw [hva,if_pos hor] at ih
      exact ih
     refine zsI _ _ _ _ _ _ _ _ _ ?_
     simp (disch:=omega) only [zac,Int.toNat_natCast,zdN,hpk,Option.bind_some,List.length_map,zak,zvr,zpx,zo4,hc,zbi,List.getElem?_eq_getElem hiw]
     by_cases h1:p.Parts[i].Kind=2
     · rw [zaz (show ¬ OpenP p (i:Int) by rintro ⟨_,y,h2,h3⟩; rw [Int.toNat_natCast,List.getElem?_eq_getElem hi] at h2; cases h2; omega)]
       simp only [Bool.not_false,zap]
       exact m1015 (Or.inl h1)
     · rw [zax (show OpenP p (i:Int) from ⟨by omega,_,by rw [Int.toNat_natCast]; exact List.getElem?_eq_getElem hi,by omega⟩)]
       simp only [Bool.not_true,zai]
       by_cases h2:c.Withdrawn[i]=0
       · simp only [show (c.Withdrawn[i] != 0)=false by simpa using h2,zai]
         rw [if_neg (by rintro (h | h) <;> contradiction)] at hva
         cases ho:seedOf s.Seeds x.Number with
         | some q =>
           obtain ⟨q,sd⟩:=q
           obtain ⟨k',p',hpo',hmk⟩:=zuo hs ho
           rw [hpo] at hpo'
           cases hpo'
           have him:i < sd.Marks.length:=by have:=hmk.1; omega
           rw [ho] at hva ih
           have hgd:sd.Marks.getD i 0=sd.Marks[i]:=by simp [him]
           dsimp only at hva
           rw [hva,hgd] at ih
           simp (disch:=omega) only [seedR,zap,zbi,List.getElem?_eq_getElem him,Option.bind_some,List.length_map,List.length_range,zac,zaC,w64_id]
           simp only [seedR] at ih
           exact ih
         | none =>
           rw [ho] at hva ih
           dsimp only at hva
           rw [hva] at ih
           have hct:=hm.count x.Number i
           have hcl2:(countG m x.Number i).length≤100000:=Nat.le_trans (List.length_filter_le _ _) hg
           simp (disch:=omega) only [seedR,zai,zEa m x.Number i hm.1,zyw,List.length_map,Nat.zero_add,Nat.le_refl,zaC]
           rw [List.take_of_length_le (by simp)]
           simp (disch:=omega) only [zFS r _ hcl2 hct.2,zBj,List.length_map,List.length_range,zac,zaC,w64_id]
           simp only [seedR] at ih
           exact ih
       · simp only [show (c.Withdrawn[i] != 0)=true by simpa using h2,zap]
         exact m1015 (Or.inr h2)
end Go.Proofs.YticojpmhlhfhlaaGreat
