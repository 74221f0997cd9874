/- The whole state behind one operation; regions in the order of the text. -/
import Derived.Test.YtbhkcgaanaelfaaGreatAbGood
namespace Go.Ab
open Go.RowKit
def frzO (bs:List Nat) (L:Nat→Option Ent) (a:AV):AV:=match bs with
 | []=>a
 | bs=>zcI bs L 4 a
def killO (b:Option Nat) (a:AV):AV:=match b with
 | some b=>a.kill b 4
 | none=>a
def frzLO (bs:List Nat) (L:Nat→Option Ent):Nat→Option Ent:=match bs with
 | []=>L
 | bs=>frzL bs L
def killLO (b:Option Nat) (L:Nat→Option Ent):Nat→Option Ent:=match b with
 | some b=>killL b L
 | none=>L
def applyT (dst:Option Nat) (r:Res) (T:Nat→AV) (L:Nat→Option Ent):Nat→AV:=fun k=>if dst=some k then r.val else killO r.kill (frzO r.frz L (T k))
def applyL (r:Res) (L:Nat→Option Ent):Nat→Option Ent:=fun c=>match look r.set c with
 | some e=>some e
 | none=>killLO r.kill (frzLO r.frz L) c
theorem zn2 (p:Nat×Ent):∀ (m:Mem) (c:Nat),(look m p.1).isSome=true→look (repM p m) c=if c=p.1 then some p.2 else look m c
 | [],c,h=>by simp [look] at h
 | (j,e) :: r,c,h=>by
   simp only [repM]
   split
   · rename_i hj
     simp only [look]
     by_cases hc:c=p.1
     · rw [if_pos hc,if_pos hc]
     · rw [if_neg hc,if_neg hc,if_neg (by rw [← hj]; exact hc)]
   · rename_i hj
     simp only [look] at h ⊢
     rw [if_neg hj] at h
     by_cases hc:c=j
     · rw [if_pos hc,if_pos hc,if_neg (by rw [hc]; exact fun e=>hj e.symm)]
     · rw [if_neg hc,if_neg hc]
       exact zn2 p r c h
theorem look_setM (p:Nat×Ent) (m:Mem) (c:Nat):look (setM p m) c=if c=p.1 then some p.2 else look m c:=by
 unfold setM
 split
 · rename_i e he
   exact zn2 p m c (by rw [he]; rfl)
 · rfl
theorem zsr:∀ (l:List (Nat×Ent)) (m:Mem) (c:Nat),look (setAll l m) c=match look l c with | some e=>some e | none=>look m c
 | [],m,c=>rfl
 | (j,e) :: r,m,c=>by
   simp only [setAll,look_setM,look]
   split
   · rfl
   · exact zsr r m c
theorem get_apply (dst:Option Nat) (r:Res) (st:St) (k:Nat):get (applyR dst r st).t k=applyT dst r (get st.t) (look st.m) k:=by
 have h1:∀ j,get (zdb r.frz st).t j=frzO r.frz (look st.m) (get st.t j):=by
  intro j
  unfold zdb frzO
  cases r.frz with
  | nil=>rfl
  | cons b bs=>exact zoc _ _ _ _
 simp only [applyR,applyT]
 have h2:∀ j,get (match r.kill with | some b=>del b (zdb r.frz st) | none=>zdb r.frz st).t j=killO r.kill (frzO r.frz (look st.m) (get st.t j)):=by
  intro j
  cases r.kill with
  | none=>exact h1 j
  | some b=>simp only [del,killO]; rw [zma,h1]
 cases dst with
 | none =>
   rw [if_neg (by simp)]
   exact h2 k
 | some d =>
   simp only [putO,get]
   by_cases hk:k=d
   · subst hk; simp
   · have:¬ (some d=some k):=fun e=>hk (by injection e with e; exact e.symm)
     rw [if_neg hk,if_neg this]
     exact h2 k
theorem look_apply (dst:Option Nat) (r:Res) (st:St) (c:Nat):look (applyR dst r st).m c=applyL r (look st.m) c:=by
 have h1:∀ j,look (zdb r.frz st).m j=frzLO r.frz (look st.m) j:=by
  intro j
  unfold zdb frzLO
  cases r.frz with
  | nil=>rfl
  | cons b bs=>simp only [frzL]; exact znF _ _ _ _
 simp only [applyR,applyL]
 rw [zsr]
 split
 · rfl
 · cases r.kill with
   | none=>exact h1 c
   | some b =>
     simp only [del,killLO]
     rw [zjr]
     have:look (zdb r.frz st).m=frzLO r.frz (look st.m):=funext h1
     rw [this]
theorem zsX:∀ {m:List (Nat×Ent)} {b:Nat},(look m b).isSome=true↔b∈ids m:=by
 intro m b
 constructor
 · intro h
   obtain ⟨e,he⟩:=Option.isSome_iff_exists.1 h
   exact List.mem_map.2 ⟨_,zpM he,rfl⟩
 · exact zlW
section
variable {w0:World} {S0:Nat→Prop} {κ0:Kap} {K:Nat→Prop} {N:Nat} {S:Nat→Prop} {κ:Kap} {T:Nat→AV} {L:Nat→Option Ent} {a:Act} {w:World}
theorem tmps_put (a:Act) (dst:Option Nat) (y:Value) (hd:dstOk a.tmps.size dst=true) (k:Nat):(a.put dst y).tmps.getD k undef=if dst=some k then y else a.tmps.getD k undef:=by
 cases dst with
 | none=>simp [Act.put]
 | some d =>
   simp [dstOk] at hd
   by_cases hk:d=k
   · subst hk; simp [Act.put,hd]
   · have:¬ (some d=some k):=fun e=>hk (by injection e)
     rw [if_neg this]
     simp [Act.put,Array.getElem?_setIfInBounds_ne hk]
theorem Good.apply {o:Oper} {r:Res} {y:Value} {w':World} {S':Nat→Prop} {κ':Kap} (h:Good w0 S0 κ0 K N S κ T L a w) (hN:N≤1000) (hdst:dstOk N o.dst=true)
  (he:EffAt S κ (fun b=>(L b).isSome=true) w S' κ' r y w') (hdis:Dis (fun b=>(L b).isSome=true) r) (hsh:Shape o L r) :
  Good w0 S0 κ0 K N S' κ' (applyT o.dst r T L) (applyL r L) (a.put o.dst y) w':=by
 let S1:Nat→Prop:=fun g=>S g∨∃ b c,b∈r.frz∧(L b).isSome=true∧κ b=some (g,c)
 have hblockLt:∀ b g c,(L b).isSome=true→κ b=some (g,c)→g < w.heap.size∧¬ S g:=by
  intro b g c hb hk
  obtain ⟨ent,hent⟩:=Option.isSome_iff_exists.1 hb
  have:=h.ents b ent hent
  rw [hk] at this
  exact ⟨this.lt,this.notS⟩
 have hset:∀ b,b∈ids r.set→¬ (L b).isSome=true→b < 1000:=by
  intro b hb hn
  rcases hsh.set b hb with h1 | h1
  · exact absurd h1 hn
  · rw [h1] at hdst
    simp [dstOk] at hdst
    omega
 have hDiff:∀ b,(applyL r L b).isSome=true↔D1 (fun b=>(L b).isSome=true) r b:=by
  intro b
  have hl:(look r.set b).isSome=true↔b∈ids r.set:=zsX
  have hk:(killLO r.kill (frzLO r.frz L) b).isSome=true↔((L b).isSome=true∧r.kill≠some b∧b ∉ r.frz):=by
   have h1:(frzLO r.frz L b).isSome=true↔(L b).isSome=true∧b ∉ r.frz:=by
    unfold frzLO
    cases hf:r.frz with
    | nil=>simp
    | cons c cs =>
      simp only [frzL]
      by_cases hm:(c :: cs).contains b=true
      · have:b∈c :: cs:=by simpa using hm
        simp [this]
      · have:b ∉ c :: cs:=by simpa using hm
        simp only [hm,Bool.false_eq_true,if_false,Option.isSome_map,this,not_false_eq_true,and_true]
   unfold killLO
   cases hq:r.kill with
   | none=>simp [h1]
   | some c =>
     simp only [killL]
     by_cases hbc:b=c
     · subst hbc; simp
     · have:c≠b:=fun e=>hbc e.symm
       simp [hbc,h1,this]
  unfold applyL D1
  cases hq:look r.set b with
  | some e =>
    have:b∈ids r.set:=hl.1 (by simp [hq])
    simp [this]
  | none =>
    have:b ∉ ids r.set:=fun hm=>by have:=hl.2 hm; rw [hq] at this; cases this
    simp only [this,or_false]
    exact hk
 have hS1w:∀ g,S1 g→w'.heap[g]?=w.heap[g]?:=by
  intro g hg
  rcases hg with hg | ⟨b,c,hb,hd,hk⟩
  · exact he.blk g (h.slt g hg) (fun b c _ hd hk=>(hblockLt b g c hd hk).2 hg)
  · refine he.blk g (hblockLt b g c hd hk).1 (fun b' c' hb' hd' hk'=>?_)
    have:b'=b:=h.inj b' b g c' c hd' hd hk' hk
    subst this
    obtain ⟨_,h2,h3⟩:=hdis b' hb
    rcases hb' with hm | hm
    · exact h2 hm
    · exact h3 hm
 have hS1':∀ g,S1 g→S' g:=by
  intro g hg
  rcases hg with hg | ⟨b,c,hb,_,hk⟩
  · exact he.sup g hg
  · exact he.sfrz b hb g c hk
 have hDold:∀ b,(L b).isSome=true→r.kill≠some b→b ∉ r.frz→(applyL r L b).isSome=true:=fun b h1 h2 h3=>(hDiff b).2 (.inl ⟨h1,h2,h3⟩)
 have hval:∀ (av:AV) (x:Value),VRel S κ (fun b=>(L b).isSome=true) w av x→VRel S' κ' (fun b=>(applyL r L b).isSome=true) w' (killO r.kill (frzO r.frz L av)) x:=by
  intro av x hv
  have h1:VRel S1 κ (fun b=>(L b).isSome=true∧b ∉ r.frz) w (frzO r.frz L av) x:=by
   cases hf:r.frz with
   | nil=>exact hv.mono (fun _ h=>.inl h) (fun _ _=>rfl) (fun b hb=>⟨hb,by simp⟩) (fun _ _=>rfl)
   | cons q qs =>
     refine zxf (bs:=q :: qs) h.ents (fun _ h=>.inl h) (fun b hb hd g c hk=>.inr ⟨b,c,by rw [hf]; exact hb,hd,hk⟩) (fun c hc hn=>⟨hc,?_⟩) 4 hv
     intro hm
     have:(q :: qs).contains c=true:=by simpa using hm
     rw [this] at hn
     cases hn
  have h2:VRel S1 κ (fun b=>(L b).isSome=true∧r.kill≠some b∧b ∉ r.frz) w (killO r.kill (frzO r.frz L av)) x:=by
   cases hk:r.kill with
   | some b=>exact zpD (fun c hc hne=>⟨hc.1,fun e=>hne (by injection e with e; exact e.symm),hc.2⟩) 4 h1
   | none=>exact h1.mono (fun _ h=>h) (fun _ _=>rfl) (fun b hb=>⟨hb.1,by simp,hb.2⟩) (fun _ _=>rfl)
  exact h2.mono hS1' hS1w (fun b hb=>hDold b hb.1 hb.2.1 hb.2.2) (fun b hb=>he.kold b hb.1)
 have hcases:∀ b,(applyL r L b).isSome=true→((L b).isSome=true∧κ' b=κ b)∨(¬ (L b).isSome=true∧b∈ids r.set):=by
  intro b hb
  by_cases hl:(L b).isSome=true
  · exact .inl ⟨hl,he.kold b hl⟩
  · rcases (hDiff b).1 hb with h1 | h1
    · exact absurd h1.1 hl
    · exact .inr ⟨hl,h1⟩
 exact {
  defers:=by cases o.dst <;> exact h.defers
  size:=by
   have:=h.size
   cases hd:o.dst <;> simp [Act.put,this]
  os:=he.os.trans h.os
  tape:=he.tape.trans h.tape
  output:=he.output.trans h.output
  grow:=Nat.le_trans h.grow he.size
  old:=fun g hg hK=>by
   rw [he.blk g (Nat.lt_of_lt_of_le hg h.grow) ?_]
   · exact h.old g hg hK
   · intro b c hb hd hk
     by_cases hb1:b < 1000
     · rcases h.own b g c hb1 hd hk with q | ⟨b',c',_,q2,q3⟩
       · omega
       · exact hK b' c' q2 q3
     · have h1:=h.par b (by omega)
       exact hK b c (h.parK b (by omega) hd) (by rw [← h1]; exact hk)
  sup:=fun g hg=>he.sup g (h.sup g hg)
  snew:=fun g hg=>by
   rcases he.snew g hg with h1 | h1 | ⟨b,c,hb,hd,hk⟩
   · exact h.snew g h1
   · exact .inr (.inl (Nat.le_trans h.grow h1))
   · exact .inr (h.own b g c (hb.elim (hsh.frz b) (fun q=>(hsh.kill b q).2)) hd hk)
  slt:=he.slt
  par:=fun b hb=>by
   rw [← h.par b hb]
   by_cases hm:b∈ids r.set
   · by_cases hd:(L b).isSome=true
     · exact he.kold b hd
     · have:=hset b hm hd
       omega
   · exact he.kout b hm
  parK:=fun b hb hs=>by
   rcases hcases b hs with ⟨h1,_⟩ | ⟨h1,h2⟩
   · exact h.parK b hb h1
   · have:=hset b h2 h1
     omega
  own:=fun b g c hb hs hk=>by
   rcases hcases b hs with ⟨h1,h2⟩ | ⟨h1,h2⟩
   · rw [h2] at hk
     exact h.own b g c hb h1 hk
   · rcases he.knew b h1 h2 g c hk with h3 | ⟨b0,c0,h3,h4,h5⟩
     · exact .inl (Nat.le_trans h.grow h3)
     · exact h.own b0 g c0 (hsh.kill b0 h3).2 h4 h5
  inj:=by
   have one:∀ b b' g c c',¬ (L b).isSome=true→b∈ids r.set→(L b').isSome=true→(applyL r L b').isSome=true→κ' b=some (g,c)→κ b'=some (g,c')→False:=by
    intro b b' g c c' h1 h2 h3 h3' h4 h5
    rcases he.knew b h1 h2 g c h4 with h6 | ⟨b0,c0,h6,h7,h8⟩
    · have:=(hblockLt b' g c' h3 h5).1
      omega
    · have:b'=b0:=h.inj b' b0 g c' c0 h3 h7 h5 h8
      subst this
      rcases (hDiff b').1 h3' with h9 | h9
      · exact h9.2.1 h6
      · exact (hsh.kill b' h6).1 h9
   intro b b' g c c' hs hs' hk hk'
   rcases hcases b hs with ⟨h1,h2⟩ | ⟨h1,h2⟩
   · rcases hcases b' hs' with ⟨h3,h4⟩ | ⟨h3,h4⟩
     · rw [h2] at hk
       rw [h4] at hk'
       exact h.inj b b' g c c' h1 h3 hk hk'
     · rw [h2] at hk
       exact (one b' b g c' c h3 h4 h1 hs hk' hk).elim
   · rcases hcases b' hs' with ⟨h3,h4⟩ | ⟨h3,h4⟩
     · rw [h4] at hk'
       exact (one b b' g c c' h1 h2 h3 hs' hk hk').elim
     · exact he.one b b' h1 h3 h2 h4
  ents:=fun b ent hb=>by
   have hDD:∀ b,D1 (fun b=>(L b).isSome=true) r b→(applyL r L b).isSome=true:=fun b=>(hDiff b).2
   simp only [applyL] at hb
   cases hq:look r.set b with
   | some e =>
     simp only [hq] at hb
     injection hb with hb
     subst hb
     have hE:=he.ents b e (zpM hq)
     refine hE.mono (fun _ h=>h) (fun _ _=>rfl) hDD (fun _ _=>rfl) (fun g c hk=>⟨rfl,?_⟩)
     rw [hk] at hE
     exact hE.notS
   | none =>
     simp only [hq] at hb
     have hnm:b ∉ ids r.set:=fun hm=>by have:=zlW hm; rw [hq] at this; cases this
     obtain ⟨e0,hl0,hkn,hfn,hent⟩:∃ e0,L b=some e0∧r.kill≠some b∧b ∉ r.frz∧ent=(if e0.box then { e0 with es:=e0.es.map fun cs=>cs.map fun a=>killO r.kill (frzO r.frz L a) } else e0):=by
      have hf1:∀ e1,frzLO r.frz L b=some e1→∃ e0,L b=some e0∧b ∉ r.frz∧e1=(if e0.box then { e0 with es:=e0.es.map fun cs=>cs.map fun a=>frzO r.frz L a } else e0):=by
       intro e1 h1
       unfold frzLO at h1
       cases hf:r.frz with
       | nil =>
         simp only [hf] at h1
         refine ⟨e1,h1,by simp,?_⟩
         have:(fun a=>frzO ([]:List Nat) L a)=id:=rfl
         simp [this]
       | cons c cs =>
         simp only [hf,frzL] at h1
         split at h1
         · cases h1
         · rename_i hm
           cases hl:L b with
           | none=>simp [hl] at h1
           | some e0 =>
             simp [hl] at h1
             exact ⟨e0,rfl,by simpa using hm,h1.symm⟩
      unfold killLO at hb
      cases hk:r.kill with
      | none =>
        simp only [hk] at hb
        obtain ⟨e0,h1,h2,h3⟩:=hf1 ent hb
        exact ⟨e0,h1,by simp,h2,h3⟩
      | some c =>
        simp only [hk,killL] at hb
        split at hb
        · cases hb
        · rename_i hne
          cases hfl:frzLO r.frz L b with
          | none=>simp [hfl] at hb
          | some e1 =>
            simp [hfl] at hb
            obtain ⟨e0,h1,h2,h3⟩:=hf1 e1 hfl
            refine ⟨e0,h1,fun e=>hne (by injection e with e; exact e.symm),h2,?_⟩
            rw [← hb,h3]
            unfold killE
            cases hbx:e0.box
            · simp [hbx]
            · simp [killO,Function.comp_def]
     subst hent
     have hlb:(L b).isSome=true:=by simp [hl0]
     have hE:=h.ents b e0 hl0
     rw [he.kold b hlb]
     have hun:∀ g c,κ b=some (g,c)→w'.heap[g]?=w.heap[g]?∧¬ S' g:=by
      intro g c hk
      refine ⟨he.blk g (hblockLt b g c hlb hk).1 (fun b' c' hb' hd' hk'=>?_),fun hs=>?_⟩
      · have:b'=b:=h.inj b' b g c' c hd' hlb hk' hk
        subst this
        rcases hb' with hm | hm
        · exact hnm hm
        · exact hkn hm
      · rcases he.snew g hs with h1 | h1 | ⟨b',c',hb',hd',hk'⟩
        · exact (hblockLt b g c hlb hk).2 h1
        · have:=(hblockLt b g c hlb hk).1
          omega
        · have:b'=b:=h.inj b' b g c' c hd' hlb hk' hk
          subst this
          exact hb'.elim hfn hkn
     cases hbx:e0.box with
     | false =>
       simp only [Bool.false_eq_true,if_false]
       refine ⟨fun hce=>?_,fun hce=>(hE.2 hce).mono (fun g hg=>he.sup g hg) (fun g hg=>hS1w g (.inl hg)) hun⟩
       obtain ⟨z1,z2⟩:=hE.1 hce
       refine ⟨z1,?_⟩
       cases hkb:κ b with
       | none=>rw [hkb] at z2; exact z2
       | some gc =>
         obtain ⟨g,c⟩:=gc
         rw [hkb] at z2
         obtain ⟨cells,q1,q2,q3,q4,q5,q6⟩:=z2
         obtain ⟨u1,u2⟩:=hun g c hkb
         refine ⟨cells,u1.trans q1,q2,q3,q4,u2,fun i j cs av hi hj=>?_⟩
         obtain ⟨u,v1,v2,_,v4⟩:=q6 i j cs av hi hj
         exact ⟨u,v1,v2,(fun hb'=>by rw [hbx] at hb'; cases hb'),fun hb'=>(v4 hb').mono (fun g hg=>he.sup g hg) (fun g hg=>hS1w g (.inl hg))⟩
     | true =>
       simp only [if_true]
       obtain ⟨z1,z2⟩:=hE.1 (.inl hbx)
       refine EntAt.of (.inl rfl) ⟨fun cs hcs=>?_,?_⟩
       · simp at hcs
         obtain ⟨cs',hcs',rfl⟩:=hcs
         simpa using z1 cs' hcs'
       · cases hkb:κ b with
         | none=>rw [hkb] at z2; rw [hbx] at z2; exact absurd z2.2 (by simp)
         | some gc =>
           obtain ⟨g,c⟩:=gc
           rw [hkb] at z2
           obtain ⟨cells,q1,q2,q3,q4,q5,q6⟩:=z2
           obtain ⟨u1,u2⟩:=hun g c hkb
           refine ⟨cells,u1.trans q1,q2,by simpa using q3,q4,u2,fun i j cs av hi hj=>?_⟩
           simp at hi
           obtain ⟨cs',hcs',rfl⟩:=hi
           simp at hj
           obtain ⟨a',ha',rfl⟩:=hj
           obtain ⟨u,v1,v2,v3,_⟩:=q6 i j cs' a' hcs' ha'
           exact ⟨u,v1,v2,fun _=>hval a' u (v3 hbx),fun hb'=>by cases hb'⟩
  slots:=fun k=>by
   rw [tmps_put a o.dst y (by rw [h.size]; exact hdst) k]
   simp only [applyT]
   split
   · exact he.val.mono (fun _ h=>h) (fun _ _=>rfl) (fun b=>(hDiff b).2) (fun _ _=>rfl)
   · exact hval _ _ (h.slots k) }
end
end Go.Ab
