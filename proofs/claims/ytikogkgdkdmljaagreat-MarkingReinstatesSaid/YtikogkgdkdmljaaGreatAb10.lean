/- Parts of a body, each from where it stands; blocks that a part does not know stay as they are. -/
import Derived.Test.YtikogkgdkdmljaaGreatAb9
import Derived.Maps.RangeRun
import Derived.Control
set_option linter.unusedSimpArgs false
set_option linter.unusedVariables false
noncomputable section
namespace Go.Ab
open Go.RowKit
section
variable {w0:World} {S0:Nat→Prop} {κ0:Kap} {K:Nat→Prop} {N:Nat} {S:Nat→Prop} {κ:Kap} {T:Nat→AV} {L:Nat→Option Ent} {a:Act} {w:World}
theorem Good.rebase (h:Good w0 S0 κ0 K N S κ T L a w):Good w S κ (fun b=>(L b).isSome=true) N S κ T L a w where
 defers:=h.defers
 size:=h.size
 os:=rfl
 tape:=rfl
 output:=.of
 grow:=zbR _
 old:=fun _ _ _=>rfl
 sup:=fun _ h=>h
 snew:=fun _ h=>.inl h
 slt:=h.slt
 par:=fun _ _=>rfl
 parK:=fun _ _ h=>h
 own:=fun b _ c hb hl hk=>.inr ⟨b,c,hb,hl,hk⟩
 inj:=h.inj
 ents:=h.ents
 slots:=h.slots
theorem Good.mine (h:Good w0 S0 κ0 K N S κ T L a w) {g:Nat} (hm:Mine w κ (fun b=>(L b).isSome=true) g):Mine w0 κ0 K g:=by
 rcases hm with hm | ⟨b,c,hb,hl,hk⟩
 · exact .inl (zdy h.grow hm)
 · exact h.own b g c hb hl hk
theorem Good.join {S':Nat→Prop} {κ':Kap} {T':Nat→AV} {L':Nat→Option Ent} {a':Act} {w':World} (h:Good w0 S0 κ0 K N S κ T L a w) (h2:Good w S κ (fun b=>(L b).isSome=true) N S' κ' T' L' a' w'):Good w0 S0 κ0 K N S' κ' T' L' a' w' where
 defers:=h2.defers
 size:=h2.size
 os:=h2.os.trans h.os
 tape:=h2.tape.trans h.tape
 output:=h.output.trans h2.output
 grow:=zdy h.grow h2.grow
 old:=fun g hg hK=>by
  rw [h2.old g (zlF hg h.grow) ?_]
  · exact h.old g hg hK
  · intro b c hl hk; by_cases hb:b < 1000
    · rcases h.own b g c hb hl hk with q | ⟨b',c',_,q2,q3⟩
      · omega
      · exact hK b' c' q2 q3
    · exact hK b c (h.parK b (by omega) hl) (by rw [← h.par b (by omega)]; exact hk)
 sup:=fun g hg=>h2.sup g (h.sup g hg)
 snew:=fun g hg=>by
  rcases h2.snew g hg with q | q
  · exact h.snew g q
  · exact .inr (h.mine q)
 slt:=h2.slt
 par:=fun b hb=>(h2.par b hb).trans (h.par b hb)
 parK:=fun b hb hl=>h.parK b hb (h2.parK b hb hl)
 own:=fun b g c hb hl hk=>h.mine (h2.own b g c hb hl hk)
 inj:=h2.inj
 ents:=h2.ents
 slots:=h2.slots
def Far (S:Nat→Prop) (κ:Kap) (L:Nat→Option Ent) (w:World) (g:Nat):Prop:=g < w.heap.size∧¬ S g∧∀ b c,(L b).isSome=true→κ b≠some (g,c)
theorem Good.far {S':Nat→Prop} {κ':Kap} {T':Nat→AV} {L':Nat→Option Ent} {a':Act} {w':World} (h2:Good w S κ (fun b=>(L b).isSome=true) N S' κ' T' L' a' w') {g:Nat} (hg:Far S κ L w g):w'.heap[g]?=w.heap[g]?∧Far S' κ' L' w' g:=by
 obtain ⟨h1,h3,h4⟩:=hg
 have hno:¬ Mine w κ (fun b=>(L b).isSome=true) g:=fun hm=>by
  rcases hm with hm | ⟨b,c,_,hl,hk⟩
  · omega
  · exact h4 b c hl hk
 refine ⟨h2.old g h1 h4,zlF h1 h2.grow,fun hs=>?_,fun b c hl hk=>?_⟩
 · rcases h2.snew g hs with q | q
   · exact h3 q
   · exact hno q
 · by_cases hb:b < 1000
   · exact hno (h2.own b g c hb hl hk)
   · exact h4 b c (h2.parK b (by omega) hl) (by rw [← h2.par b (by omega)]; exact hk)
theorem leaf {P:Program} {C:Cfg} {A:Ann} {call:zbu} {n:Nat} (hcall:CallOK P call) (hN:N≤1000) {c:Code} {st st':St} {ex:Ex} (hev:aeval P C A N call (iter n) c st=some (ex,st'))
  (h:Good w0 S0 κ0 K N S κ (fs st).1 (fs st).2 a w) {Q:Exit→Act→World→Prop}
  (hQ:∀ a' w' S' κ',Good w0 S0 κ0 K N S' κ' (fs st').1 (fs st').2 a' w'→(∀ g,S g→S' g)→(∀ g,Far S κ (fs st).2 w g→w'.heap[g]?=w.heap[g]?∧Far S' κ' (fs st').2 w' g)→(∀ g,S g→w'.heap[g]?=w.heap[g]?)→Q ex.toExit a' w'):c.wp P Q a w:=by
 refine wp_mono (zuX hcall hN c st ex st' hev a w ⟨S,κ,h.rebase⟩) ?_
 rintro e a' w' ⟨rfl,S',κ',hg⟩
 refine hQ a' w' S' κ' (h.join hg) hg.sup (fun g hf=>hg.far hf) (fun g hs=>hg.old g (h.slt g hs) (fun b c hl hk=>?_)); obtain ⟨ent,he⟩:=zb0.1 hl; have:=h.ents b ent he; rw [hk] at this; exact this.notS hs
theorem leafR {R:Fr} {T:Dic} {j id:Nat} {ops:Array Oper} {draw:Bool} {c:Code} {st st':St} (hb:R.fn.body=some c) (hc:regOf j c=some (.region id ops draw)) (ht:tReg R T j st=some st') (hN:R.fn.ntmps≤1000)
  (h:Good w0 S0 κ0 K R.fn.ntmps S κ (fs st).1 (fs st).2 a w) {Q:Exit→Act→World→Prop}
  (hQ:∀ a' w' S' κ',Good w0 S0 κ0 K R.fn.ntmps S' κ' (fs st').1 (fs st').2 a' w'→(∀ g,S g→S' g)→(∀ g,Far S κ (fs st).2 w g→w'.heap[g]?=w.heap[g]?∧Far S' κ' (fs st').2 w' g)→(∀ g,S g→w'.heap[g]?=w.heap[g]?)→Q .normal a' w'):(Code.region id ops draw).wp R.P Q a w:=
 leaf (n:=0) (zrV (C:=R.C) (A:=R.F)) hN (tReg_sound hb hc ht (iter 0)) h hQ
theorem Good.forget {T':Nat→AV} (h:Good w0 S0 κ0 K N S κ T L a w) (hT:∀ k,T' k=T k∨T' k=.bot):Good w0 S0 κ0 K N S κ T' L a w:=
 { h with
   slots:=fun k=>by
    rcases hT k with e | e
    · rw [e]; exact h.slots k
    · rw [e]; exact .bot _ }
structure FarObj (S:Nat→Prop) (w:World) (κd:Kap) (Ld:Nat→Option Ent):Prop where
 ents:∀ b ent,Ld b=some ent→EntAt S κd (fun b=>(Ld b).isSome=true) w (κd b) ent
 inj:∀ b b' g c c',(Ld b).isSome=true→(Ld b').isSome=true→κd b=some (g,c)→κd b'=some (g,c')→b=b'
theorem FarObj.mono {S':Nat→Prop} {w':World} {κd:Kap} {Ld:Nat→Option Ent} (h:FarObj S w κd Ld) (hS:∀ g,S g→S' g) (hw:∀ g,S g→w'.heap[g]?=w.heap[g]?)
  (hd:∀ b g c,(Ld b).isSome=true→κd b=some (g,c)→w'.heap[g]?=w.heap[g]?∧¬ S' g):FarObj S' w' κd Ld where
 ents:=fun b ent hb=>(h.ents b ent hb).mono hS hw (fun _ h=>h) (fun _ _=>rfl) (fun g c hk=>hd b g c (by simp [hb]) hk)
 inj:=h.inj
def overK (κ κd:Kap) (Ld:Nat→Option Ent):Kap:=fun b=>if (Ld b).isSome=true then κd b else κ b
def overL (L Ld:Nat→Option Ent):Nat→Option Ent:=fun b=>if (Ld b).isSome=true then Ld b else L b
theorem Good.focus (h:Good w0 S0 κ0 K N S κ T L a w) {κd:Kap} {Ld:Nat→Option Ent} (hF:FarObj S w κd Ld) (hn:∀ b,(Ld b).isSome=true→b < 1000∧L b=none)
  (hfar:∀ b g c,(Ld b).isSome=true→κd b=some (g,c)→Far S κ L w g∧Mine w0 κ0 K g):Good w0 S0 κ0 K N S (overK κ κd Ld) T (overL L Ld) a w:=by
 have hD1:∀ b,(L b).isSome=true→(overL L Ld b).isSome=true:=fun b hb=>by
  unfold overL; split
  · assumption
  · exact hb
 have hκ1:∀ b,(L b).isSome=true→overK κ κd Ld b=κ b:=fun b hb=>by unfold overK; rw [if_neg (fun hd=>by rw [(hn b hd).2] at hb; cases hb)]
 have hD2:∀ b,(Ld b).isSome=true→(overL L Ld b).isSome=true:=fun b hb=>by unfold overL; rw [if_pos hb]; exact hb
 have hκ2:∀ b,(Ld b).isSome=true→overK κ κd Ld b=κd b:=fun b hb=>if_pos hb
 have hcase:∀ b,(overL L Ld b).isSome=true→((Ld b).isSome=true∧overL L Ld b=Ld b∧overK κ κd Ld b=κd b)∨(¬ (Ld b).isSome=true∧(L b).isSome=true∧overL L Ld b=L b∧overK κ κd Ld b=κ b):=fun b hb=>by
  by_cases hd:(Ld b).isSome=true
  · exact .inl ⟨hd,if_pos hd,if_pos hd⟩
  · unfold overL at hb; rw [if_neg hd] at hb; exact .inr ⟨hd,hb,if_neg hd,if_neg hd⟩
 exact { h with
  par:=fun b hb=>by rw [← h.par b hb]; exact if_neg (fun hd=>by have:=(hn b hd).1; omega)
  parK:=fun b hb hl=>by
   rcases hcase b hl with ⟨hd,_⟩ | ⟨_,hl,_⟩
   · have:=(hn b hd).1; omega
   · exact h.parK b hb hl
  own:=fun b g c hb hl hk=>by
   rcases hcase b hl with ⟨hd,_,e⟩ | ⟨_,hl,_,e⟩
   · rw [e] at hk; exact (hfar b g c hd hk).2
   · rw [e] at hk; exact h.own b g c hb hl hk
  inj:=fun b b' g c c' hl hl' hk hk'=>by
   rcases hcase b hl with ⟨hd,_,e⟩ | ⟨_,hl,_,e⟩
   · rcases hcase b' hl' with ⟨hd',_,e'⟩ | ⟨_,hl',_,e'⟩
     · rw [e] at hk; rw [e'] at hk'; exact hF.inj b b' g c c' hd hd' hk hk'
     · rw [e] at hk; rw [e'] at hk'; exact absurd hk' ((hfar b g c hd hk).1.2.2 b' c' hl')
   · rcases hcase b' hl' with ⟨hd',_,e'⟩ | ⟨_,hl',_,e'⟩
     · rw [e] at hk; rw [e'] at hk'; exact absurd hk ((hfar b' g c' hd' hk').1.2.2 b c hl)
     · rw [e] at hk; rw [e'] at hk'; exact h.inj b b' g c c' hl hl' hk hk'
  ents:=fun b ent hb=>by
   rcases hcase b (by simp [hb]) with ⟨hd,e1,e2⟩ | ⟨hd,hl,e1,e2⟩
   · rw [e1] at hb; rw [e2]; have hE:=hF.ents b ent hb; exact hE.mono (fun _ h=>h) (fun _ _=>rfl) hD2 hκ2 (fun g c hk=>⟨rfl,(hfar b g c hd hk).1.2.1⟩)
   · rw [e1] at hb; rw [e2]; have hE:=h.ents b ent hb; exact hE.mono (fun _ h=>h) (fun _ _=>rfl) hD1 hκ1 (fun g c hk=>⟨rfl,by rw [hk] at hE; exact hE.notS⟩)
  slots:=fun k=>(h.slots k).mono (fun _ h=>h) (fun _ _=>rfl) hD1 hκ1 }
theorem Good.thing (h:Good w0 S0 κ0 K N S κ T L a w) {Ld:Nat→Option Ent} (hd:∀ b ent,Ld b=some ent→L b=some ent)
  (hc:∀ b ent,Ld b=some ent→ent.box=true→∀ cs∈ent.es,∀ x∈cs,∀ v,VRel S κ (fun b=>(L b).isSome=true) w x v→VRel S κ (fun b=>(Ld b).isSome=true) w x v):FarObj S w κ Ld where
 ents:=fun b ent hb=>by have hE:=h.ents b ent (hd b ent hb); exact zr2 hE (fun _ h=>h) (fun g c hk=>by rw [hk] at hE; exact hE.notS) (fun hbx cs hcs x hx v hv=>hc b ent hb hbx cs hcs x hx v hv)
 inj:=fun b b' g c c' hb hb'=>by obtain ⟨e,he⟩:=zb0.1 hb; obtain ⟨e',he'⟩:=zb0.1 hb'; exact h.inj b b' g c c' (by simp [hd b e he]) (by simp [hd b' e' he'])
theorem Good.thingFar (h:Good w0 S0 κ0 K N S κ T L a w) {Ld L':Nat→Option Ent} (hd:∀ b ent,Ld b=some ent→L b=some ent) (hL:∀ b,(L' b).isSome=true→(L b).isSome=true∧¬ (Ld b).isSome=true):∀ b g c,(Ld b).isSome=true→κ b=some (g,c)→Far S κ L' w g∧(b < 1000→Mine w0 κ0 K g):=fun b g c hb hk=>by obtain ⟨e,he⟩:=zb0.1 hb; have hE:=h.ents b e (hd b e he); rw [hk] at hE; refine ⟨⟨hE.lt,hE.notS,fun b' c' hl' hk'=>?_⟩,fun hb'=>h.own b g c hb' (by simp [hd b e he]) hk⟩; have:=h.inj b b' g c c' (by simp [hd b e he]) (hL b' hl').1 hk hk'; subst this; exact (hL b hl').2 hb
end
section
variable {w0:World} {S0:Nat→Prop} {κ0:Kap} {K:Nat→Prop} {N:Nat} {S S':Nat→Prop} {κ κ':Kap} {a:Act} {w w':World} {st:St}
abbrev GoodS (w0:World) (S0:Nat→Prop) (κ0:Kap) (K:Nat→Prop) (N:Nat) (S:Nat→Prop) (κ:Kap) (st:St) (a:Act) (w:World):Prop:=Good w0 S0 κ0 K N S κ (get st.t) (look st.m) a w
theorem GoodS.del (h:GoodS w0 S0 κ0 K N S κ st a w) (b:Nat):GoodS w0 S0 κ0 K N S κ (del b st) a w:=by
 have:=Good.del h b; have e1:get (Ab.del b st).t=fun k=>(get st.t k).kill b 4:=funext fun k=>zjU b st.t k
 have e2:look (Ab.del b st).m=killL b (look st.m):=funext fun c=>zeV b st.m c
 unfold GoodS; rw [e1,e2]; exact this
theorem GoodS.ren (h:GoodS w0 S0 κ0 K N S κ st a w) {b s:Nat} (hb:b < 1000) (hs:s < 1000) (hbs:b≠s) (hL:look st.m s=none):GoodS w0 S0 κ0 K N S (fun c=>if c=s then κ b else κ c) (renS b s st) a w:=by
 have:=Good.ren h hb hs hbs hL; have e1:get (renS b s st).t=fun k=>(get st.t k).ren b s 4:=funext fun k=>zwc b s st.t k
 have e2:look (renS b s st).m=renL b s (look st.m):=funext fun c=>ztR hbs st.m c hL
 unfold GoodS; rw [e1,e2]; exact this
theorem get_keep (t:Tab):∀ (ks:List Nat) (j:Nat),get (ks.map fun k=>(k,get t k)) j=get t j∨get (ks.map fun k=>(k,get t k)) j=.bot
 | [],_=>.inr rfl
 | k :: ks,j=>by
   simp only [zco,get]; split
   · rename_i e; subst e; exact .inl rfl
   · exact get_keep t ks j
def trim (ks ds:List Nat) (st:St):St:=
 let s:=ds.foldl (fun s b=>del b s) st
 { t:=ks.map fun k=>(k,get s.t k),m:=sortM s.m }
theorem GoodS.dels:∀ (ds:List Nat) {st:St},GoodS w0 S0 κ0 K N S κ st a w→GoodS w0 S0 κ0 K N S κ (ds.foldl (fun s b=>Ab.del b s) st) a w
 | [],_,h=>h
 | b :: ds,_,h=>GoodS.dels ds (h.del b)
theorem GoodS.trim (h:GoodS w0 S0 κ0 K N S κ st a w) (ks ds:List Nat):GoodS w0 S0 κ0 K N S κ (trim ks ds st) a w:=by
 have h1:=GoodS.dels ds h; have e2:look (Ab.trim ks ds st).m=look (ds.foldl (fun s b=>Ab.del b s) st).m:=funext fun c=>zoq _ c
 unfold GoodS; rw [e2]; exact Good.forget h1 (fun k=>get_keep _ ks k)
theorem GoodS.set (h:GoodS w0 S0 κ0 K N S κ st a w) (k:Nat) (x:AV) (hx:VRel S κ (fun b=>(look st.m b).isSome=true) w x (a.tmps.getD k undef)):GoodS w0 S0 κ0 K N S κ { st with t:=(k,x) :: st.t } a w:=
 { h with
   slots:=fun j=>by
    simp only [get]; split
    · rename_i e; subst e; exact hx
    · exact h.slots j }
theorem zm3:∀ (m1 m2:Mem) (b:Nat),look (m1++m2) b=if (look m1 b).isSome=true then look m1 b else look m2 b
 | [],m2,b=>by simp [look]
 | (j,e) :: r,m2,b=>by
   simp only [zrx,look]; by_cases hb:b=j
   · simp [hb]
   · simp only [if_neg hb]; exact zm3 r m2 b
theorem GoodS.focus {t:Tab} {m md:Mem} {κd:Kap} (h:GoodS w0 S0 κ0 K N S κ ⟨t,m⟩ a w) (hF:FarObj S w κd (look md)) (hn:∀ b,(look md b).isSome=true→b < 1000∧look m b=none)
  (hfar:∀ b g c,(look md b).isSome=true→κd b=some (g,c)→Far S κ (look m) w g∧Mine w0 κ0 K g):GoodS w0 S0 κ0 K N S (overK κ κd (look md)) ⟨t,md++m⟩ a w:=by
 have:=Good.focus h hF hn hfar; have e:look (md++m)=overL (look m) (look md):=funext fun b=>zm3 md m b
 unfold GoodS; rw [e]; exact this
structure Objs (w0:World) (κ0:Kap) (K:Nat→Prop) (S:Nat→Prop) (κ:Kap) (L:Nat→Option Ent) (w:World) (M:Nat→Option Mem) (κd:Nat→Kap):Prop where
 obj:∀ i m,M i=some m→FarObj S w (κd i) (look m)
 far:∀ i m b g c,M i=some m→(look m b).isSome=true→κd i b=some (g,c)→Far S κ L w g∧Mine w0 κ0 K g
 dis:∀ i j m m' b b' g c c',M i=some m→M j=some m'→(look m b).isSome=true→(look m' b').isSome=true→κd i b=some (g,c)→κd j b'=some (g,c')→i=j
variable {M:Nat→Option Mem} {κd:Nat→Kap} {L L':Nat→Option Ent}
theorem Objs.none:Objs w0 κ0 K S κ L w (fun _=>none) κd where
 obj:=fun _ _ h=>by cases h
 far:=fun _ _ _ _ _ h=>by cases h
 dis:=fun _ _ _ _ _ _ _ _ _ h=>by cases h
theorem Objs.step (h:Objs w0 κ0 K S κ L w M κd) (hS:∀ g,S g→S' g) (hf:∀ g,Far S κ L w g→w'.heap[g]?=w.heap[g]?∧Far S' κ' L' w' g) (hw:∀ g,S g→w'.heap[g]?=w.heap[g]?):Objs w0 κ0 K S' κ' L' w' M κd where
 obj:=fun i m hi=>(h.obj i m hi).mono hS hw (fun b g c hb hk=>⟨(hf g (h.far i m b g c hi hb hk).1).1,(hf g (h.far i m b g c hi hb hk).1).2.2.1⟩)
 far:=fun i m b g c hi hb hk=>⟨(hf g (h.far i m b g c hi hb hk).1).2,(h.far i m b g c hi hb hk).2⟩
 dis:=h.dis
theorem Objs.kap (h:Objs w0 κ0 K S κ L w M κd) (hk:∀ b g c,(L' b).isSome=true→κ' b=some (g,c)→∃ b0 c0,(L b0).isSome=true∧κ b0=some (g,c0)):Objs w0 κ0 K S κ' L' w M κd where
 obj:=h.obj
 far:=fun i m b g c hi hb hkd=>by obtain ⟨⟨f1,f2,f3⟩,f4⟩:=h.far i m b g c hi hb hkd; refine ⟨⟨f1,f2,fun b' c' hl hk'=>?_⟩,f4⟩; obtain ⟨b0,c0,hb0,hk0⟩:=hk b' g c' hl hk'; exact f3 b0 c0 hb0 hk0
 dis:=h.dis
theorem Objs.away {i:Nat} {md:Mem} {T:Nat→AV} (hg:Good w0 S0 κ0 K N S κ T L a w) (h:Objs w0 κ0 K S κ L w M κd) (hd:∀ b ent,look md b=some ent→L b=some ent)
  (hc:∀ b ent,look md b=some ent→ent.box=true→∀ cs∈ent.es,∀ x∈cs,∀ v,VRel S κ (fun b=>(L b).isSome=true) w x v→VRel S κ (fun b=>(look md b).isSome=true) w x v)
  (hk:∀ b,(look md b).isSome=true→b < 1000) (hL:∀ b,(L' b).isSome=true→(L b).isSome=true∧¬ (look md b).isSome=true):Objs w0 κ0 K S κ L' w (fun j=>if j=i then some md else M j) (fun j=>if j=i then κ else κd j) where
 obj:=fun j mj hj=>by
  split at hj
  · rename_i e; injection hj with hj; subst hj; rw [if_pos e]; exact Good.thing hg hd hc
  · rename_i e; rw [if_neg e]; exact h.obj j mj hj
 far:=fun j mj b g c hj hb hkd=>by
  split at hj
  · rename_i e; injection hj with hj; subst hj; rw [if_pos e] at hkd; obtain ⟨q1,q2⟩:=Good.thingFar hg hd hL b g c hb hkd; exact ⟨q1,q2 (hk b hb)⟩
  · rename_i e; rw [if_neg e] at hkd; obtain ⟨⟨f1,f2,f3⟩,f4⟩:=h.far j mj b g c hj hb hkd; exact ⟨⟨f1,f2,fun b' c' hl hk'=>f3 b' c' (hL b' hl).1 hk'⟩,f4⟩
 dis:=fun j j' mj mj' b b' g c c' hj hj' hb hb' hkj hkj'=>by
  have sees:∀ b,(look md b).isSome=true→(L b).isSome=true:=fun b hb=>by obtain ⟨e,he⟩:=zb0.1 hb; simp [hd b e he]
  split at hj
  · rename_i e; injection hj with hj; subst hj; rw [if_pos e] at hkj; split at hj'
    · rename_i e'; rw [e,e']
    · rename_i e'; rw [if_neg e'] at hkj'; exact absurd hkj ((h.far j' mj' b' g c' hj' hb' hkj').1.2.2 b c (sees b hb))
  · rename_i e; rw [if_neg e] at hkj; split at hj'
    · rename_i e'; injection hj' with hj'; subst hj'; rw [if_pos e'] at hkj'; exact absurd hkj' ((h.far j mj b g c hj hb hkj).1.2.2 b' c' (sees b' hb'))
    · rename_i e'; rw [if_neg e'] at hkj'; exact h.dis j j' mj mj' b b' g c c' hj hj' hb hb' hkj hkj'
def only (ks:List Nat):AV→Bool
 | .v _ | .sl .. | .mp .. | .fp .. | .fa ..=>true
 | .row b _ _ _=>ks.contains b
 | .map b=>ks.contains b
 | .loc b _ _ _=>ks.contains b
 | _=>false
theorem zsj {D D':Nat→Prop} {ks:List Nat} (hD:∀ b∈ks,D' b) {x:AV} {v:Value} (ho:only ks x=true) (h:VRel S κ D w x v):VRel S κ D' w x v:=by
 cases x with
 | v x=>cases h with | c h=>exact .c h
 | sl z es=>exact .c h.sl_inv
 | mp es=>exact .c h.mp_inv
 | fp cs=>exact .c h.fp_inv
 | fa z es=>exact .c h.fa_inv
 | row b z i n =>
   have hb:=hD b (by simpa [only] using ho)
   cases h with
   | c h=>cases h
   | row0 _ _ hd hk=>exact .row0 _ _ hb hk
   | row _ _ _ _ g c off' cap hd hk hn ho hc=>exact .row _ _ _ _ g c off' cap hb hk hn ho hc
 | map b=>have hb:=hD b (by simpa [only] using ho); obtain ⟨g,c,hd,hk,rfl⟩:=h.map_inv; exact .map b g c hb hk
 | loc b z i o=>have hb:=hD b (by simpa [only] using ho); obtain ⟨g,c,hd,hk,rfl⟩:=h.loc_inv; exact .loc b z i o g c hb hk
 | _=>cases ho
def onlyM (md:Mem):Bool:=md.all fun p=>!p.2.box || p.2.es.all fun cs=>cs.all (only (md.map (·.1)))
theorem zAF {D:Nat→Prop} {md:Mem} (h:onlyM md=true):∀ b ent,look md b=some ent→ent.box=true→∀ cs∈ent.es,∀ x∈cs,∀ v,VRel S κ D w x v→VRel S κ (fun b=>(look md b).isSome=true) w x v:=by intro b ent hb hbx cs hcs x hx v hv; have h1:=zbQ.1 h (b,ent) (zih hb); simp only [hbx,zbO,zqN] at h1; have h2:=zbQ.1 (zbQ.1 h1 cs hcs) x hx; exact zsj (fun b hb=>zfp (by simpa [ids] using hb)) h2 hv
theorem toRow {D:Nat→Prop} {g c z:Nat} {e:TypeId} {cs:List AV} {xs:List (List AV)} (hE:EntAt S κ D w (some (g,c)) ⟨z,e,[cs],true⟩) (hz:z≤maxLen) (hx:xs.length=cs.length)
  (hv:∀ (j:Nat) (x:AV) (u:Value),cs[j]?=some x→VRel S κ D w x u→xs[j]?=some [.v u]):∀ κ' D',EntAt S κ' D' w (some (g,z)) ⟨1,e,xs,false⟩:=by
 intro κ' D'; obtain ⟨h1,cells,h2,h3,h4,h5,h6,h7⟩:=hE.1 (.inl rfl); have hcs:cs.length=z:=h1 cs (by simp)
 have hc:c=1:=by have:c≤1:=h5; simp only [zvB] at h4; omega
 subst hc
 have key:∀ j,j < z→∃ u,cells[j]?=some u∧u.oneCell'=true∧xs[j]?=some [.v u]:=fun j hj=>by
  have hj':j < cs.length:=by omega
  obtain ⟨u,u1,u2,u3,_⟩:=h7 0 j cs cs[j] rfl (zaC hj'); exact ⟨u,by simpa using u1,u2,hv j _ u (zaC hj') (u3 rfl)⟩
 refine EntAt.of (.inr (by show 0 < 1; omega)) ⟨fun r hr=>?_,cells,h2,?_,?_,hz,h6,fun i j r av hi hj=>?_⟩
 · obtain ⟨j,hj⟩:=zkh.1 hr; obtain ⟨u,_,_,hu⟩:=key j (by have:j < xs.length:=(zbs.1 hj).1; omega); rw [hj] at hu; injection hu with hu; rw [hu]; rfl
 · simpa using h3
 · show xs.length≤z; omega
 · obtain ⟨u,u1,u2,hu⟩:=key i (by have:i < xs.length:=(zbs.1 hi).1; omega); rw [hi] at hu; injection hu with hu; subst hu
   cases j with
   | succ j=>simp at hj
   | zero=>simp at hj; subst hj; exact ⟨u,by simpa using u1,u2,(fun hb=>by cases hb),fun _=>.v u⟩
theorem GoodS.swap (h:GoodS w0 S0 κ0 K N S κ st a w) {B g c c2:Nat} {e2:Ent} (hB:(look st.m B).isSome=true) (hB2:B < 1000) (hk:κ B=some (g,c)) (hE:∀ κ' D',EntAt S κ' D' w (some (g,c2)) e2):GoodS w0 S0 κ0 K N S (overK κ (fun _=>some (g,c2)) (look [(B,e2)])) ⟨(Ab.del B st).t,(B,e2) :: (Ab.del B st).m⟩ a w:=by
 have h1:=h.del B; have hlook:∀ b,look (Ab.del B st).m b=killL B (look st.m) b:=fun b=>zeV B st.m b
 have hone:∀ b,(look [(B,e2)] b).isSome=true→b=B:=fun b hb=>by
  simp only [look] at hb; split at hb
  · assumption
  · cases hb
 refine GoodS.focus (md:=[(B,e2)]) (t:=(Ab.del B st).t) (m:=(Ab.del B st).m) h1 ⟨fun b ent hb=>?_,fun b b' g' c1 c1' hb hb' _ _=>by rw [hone b hb,hone b' hb']⟩ (fun b hb=>?_) (fun b g' c' hb hkb=>?_)
 · have hbB:=hone b (by simp [hb]); subst hbB; simp only [look,if_true,zat] at hb; subst hb; exact hE _ _
 · rw [hone b hb]; refine ⟨hB2,?_⟩; rw [hlook]; simp [killL]
 · injection hkb with hkb; injection hkb with e1 _; subst e1; obtain ⟨ent,he⟩:=zb0.1 hB; have hEB:=h.ents B ent he; rw [hk] at hEB; refine ⟨⟨hEB.lt,hEB.notS,fun b' c' hl hk'=>?_⟩,h.own B g c hB2 (by simp [he]) hk⟩; rw [hlook] at hl; unfold killL at hl; split at hl
   · cases hl
   · rename_i hne; refine hne (h.inj b' B g c' c ?_ (by simp [he]) hk' hk)
     cases hq:look st.m b' with
     | none=>rw [hq] at hl; cases hl
     | some _=>rfl
theorem Objs.swap {B g c c2:Nat} {e2:Ent} (h:Objs w0 κ0 K S κ (look st.m) w M κd) (hB:(look st.m B).isSome=true) (hk:κ B=some (g,c)):Objs w0 κ0 K S (overK κ (fun _=>some (g,c2)) (look [(B,e2)])) (look ((B,e2) :: (Ab.del B st).m)) w M κd:=by
 refine h.kap (fun b g' c' hl hkb=>?_); unfold overK at hkb; split at hkb
 · injection hkb with hkb; injection hkb with e1 _; subst e1; exact ⟨B,c,hB,hk⟩
 · rename_i hne; simp only [look] at hl hne; split at hl
   · rename_i e; rw [if_pos e] at hne; exact absurd rfl hne
   · have hlook:look (Ab.del B st).m b=killL B (look st.m) b:=zeV B st.m b; rw [hlook] at hl; unfold killL at hl; refine ⟨b,c',?_,hkb⟩; split at hl
     · cases hl
     · cases hq:look st.m b with
       | none=>rw [hq] at hl; cases hl
       | some _=>rfl
theorem GoodS.start {args:List AV} {vals:Array Value} {ms:Mem} {N:Nat} (hvl:vals.size=args.length) (hN:args.length≤N) (hS:∀ g,S g→g < w.heap.size)
  (hv:∀ (k:Nat) (a:AV) (x:Value),args[k]?=some a→vals[k]?=some x→VRel S κ (Dm ms) w a x) (hms:∀ b ent,look ms b=some ent→EntAt S κ (Dm ms) w (κ b) ent)
  (hinj:∀ b b' g c c',Dm ms b→Dm ms b'→κ b=some (g,c)→κ b'=some (g,c')→b=b'):GoodS w S κ (Dm ms) N S κ { t:=argTab 0 args,m:=ms } { tmps:=vals++Array.replicate (N - vals.size) undef,defers:=[] } w where
 defers:=rfl
 size:=by simp; omega
 os:=rfl
 tape:=rfl
 output:=.of
 grow:=zbR _
 old:=fun _ _ _=>rfl
 sup:=fun _ h=>h
 snew:=fun _ h=>.inl h
 slt:=hS
 par:=fun _ _=>rfl
 parK:=fun _ _ h=>h
 own:=fun b g c' hb' hl hk=>.inr ⟨b,c',hb',hl,hk⟩
 inj:=hinj
 ents:=fun b ent he=>hms b ent he
 slots:=fun k=>by
  rw [zrM]; simp only [zkj,if_true,Nat.sub_zero]
  cases hk:args[k]? with
  | none=>exact .bot _
  | some a =>
    have hlt:k < vals.size:=by have:=(zbs.1 hk).1; omega
    have:(vals++Array.replicate (N - vals.size) undef).getD k undef=vals[k]:=by rw [zmP,aLiAs86,if_pos hlt,zcy hlt]; rfl
    rw [this]; exact hv k a _ hk (zcy hlt)
theorem zym:∀ (ds:List Nat) (st:St) (b:Nat),(look (ds.foldl (fun s b=>del b s) st).m b).isSome=true→(look st.m b).isSome=true
 | [],_,_,h=>h
 | d :: ds,st,b,h=>by
   have h1:=zym ds (del d st) b h; have h2:look (del d st).m b=killL d (look st.m) b:=zeV d st.m b; rw [h2] at h1; unfold killL at h1; split at h1
   · cases h1
   · cases hq:look st.m b with
     | none=>rw [hq] at h1; cases h1
     | some _=>rfl
theorem ztS (ks ds:List Nat) (st:St) (b:Nat) (h:(look (trim ks ds st).m b).isSome=true):(look st.m b).isSome=true:=by have e:look (trim ks ds st).m b=look (ds.foldl (fun s b=>del b s) st).m b:=zoq _ b; rw [e] at h; exact zym ds st b h
def Now (w0:World) (S0:Nat→Prop) (κ0:Kap) (K:Nat→Prop) (N:Nat) (M:Nat→Option Mem) (κd:Nat→Kap) (st:St) (a:Act) (w:World):Prop:=
 ∃ S κ,GoodS w0 S0 κ0 K N S κ st a w∧Objs w0 κ0 K S κ (look st.m) w M κd
theorem Now.trim {N:Nat} {M:Nat→Option Mem} {κd:Nat→Kap} {st st':St} (h:Now w0 S0 κ0 K N M κd st a w) (ks ds:List Nat) (e:trim ks ds st=st'):Now w0 S0 κ0 K N M κd st' a w:=by obtain ⟨S,κ,h1,h2⟩:=h; subst e; exact ⟨S,κ,h1.trim ks ds,h2.kap (fun b g c hl hk=>⟨b,c,ztS ks ds st b hl,hk⟩)⟩
theorem Now.bool {N:Nat} {M:Nat→Option Mem} {κd:Nat→Kap} {st:St} (h:Now w0 S0 κ0 K N M κd st a w) {k:Nat} {b:Bool} (hk:get st.t k=.v (.bool b)):a.eval (.tmp k)=.bool b:=by obtain ⟨S,κ,h1,_⟩:=h; have:=h1.slots k; rw [hk] at this; exact this.v_inv
end
def opsAt (j:Nat) (c:Code):Array Oper:=match regOf j c with
 | some (.region _ o _)=>o
 | _=>#[]
def zq3 (j:Nat) (c:Code):Bool:=match regOf j c with
 | some (.region _ _ d)=>d
 | _=>false
end Go.Ab
namespace Go.Ab
open Go.RowKit
open Go.ChangeMaps (setBlock)
section
variable {w0:World} {S0:Nat→Prop} {κ0:Kap} {K:Nat→Prop} {N:Nat} {S S':Nat→Prop} {κ κ':Kap} {a:Act} {w w':World} {st st':St} {L L':Nat→Option Ent}
abbrev Sat2:=(Nat→Prop)→Kap→(Nat→Option Ent)→World→Prop
structure Stable (X:Sat2):Prop where
 step:∀ {S S':Nat→Prop} {κ κ':Kap} {L L':Nat→Option Ent} {w w':World},X S κ L w→(∀ g,S g→S' g)→(∀ g,Far S κ L w g→w'.heap[g]?=w.heap[g]?∧Far S' κ' L' w' g)→(∀ g,S g→w'.heap[g]?=w.heap[g]?)→X S' κ' L' w'
 kap:∀ {S:Nat→Prop} {κ κ':Kap} {L L':Nat→Option Ent} {w:World},X S κ L w→(∀ b g c,(L' b).isSome=true→κ' b=some (g,c)→∃ b0 c0,(L b0).isSome=true∧κ b0=some (g,c0))→X S κ' L' w
theorem Stable.none:Stable fun _ _ _ _=>True:=⟨fun _ _ _ _=>trivial,fun _ _=>trivial⟩
def NowP (w0:World) (S0:Nat→Prop) (κ0:Kap) (K:Nat→Prop) (N:Nat) (X:Sat2) (st:St) (a:Act) (w:World):Prop:=∃ S κ,GoodS w0 S0 κ0 K N S κ st a w∧X S κ (look st.m) w
theorem NowP.trim {X:Sat2} (hX:Stable X) (h:NowP w0 S0 κ0 K N X st a w) (ks ds:List Nat) (e:Ab.trim ks ds st=st'):NowP w0 S0 κ0 K N X st' a w:=by obtain ⟨S,κ,h1,h2⟩:=h; subst e; exact ⟨S,κ,h1.trim ks ds,hX.kap h2 (fun b g c hl hk=>⟨b,c,ztS ks ds st b hl,hk⟩)⟩
theorem NowP.bool {X:Sat2} (h:NowP w0 S0 κ0 K N X st a w) {k:Nat} {b:Bool} (hk:get st.t k=.v (.bool b)):a.eval (.tmp k)=.bool b:=by obtain ⟨S,κ,h1,_⟩:=h; have:=h1.slots k; rw [hk] at this; exact this.v_inv
def cnt (a:Act) (k:Nat):Nat:=match a.tmps.getD k undef with
 | .int _ n=>n.toNat
 | _=>0
theorem NowP.cnt {X:Sat2} (h:NowP w0 S0 κ0 K N X st a w) {k:Nat} {q:IntKind} {n:Int} (hk:get st.t k=.v (.int q n)):Ab.cnt a k=n.toNat:=by obtain ⟨S,κ,h1,_⟩:=h; have:=h1.slots k; rw [hk] at this; unfold Ab.cnt; rw [this.v_inv]
theorem stepP {R:Fr} {T:Dic} {j id:Nat} {ops:Array Oper} {draw:Bool} {c:Code} {X:Sat2} (hX:Stable X) (hb:R.fn.body=some c) (hN:R.fn.ntmps≤1000) (hr:regOf j c=some (.region id ops draw)) (ht:tReg R T j st=some st')
  (h:NowP w0 S0 κ0 K R.fn.ntmps X st a w) {Q:Exit→Act→World→Prop} (hQ:∀ a' w',NowP w0 S0 κ0 K R.fn.ntmps X st' a' w'→Q .normal a' w'):(Code.region id ops draw).wp R.P Q a w:=by
 obtain ⟨S,κ,h1,h2⟩:=h; exact leafR hb hr ht hN h1 (fun a' w' S' κ' hg hS hf hw=>hQ a' w' ⟨S',κ',hg,hX.step h2 hS hf hw⟩)
def tSeg (R:Fr) (T:Dic) (j i n:Nat) (st:St):Option St:=
 match R.fn.body with
 | some c=>match regOf j c with
   | some (.region _ ops _)=>tRun R.P R.C R.F T (R.F R.f).lits R.fn.ntmps ops i ((ops.toList.drop i).take n) (preDel ((ops.toList.drop i).take n) st) fun _ st1=>force st1 some
   | _=>none
 | none=>none
theorem ops_more {P:Program} {C:Cfg} {M:List Nat} {call:zbu} {N:Nat} {ops:Array Oper} {Q:Exit→Act→World→Prop} {rest:List Nat} (hcall:CallOK P call) (hN:N≤1000):∀ (l:List Oper) (k:Nat) (st st':St) (rs:List Mk),runOps P C M call N ops k l st=some (rs,st')→(∀ j o,l[j]?=some o→ops[k+j]?=some o)→∀ (a:Act) (w:World),GoodF w0 S0 κ0 K N (fs st) a w→(∀ a' w',GoodF w0 S0 κ0 K N (fs st') a' w'→wpOps P ops Q rest a' w')→wpOps P ops Q (List.range' k l.length++rest) a w
 | [],k,st,st',rs,h,_,a,w,hg,hQ=>by simp [runOps] at h; obtain ⟨_,rfl⟩:=h; exact hQ a w hg
 | o :: l,k,st,st',rs,h,hl,a,w,hg,hQ=>by
   simp only [runOps] at h
   cases hs:aStep P C M call N ops o st with
   | none=>simp [hs] at h
   | some q =>
     obtain ⟨r,st1⟩:=q; simp only [hs] at h
     cases ho:runOps P C M call N ops (k+1) l st1 with
     | none=>simp [ho] at h
     | some q=>obtain ⟨rs',st2⟩:=q; simp only [ho,zat,zaG] at h; obtain ⟨_,rfl⟩:=h; obtain ⟨e1,e2⟩:=zvK hs; rw [zf5,List.range'_succ,zrx,wpOps_cons]; refine zqw hcall hN (hl 0 o rfl) e1 hg (fun a' w' hg'=>?_); rw [← e2] at hg'; exact ops_more hcall hN l (k+1) st1 st2 rs' ho (fun j o' hj=>by have:=hl (j+1) o' (by simpa using hj); rw [← this]; congr 1; omega) a' w' hg' hQ
theorem segP {R:Fr} {T:Dic} {j i n id:Nat} {ops:Array Oper} {draw:Bool} {c:Code} {X:Sat2} (hX:Stable X) (hb:R.fn.body=some c) (hN:R.fn.ntmps≤1000) (hr:regOf j c=some (.region id ops draw)) (ht:tSeg R T j i n st=some st') (hin:i+n≤ops.size)
  (h:NowP w0 S0 κ0 K R.fn.ntmps X st a w) {Q:Exit→Act→World→Prop} {rest:List Nat} (hQ:∀ a' w',NowP w0 S0 κ0 K R.fn.ntmps X st' a' w'→wpOps R.P ops Q rest a' w'):wpOps R.P ops Q (List.range' i n++rest) a w:=by
 obtain ⟨S,κ,h1,h2⟩:=h; unfold tSeg at ht; simp only [hb,hr] at ht; obtain ⟨rs,st1,hrun,hst⟩:=zor _ _ _ _ _ ht; rw [zpk] at hst; injection hst with hst; subst hst
 have hl:((ops.toList.drop i).take n).length=n:=by rw [zf3,zqK]; simp; omega
 have hp:GoodF w S κ (fun b=>(look st.m b).isSome=true) R.fn.ntmps (fs (preDel ((ops.toList.drop i).take n) st)) a w:=GoodF.preDel _ st ⟨S,κ,Good.rebase h1⟩
 have:=ops_more (rest:=rest) (Q:=Q) (zrV (C:=R.C) (A:=R.F)) hN _ i _ _ rs hrun (fun k o hk=>by
  rw [zc0] at hk; split at hk
  · rw [zc9] at hk; simpa using hk
  · cases hk) a w hp (fun a' w' hg=>by
  obtain ⟨S',κ',hg⟩:=hg; refine hQ a' w' ⟨S',κ',Good.join h1 hg,hX.step h2 hg.sup (fun g hf=>hg.far hf) (fun g hs=>hg.old g (h1.slt g hs) (fun b c hl hk=>?_))⟩; obtain ⟨ent,he⟩:=zb0.1 hl; have:=h1.ents b ent he; rw [hk] at this
  exact this.notS hs)
 rw [hl] at this; exact this
theorem getD_put {d:Nat} {y:Value} (hd:d < a.tmps.size) (k:Nat):(a.put (some d) y).tmps.getD k undef=if k=d then y else a.tmps.getD k undef:=by
 show (a.tmps.setIfInBounds d y).getD k undef=_; rw [zmP,zmP,zt9]; by_cases hk:d=k
 · subst hk; simp [hd]
 · rw [if_neg hk,if_neg (fun e=>hk e.symm)]
theorem GoodS.put (h:GoodS w0 S0 κ0 K N S κ st a w) {d:Nat} (hd:d < N) (x:AV) (y:Value) (hx:VRel S κ (fun b=>(look st.m b).isSome=true) w x y):GoodS w0 S0 κ0 K N S κ { st with t:=(d,x) :: st.t } (a.put (some d) y) w:=
 { h with
   defers:=h.defers
   size:=by show (a.tmps.setIfInBounds d y).size=N; simp [h.size]
   slots:=fun k=>by
    rw [getD_put (by rw [h.size]; exact hd)]; simp only [get]; by_cases hk:k=d
    · simp only [hk,if_true]; exact hx
    · simp only [if_neg hk]; exact h.slots k }
theorem GoodS.world (h:GoodS w0 S0 κ0 K N S κ st a w) (hos:w'.os=w.os) (htape:w'.tape=w.tape) (hout:OutD w w') (hsz:w.heap.size≤w'.heap.size)
  (hb:∀ g,g < w.heap.size→¬ (Far S κ (look st.m) w g∧Mine w0 κ0 K g)→w'.heap[g]?=w.heap[g]?):GoodS w0 S0 κ0 K N S κ st a w':=by
 have hS:∀ g,S g→w'.heap[g]?=w.heap[g]?:=fun g hg=>hb g (h.slt g hg) (fun q=>q.1.2.1 hg)
 have hκ:∀ b ent g c,look st.m b=some ent→κ b=some (g,c)→w'.heap[g]?=w.heap[g]?∧¬ S g:=fun b ent g c he hk=>by have hE:=h.ents b ent he; rw [hk] at hE; exact ⟨hb g hE.lt (fun q=>q.1.2.2 b c (by simp [he]) hk),hE.notS⟩
 exact { h with
  os:=hos.trans h.os
  tape:=htape.trans h.tape
  output:=h.output.trans hout
  grow:=zdy h.grow hsz
  old:=fun g hg hK=>by
   rw [hb g (zlF hg h.grow) (fun q=>?_)]
   · exact h.old g hg hK
   · rcases q.2 with q | ⟨b,c,_,q1,q2⟩
     · omega
     · exact hK b c q1 q2
  slt:=fun g hg=>zlF (h.slt g hg) hsz
  ents:=fun b ent he=>(h.ents b ent he).mono (fun _ h=>h) hS (fun _ h=>h) (fun _ _=>rfl) (fun g c hk=>hκ b ent g c he hk)
  slots:=fun k=>(h.slots k).mono (fun _ h=>h) hS (fun _ h=>h) (fun _ _=>rfl) }
structure zqy (S:Nat→Prop) (w:World) (g:Nat) (es:List (List AV)) (en:Array MapEntry) (clock:Nat):Prop where
 inS:S g
 at_:w.heap[g]?=some (.map en clock)
 len:en.size=es.length
 born:∀ (i:Nat) (e:MapEntry),en[i]?=some e→e.born < clock
 incr:∀ (i j:Nat) (e f:MapEntry),i < j→en[i]?=some e→en[j]?=some f→e.born < f.born
 two:∀ cs∈es,∃ k v,cs=[k,v]
 key:∀ (i:Nat) (k v:AV) (e:MapEntry),es[i]?=some [k,v]→en[i]?=some e→CRel S w k e.key
 val:∀ (i:Nat) (k v:AV) (e:MapEntry),es[i]?=some [k,v]→en[i]?=some e→CRel S w v e.val
theorem zqy.mono {g:Nat} {es:List (List AV)} {en:Array MapEntry} {clock:Nat} (h:zqy S w g es en clock) (hS:∀ g,S g→S' g) (hw:∀ g,S g→w'.heap[g]?=w.heap[g]?):zqy S' w' g es en clock where
 inS:=hS g h.inS
 at_:=(hw g h.inS).trans h.at_
 len:=h.len
 born:=h.born
 incr:=h.incr
 two:=h.two
 key:=fun i k v e h1 h2=>(h.key i k v e h1 h2).mono hS hw
 val:=fun i k v e h1 h2=>(h.val i k v e h1 h2).mono hS hw
def seenOf (en:Array MapEntry) (done:List Nat):Array Nat:=(done.map fun j=>(en[j]?.map (·.born)).getD 0).toArray
structure Rng (w0:World) (κ0:Kap) (K:Nat→Prop) (r g:Nat) (es:List (List AV)) (en:Array MapEntry) (clock:Nat) (done:List Nat) (S:Nat→Prop) (κ:Kap) (L:Nat→Option Ent) (w:World):Prop where
 held:zqy S w g es en clock
 far:Far S κ L w r
 mine:Mine w0 κ0 K r
 iter:w.heap[r]?=some (.mapIter (some g) clock (seenOf en done) clock)
 nodup:done.Nodup
 lt:∀ j∈done,j < en.size
theorem Rng.stable {r g:Nat} {es:List (List AV)} {en:Array MapEntry} {clock:Nat} {done:List Nat}:Stable (Rng w0 κ0 K r g es en clock done) where
 step:=fun h hS hf hw=>⟨h.held.mono hS hw,(hf r h.far).2,h.mine,(hf r h.far).1.trans h.iter,h.nodup,h.lt⟩
 kap:=fun h hk=>⟨h.held,⟨h.far.1,h.far.2.1,fun b c hl hkb=>by
  obtain ⟨b0,c0,q1,q2⟩:=hk b r c hl hkb
  exact h.far.2.2 b0 c0 q1 q2⟩,h.mine,h.iter,h.nodup,h.lt⟩
theorem born_inj {en:Array MapEntry} (hi:∀ (i j:Nat) (e f:MapEntry),i < j→en[i]?=some e→en[j]?=some f→e.born < f.born) {i j:Nat} {e f:MapEntry} (h1:en[i]?=some e) (h2:en[j]?=some f) (h:e.born=f.born):i=j:=by
 rcases zvC i j with q | q | q
 · have:=hi i j e f q h1 h2; omega
 · exact q
 · have:=hi j i f e q h2 h1; omega
theorem zxp {en:Array MapEntry} {done:List Nat} (hi:∀ (i j:Nat) (e f:MapEntry),i < j→en[i]?=some e→en[j]?=some f→e.born < f.born) (hl:∀ j∈done,j < en.size) {j:Nat} {e:MapEntry} (he:en[j]?=some e):(seenOf en done).contains e.born=true↔j∈done:=by
 unfold seenOf; simp only [List.contains_toArray,zvA,zbC]; constructor
 · rintro ⟨i,hi',hb⟩
   have hlt:=hl i hi'; rw [zcy hlt] at hb; have:=born_inj hi (zcy hlt) he (by simpa using hb); exact this▸hi'
 · intro hj; exact ⟨j,hj,by rw [he]; rfl⟩
theorem zvl {en:Array MapEntry} {done:List Nat} {j:Nat} {e:MapEntry} (he:en[j]?=some e):seenOf en (done++[j])=(seenOf en done).push e.born:=by unfold seenOf; rw [zf9,List.push_toArray]; simp [he]
theorem zkB {P:Program} {ops:Array Oper} {Q:Exit→Act→World→Prop} {i:Nat} {o:Oper} {K':Act→World→Prop} {y:Value} (hi:ops[i]?=some o) (hg:o.guard=none) (hx:(execOp a.eval o).run P w=.ok (.value y) w') (hK:K' (a.put o.dst y) w'):wpOp P ops Q i K' a w:=by unfold wpOp; simp only [hi]; rw [if_pos (by unfold Region.wanted; rw [hg])]; left; unfold Oper.wp; rw [hx]; exact hK
def opIs (ops:Array Oper) (i d:Nat) (op:Op):Prop:=(ops[i]?).map (fun o=>(o.dst,o.op,o.guard))=some (some d,op,none)
theorem opIs.get {ops:Array Oper} {i d:Nat} {op:Op} (h:opIs ops i d op):∃ o,ops[i]?=some o∧o.dst=some d∧o.op=op∧o.guard=none:=by
 unfold opIs at h
 cases ho:ops[i]? with
 | none=>rw [ho] at h; cases h
 | some o=>rw [ho] at h; simp only [zc1,zat,zaG] at h; exact ⟨o,rfl,h.1,h.2.1,h.2.2⟩
theorem range_op {P:Program} {ops:Array Oper} {Q:Exit→Act→World→Prop} {i d m:Nat} {t k e:TypeId} {es:List (List AV)} {K':Act→World→Prop} (ho:opIs ops i d (.range t (.tmp m))) (ht:P.underlying t=some (.map k e)) (hd:d < N)
  (h:NowP w0 S0 κ0 K N (fun _ _ _ _=>True) st a w) (hm:get st.t m=.mp es)
  (hK:∀ a' w' r g en clock,NowP w0 S0 κ0 K N (Rng w0 κ0 K r g es en clock []) { st with t:=(d,.v (.pointer (some ⟨r,0,none⟩))) :: st.t } a' w'→K' a' w'):wpOp P ops Q i K' a w:=by
 obtain ⟨S,κ,h1,_⟩:=h; obtain ⟨o,o1,o2,o3,o4⟩:=ho.get; have hv:=h1.slots m; rw [hm] at hv; have hc:=hv.mp_inv; generalize hy:a.tmps.getD m undef=y at hc
 cases hc with
 | mp _ g en clock hS hg hlen hb hi h2 hk hv =>
   have hrun:(execOp a.eval o).run P w=.ok (.value (.pointer (some ⟨w.heap.size,0,none⟩))) (w.alloc (.mapIter (some g) clock #[] clock)):=by have:a.eval (.tmp m)=.map (some g):=hy; simp [execOp,o3,this,run_range_map w t k e g en clock ht hg]
   refine zkB o1 o4 hrun ?_; rw [o2]
   have hw:GoodS w0 S0 κ0 K N S κ st a (w.alloc (.mapIter (some g) clock #[] clock)):=h1.world rfl rfl .of (by show _≤(w.heap.push _).size; simp) (fun q hq _=>by
    show (w.heap.push _)[q]?=_
    rw [zoC,if_neg (by omega)])
   have hS':∀ q,S q→(w.alloc (.mapIter (some g) clock #[] clock)).heap[q]?=w.heap[q]?:=fun q hq=>by show (w.heap.push _)[q]?=_; have:=h1.slt q hq; rw [zoC,if_neg (by omega)]
   refine hK _ _ w.heap.size g en clock ⟨S,κ,hw.put hd _ _ (.c (.v _)),?_⟩; refine ⟨zqy.mono ⟨hS,hg,hlen,hb,hi,h2,hk,hv⟩ (fun _ h=>h) hS',⟨by show _ < (w.heap.push _).size; simp,fun hs=>by have:=h1.slt _ hs; omega,fun b c hl hk=>?_⟩,.inl h1.grow,heap_alloc_new w _,List.nodup_nil,fun j hj=>by cases hj⟩; obtain ⟨ent,he⟩:=zb0.1 hl; have hE:=h1.ents b ent he; rw [hk] at hE; have:=hE.lt; omega
theorem zy7 {w1:World} {r:Nat} {o:Obj} {g:Nat} (h:g≠r):(setBlock w1 r o).heap[g]?=w1.heap[g]?:=by show (w1.heap.setIfInBounds r o)[g]?=_; rw [zt9,if_neg (fun e=>h e.symm)]
theorem zAL {w1:World} {r:Nat} {o:Obj} (h:r < w1.heap.size):(setBlock w1 r o).heap[r]?=some o:=by show (w1.heap.setIfInBounds r o)[r]?=_; rw [zt9,if_pos rfl,if_pos h]
theorem next_op {P:Program} {ops:Array Oper} {Q:Exit→Act→World→Prop} {i d it r g:Nat} {es:List (List AV)} {en:Array MapEntry} {clock:Nat} {done:List Nat} {K':Act→World→Prop} (ho:opIs ops i d (.next (.tmp it) false)) (hd:d < N)
  (h:NowP w0 S0 κ0 K N (Rng w0 κ0 K r g es en clock done) st a w) (hm:get st.t it=.v (.pointer (some ⟨r,0,none⟩)))
  (hend:(∀ j,j < es.length→j∈done)→∀ a' w',NowP w0 S0 κ0 K N (Rng w0 κ0 K r g es en clock done) { st with t:=(d,.tup [.v (.bool false)]) :: st.t } a' w'→K' a' w')
  (hK:∀ j k v,j < es.length→j ∉ done→es[j]?=some [k,v]→∀ a' w',NowP w0 S0 κ0 K N (Rng w0 κ0 K r g es en clock (done++[j])) { st with t:=(d,.tup [.v (.bool true),k,v]) :: st.t } a' w'→K' a' w'):wpOp P ops Q i K' a w:=by
 obtain ⟨S,κ,h1,h2⟩:=h; obtain ⟨o,o1,o2,o3,o4⟩:=ho.get; have hv:=h1.slots it; rw [hm] at hv; have hy:a.eval (.tmp it)=.pointer (some ⟨r,0,none⟩):=hv.v_inv
 have hnext:=run_next_at (P:=P) w o.type r g clock clock (seenOf en done) en clock h2.iter h2.held.at_ (fun x hx=>by
  obtain ⟨j,hj⟩:=zkh.1 hx
  exact h2.held.born j x (by simpa using hj)) (zbR _)
 rcases hnext with ⟨hsz,hrun⟩ | ⟨e,he,w1,hw1,hrun⟩
 · refine zkB (w':=w) (y:=.tuple #[.bool false]) o1 o4 (by simp [execOp,o3,hy,hrun]) ?_; rw [o2]; refine hend (fun j hj=>?_) _ _ ⟨S,κ,h1.put hd _ _ (.c (.tup _ _ rfl (fun j c x hj hx=>?_))),h2⟩
   · have hj':j < en.size:=by rw [h2.held.len]; exact hj
     have hget:=zcy hj'; refine (zxp h2.held.incr h2.lt hget).1 ?_
     cases hc:(seenOf en done).contains en[j].born with
     | true=>rfl
     | false =>
       have:en[j]∈leftOf en (seenOf en done):=by unfold leftOf; exact Array.mem_filter.2 ⟨zmN hj',by rw [hc]; rfl⟩
       have h0:=aLiAs5 hsz; rw [h0] at this; simp at this
   · match j with
     | 0=>simp at hj hx; subst hj; subst hx; exact .v _
     | j+1=>simp at hj
 · have hmem:e∈en∧(seenOf en done).contains e.born=false:=by unfold leftOf at he; have:=Array.mem_filter.1 (zeR.1 he); exact ⟨this.1,by simpa using this.2⟩
   obtain ⟨j,hj⟩:=zoy.1 hmem.1; have hjl:j < en.size:=(ziO.1 hj).1
   have hjd:j ∉ done:=fun hq=>by have:=(zxp h2.held.incr h2.lt hj).2 hq; rw [hmem.2] at this; cases this
   obtain ⟨k,v,hkv⟩:∃ k v,es[j]?=some [k,v]:=by
    have hl:j < es.length:=by rw [← h2.held.len]; exact hjl
    obtain ⟨k,v,e⟩:=h2.held.two es[j] (zbg hl); exact ⟨k,v,by rw [zaC hl,e]⟩
   have hh1:w1.heap=w.heap∧w1.os=w.os∧w1.tape=w.tape∧OutD w w1:=by
    rcases hw1 with rfl | rfl
    · exact ⟨rfl,rfl,rfl,.of⟩
    · exact ⟨rfl,rfl,rfl,.of⟩
   obtain ⟨hh,ho1,ho2,ho3⟩:=hh1; refine zkB (w':=setBlock w1 r (.mapIter (some g) clock ((seenOf en done).push e.born) clock)) (y:=.tuple #[.bool true,e.key,e.val]) o1 o4 (by simp [execOp,o3,hy,hrun]) ?_; rw [o2]; have hsame:∀ q,q≠r→(setBlock w1 r (.mapIter (some g) clock ((seenOf en done).push e.born) clock)).heap[q]?=w.heap[q]?:=fun q hq=>by rw [zy7 hq,hh]
   have hSr:∀ q,S q→q≠r:=fun q hq e=>h2.far.2.1 (e▸hq)
   have hsize:(setBlock w1 r (.mapIter (some g) clock ((seenOf en done).push e.born) clock)).heap.size=w.heap.size:=by show (w1.heap.setIfInBounds r _).size=_; rw [zoU,hh]
   have hw:GoodS w0 S0 κ0 K N S κ st a (setBlock w1 r (.mapIter (some g) clock ((seenOf en done).push e.born) clock)):=h1.world ho1 ho2 ho3 (by rw [hsize]; exact zbR _) (fun q _ hq=>by
    by_cases hqr:q=r
    · subst hqr; exact absurd ⟨h2.far,h2.mine⟩ hq
    · exact hsame q hqr)
   have hheld:=h2.held.mono (fun _ h=>h) (fun q hq=>hsame q (hSr q hq)); refine hK j k v (by rw [← h2.held.len]; exact hjl) hjd hkv _ _ ⟨S,κ,hw.put hd _ _ (.c (.tup _ _ rfl (fun i c x hi hx=>?_))),hheld,⟨by rw [hsize]; exact h2.far.1,h2.far.2⟩,h2.mine,?_,?_,?_⟩
   · match i with
     | 0=>simp at hi hx; subst hi; subst hx; exact .v _
     | 1=>simp at hi hx; subst hi; subst hx; exact hheld.key j _ v e hkv hj
     | 2=>simp at hi hx; subst hi; subst hx; exact hheld.val j k _ e hkv hj
     | i+3=>simp at hi
   · rw [zAL (by rw [hh]; exact h2.far.1),zvl hj]
   · rw [List.nodup_append]; exact ⟨h2.nodup,by simp,fun x hx y hy e=>by simp at hy; subst hy; subst e; exact hjd hx⟩
   · intro x hx; rcases zbF.1 hx with h | h
     · exact h2.lt x h
     · simp at h; subst h; exact hjl
theorem entry_op {P:Program} {ops:Array Oper} {Q:Exit→Act→World→Prop} {i d it r g j:Nat} {es:List (List AV)} {en:Array MapEntry} {clock:Nat} {done:List Nat} {k v:AV} {K':Act→World→Prop} (ho:opIs ops i d (.entry (.tmp it))) (hd:d < N)
  (h:NowP w0 S0 κ0 K N (Rng w0 κ0 K r g es en clock (done++[j])) st a w) (hm:get st.t it=.v (.pointer (some ⟨r,0,none⟩))) (hj:es[j]?=some [k,v])
  (hK:∀ a' w',NowP w0 S0 κ0 K N (Rng w0 κ0 K r g es en clock (done++[j])) { st with t:=(d,.tup [k,v]) :: st.t } a' w'→K' a' w'):wpOp P ops Q i K' a w:=by
 obtain ⟨S,κ,h1,h2⟩:=h; obtain ⟨o,o1,o2,o3,o4⟩:=ho.get; have hv:=h1.slots it; rw [hm] at hv; have hy:a.eval (.tmp it)=.pointer (some ⟨r,0,none⟩):=hv.v_inv; have hjl:j < en.size:=h2.lt j (by simp); have hje:=zcy hjl; have hit:=h2.iter; rw [zvl hje] at hit
 have hnd:(en.toList.map (·.born)).Nodup:=by rw [List.nodup_iff_pairwise_ne,zvD]; intro p q hp hq hpq; simp only [zap,zf4] at hp hq; have:=h2.held.incr p q en[p] en[q] hpq (zcy hp) (zcy hq); simp; omega
 have hrun:=run_entry_at (P:=P) w r g clock (seenOf en done) en clock en[j] hit h2.held.at_ (by simp) hnd; refine zkB (w':=w) (y:=.tuple #[en[j].key,en[j].val]) o1 o4 (by simp [execOp,o3,hy,hrun]) ?_; rw [o2]; refine hK _ _ ⟨S,κ,h1.put hd _ _ (.c (.tup _ _ rfl (fun i c x hi hx=>?_))),h2⟩
 match i with
 | 0=>simp at hi hx; subst hi; subst hx; exact h2.held.key j _ v _ hj hje
 | 1=>simp at hi hx; subst hi; subst hx; exact h2.held.val j k _ _ hj hje
 | i+2=>simp at hi
theorem zxe {P:Program} {ops:Array Oper} {Q:Exit→Act→World→Prop} {i d s n:Nat} {vs:List AV} {x:AV} {X:Sat2} {K':Act→World→Prop} (ho:opIs ops i d (.extract (.tmp s) n)) (hd:d < N)
  (h:NowP w0 S0 κ0 K N X st a w) (hm:get st.t s=.tup vs) (hx:vs[n]?=some x)
  (hK:∀ a',NowP w0 S0 κ0 K N X { st with t:=(d,x) :: st.t } a' w→K' a' w):wpOp P ops Q i K' a w:=by
 obtain ⟨S,κ,h1,h2⟩:=h; obtain ⟨o,o1,o2,o3,o4⟩:=ho.get; have hv:=h1.slots s; rw [hm] at hv; obtain ⟨arr,he,hsz,hvs⟩:=hv.tup_inv
 have hlt:n < arr.size:=by have:=(zbs.1 hx).1; omega
 refine zkB (w':=w) (y:=arr[n]) o1 o4 ?_ ?_
 · have he':a.eval (.tmp s)=.tuple arr:=he; simp [execOp,o3,he',Instr.extract,hlt]
 · rw [o2]; exact hK _ ⟨S,κ,h1.put hd _ _ (hvs n x _ hx (zcy hlt)),h2⟩
theorem NowP.freeze {X:Sat2} (hX:Stable X) (h:NowP w0 S0 κ0 K N X st a w) (hN:N≤1000) (bs:List Nat) (hb:bs.all (fun b=>decide (b < 1000) && (look st.m b).isSome)=true) (e:zct bs st=st'):NowP w0 S0 κ0 K N X st' a w:=by
 obtain ⟨S,κ,h1,h2⟩:=h; have hp:GoodF w S κ (fun b=>(look st.m b).isSome=true) N (fs st) a w:=⟨S,κ,Good.rebase h1⟩
 obtain ⟨S',κ',hg⟩:=zra hp hN (bs:=bs) (fun b hm=>by
  have:=zbQ.1 hb b hm
  simpa using this)
 subst e; refine ⟨S',κ',Good.join h1 hg,hX.step h2 hg.sup (fun g hf=>hg.far hf) (fun _ _=>rfl)⟩
theorem NowP.drop {X:Sat2} (h:NowP w0 S0 κ0 K N X st a w):NowP w0 S0 κ0 K N (fun _ _ _ _=>True) st a w:=by obtain ⟨S,κ,h1,_⟩:=h; exact ⟨S,κ,h1,trivial⟩
def seenN (w:World) (r:Nat):Nat:=match w.heap[r]? with
 | some (.mapIter _ _ s _)=>s.size
 | _=>0
theorem Rng.seen {r g:Nat} {es:List (List AV)} {en:Array MapEntry} {clock:Nat} {done:List Nat} {L:Nat→Option Ent} (h:Rng w0 κ0 K r g es en clock done S κ L w):seenN w r=done.length:=by unfold seenN; rw [h.iter]; simp [seenOf]
theorem ztY {n:Nat} {l:List Nat} (hd:l.Nodup) (hl:∀ j∈l,j < n):l.length≤n:=by
 induction n generalizing l with
 | zero =>
   cases l with
   | nil=>simp
   | cons j r=>exact absurd (hl j (by simp)) (by omega)
 | succ n ih =>
   have h1:=ih (l:=l.erase n) (hd.erase n) (fun j hj=>by
    have hm:=(List.Nodup.mem_erase_iff hd).1 hj; have:=hl j hm.2; have:=hm.1
    omega)
   have h2:l.length≤(l.erase n).length+1:=by rw [List.length_erase]; split <;> omega
   omega
theorem rng_loop {P:Program} {bl id:Nat} {ops:Array Oper} {BODY:Code} {it d1 d2 r g:Nat} {es:List (List AV)} {en:Array MapEntry} {clock:Nat} {stf:List Nat→St} (ks:List Nat)
  (hsz:ops.size=2) (o0:opIs ops 0 d1 (.next (.tmp it) false)) (o1:opIs ops 1 d2 (.extract (.tmp d1) 0)) (hd1:d1 < N) (hd2:d2 < N)
  (hit:∀ done,get (stf done).t it=.v (.pointer (some ⟨r,0,none⟩)))
  (htrim:∀ done x y,trim ks [] { stf done with t:=(d2,y) :: (d1,x) :: (stf done).t }=stf done)
  (hbody:∀ done j k v,done.Nodup→(∀ i∈done,i < es.length)→j ∉ done→es[j]?=some [k,v]→∀ a w,NowP w0 S0 κ0 K N (Rng w0 κ0 K r g es en clock (done++[j])) (stf done) a w→BODY.wp P (fun e a' w'=>e=.normal∧NowP w0 S0 κ0 K N (Rng w0 κ0 K r g es en clock (done++[j])) (stf (done++[j])) a' w') a w)
  (h:NowP w0 S0 κ0 K N (Rng w0 κ0 K r g es en clock []) (stf []) a w) {Q:Exit→Act→World→Prop}
  (hQ:∀ done,done.Nodup→(∀ i∈done,i < es.length)→(∀ i,i < es.length→i∈done)→∀ a' w',NowP w0 S0 κ0 K N (Rng w0 κ0 K r g es en clock done) (stf done) a' w'→Q .normal a' w'):(Code.block bl (.loop (.seq (.region id ops false) (.seq (.cond (.tmp d2) .skip (.exit bl)) BODY)))).wp P Q a w:=by
 refine wp_block (wp_loop (fun a w=>∃ done,NowP w0 S0 κ0 K N (Rng w0 κ0 K r g es en clock done) (stf done) a w) (fun _ w=>es.length - seenN w r) ⟨[],h⟩ ?_)
 rintro a w ⟨done,hn⟩
 have hprop:done.Nodup∧(∀ i∈done,i < es.length)∧seenN w r=done.length:=by obtain ⟨S,κ,_,hr⟩:=hn; exact ⟨hr.nodup,fun i hi=>by rw [← hr.held.len]; exact hr.lt i hi,hr.seen⟩
 obtain ⟨p1,p2,p3⟩:=hprop; refine wp_seq (wp_region ?_); rw [hsz]; rw [show List.range 2=[0,1] from rfl,wpOps_cons]; refine next_op o0 hd1 hn (hit done) (fun hall a1 w1 h1=>?_) (fun j k v hj hjd hkv a1 w1 h1=>?_)
 · rw [wpOps_cons]; refine zxe (x:=.v (.bool false)) (vs:=[.v (.bool false)]) o1 hd2 h1 (by simp [get]) rfl (fun a2 h2=>?_); refine wp_seq (wp_cond (h2.bool (b:=false) (by simp [get])) ?_); rw [if_neg (by simp)]; refine wp_exit ?_; have:=hQ done p1 p2 hall a2 w1 (h2.trim Rng.stable ks [] (htrim done _ _)); simpa [Exit.then,Exit.inBlock] using this
 · rw [wpOps_cons]; refine zxe (x:=.v (.bool true)) (vs:=[.v (.bool true),k,v]) o1 hd2 h1 (by simp [get]) rfl (fun a2 h2=>?_); refine wp_seq (wp_cond (h2.bool (b:=true) (by simp [get])) ?_); rw [if_pos rfl]; refine wp_skip ?_; refine wp_mono (hbody done j k v p1 p2 hjd hkv a2 w1 (h2.trim Rng.stable ks [] (htrim done _ _))) ?_
   rintro e a3 w3 ⟨rfl,h3⟩
   refine ⟨⟨_,h3⟩,?_⟩; obtain ⟨S,κ,_,hr⟩:=h3; have e3:seenN w3 r=done.length+1:=by rw [hr.seen]; simp
   have hle:done.length+1≤es.length:=by have:=ztY hr.nodup (n:=es.length) (fun i hi=>by rw [← hr.held.len]; exact hr.lt i hi); simpa using this
   omega
end
section
variable {w0:World} {S0:Nat→Prop} {κ0:Kap} {K:Nat→Prop} {N:Nat} {S S':Nat→Prop} {κ κd κ2:Kap} {a a':Act} {w w':World} {st:St} {t:Tab} {m mr mr':Mem} {B:Nat} {e0 e0':Ent}
def lentK (κ κd:Kap) (mr:Mem) (B:Nat):Kap:=fun b=>if b=B+1000 then κd B else if (look mr b).isSome=true then κd b else κ b
def lentM (e0:Ent) (mr m:Mem) (B:Nat):Mem:=((B+1000,e0) :: mr)++m
theorem zxn {b:Nat} (h:(look (lentM e0 mr m B) b).isSome=true):(b=B+1000∧look (lentM e0 mr m B) b=some e0∧lentK κ κd mr B b=κd B)∨(b≠B+1000∧(look mr b).isSome=true∧look (lentM e0 mr m B) b=look mr b∧lentK κ κd mr B b=κd b)∨(b≠B+1000∧¬ (look mr b).isSome=true∧(look m b).isSome=true∧look (lentM e0 mr m B) b=look m b∧lentK κ κd mr B b=κ b):=by
 unfold lentM at h ⊢; rw [zm3] at h ⊢; unfold lentK; simp only [look] at h ⊢; by_cases hb:b=B+1000
 · subst hb; left; simp
 · simp only [if_neg hb] at h ⊢; by_cases hr:(look mr b).isSome=true
   · simp only [hr,if_true] at h ⊢; exact .inr (.inl ⟨hb,trivial,trivial,trivial⟩)
   · simp only [hr] at h ⊢; exact .inr (.inr ⟨hb,by simp,by simpa using h,by simp,by simp⟩)
theorem look_two {b:Nat} (hb:(look ((B,e0) :: mr) b).isSome=true):b=B∨(look mr b).isSome=true:=by
 simp only [look] at hb; split at hb
 · exact .inl (by assumption)
 · exact .inr hb
theorem GoodS.lend (h:GoodS w0 S0 κ0 K N S κ ⟨t,m⟩ a w) (hF:FarObj S w κd (look ((B,e0) :: mr)))
  (hfar:∀ b g c,(look ((B,e0) :: mr) b).isSome=true→κd b=some (g,c)→Far S κ (look m) w g) (hmr:∀ b,(look mr b).isSome=true→b < 1000∧b≠B∧look m b=none) (hm:∀ b,(look m b).isSome=true→b < 1000)
  (ho:∀ b ent,look ((B,e0) :: mr) b=some ent→ent.box=true→∀ cs∈ent.es,∀ x∈cs,only (mr.map (·.1)) x=true) {k0 z g c:Nat} (hk0:a.tmps.getD k0 undef=.pointer (some ⟨g,0,none⟩)) (hκ:κd B=some (g,c)):GoodS w S (lentK κ κd mr B) (fun b=>(look (lentM e0 mr m B) b).isSome=true) N S (lentK κ κd mr B) ⟨(k0,.loc (B+1000) z 0 0) :: t,lentM e0 mr m B⟩ a w:=by
 have hcase:=@zxn κ κd m mr B e0; have hB0:(look ((B,e0) :: mr) B).isSome=true:=by simp [look]
 have hmd:∀ b,(look mr b).isSome=true→(look ((B,e0) :: mr) b).isSome=true:=fun b hb=>by simp only [look]; rw [if_neg (hmr b hb).2.1]; exact hb
 have hin:∀ b,(look mr b).isSome=true→(look (lentM e0 mr m B) b).isSome=true∧lentK κ κd mr B b=κd b:=fun b hb=>by
  have hne:b≠B+1000:=by have:=(hmr b hb).1; omega
  unfold lentM lentK; rw [zm3]; simp [look,hne,hb]
 have hnr:∀ b,(look m b).isSome=true→¬ (look mr b).isSome=true:=fun b hb hr=>by rw [(hmr b hr).2.2] at hb; cases hb
 have hin2:∀ b,(look m b).isSome=true→(look (lentM e0 mr m B) b).isSome=true∧lentK κ κd mr B b=κ b:=fun b hb=>by
  have hne:b≠B+1000:=by have:=hm b hb; omega
  have:=hnr b hb; unfold lentM lentK; rw [zm3]; simp [look,hne,this,hb]
 have desk:∀ b ent,look ((B,e0) :: mr) b=some ent→EntAt S (lentK κ κd mr B) (fun b=>(look (lentM e0 mr m B) b).isSome=true) w (κd b) ent:=fun b ent hb=>by
  have hE:=hF.ents b ent hb
  have h1:EntAt S κd (fun b=>(look mr b).isSome=true) w (κd b) ent:=zr2 hE (fun _ h=>h) (fun g c hk=>by rw [hk] at hE; exact hE.notS) (fun hbx cs hcs x hx v hv=>zsj (fun b hb=>zfp (by simpa [ids] using hb)) (ho b ent hb hbx cs hcs x hx) hv)
  exact h1.mono (fun _ h=>h) (fun _ _=>rfl) (fun b hb=>(hin b hb).1) (fun b hb=>(hin b hb).2) (fun g c hk=>⟨rfl,by rw [hk] at hE; exact hE.notS⟩)
 have hold:∀ b,(look (lentM e0 mr m B) b).isSome=true→(∃ bd,(look ((B,e0) :: mr) bd).isSome=true∧lentK κ κd mr B b=κd bd∧((b=B+1000∧bd=B)∨(b≠B+1000∧bd=b∧(look mr b).isSome=true)))∨((look m b).isSome=true∧lentK κ κd mr B b=κ b):=fun b hb=>by
  rcases hcase hb with ⟨q1,_,q3⟩ | ⟨q1,q2,_,q4⟩ | ⟨q1,_,q3,_,q5⟩
  · exact .inl ⟨B,hB0,q3,.inl ⟨q1,rfl⟩⟩
  · exact .inl ⟨b,hmd b q2,q4,.inr ⟨q1,rfl,q2⟩⟩
  · exact .inr ⟨q3,q5⟩
 exact {
  defers:=h.defers
  size:=h.size
  os:=rfl
  tape:=rfl
  output:=.of
  grow:=zbR _
  old:=fun _ _ _=>rfl
  sup:=fun _ h=>h
  snew:=fun _ h=>.inl h
  slt:=h.slt
  par:=fun _ _=>rfl
  parK:=fun _ _ h=>h
  own:=fun b g c hb hl hk=>.inr ⟨b,c,hb,hl,hk⟩
  inj:=fun b b' g c c' hl hl' hk hk'=>by
   rcases hold b hl with ⟨bd,d1,d2,d3⟩ | ⟨d1,d2⟩
   · rw [d2] at hk; rcases hold b' hl' with ⟨bd',d1',d2',d3'⟩ | ⟨d1',d2'⟩
     · rw [d2'] at hk'; have:=hF.inj bd bd' g c c' d1 d1' hk hk'; subst this; rcases d3 with ⟨p1,p2⟩ | ⟨p1,p2,p3⟩
       · rcases d3' with ⟨p1',_⟩ | ⟨_,p2',p3'⟩
         · rw [p1,p1']
         · rw [← p2',p2] at p3'; exact absurd rfl (hmr B p3').2.1
       · rcases d3' with ⟨_,p2'⟩ | ⟨_,p2',_⟩
         · rw [← p2,p2'] at p3; exact absurd rfl (hmr B p3).2.1
         · rw [← p2,← p2']
     · rw [d2'] at hk'; exact absurd hk' ((hfar bd g c d1 hk).2.2 b' c' d1')
   · rw [d2] at hk; rcases hold b' hl' with ⟨bd',d1',d2',_⟩ | ⟨d1',d2'⟩
     · rw [d2'] at hk'; exact absurd hk ((hfar bd' g c' d1' hk').2.2 b c d1)
     · rw [d2'] at hk'; exact h.inj b b' g c c' d1 d1' hk hk'
  ents:=fun b ent hb=>by
   have hbs:(look (lentM e0 mr m B) b).isSome=true:=by rw [show look (lentM e0 mr m B) b=some ent from hb]; rfl
   rcases hcase hbs with ⟨q1,q2,q3⟩ | ⟨q1,q2,q3,q4⟩ | ⟨q1,q2,q3,q4,q5⟩
   · rw [q3]; rw [q2] at hb; injection hb with hb; subst hb; exact desk B e0 (by simp [look])
   · rw [q4]; rw [q3] at hb; exact desk b ent (by simp only [look]; rw [if_neg (hmr b q2).2.1]; exact hb)
   · rw [q5]; rw [q4] at hb; have hE:=h.ents b ent hb; exact hE.mono (fun _ h=>h) (fun _ _=>rfl) (fun b hb=>(hin2 b hb).1) (fun b hb=>(hin2 b hb).2) (fun g c hk=>⟨rfl,by rw [hk] at hE; exact hE.notS⟩)
  slots:=fun k=>by
   simp only [get]; split
   · rename_i e; subst e; rw [hk0]; have:=VRel.loc (S:=S) (κ:=lentK κ κd mr B) (D:=fun b=>(look (lentM e0 mr m B) b).isSome=true) (w:=w) (B+1000) z 0 0 g c (by unfold lentM; rw [zm3]; simp [look]) (by unfold lentK; simp [hκ]); simpa using this
   · exact (h.slots k).mono (fun _ h=>h) (fun _ _=>rfl) (fun b hb=>(hin2 b hb).1) (fun b hb=>(hin2 b hb).2) }
def backK (κ0 κ2:Kap):Kap:=fun b=>if b < 1000 then κ2 b else κ0 b
def homeK (κd κ2:Kap) (B:Nat):Kap:=fun b=>if b=B then κd B else κ2 b
theorem lent_back {i:Nat} {M:Nat→Option Mem} {κs:Nat→Kap} (h:GoodS w0 S0 κ0 K N S κ ⟨t,m⟩ a w) (ho:Objs w0 κ0 K S κ (look m) w M κs) (hi:M i=some ((B,e0) :: mr)) (hmr:∀ b,(look mr b).isSome=true→b < 1000∧b≠B∧look m b=none)
  (hm:∀ b,(look m b).isSome=true→b < 1000) {st2:St} (h2:GoodS w S (lentK κ (κs i) mr B) (fun b=>(look (lentM e0 mr m B) b).isSome=true) N S' κ2 st2 a' w')
  (hd:∀ b ent,look ((B+1000,e0') :: mr') b=some ent→look st2.m b=some ent) (hmr':∀ b,(look mr' b).isSome=true→b < 1000∧b≠B)
  (honly:∀ b ent,look ((B+1000,e0') :: mr') b=some ent→ent.box=true→∀ cs∈ent.es,∀ x∈cs,only (mr'.map (·.1)) x=true) {stN:St} (ks drop:List Nat) (e:trim ks drop st2=stN)
  (hN:∀ b,(look stN.m b).isSome=true→(look st2.m b).isSome=true∧¬ (look ((B+1000,e0') :: mr') b).isSome=true∧b < 1000):GoodS w0 S0 κ0 K N S' (backK κ0 κ2) stN a' w'∧Objs w0 κ0 K S' (backK κ0 κ2) (look stN.m) w' (fun j=>if j=i then some ((B,e0') :: mr') else M j) (fun j=>if j=i then homeK (κs i) κ2 B else κs j):=by
 have hcase:=@zxn κ (κs i) m mr B e0
 have hmd:∀ b,(look mr b).isSome=true→(look ((B,e0) :: mr) b).isSome=true:=fun b hb=>by simp only [look]; rw [if_neg (hmr b hb).2.1]; exact hb
 have hmine:∀ b g c,(look (lentM e0 mr m B) b).isSome=true→lentK κ (κs i) mr B b=some (g,c)→Mine w0 κ0 K g:=fun b g c hb hk=>by
  rcases hcase hb with ⟨q1,_,q3⟩ | ⟨q1,q2,_,q4⟩ | ⟨q1,_,q3,_,q5⟩
  · rw [q3] at hk; exact (ho.far i _ B g c hi (by simp [look]) hk).2
  · rw [q4] at hk; exact (ho.far i _ b g c hi (hmd b q2) hk).2
  · rw [q5] at hk; exact h.own b g c (hm b q3) q3 hk
 have hM2:∀ g,Mine w (lentK κ (κs i) mr B) (fun b=>(look (lentM e0 mr m B) b).isSome=true) g→Mine w0 κ0 K g:=fun g hg=>by
  rcases hg with hg | ⟨b,c,_,hb,hk⟩
  · exact .inl (zdy h.grow hg)
  · exact hmine b g c hb hk
 have hpar:κ2 (B+1000)=κs i B:=by have:=h2.par (B+1000) (by omega); rw [this]; unfold lentK; simp
 have h3:=h2.trim ks drop; rw [e] at h3
 have hother:∀ j mj b g c,j≠i→M j=some mj→(look mj b).isSome=true→κs j b=some (g,c)→w'.heap[g]?=w.heap[g]?∧g < w.heap.size∧¬ S' g∧¬ Mine w (lentK κ (κs i) mr B) (fun b=>(look (lentM e0 mr m B) b).isSome=true) g:=fun j mj b g c hj hM hb hk=>by
  obtain ⟨⟨f1,f2,f3⟩,_⟩:=ho.far j mj b g c hM hb hk
  have hno:∀ b' c',(look (lentM e0 mr m B) b').isSome=true→lentK κ (κs i) mr B b'≠some (g,c'):=fun b' c' hb' hk'=>by
   rcases hcase hb' with ⟨q1,_,q3⟩ | ⟨q1,q2,_,q4⟩ | ⟨q1,_,q3,_,q5⟩
   · rw [q3] at hk'; exact hj (ho.dis j i mj _ b B g c c' hM hi hb (by simp [look]) hk hk')
   · rw [q4] at hk'; exact hj (ho.dis j i mj _ b b' g c c' hM hi hb (hmd b' q2) hk hk')
   · rw [q5] at hk'; exact f3 b' c' q3 hk'
  have hnm:¬ Mine w (lentK κ (κs i) mr B) (fun b=>(look (lentM e0 mr m B) b).isSome=true) g:=fun hg=>by
   rcases hg with hg | ⟨b',c',_,hb',hk'⟩
   · omega
   · exact hno b' c' hb' hk'
  refine ⟨h2.old g f1 hno,f1,fun hs=>?_,hnm⟩; rcases h2.snew g hs with q | q
  · exact f2 q
  · exact hnm q
 have hnear:∀ b g c,(look stN.m b).isSome=true→backK κ0 κ2 b=some (g,c)→κ2 b=some (g,c)∧Mine w (lentK κ (κs i) mr B) (fun b=>(look (lentM e0 mr m B) b).isSome=true) g:=fun b g c hb hk=>by obtain ⟨q1,_,q3⟩:=hN b hb; unfold backK at hk; rw [if_pos q3] at hk; exact ⟨hk,h2.own b g c q3 q1 hk⟩
 have hκ:∀ b,(look stN.m b).isSome=true→backK κ0 κ2 b=κ2 b:=fun b hb=>by unfold backK; rw [if_pos (hN b hb).2.2]
 have hgood:GoodS w0 S0 κ0 K N S' (backK κ0 κ2) stN a' w':={
  defers:=h2.defers
  size:=h2.size
  os:=h2.os.trans h.os
  tape:=h2.tape.trans h.tape
  output:=h.output.trans h2.output
  grow:=zdy h.grow h2.grow
  old:=fun g hg hK=>by
   rw [h2.old g (zlF hg h.grow) ?_]
   · exact h.old g hg hK
   · intro b c hb hk; rcases hmine b g c hb hk with q | ⟨b',c',_,q2,q3⟩
     · omega
     · exact hK b' c' q2 q3
  sup:=fun g hg=>h2.sup g (h.sup g hg)
  snew:=fun g hg=>by
   rcases h2.snew g hg with q | q
   · exact h.snew g q
   · exact .inr (hM2 g q)
  slt:=h2.slt
  par:=fun b hb=>by unfold backK; rw [if_neg (by omega)]
  parK:=fun b hb hl=>by have:=(hN b hl).2.2; omega
  own:=fun b g c _ hl hk=>hM2 g (hnear b g c hl hk).2
  inj:=fun b b' g c c' hl hl' hk hk'=>h2.inj b b' g c c' (hN b hl).1 (hN b' hl').1 (hnear b g c hl hk).1 (hnear b' g c' hl' hk').1
  ents:=fun b ent hb=>by
   have hbs:(look stN.m b).isSome=true:=by simp [hb]
   rw [hκ b hbs]; have hE:=h3.ents b ent hb; exact hE.mono (fun _ h=>h) (fun _ _=>rfl) (fun _ h=>h) hκ (fun g c hk=>⟨rfl,by rw [hk] at hE; exact hE.notS⟩)
  slots:=fun k=>(h3.slots k).mono (fun _ h=>h) (fun _ _=>rfl) (fun _ h=>h) hκ }
 have hB1:look ((B+1000,e0') :: mr') (B+1000)=some e0':=by simp [look]
 have hr1:∀ b,(look mr' b).isSome=true→look ((B+1000,e0') :: mr') b=look mr' b∧homeK (κs i) κ2 B b=κ2 b:=fun b hb=>by obtain ⟨q1,q2⟩:=hmr' b hb; unfold homeK; simp only [look]; exact ⟨if_neg (by omega),if_neg q2⟩
 have name:∀ b ent,look ((B,e0') :: mr') b=some ent→∃ b2,look ((B+1000,e0') :: mr') b2=some ent∧homeK (κs i) κ2 B b=κ2 b2∧((b=B∧b2=B+1000)∨(b2=b∧(look mr' b).isSome=true)):=fun b ent hb=>by
  simp only [look] at hb; split at hb
  · rename_i hbB; injection hb with hb; subst hb; refine ⟨B+1000,hB1,?_,.inl ⟨hbB,rfl⟩⟩; unfold homeK; rw [if_pos hbB,hpar]
  · have hs:(look mr' b).isSome=true:=by simp [hb]
    exact ⟨b,by rw [(hr1 b hs).1,hb],(hr1 b hs).2,.inr ⟨rfl,hs⟩⟩
 have sees:∀ b2 ent,look ((B+1000,e0') :: mr') b2=some ent→(look st2.m b2).isSome=true:=fun b2 ent hb=>by simp [hd b2 ent hb]
 have hobj:FarObj S' w' (homeK (κs i) κ2 B) (look ((B,e0') :: mr')):=⟨fun b ent hb=>by
  obtain ⟨b2,n1,n2,n3⟩:=name b ent hb; have hE:=h2.ents b2 ent (hd b2 ent n1); rw [n2]
  have h1:EntAt S' κ2 (fun b=>(look mr' b).isSome=true) w' (κ2 b2) ent:=zr2 hE (fun _ h=>h) (fun g c hk=>by rw [hk] at hE; exact hE.notS) (fun hbx cs hcs x hx v hv=>zsj (fun b hb=>zfp (by simpa [ids] using hb)) (honly b2 ent n1 hbx cs hcs x hx) hv)
  refine h1.mono (fun _ h=>h) (fun _ _=>rfl) (fun b hb=>?_) (fun b hb=>(hr1 b hb).2) (fun g c hk=>⟨rfl,by rw [hk] at hE; exact hE.notS⟩); simp only [look]; rw [if_neg (hmr' b hb).2]
  exact hb,fun b b' g c c' hb hb' hk hk'=>by
  obtain ⟨ent,he⟩:=zb0.1 hb; obtain ⟨ent',he'⟩:=zb0.1 hb'; obtain ⟨b2,n1,n2,n3⟩:=name b ent he; obtain ⟨b2',n1',n2',n3'⟩:=name b' ent' he'; rw [n2] at hk; rw [n2'] at hk'; have:=h2.inj b2 b2' g c c' (sees b2 ent n1) (sees b2' ent' n1') hk hk'; subst this; rcases n3 with ⟨p1,p2⟩ | ⟨p1,p2⟩
  · rcases n3' with ⟨p1',_⟩ | ⟨p1',p2'⟩
    · rw [p1,p1']
    · have:=(hmr' b' p2').1; omega
  · rcases n3' with ⟨_,p2'⟩ | ⟨p1',_⟩
    · have:=(hmr' b p2).1; omega
    · rw [← p1,← p1']⟩
 refine ⟨hgood,⟨fun j mj hj=>?_,fun j mj b g c hj hb hk=>?_,fun j j' mj mj' b b' g c c' hj hj' hb hb' hk hk'=>?_⟩⟩
 · split at hj
   · rename_i hji; injection hj with hj; subst hj; rw [if_pos hji]; exact hobj
   · rename_i hji; rw [if_neg hji]; refine (ho.obj j mj hj).mono (fun g hg=>h2.sup g hg) (fun g hg=>?_) (fun b g c hb hk=>?_)
     · refine h2.old g (h.slt g hg) (fun b c hb hk=>?_); rcases hcase hb with ⟨q1,_,q3⟩ | ⟨q1,q2,_,q4⟩ | ⟨q1,_,q3,_,q5⟩
       · rw [q3] at hk; exact (ho.far i _ B g c hi (by simp [look]) hk).1.2.1 hg
       · rw [q4] at hk; exact (ho.far i _ b g c hi (hmd b q2) hk).1.2.1 hg
       · rw [q5] at hk; obtain ⟨ent,he⟩:=zb0.1 q3; have hE:=h.ents b ent he; rw [hk] at hE; exact hE.notS hg
     · obtain ⟨q1,_,q3,_⟩:=hother j mj b g c hji hj hb hk; exact ⟨q1,q3⟩
 · split at hj
   · rename_i hji; injection hj with hj; subst hj; rw [if_pos hji] at hk; obtain ⟨ent,he⟩:=zb0.1 hb; obtain ⟨b2,n1,n2,n3⟩:=name b ent he; rw [n2] at hk; have hE:=h2.ents b2 ent (hd b2 ent n1); rw [hk] at hE; refine ⟨⟨hE.lt,hE.notS,fun b' c' hl' hk'=>?_⟩,?_⟩
     · obtain ⟨q1,q2,q3⟩:=hN b' hl'; have:=h2.inj b' b2 g c' c q1 (sees b2 ent n1) (hnear b' g c' hl' hk').1 hk; subst this; exact q2 (by simp [n1])
     · rcases n3 with ⟨p1,p2⟩ | ⟨p1,p2⟩
       · subst p2; rw [hpar] at hk; exact (ho.far i _ B g c hi (by simp [look]) hk).2
       · subst p1; exact hM2 g (h2.own b2 g c (hmr' b2 p2).1 (sees b2 ent n1) hk)
   · rename_i hji; rw [if_neg hji] at hk; obtain ⟨_,q2,q3,q4⟩:=hother j mj b g c hji hj hb hk; refine ⟨⟨zlF q2 h2.grow,q3,fun b' c' hl' hk'=>q4 (hnear b' g c' hl' hk').2⟩,(ho.far j mj b g c hj hb hk).2⟩
 ·
  have cross:∀ b b' g c c' mj' j',j'≠i→M j'=some mj'→(look ((B,e0') :: mr') b).isSome=true→(look mj' b').isSome=true→homeK (κs i) κ2 B b=some (g,c)→κs j' b'=some (g,c')→False:=fun b b' g c c' mj' j' hji hM hb hb' hk hk'=>by
   obtain ⟨ent,he⟩:=zb0.1 hb; obtain ⟨b2,n1,n2,n3⟩:=name b ent he; rw [n2] at hk; rcases n3 with ⟨p1,p2⟩ | ⟨p1,p2⟩
   · subst p2; rw [hpar] at hk; exact hji (ho.dis j' i mj' _ b' B g c' c hM hi hb' (by simp [look]) hk' hk)
   · subst p1; exact (hother j' mj' b' g c' hji hM hb' hk').2.2.2 (h2.own b2 g c (hmr' b2 p2).1 (sees b2 ent n1) hk)
  split at hj
  · rename_i hji; obtain rfl:=Option.some.inj hj; rw [if_pos hji] at hk; split at hj'
    · rename_i hji'; rw [hji,hji']
    · rename_i hji'; rw [if_neg hji'] at hk'; exact (cross b b' g c c' mj' j' hji' hj' hb hb' hk hk').elim
  · rename_i hji; rw [if_neg hji] at hk; split at hj'
    · rename_i hji'; obtain rfl:=Option.some.inj hj'; rw [if_pos hji'] at hk'; exact (cross b' b g c' c mj j hji hj hb' hb hk' hk).elim
    · rename_i hji'; rw [if_neg hji'] at hk'; exact ho.dis j j' mj mj' b b' g c c' hj hj' hb hb' hk hk'
end
section
variable {w0:World} {S0:Nat→Prop} {κ0:Kap} {K:Nat→Prop} {N:Nat} {S:Nat→Prop} {κ:Kap} {a:Act} {w:World} {st:St}
theorem zxX {P:Program} {t e:TypeId} {A:Option Addr} {l c:Nat} (hu:P.underlying t=some (.slice e)):(Op.equal t (.slice A l c) (.slice none 0 0)).run P w=.ok A.isNone w:=by
 have:∀ d,(Op.equalIn (d+1) t (.slice A l c) (.slice none 0 0)).run P w=.ok A.isNone w:=by intro d; cases A <;> simp only [Op.equalIn,Sem.run_bind,run_underlying hu,Result.andThen_ok,Sem.run_pure] <;> rfl
 exact this 9999
theorem nil_op {P:Program} {ops:Array Oper} {Q:Exit→Act→World→Prop} {i d s:Nat} {t u e:TypeId} {z:Nat} {es:List (List AV)} {X:Sat2} {K':Act→World→Prop} (ho:opIs ops i d (.binOp .eql t (.tmp s) (.const (.slice none 0 0)) u)) (hu:P.underlying t=some (.slice e)) (hd:d < N)
  (h:NowP w0 S0 κ0 K N X st a w) (hm:get st.t s=.sl z es)
  (hK:∀ b:Bool,(b=true→es=[])→NowP w0 S0 κ0 K N X { st with t:=(d,.v (.bool b)) :: st.t } (a.put (some d) (.bool b)) w→K' (a.put (some d) (.bool b)) w):wpOp P ops Q i K' a w:=by
 obtain ⟨S,κ,h1,h2⟩:=h; obtain ⟨o,o1,o2,o3,o4⟩:=ho.get; have hv:=h1.slots s; rw [hm] at hv
 obtain ⟨A,l,c,hy,hlen⟩:∃ A l c,a.tmps.getD s undef=.slice A l c∧(A.isNone=true→es=[]):=by
  generalize a.tmps.getD s undef=y at hv
  cases hv with
  | c h =>
    cases h with
    | sl _ _ A len cap u hlen hcap hz ha hr =>
      refine ⟨A,len,cap,rfl,fun hn=>?_⟩; rcases ha with h0 | ⟨x,hx,_⟩
      · exact h0
      · rw [hx] at hn; cases hn
 have heq:=zxX (w:=w) (P:=P) (A:=A) (l:=l) (c:=c) hu; have hy':a.eval (.tmp s)=.slice A l c:=hy; refine zkB (w':=w) (y:=.bool A.isNone) o1 o4 (by simp [execOp,o3,hy',show a.eval (.const (.slice none 0 0))=.slice none 0 0 from rfl,eqGuard,binOp,heq]) ?_; rw [o2]; exact hK _ hlen ⟨S,κ,h1.put hd _ _ (.c (.v _)),h2⟩
end
end Go.Ab
end
