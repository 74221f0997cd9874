/- marking.walk by hand: its shape, one step, and the markers' desks. -/
import Derived.Test.YtlecnobdfhlmnaaGreatJ1
import Derived.Control
import Derived.Test.YtlecnobdfhlmnaaGreatAb10
import Derived.Test.YtlecnobdfhlmnaaGreatXAnn
set_option linter.unusedSimpArgs false
set_option linter.unusedVariables false
noncomputable section
namespace Go.Proofs.YtlecnobdfhlmnaaGreat
open Go.Ab
set_option maxRecDepth 100000
def wkC:Code:=(zaN.fn.body).getD .skip
def wkO (j:Nat):Array Oper:=opsAt j wkC
def wkD (j:Nat):Bool:=zoN j wkC
theorem wk_hb:zaN.fn.body=some wkC:=by kernel_rfl
theorem wk_shape:wkC=(.seq (.region 0 (wkO 0) (wkD 0)) (.seq (.region 1 (wkO 1) (wkD 1)) (.seq (.seq (.region 2 (wkO 2) (wkD 2)) (.block 0 (.loop (.seq (.region 3 (wkO 3) (wkD 3)) (.seq (.cond (.tmp 23) .skip (.exit 0)) (.seq (.block 1 (.seq (.region 4 (wkO 4) (wkD 4)) (.region 5 (wkO 5) (wkD 5)))) (.region 6 (wkO 6) (wkD 6)))))))) (.seq (.region 7 (wkO 7) (wkD 7)) (.seq (.seq (.region 8 (wkO 8) (wkD 8)) (.block 2 (.loop (.seq (.region 9 (wkO 9) (wkD 9)) (.seq (.cond (.tmp 41) .skip (.exit 2)) (.seq (.block 3 (.seq (.region 10 (wkO 10) (wkD 10)) (.seq (.region 11 (wkO 11) (wkD 11)) (.block 4 (.seq (.region 12 (wkO 12) (wkD 12)) (.cond (.tmp 46) (.seq (.region 13 (wkO 13) (wkD 13)) (.seq (.region 14 (wkO 14) (wkD 14)) (.cond (.tmp 55) (.region 15 (wkO 15) (wkD 15)) .skip))) (.seq (.region 16 (wkO 16) (wkD 16)) (.cond (.tmp 60) (.region 17 (wkO 17) (wkD 17)) (.seq (.region 18 (wkO 18) (wkD 18)) (.cond (.tmp 70) (.seq (.region 19 (wkO 19) (wkD 19)) (.seq (.seq (.region 20 (wkO 20) (wkD 20)) (.cond (.tmp 80) (.exit 3) .skip)) (.seq (.region 21 (wkO 21) (wkD 21)) (.seq (.region 22 (wkO 22) (wkD 22)) (.cond (.tmp 88) (.region 23 (wkO 23) (wkD 23)) (.region 24 (wkO 24) (wkD 24))))))) .skip)))))))))) (.region 25 (wkO 25) (wkD 25)))))))) (.seq (.region 26 (wkO 26) (wkD 26)) .ret)))))):=by kernel_rfl
theorem wk_r0:regOf 0 wkC=some (.region 0 (wkO 0) (wkD 0)):=by kernel_rfl
theorem wk_r1:regOf 1 wkC=some (.region 1 (wkO 1) (wkD 1)):=by kernel_rfl
theorem wk_r2:regOf 2 wkC=some (.region 2 (wkO 2) (wkD 2)):=by kernel_rfl
theorem wk_r3:regOf 3 wkC=some (.region 3 (wkO 3) (wkD 3)):=by kernel_rfl
theorem wk_r4:regOf 4 wkC=some (.region 4 (wkO 4) (wkD 4)):=by kernel_rfl
theorem wk_r5:regOf 5 wkC=some (.region 5 (wkO 5) (wkD 5)):=by kernel_rfl
theorem wk_r6:regOf 6 wkC=some (.region 6 (wkO 6) (wkD 6)):=by kernel_rfl
theorem wk_r7:regOf 7 wkC=some (.region 7 (wkO 7) (wkD 7)):=by kernel_rfl
theorem wk_r8:regOf 8 wkC=some (.region 8 (wkO 8) (wkD 8)):=by kernel_rfl
theorem wk_r9:regOf 9 wkC=some (.region 9 (wkO 9) (wkD 9)):=by kernel_rfl
theorem wk_r10:regOf 10 wkC=some (.region 10 (wkO 10) (wkD 10)):=by kernel_rfl
theorem wk_r11:regOf 11 wkC=some (.region 11 (wkO 11) (wkD 11)):=by kernel_rfl
theorem wk_r12:regOf 12 wkC=some (.region 12 (wkO 12) (wkD 12)):=by kernel_rfl
theorem wk_r13:regOf 13 wkC=some (.region 13 (wkO 13) (wkD 13)):=by kernel_rfl
theorem wk_r14:regOf 14 wkC=some (.region 14 (wkO 14) (wkD 14)):=by kernel_rfl
theorem wk_r15:regOf 15 wkC=some (.region 15 (wkO 15) (wkD 15)):=by kernel_rfl
theorem wk_r16:regOf 16 wkC=some (.region 16 (wkO 16) (wkD 16)):=by kernel_rfl
theorem wk_r17:regOf 17 wkC=some (.region 17 (wkO 17) (wkD 17)):=by kernel_rfl
theorem wk_r18:regOf 18 wkC=some (.region 18 (wkO 18) (wkD 18)):=by kernel_rfl
theorem wk_r19:regOf 19 wkC=some (.region 19 (wkO 19) (wkD 19)):=by kernel_rfl
theorem wk_r20:regOf 20 wkC=some (.region 20 (wkO 20) (wkD 20)):=by kernel_rfl
theorem wk_r21:regOf 21 wkC=some (.region 21 (wkO 21) (wkD 21)):=by kernel_rfl
theorem wk_r22:regOf 22 wkC=some (.region 22 (wkO 22) (wkD 22)):=by kernel_rfl
theorem wk_r23:regOf 23 wkC=some (.region 23 (wkO 23) (wkD 23)):=by kernel_rfl
theorem wk_r24:regOf 24 wkC=some (.region 24 (wkO 24) (wkD 24)):=by kernel_rfl
theorem wk_r25:regOf 25 wkC=some (.region 25 (wkO 25) (wkD 25)):=by kernel_rfl
theorem wk_r26:regOf 26 wkC=some (.region 26 (wkO 26) (wkD 26)):=by kernel_rfl
theorem wk_n:zaN.fn.ntmps≤1000:=by decide
section
variable {w0:World} {S0:Nat→Prop} {κ0:Kap} {K:Nat→Prop} {S S':Nat→Prop} {κ κ':Kap} {a:Act} {w w':World}
theorem wkStep {j:Nat} {st st':St} {M:Nat→Option Mem} {κd:Nat→Kap} (hr:regOf j wkC=some (.region j (wkO j) (wkD j))) (ht:tReg zaN zT j st=some st')
  (h:Now w0 S0 κ0 K zaN.fn.ntmps M κd st a w) {Q:Exit→Act→World→Prop} (hQ:∀ a' w',Now w0 S0 κ0 K zaN.fn.ntmps M κd st' a' w'→Q .normal a' w'):(Code.region j (wkO j) (wkD j)).wp zaN.P Q a w:=by
 obtain ⟨S,κ,h1,h2⟩:=h; exact leafR wk_hb hr ht wk_n h1 (fun a' w' S' κ' hg hS hf hw=>hQ a' w' ⟨S',κ',hg,h2.step hS hf hw⟩)
end
abbrev deskM (d:zat):Mem:=[(300,⟨14,zbu,[[I d.level,.row 301 10 0 ((List.map zar d.marks).length),I d.period,I d.started.Time,I d.started.Source,I d.started.Seq,.map 302,AV.sl 1 (List.map nBool d.watch.Last),B d.watch.Suspended,I d.good.Time,I d.good.Source,I d.good.Seq,B d.some,.row 303 12 0 ((List.map zao d.suspensions).length)]],true⟩),(301,⟨10,zbv,List.map zar d.marks,false⟩),(302,⟨0,za2,List.map zaz d.noted,false⟩),(303,⟨12,zay,List.map zao d.suspensions,false⟩)]
abbrev mems (ds:Desks):Nat→Option Mem:=fun i=>(ds i).map deskM
def Points (ds:Desks) (κd:Nat→Kap) (x:Nat→Option Addr):Prop:=∀ i,i < 100→match ds i with
 | none=>x i=none
 | some _=>∃ g c,κd i 300=some (g,c)∧x i=some ⟨g,0,none⟩
set_option maxRecDepth 100000
noncomputable section
abbrev tH (s:zak) (ev:List zab) (i:Int):Tab:=[(1,AV.sl 9 (List.map zaa ev)),(2,AV.loc 2 9 0 0),(6,AV.loc 18 100 0 0),(20,AV.sl 5 (List.map zbh s.Markers)),(21,I ((List.map zbh s.Markers).length:Int)),(22,I i)]
abbrev bS (s:zak):Nat×Ent:=(2,⟨9,zan,[zaj s],true⟩)
abbrev bB (x:Nat→Option Addr):Nat×Ent:=(18,⟨100,zaI,[cells x],true⟩)
abbrev stH (s:zak) (ev:List zab) (x:Nat→Option Addr) (i:Int):St:=⟨tH s ev i,[bS s,bB x]⟩
abbrev m5 (s:zak) (l:Int) (cs:List AV):Mem:=[bS s,(18,⟨100,zaI,[cs],true⟩),(33,⟨14,zbu,[[I l,.row 301 10 0 0,I 0,I 0,I 0,I 0,.map 302,AV.sl 1 [],B false,I 0,I 0,I 0,B false,.row 303 12 0 0]],true⟩),(301,⟨10,zbv,[],false⟩),(302,⟨0,za2,[],false⟩),(303,⟨12,zay,[],false⟩)]
theorem zwj (x:Nat→Option Addr) (j:Nat) (hj:j < 100):(cells x)[j]?=some (.v (.pointer (x j))):=by unfold cells; rw [zcQ,zou hj]; rfl
theorem cells_set (x:Nat→Option Addr) (k:Nat) (p:Option Addr):(cells x).set k (.v (.pointer p))=cells fun i=>if i=k then p else x i:=by
 refine zk7 fun j=>?_
 by_cases hj:j < 100
 · rw [zwj _ _ hj,zqx]; by_cases h:k=j
   · subst h; have hl:k < (cells x).length:=by unfold cells; simpa using hj
     simp [hl]
   · rw [if_neg h,zwj _ _ hj,if_neg (fun e=>h e.symm)]
 · have h1:∀ y,(cells y).length=100:=fun y=>by unfold cells; simp
   rw [zqT (by rw [zqU,h1]; omega),zqT (by rw [h1]; omega)]
section
variable {w0:World} {S0:Nat→Prop} {κ0:Kap} {K:Nat→Prop} {N:Nat} {a:Act} {w:World}
theorem wk_new {s:zak} {ev:List zab} {i l:Int} {x:Nat→Option Addr} {ds:Desks} {κd:Nat→Kap} {k:Nat} (hk:k < 100)
  (h:Now w0 S0 κ0 K N (mems ds) κd ⟨tH s ev i,m5 s l ((cells x).set k (.loc 33 14 0 0))⟩ a w) (hp:Points ds κd x):∃ κd' x',Now w0 S0 κ0 K N (mems (upd ds k (desk0 l))) κd' (stH s ev x' i) a w∧Points (upd ds k (desk0 l)) κd' x':=by
 obtain ⟨S,κ,hg,ho⟩:=h
 have h33:∃ g c,κ 33=some (g,c):=by
  have hE:=hg.ents 33 _ rfl
  cases hq:κ 33 with
  | some gc=>exact ⟨gc.1,gc.2,rfl⟩
  | none=>rw [hq] at hE; have:=(hE.1 (.inl rfl)).2.2; cases this
 obtain ⟨g,c,hκ⟩:=h33; have hl:k < (cells x).length:=by unfold cells; simpa using hk
 have g1:GoodS w0 S0 κ0 K N S κ ⟨tH s ev i,m5 s l (cells fun i=>if i=k then some ⟨g,0,none⟩ else x i)⟩ a w:=by
  have q:=Good.recell (B:=18) (j:=k) (cs:=(cells x).set k (.loc 33 14 0 0)) (a0:=.loc 33 14 0 0) (a1:=.v (.pointer (some ⟨g,0,none⟩))) hg rfl rfl rfl (by simp [hl]) (fun v hv=>by
   obtain ⟨g',c',_,hk',rfl⟩:=hv.loc_inv; rw [hκ] at hk'; injection hk' with hk'; injection hk' with e1 _; subst e1
   exact .c (.v _))
  have e:(fun b=>if b=18 then some ({ z:=100,e:=zaI,es:=[((cells x).set k (.loc 33 14 0 0)).set k (.v (.pointer (some ⟨g,0,none⟩)))],box:=true }:Ent) else Ab.look (m5 s l ((cells x).set k (.loc 33 14 0 0))) b)=Ab.look (m5 s l (cells fun i=>if i=k then some ⟨g,0,none⟩ else x i)):=by
   funext b; rw [List.set_set,cells_set]; simp only [m5,bS,Ab.look]; by_cases h2:b=2
   · simp [h2]
   · by_cases h18:b=18
     · simp [h18]
     · simp [h2,h18]
  unfold GoodS; rw [← e]; exact q
 have o1:Objs w0 κ0 K S κ (Ab.look (m5 s l (cells fun i=>if i=k then some ⟨g,0,none⟩ else x i))) w (mems ds) κd:=ho.kap (fun b g c hl hk=>⟨b,c,by
  simp only [m5,bS,Ab.look] at hl ⊢; by_cases h2:b=2
  · simp [h2]
  · by_cases h18:b=18
    · simp [h18]
    · simpa [h2,h18] using hl,hk⟩)
 have g2:=g1.ren (b:=33) (s:=300) (by omega) (by omega) (by omega) rfl; have e2:renS 33 300 ⟨tH s ev i,m5 s l (cells fun i=>if i=k then some ⟨g,0,none⟩ else x i)⟩=⟨tH s ev i,[bS s,bB (fun i=>if i=k then some ⟨g,0,none⟩ else x i)]++deskM (desk0 l)⟩:=by kernel_rfl
 rw [e2] at g2
 have o2:Objs w0 κ0 K S (fun c=>if c=300 then κ 33 else κ c) (Ab.look ([bS s,bB (fun i=>if i=k then some ⟨g,0,none⟩ else x i)]++deskM (desk0 l))) w (mems ds) κd:=o1.kap (fun b g c hl hk=>by
  by_cases hb:b=300
  · rw [if_pos hb] at hk; exact ⟨33,c,rfl,hk⟩
  · rw [if_neg hb] at hk; refine ⟨b,c,?_,hk⟩; simp only [zqS,zoy,m5,bS,bB,deskM,Ab.look] at hl ⊢
    repeat' split at hl
    all_goals first | (subst_vars; rfl) | exact absurd rfl hb | cases hl)
 have g3:=g2.trim [1,2,6,20,21,22] [300,301,302,303]; have e3:trim [1,2,6,20,21,22] [300,301,302,303] ⟨tH s ev i,[bS s,bB (fun i=>if i=k then some ⟨g,0,none⟩ else x i)]++deskM (desk0 l)⟩=stH s ev (fun i=>if i=k then some ⟨g,0,none⟩ else x i) i:=by kernel_rfl
 rw [e3] at g3
 have o3:=o2.away (i:=k) (md:=deskM (desk0 l)) (L':=Ab.look [bS s,bB (fun i=>if i=k then some ⟨g,0,none⟩ else x i)]) g2 (fun b ent hb=>by
   simp only [zqS,zoy,bS,bB,deskM,Ab.look] at hb ⊢
   repeat' split at hb
   all_goals first | (subst_vars; simp at hb; done) | (subst_vars; simpa using hb) | cases hb) (zEJ (by kernel_rfl)) (fun b hb=>by
   simp only [deskM,Ab.look] at hb
   repeat' split at hb
   all_goals first | omega | cases hb) (fun b hb=>by
   simp only [bS,bB,Ab.look] at hb
   repeat' split at hb
   all_goals first | (subst_vars; exact ⟨rfl,fun h=>by cases h⟩) | cases hb)
 have e4:(fun j=>if j=k then some (deskM (desk0 l)) else mems ds j)=mems (upd ds k (desk0 l)):=by funext j; simp only [mems,upd]; split <;> rfl
 rw [e4] at o3; refine ⟨_,_,⟨S,_,g3,o3⟩,fun j hj=>?_⟩; simp only [upd]; by_cases hjk:j=k
 · simp only [if_pos hjk]; exact ⟨g,c,by simpa using hκ,rfl⟩
 · simp only [if_neg hjk]; exact hp j hj
theorem zxc {M:Nat→Option Mem} {κd:Nat→Kap} {st:St} (h:Now w0 S0 κ0 K N M κd st a w) {k:Nat} {n:Int} (hk:get st.t k=I n):cnt a k=n.toNat:=by obtain ⟨S,κ,h1,_⟩:=h; have:=h1.slots k; rw [hk] at this; unfold cnt; rw [this.v_inv]
theorem wk_markers {s:zak} {ev:List zab} (hm:∀ m∈s.Markers,0≤m.ID∧m.ID < 100) (hlen:s.Markers.length < 1000000) {κd0:Nat→Kap}
  (h:Now w0 S0 κ0 K zaN.fn.ntmps (fun _=>none) κd0 (stH s ev (fun _=>none) 0) a w) {Q:Exit→Act→World→Prop}
  (hQ:∀ a' w' κd x,Now w0 S0 κ0 K zaN.fn.ntmps (mems (seats s.Markers)) κd (stH s ev x s.Markers.length) a' w'→Points (seats s.Markers) κd x→Q .normal a' w'):(Code.block 0 (.loop (.seq (.region 3 (wkO 3) (wkD 3)) (.seq (.cond (.tmp 23) .skip (.exit 0)) (.seq (.block 1 (.seq (.region 4 (wkO 4) (wkD 4)) (.region 5 (wkO 5) (wkD 5)))) (.region 6 (wkO 6) (wkD 6))))))).wp zaN.P Q a w:=by
 refine wp_block (wp_loop (fun a w=>∃ k κd x,k≤s.Markers.length∧Now w0 S0 κ0 K zaN.fn.ntmps (mems (seats (s.Markers.take k))) κd (stH s ev x k) a w∧Points (seats (s.Markers.take k)) κd x)
  (fun a _=>s.Markers.length - cnt a 22) ⟨0,κd0,_,zfQ _,h,fun _ _=>rfl⟩ ?_)
 rintro a w ⟨k,κd,x,hk,hn,hp⟩
 have hc0:cnt a 22=k:=by rw [zxc hn (n:=(k:Int)) rfl]; simp
 refine wp_seq (wkStep wk_r3 (w3 s ev x _ _) hn (fun a1 w1 h1=>?_)); refine wp_seq (wp_cond (h1.bool (b:=decide ((k:Int) < (List.map zbh s.Markers).length)) rfl) ?_); by_cases hlt:k < s.Markers.length
 · rw [decide_eq_true (by simp; omega),if_pos rfl]; refine wp_skip ?_; have h2:=h1.trim [1,2,6,20,21,22] [] (st':=stH s ev x k) (by kernel_rfl); refine wp_seq (wp_block (wp_seq ?_)); have ht4:=w4 s ev x ((List.map zbh s.Markers).length:Int) (k:Int); rw [cPQ,zeB,show ((k:Int)).toNat=k from rfl,zau hlt,zaS] at ht4; refine wkStep wk_r4 ht4 h2 (fun a3 w3 h3=>?_); obtain ⟨hm0,hm1⟩:=hm _ (zbt hlt); generalize hmk:s.Markers[k]=m at h3 hm0 hm1; obtain ⟨id,cen,lev,cap,ps⟩:=m; obtain ⟨q,rfl⟩:∃ q:Nat,id=(q:Int):=⟨id.toNat,by simp only at hm0; omega⟩
   have hq:q < 100:=by simp only at hm1; omega
   refine wkStep wk_r5 (w5 q hq s ev x _ _ cen lev cap ps) h3 (fun a4 w4 h4=>?_); obtain ⟨κd',x',h5,hp'⟩:=wk_new hq h4 hp; refine wkStep wk_r6 (w6 s ev x' _ _) h5 (fun a6 w6 h6=>?_); rw [w6Q] at h6
   have e:seats (s.Markers.take (k+1))=upd (seats (s.Markers.take k)) q (desk0 lev):=by rw [zk9 hlt,hmk]; simp [seats]
   refine ⟨⟨k+1,κd',x',hlt,by rw [e]; exact_mod_cast h6,by rw [e]; exact hp'⟩,?_⟩; have:cnt a6 22=k+1:=by rw [zxc h6 (n:=(k:Int)+1) rfl]; omega
   show s.Markers.length - cnt a6 22 < s.Markers.length - cnt a 22; omega
 · rw [decide_eq_false (by simp; omega),iNs]; refine wp_exit ?_; have hkl:k=s.Markers.length:=by omega
   subst hkl; rw [ziE] at h1 hp; exact hQ _ _ _ _ (h1.trim [1,2,6,20,21,22] [] (by kernel_rfl)) hp
end
end
set_option maxRecDepth 100000
noncomputable section
def rows (x:Nat→Option Addr):List (List AV):=(List.range 100).map fun i=>[.v (.pointer (x i))]
theorem zo5 (x:Nat→Option Addr) (j:Nat) (hj:j < 100):(rows x)[j]?=some [.v (.pointer (x j))]:=by unfold rows; rw [zcQ,zou hj]; rfl
abbrev bA (x:Nat→Option Addr):Nat×Ent:=(18,⟨1,zaI,rows x,false⟩)
abbrev bR (R:List (zaL×zbe)):Nat×Ent:=(37,⟨0,zav,List.map zax R,false⟩)
abbrev bE (e:zab):Nat×Ent:=(11,⟨9,zah,[zaa e],true⟩)
abbrev bD (sd:GSeed):Nat×Ent:=(15,⟨2,zdZ,[zcd sd],true⟩)
section
variable {w0:World} {S0:Nat→Prop} {κ0:Kap} {K:Nat→Prop} {N:Nat} {a:Act} {w:World}
theorem wk_toRow {s:zak} {ev:List zab} {x:Nat→Option Addr} {M:Nat→Option Mem} {κd:Nat→Kap} {i:Int} (h:Now w0 S0 κ0 K N M κd (stH s ev x i) a w):Now w0 S0 κ0 K N M κd ⟨[(1,AV.sl 9 (List.map zaa ev)),(2,AV.loc 2 9 0 0),(6,.loc 18 1 0 0)],[bS s,bA x]⟩ a w:=by
 obtain ⟨S,κ,hg,ho⟩:=h
 have h18:∃ g c,κ 18=some (g,c):=by
  have hE:=hg.ents 18 _ rfl
  cases hq:κ 18 with
  | some gc=>exact ⟨gc.1,gc.2,rfl⟩
  | none=>rw [hq] at hE; have:=(hE.1 (.inl rfl)).2.2; cases this
 obtain ⟨g,c,hκ⟩:=h18; have hE:=hg.ents 18 _ rfl; rw [hκ] at hE
 have h6:a.tmps.getD 6 undef=.pointer (some ⟨g,0,none⟩):=by obtain ⟨g',c',_,hk',e⟩:=(show VRel _ _ _ _ (.loc 18 100 0 0) _ from hg.slots 6).loc_inv; rw [hκ] at hk'; injection hk' with hk'; injection hk' with e1 _; subst e1; simpa using e
 have hl:(cells x).length=100:=by unfold cells; simp
 have hrow:=toRow hE (by unfold maxLen; omega) (xs:=rows x) (by rw [hl]; unfold rows; simp) (fun j y u hj hv=>by
  have hj':j < 100:=by rw [← hl]; exact (zbH.1 hj).1
  rw [zwj x j hj'] at hj; injection hj with hj; subst hj
  rw [hv.v_inv,zo5 x j hj'])
 have g1:=hg.swap (B:=18) (c2:=100) rfl (by omega) hκ hrow; have o1:=ho.swap (B:=18) (c2:=100) (e2:=⟨1,zaI,rows x,false⟩) rfl hκ
 have g2:=g1.set 6 (.loc 18 1 0 0) (by
  rw [h6]; have:=VRel.loc (S:=S) (κ:=overK κ (fun _=>some (g,100)) (Ab.look [(18,⟨1,zaI,rows x,false⟩)])) (D:=fun b=>(Ab.look ((18,⟨1,zaI,rows x,false⟩) :: (del 18 (stH s ev x i)).m) b).isSome=true) (w:=w) 18 1 0 0 g 100 (by simp [Ab.look]) (by unfold overK; simp [Ab.look])
  simpa using this)
 exact Now.trim ⟨S,_,g2,o1⟩ [1,2,6] [] (by kernel_rfl)
abbrev e0D (d:zat):Ent:=⟨14,zbu,[[I d.level,.row 301 10 0 ((List.map zar d.marks).length),I d.period,I d.started.Time,I d.started.Source,I d.started.Seq,.map 302,AV.sl 1 (List.map nBool d.watch.Last),B d.watch.Suspended,I d.good.Time,I d.good.Source,I d.good.Seq,B d.some,.row 303 12 0 ((List.map zao d.suspensions).length)]],true⟩
abbrev mrD (d:zat):Mem:=[(301,⟨10,zbv,List.map zar d.marks,false⟩),(302,⟨0,za2,List.map zaz d.noted,false⟩),(303,⟨12,zay,List.map zao d.suspensions,false⟩)]
abbrev deskB (d:zat):Mem:=(1300,e0D d) :: mrD d
theorem zzo {d:zat} {b:Nat} (h:(Ab.look (mrD d) b).isSome=true):300 < b∧b < 304:=by
 simp only [mrD,Ab.look] at h
 repeat' split at h
 all_goals first | omega | cases h
theorem mrD_only (d:zat) (Bn b:Nat) (ent:Ent) (h:Ab.look ((Bn,e0D d) :: mrD d) b=some ent) (hbx:ent.box=true):∀ cs∈ent.es,∀ x∈cs,only ((mrD d).map (·.1)) x=true:=by
 simp only [mrD,Ab.look] at h
 repeat' split at h
 all_goals first | cases h | skip
 · have e:∀ cs∈(e0D d).es,∀ x∈cs,only ((mrD d).map (·.1)) x=true:=fun cs hcs x hx=>by simp only [e0D,zcV] at hcs; subst hcs; have:∀ x∈[I d.level,.row 301 10 0 ((List.map zar d.marks).length),I d.period,I d.started.Time,I d.started.Source,I d.started.Seq,.map 302,AV.sl 1 (List.map nBool d.watch.Last),B d.watch.Suspended,I d.good.Time,I d.good.Source,I d.good.Seq,B d.some,.row 303 12 0 ((List.map zao d.suspensions).length)],only [301,302,303] x=true:=zec.1 (by kernel_rfl); exact this x hx
   exact e
 all_goals cases hbx
theorem wk_desk {j k0 i:Nat} {t:Tab} {m:Mem} {st1 st2 stN:St} {d d':zat} {x:Nat→Option Addr} {ds:Desks} {κd:Nat→Kap} (hr:regOf j wkC=some (.region j (wkO j) (wkD j)))
  (hn:Now w0 S0 κ0 K zaN.fn.ntmps (mems ds) κd ⟨t,m⟩ a w) (hp:Points ds κd x) (hi:i < 100) (hd:ds i=some d) (hk0:get t k0=.v (.pointer (x i))) (hm:∀ b,(Ab.look m b).isSome=true→b < 300)
  (ht:tReg0 zaN zT j ⟨(k0,.loc 1300 14 0 0) :: t,deskB d++m⟩=some st1) (h12:st2=st1∨(st2=renS 112 301 st1∧Ab.look st1.m 301=none))
  (hd':∀ b ent,Ab.look (deskB d') b=some ent→Ab.look st2.m b=some ent) (ks drop:List Nat) (e:trim ks drop st2=stN) (hN:∀ b,(Ab.look stN.m b).isSome=true→b < 300)
  {Q:Exit→Act→World→Prop} (hQ:∀ a' w' κd',Now w0 S0 κ0 K zaN.fn.ntmps (mems (upd ds i d')) κd' stN a' w'→Points (upd ds i d') κd' x→Q .normal a' w'):(Code.region j (wkO j) (wkD j)).wp zaN.P Q a w:=by
 obtain ⟨S,κ,hg,ho⟩:=hn; have hi':mems ds i=some ((300,e0D d) :: mrD d):=by simp [mems,hd]
 have hpi:=hp i hi; rw [hd] at hpi; obtain ⟨g,c,hκ,hx⟩:=hpi
 have hk0':a.tmps.getD k0 undef=.pointer (some ⟨g,0,none⟩):=by have:=hg.slots k0; rw [hk0,hx] at this; exact this.v_inv
 have hmr:∀ b,(Ab.look (mrD d) b).isSome=true→b < 1000∧b≠300∧Ab.look m b=none:=fun b hb=>by
  obtain ⟨q1,q2⟩:=zzo hb; refine ⟨by omega,by omega,?_⟩
  cases hq:Ab.look m b with
  | none=>rfl
  | some e=>have:=hm b (by simp [hq]); omega
 have hm':∀ b,(Ab.look m b).isSome=true→b < 1000:=fun b hb=>by have:=hm b hb; omega
 have h1:=hg.lend (B:=300) (ho.obj i _ hi') (fun b g c hb hk=>(ho.far i _ b g c hi' hb hk).1) hmr hm' (mrD_only d 300) (z:=14) hk0' hκ; refine zwL (zre (C:=zaN.C) (A:=zaN.F)) wk_n (zEZ wk_hb hr ht) ⟨S,_,h1⟩ ?_
 rintro a' w' ⟨S',κ1,hg1⟩
 have hg2:∃ κ2,GoodS w S (lentK κ (κd i) (mrD d) 300) (fun b=>(Ab.look (lentM (e0D d) (mrD d) m 300) b).isSome=true) zaN.fn.ntmps S' κ2 st2 a' w':=by
  rcases h12 with rfl | ⟨rfl,h301⟩
  · exact ⟨κ1,hg1⟩
  · exact ⟨_,GoodS.ren hg1 (by omega) (by omega) (by omega) h301⟩
 obtain ⟨κ2,hg2⟩:=hg2
 obtain ⟨r1,r2⟩:=lent_back (B:=300) (e0':=e0D d') (mr':=mrD d') hg ho hi' hmr hm' hg2 hd' (fun b hb=>by have:=zzo hb; omega) (mrD_only d' 1300) ks drop e (fun b hb=>by
  refine ⟨by rw [← e] at hb; exact zwE ks drop st2 b hb,fun hq=>?_,by have:=hN b hb; omega⟩; have:=hN b hb; rcases look_two hq with h | h
  · omega
  · have:=zzo h; omega)
 have e4:(fun j=>if j=i then some ((300,e0D d') :: mrD d') else mems ds j)=mems (upd ds i d'):=by funext j; simp only [mems,upd]; split <;> rfl
 rw [e4] at r2; refine hQ _ _ _ ⟨S',_,r1,r2⟩ (fun j hj=>?_); simp only [upd]; by_cases hji:j=i
 · simp only [if_pos hji]; subst hji; exact ⟨g,c,by unfold homeK; simpa using hκ,hx⟩
 · simp only [if_neg hji]; exact hp j hj
end
end
set_option maxRecDepth 100000
noncomputable section
def zM (d:zat):Mem:=[(1000,⟨14,zbu,[[I d.level,.row 900 10 0 ((List.map zar d.marks).length),I d.period,I d.started.Time,I d.started.Source,I d.started.Seq,.map 901,AV.sl 1 (List.map nBool d.watch.Last),B d.watch.Suspended,I d.good.Time,I d.good.Source,I d.good.Seq,B d.some,.row 902 12 0 ((List.map zao d.suspensions).length)]],true⟩),(900,⟨10,zbv,List.map zar d.marks,false⟩),(901,⟨0,za2,List.map zaz d.noted,false⟩),(902,⟨12,zay,List.map zao d.suspensions,false⟩)]
structure Legs (s:zak) where
 rein:zbe→zat→zat
 note:zaJ→GSeed→zab→zat→zat
 fit:zab→Option Nat
 seed:Int→Option GSeed
 ok:zab→Prop
 D:Nat→zat→Prop
 ranges:∀ e,ok e→(0≤e.Marker∧e.Marker < 100)∧0≤e.Stamp.Source∧e.Stamp.Source < 100
 D0:∀ l,D 0 (desk0 l)
 Dup:∀ k d,D k d→D (k+1) d
 Dlen:∀ k d,D k d→d.marks.length≤k
 Drein:∀ k d e,ok e→D k d→D (k+1) (rein e.Stamp d)
 Dnote:∀ k d p sd e,ok e→D k d→D (k+1) (note p sd e d)
 Dapp:∀ k d e,ok e→D k d→D (k+1) { d with marks:=d.marks++[⟨e,d.watch.Suspended⟩] }
 fit_lt:∀ e q,fit e=some q→q < s.Papers.length
 cRein:∀ k d e,k < 1000000→ok e→D k d→cw zfD [.loc 1000 14 0 0,.agg (zcv e.Stamp)] (zM d)=some (zb8 (rein e.Stamp d))
 cNote:∀ k d p sd e,k < 1000000→ok e→D k d→p∈s.Papers→(∃ q,fit e=some q∧s.Papers[q]?=some p)→seed e.Script=some sd→cw zhJ [.loc 1000 14 0 0,.agg (zaj s),.agg (zaT p),.agg (zcd sd),.agg (zaa e)] (zM d)=some (zb8 (note p sd e d))
 cFits:∀ x e,ok e→cw zhc [.fa 1 (rows x),.agg (zaj s),.agg (zaa e)] []=some (zfM (match x e.Stamp.Source.toNat,fit e with
  | some p,some q=>((q:Int),some p)
  | _,_=>(0,none)))
 cSeed:∀ n,cw zjP [.agg (zaj s),I n] []=some (zhA ((seed n).getD ⟨0,[]⟩,(seed n).isSome))
def evG {s:zak} (g:Legs s) (st:Desks×Reop) (e:zab):Desks×Reop:=
 if e.Kind=1 then (match st.1 e.Marker.toNat with
  | some d=>(upd st.1 e.Marker.toNat (g.rein e.Stamp d),st.2)
  | none=>st)
 else if e.Kind=2 then (st.1,mput ⟨e.Script,e.Part⟩ e.Stamp st.2)
 else if e.Kind=0 then (match st.1 e.Stamp.Source.toNat,g.fit e with
  | some d,some q=>(match g.seed e.Script,s.Papers[q]? with
    | some sd,some p=>(upd st.1 e.Stamp.Source.toNat (g.note p sd e d),st.2)
    | none,_=>(upd st.1 e.Stamp.Source.toNat { d with marks:=d.marks++[⟨e,d.watch.Suspended⟩] },st.2)
    | _,_=>st)
  | _,_=>st)
 else st
abbrev tE (ev:List zab) (i:Int):Tab:=[(2,AV.loc 2 9 0 0),(6,AV.loc 18 1 0 0),(9,AV.map 37),(38,AV.sl 9 (List.map zaa ev)),(39,I ((List.map zaa ev).length:Int)),(40,I i)]
abbrev stE (s:zak) (ev:List zab) (x:Nat→Option Addr) (R:Reop) (i:Int):St:=⟨tE ev i,[bS s,bA x,bR R]⟩
section
variable {w0:World} {S0:Nat→Prop} {κ0:Kap} {K:Nat→Prop} {a:Act} {w:World}
theorem zj7 {m:Mem} (h:m.all (fun p=>decide (p.1 < 300))=true):∀ b,(Ab.look m b).isSome=true→b < 300:=fun b hb=>by obtain ⟨ent,he⟩:=zch.1 hb; have:=zec.1 h (b,ent) (zjX he); simpa using this
theorem wk_event {s:zak} {ev:List zab} (g:Legs s) {k:Nat} {ds:Desks} {R:Reop} {x:Nat→Option Addr} {κd:Nat→Kap} (hk:k < ev.length) (hok:g.ok ev[k]) (hev:ev.length < 1000000)
  (h:Now w0 S0 κ0 K zaN.fn.ntmps (mems ds) κd (stE s ev x R k) a w) (hp:Points ds κd x) (hD:∀ i d,ds i=some d→g.D k d) {Q:Exit→Act→World→Prop}
  (hQ:∀ a' w' κd',Now w0 S0 κ0 K zaN.fn.ntmps (mems (evG g (ds,R) ev[k]).1) κd' (stE s ev x (evG g (ds,R) ev[k]).2 k) a' w'→Points (evG g (ds,R) ev[k]).1 κd' x→Q .normal a' w'):(Code.block 3 (.seq (.region 10 (wkO 10) (wkD 10)) (.seq (.region 11 (wkO 11) (wkD 11)) (.block 4 (.seq (.region 12 (wkO 12) (wkD 12)) (.cond (.tmp 46) (.seq (.region 13 (wkO 13) (wkD 13)) (.seq (.region 14 (wkO 14) (wkD 14)) (.cond (.tmp 55) (.region 15 (wkO 15) (wkD 15)) .skip))) (.seq (.region 16 (wkO 16) (wkD 16)) (.cond (.tmp 60) (.region 17 (wkO 17) (wkD 17)) (.seq (.region 18 (wkO 18) (wkD 18)) (.cond (.tmp 70) (.seq (.region 19 (wkO 19) (wkD 19)) (.seq (.seq (.region 20 (wkO 20) (wkD 20)) (.cond (.tmp 80) (.exit 3) .skip)) (.seq (.region 21 (wkO 21) (wkD 21)) (.seq (.region 22 (wkO 22) (wkD 22)) (.cond (.tmp 88) (.region 23 (wkO 23) (wkD 23)) (.region 24 (wkO 24) (wkD 24))))))) .skip)))))))))).wp zaN.P Q a w:=by
 refine wp_block (wp_seq ?_); have ht:=w10 s ev (rows x) (List.map zax R) ((List.map zaa ev).length:Int) (k:Int); rw [cPQ,zbW,show ((k:Int)).toNat=k from rfl,zau hk,zaS] at ht; refine wkStep wk_r10 ht h (fun a1 w1 h1=>?_); obtain ⟨⟨hm0,hm1⟩,hs0,hs1⟩:=g.ranges _ hok; generalize ev[k]=e at h1 hok hQ hm0 hm1 hs0 hs1; refine wp_seq (wkStep wk_r11 (w11 s ev _ _ _ _ e) h1 (fun a2 w2 h2=>?_)); refine wp_block (wp_seq (wkStep wk_r12 (w12 s ev _ _ _ _ e) h2 (fun a3 w3 h3=>?_))); refine wp_cond (h3.bool (b:=e.Kind == 1) rfl) ?_; by_cases k1:e.Kind=1
 ·
  rw [if_pos (by simp [k1])]; have h4:=h3.trim [2,6,9,11,38,39,40] [] (st':=⟨[(2,AV.loc 2 9 0 0),(6,AV.loc 18 1 0 0),(9,AV.map 37),(11,AV.loc 11 9 0 0),(38,AV.sl 9 (List.map zaa ev)),(39,I ((List.map zaa ev).length:Int)),(40,I k)],[bS s,bE e,bA x,bR R]⟩) (by kernel_rfl); have ht13:=w13 s ev (rows x) (List.map zax R) ((List.map zaa ev).length:Int) (k:Int) e; have hi:e.Marker.toNat < 100:=by omega
  have hrow:=zo5 x (0+e.Marker.toNat) (by omega); rw [zb9] at hrow; rw [zam hm0,zam (by simpa using hm1),zb9] at ht13; have hpi:=hp _ hi
  cases hdi:ds e.Marker.toNat with
  | none =>
    rw [hdi] at hpi; rw [hpi] at hrow; rw [zww hrow] at ht13; refine wp_seq (wkStep wk_r13 ht13 h4 (fun a5 w5 h5=>?_)); refine wp_seq (wkStep wk_r14 (w14n s ev _ _ _ _ e) h5 (fun a6 w6 h6=>?_)); refine wp_cond (h6.bool (b:=false) rfl) ?_; rw [iNs]; refine wp_skip ?_; have h7:=h6.trim [2,6,9,38,39,40] [11] (st':=stE s ev x R k) (by kernel_rfl)
    have e1:evG g (ds,R) e=(ds,R):=by unfold evG; rw [if_pos k1]; simp only [hdi]
    rw [e1] at hQ; exact hQ _ _ _ h7 hp
  | some d =>
    have hpi':=hpi; rw [hdi] at hpi; obtain ⟨g1,c1,hκ,hx⟩:=hpi; rw [hx] at hrow; rw [zBR hrow] at ht13; refine wp_seq (wkStep wk_r13 ht13 h4 (fun a5 w5 h5=>?_)); refine wp_seq (wkStep wk_r14 (w14p s ev _ _ _ _ e _) h5 (fun a6 w6 h6=>?_)); refine wp_cond (h6.bool (b:=true) rfl) ?_; rw [if_pos rfl]; have h7:=h6.trim [2,6,9,11,12,38,39,40] [] (st':=⟨[(2,AV.loc 2 9 0 0),(6,AV.loc 18 1 0 0),(9,AV.map 37),(11,AV.loc 11 9 0 0),(12,AV.v (.pointer (some ⟨g1,0,none⟩))),(38,AV.sl 9 (List.map zaa ev)),(39,I ((List.map zaa ev).length:Int)),(40,I k)],[bS s,bE e,bA x,bR R]⟩) (by kernel_rfl); have ht15:=w15 s ev (rows x) (List.map zax R) ((List.map zaa ev).length:Int) (k:Int) e ⟨g1,0,none⟩ d; rw [zam rfl,zam rfl] at ht15; have hc:=g.cRein k d e (by omega) hok (hD _ d hdi); unfold zM at hc; rw [hc,zge] at ht15; refine wk_desk (k0:=12) wk_r15 h7 hp hi hdi (by rw [hx]; rfl) (zj7 (by kernel_rfl)) ht15 (.inl rfl) (d':=g.rein e.Stamp d) (fun b ent hb=>?_) [2,6,9,38,39,40] [11,1300,301,302,303] (stN:=stE s ev x R k) (by kernel_rfl) (zj7 (by kernel_rfl)) (fun a8 w8 κd8 h8 hp8=>?_)
    · simp only [deskB,mrD,e0D,Ab.look] at hb ⊢
      repeat' split at hb
      all_goals first | (subst_vars; simp at hb; done) | (subst_vars; simpa using hb) | cases hb
    · have e1:evG g (ds,R) e=(upd ds e.Marker.toNat (g.rein e.Stamp d),R):=by unfold evG; rw [if_pos k1]; simp only [hdi]
      rw [e1] at hQ; exact hQ _ _ _ h8 hp8
 rw [if_neg (by simpa using k1)]; have h4:=h3.trim [2,6,9,11,38,39,40,45] [] (st':=⟨[(2,AV.loc 2 9 0 0),(6,AV.loc 18 1 0 0),(9,AV.map 37),(11,AV.loc 11 9 0 0),(38,AV.sl 9 (List.map zaa ev)),(39,I ((List.map zaa ev).length:Int)),(40,I k),(45,I e.Kind)],[bS s,bE e,bA x,bR R]⟩) (by kernel_rfl); refine wp_seq (wkStep wk_r16 (w16 s ev _ _ _ _ e) h4 (fun a5 w5 h5=>?_)); refine wp_cond (h5.bool (b:=e.Kind == 2) rfl) ?_; by_cases k2:e.Kind=2
 ·
  rw [if_pos (by simp [k2])]; have h6:=h5.trim [2,6,9,11,38,39,40] [] (st':=⟨[(2,AV.loc 2 9 0 0),(6,AV.loc 18 1 0 0),(9,AV.map 37),(11,AV.loc 11 9 0 0),(38,AV.sl 9 (List.map zaa ev)),(39,I ((List.map zaa ev).length:Int)),(40,I k)],[bS s,bE e,bA x,bR R]⟩) (by kernel_rfl); have ht17:=w17 s ev (rows x) R ((List.map zaa ev).length:Int) (k:Int) e; rw [zof] at ht17; refine wkStep wk_r17 ht17 h6 (fun a7 w7 h7=>?_)
  have e1:evG g (ds,R) e=(ds,mput ⟨e.Script,e.Part⟩ e.Stamp R):=by unfold evG; rw [if_neg k1,if_pos k2]
  rw [e1] at hQ; exact hQ _ _ _ (h7.trim [2,6,9,38,39,40] [11] (by kernel_rfl)) hp
 rw [if_neg (by simpa using k2)]; have h6:=h5.trim [2,6,9,11,38,39,40,45] [] (st':=⟨[(2,AV.loc 2 9 0 0),(6,AV.loc 18 1 0 0),(9,AV.map 37),(11,AV.loc 11 9 0 0),(38,AV.sl 9 (List.map zaa ev)),(39,I ((List.map zaa ev).length:Int)),(40,I k),(45,I e.Kind)],[bS s,bE e,bA x,bR R]⟩) (by kernel_rfl); refine wp_seq (wkStep wk_r18 (w18 s ev _ _ _ _ e) h6 (fun a7 w7 h7=>?_)); refine wp_cond (h7.bool (b:=e.Kind == 0) rfl) ?_; by_cases k3:¬ e.Kind=0
 ·
  rw [if_neg (by simpa using k3)]; refine wp_skip ?_
  have e1:evG g (ds,R) e=(ds,R):=by unfold evG; rw [if_neg k1,if_neg k2,if_neg k3]
  rw [e1] at hQ; exact hQ _ _ _ (h7.trim [2,6,9,38,39,40] [11] (by kernel_rfl)) hp
 replace k3:=Decidable.not_not.1 k3; rw [if_pos (by simp [k3])]; have h8:=h7.trim [2,6,9,11,38,39,40] [] (st':=⟨[(2,AV.loc 2 9 0 0),(6,AV.loc 18 1 0 0),(9,AV.map 37),(11,AV.loc 11 9 0 0),(38,AV.sl 9 (List.map zaa ev)),(39,I ((List.map zaa ev).length:Int)),(40,I k)],[bS s,bE e,bA x,bR R]⟩) (by kernel_rfl); have ht19:=w19 s ev (rows x) (List.map zax R) ((List.map zaa ev).length:Int) (k:Int) e; rw [zam (by unfold rows; simp),g.cFits x e hok,zrd] at ht19; have hi:e.Stamp.Source.toNat < 100:=by omega
 have hpi:=hp _ hi
 have noDesk:(x e.Stamp.Source.toNat=none∨g.fit e=none)→(Code.seq (.region 19 (wkO 19) (wkD 19)) (.seq (.seq (.region 20 (wkO 20) (wkD 20)) (.cond (.tmp 80) (.exit 3) .skip)) (.seq (.region 21 (wkO 21) (wkD 21)) (.seq (.region 22 (wkO 22) (wkD 22)) (.cond (.tmp 88) (.region 23 (wkO 23) (wkD 23)) (.region 24 (wkO 24) (wkD 24))))))).wp zaN.P (Exit.inBlock 4 (Exit.inBlock 3 Q)) a7 w7:=by
  intro hno
  have e0:(match x e.Stamp.Source.toNat,g.fit e with
   | some p,some q=>((q:Int),some p)
   | _,_=>((0:Int),none))=((0:Int),(none:Option Addr)):=by
   rcases hno with q | q
   · rw [q]
   · rw [q]; cases x e.Stamp.Source.toNat <;> rfl
  rw [e0] at ht19; refine wp_seq (wkStep wk_r19 ht19 h8 (fun a9 w9 h9=>?_)); refine wp_seq (wp_seq (wkStep wk_r20 (w20n s ev _ _ _ _ e 0) h9 (fun a10 w10 h10=>?_))); refine wp_cond (h10.bool (b:=true) rfl) ?_; rw [if_pos rfl]; refine wp_exit ?_
  have e1:evG g (ds,R) e=(ds,R):=by
   unfold evG; rw [if_neg k1,if_neg k2,if_pos k3]; rcases hno with q | q
   · have:ds e.Stamp.Source.toNat=none:=by
      cases hq:ds e.Stamp.Source.toNat with
      | none=>rfl
      | some d=>rw [hq] at hpi; obtain ⟨_,_,_,hx⟩:=hpi; rw [q] at hx; cases hx
     simp only [this]
   · simp only [q]; cases ds e.Stamp.Source.toNat <;> rfl
  rw [e1] at hQ; exact hQ _ _ _ (h10.trim [2,6,9,38,39,40] [11] (by kernel_rfl)) hp
 cases hdi:ds e.Stamp.Source.toNat with
 | none=>rw [hdi] at hpi; exact noDesk (.inl hpi)
 | some d =>
   cases hf:g.fit e with
   | none=>exact noDesk (.inr hf)
   | some q =>
     rw [hdi] at hpi; obtain ⟨g1,c1,hκ,hx⟩:=hpi; rw [hx,hf] at ht19; refine wp_seq (wkStep wk_r19 ht19 h8 (fun a9 w9 h9=>?_)); refine wp_seq (wp_seq (wkStep wk_r20 (w20p s ev _ _ _ _ e q ⟨g1,0,none⟩) h9 (fun a10 w10 h10=>?_))); refine wp_cond (h10.bool (b:=false) rfl) ?_; rw [iNs]; refine wp_skip ?_; have h11:=h10.trim [2,6,9,11,13,14,38,39,40] [] (st':=⟨[(2,AV.loc 2 9 0 0),(6,AV.loc 18 1 0 0),(9,AV.map 37),(11,AV.loc 11 9 0 0),(13,I q),(14,AV.v (.pointer (some ⟨g1,0,none⟩))),(38,AV.sl 9 (List.map zaa ev)),(39,I ((List.map zaa ev).length:Int)),(40,I k)],[bS s,bE e,bA x,bR R]⟩) (by kernel_rfl); have ht21:=w21 s ev (rows x) (List.map zax R) ((List.map zaa ev).length:Int) (k:Int) e q ⟨g1,0,none⟩; rw [g.cSeed,zur] at ht21; refine wp_seq (wkStep wk_r21 ht21 h11 (fun a12 w12 h12=>?_)); refine wp_seq (wkStep wk_r22 (w22 s ev _ _ _ _ e q ⟨g1,0,none⟩ _ _) h12 (fun a13 w13 h13=>?_)); refine wp_cond (h13.bool (b:=(g.seed e.Script).isSome) rfl) ?_; have h14:=h13.trim [2,6,9,11,13,14,15,38,39,40] [] (st':=⟨[(2,AV.loc 2 9 0 0),(6,AV.loc 18 1 0 0),(9,AV.map 37),(11,AV.loc 11 9 0 0),(13,I q),(14,AV.v (.pointer (some ⟨g1,0,none⟩))),(15,AV.loc 15 2 0 0),(38,AV.sl 9 (List.map zaa ev)),(39,I ((List.map zaa ev).length:Int)),(40,I k)],[bS s,bE e,bD ((g.seed e.Script).getD ⟨0,[]⟩),bA x,bR R]⟩) (by kernel_rfl); have hql:=g.fit_lt e q hf
     cases hsd:g.seed e.Script with
     | some sd =>
       rw [hsd] at h14; rw [if_pos (show (some sd).isSome=true from rfl)]; have ht23:=w23 s ev (rows x) (List.map zax R) ((List.map zaa ev).length:Int) (k:Int) e q ⟨g1,0,none⟩ sd d; rw [cPQ,ze4,show ((q:Int)).toNat=q from rfl,zau hql,zaS,zam rfl,zam rfl] at ht23; have hc:=g.cNote k d s.Papers[q] sd e (by omega) hok (hD _ d hdi) (zbt hql) ⟨q,hf,zau hql⟩ hsd; unfold zM at hc; rw [hc,zge] at ht23; refine wk_desk (k0:=14) wk_r23 h14 hp hi hdi (by rw [hx]; rfl) (zj7 (by kernel_rfl)) ht23 (.inl rfl) (d':=g.note s.Papers[q] sd e d) (fun b ent hb=>?_) [2,6,9,38,39,40] [11,15,1300,301,302,303] (stN:=stE s ev x R k) (by kernel_rfl) (zj7 (by kernel_rfl)) (fun a8 w8 κd8 h8 hp8=>?_)
       · simp only [deskB,mrD,e0D,Ab.look] at hb ⊢
         repeat' split at hb
         all_goals first | (subst_vars; simp at hb; done) | (subst_vars; simpa using hb) | cases hb
       · have e1:evG g (ds,R) e=(upd ds e.Stamp.Source.toNat (g.note s.Papers[q] sd e d),R):=by unfold evG; rw [if_neg k1,if_neg k2,if_pos k3]; simp only [hdi,hf,hsd,zau hql]
         rw [e1] at hQ; exact hQ _ _ _ h8 hp8
     | none =>
       rw [hsd] at h14; rw [iNs]; have ht24:=w24 s ev (rows x) (List.map zax R) ((List.map zaa ev).length:Int) (k:Int) e q ⟨g1,0,none⟩ ⟨0,[]⟩ d; have hdl:=g.Dlen _ _ (hD _ d hdi); rw [zam rfl,zam (by rw [zaq]; omega)] at ht24; refine wk_desk (k0:=14) wk_r24 h14 hp hi hdi (by rw [hx]; rfl) (zj7 (by kernel_rfl)) ht24 (.inr ⟨rfl,by kernel_rfl⟩) (d':={ d with marks:=d.marks++[⟨e,d.watch.Suspended⟩] }) (fun b ent hb=>?_) [2,6,9,38,39,40] [11,15,1300,301,302,303] (stN:=stE s ev x R k) (by kernel_rfl) (zj7 (by kernel_rfl)) (fun a8 w8 κd8 h8 hp8=>?_)
       · have e2:List.map zar (d.marks++[⟨e,d.watch.Suspended⟩])=List.map zar d.marks++[zar ⟨e,d.watch.Suspended⟩]:=by simp
         simp only [deskB,mrD,e0D,Ab.look,e2] at hb ⊢
         repeat' split at hb
         all_goals first | (subst_vars; rw [← hb]; rfl) | cases hb
       · have e1:evG g (ds,R) e=(upd ds e.Stamp.Source.toNat { d with marks:=d.marks++[⟨e,d.watch.Suspended⟩] },R):=by unfold evG; rw [if_neg k1,if_neg k2,if_pos k3]; simp only [hdi,hf,hsd]
         rw [e1] at hQ; exact hQ _ _ _ h8 hp8
end
end
set_option maxRecDepth 10000
structure DeskOk (r:zbr) (k:Nat) (d:zat):Prop where
 marks:d.marks.length≤k
 susp:d.suspensions.length≤k
 period:0≤d.period∧d.period≤d.marks.length
 watch:zsX r d.watch
 some:d.watch.Suspended=true→0 < d.suspensions.length
def zgl (p:Int) (f:Bool) (g:zbe) (l:List zbC) (i:Nat):List zbC:=l.mapIdx fun j m=>if j < i then voidIf p f g j m else m
theorem zEE (p:Int) (f:Bool) (g:zbe) (l:List zbC) (i:Nat):(zgl p f g l i).length=l.length:=by simp [zgl]
theorem zsN {p:Int} {f:Bool} {g:zbe} {l:List zbC} {i:Nat} (hi:i < l.length):(zgl p f g l i)[i]?=some l[i]:=by unfold zgl; rw [zla,zau hi]; simp
theorem zwF {p:Int} {f:Bool} {g:zbe} {l:List zbC} {i:Nat} (hi:i < l.length):zgl p f g l (i+1)=(zgl p f g l i).set i (voidIf p f g i l[i]):=by
 unfold zgl; apply zk7; intro j; rw [zqx,zla,zla,List.length_mapIdx]; by_cases hj:i=j
 · subst hj; rw [zau hi]; simp [hi]
 · rw [if_neg hj]
   cases l[j]? with
   | none=>rfl
   | some m =>
     simp only [zde]; by_cases h:j < i
     · simp [h,show j < i+1 by omega]
     · simp [h,show ¬ j < i+1 by omega]
theorem zDU {p:Int} {f:Bool} {g:zbe} {l:List zbC} {i:Nat} (hi:i < l.length) (h:voidIf p f g i l[i]=l[i]):zgl p f g l (i+1)=zgl p f g l i:=by
 rw [zwF hi,h]; apply zk7; intro j; rw [zqx]; by_cases hj:i=j
 · subst hj; rw [zsN hi,if_pos rfl,zEE,if_pos hi]
 · rw [if_neg hj]
theorem zED (p:Int) (f:Bool) (g:zbe) (l:List zbC):zgl p f g l l.length=l.mapIdx (voidIf p f g):=by
 unfold zgl; apply zk7; intro j; rw [zla,zla]
 cases h:l[j]? with
 | none=>rfl
 | some m=>have:=(zbH.1 h).1; simp [this]
theorem zBG {p:Int} (f:Bool) (g:zbe) (l:List zbC) (hp:0≤p):zgl p f g l p.toNat=l:=by
 unfold zgl; apply zk7; intro j; rw [zla]
 cases h:l[j]? with
 | none=>rfl
 | some m =>
   simp only [zde,voidIf]; by_cases hj:j < p.toNat
   · rw [if_pos hj,iNQ]
   · rw [if_neg hj]
theorem susp_loop {d:zat} (hl:d.marks.length≤1000000) (x:zbQ) (us:List zbQ):∀ (n i:Nat),i+n=d.marks.length→d.period≤i→zdk d x (List.map zar (zgl d.period x.First x.Good d.marks i)) (List.map zao us) i=some (zb8 { d with marks:=d.marks.mapIdx (voidIf d.period x.First x.Good),suspensions:=us }):=by
 intro n
 induction n with
 | zero =>
   intro i hi hpi; refine zlF _ _ _ _ _ ?_; rw [zaW (by simp; omega),show i=d.marks.length by omega,zED]; have e:(List.map zar d.marks).length=(List.map zar (d.marks.mapIdx (voidIf d.period x.First x.Good))).length:=by simp
   rw [e]; rfl
 | succ n ih =>
   intro i hi hpi; have hlt:i < d.marks.length:=by omega
   have void:voidIf d.period x.First x.Good i d.marks[i]={ d.marks[i] with void:=true }→zeS d x (List.map zar (zgl d.period x.First x.Good d.marks i)) (List.map zao us) i=some (zb8 { d with marks:=d.marks.mapIdx (voidIf d.period x.First x.Good),suspensions:=us }):=by intro hv; refine zpE _ _ _ _ _ ?_; rw [cPQ,zam (by simp; omega),zb9,zbf,zlh,zsN hlt,zaS,w6Q,show ((i:Int)+1)=((i+1:Nat):Int) by omega]; have:=ih (i+1) (by omega) (by omega); rw [zwF hlt,hv,← zgk] at this; exact this
   refine zlF _ _ _ _ _ ?_; rw [zaC (by simp; omega)]
   cases hf:x.First with
   | true=>rw [zaZ,← hf]; exact void (by unfold voidIf; rw [if_pos ⟨hpi,by rw [hf]; rfl⟩])
   | false =>
     rw [zaB,cPQ,zam (by simp; omega),zb9,zbf,zlh,← hf,zsN hlt,zaS,ztk,za3,zyU]
     cases hc:lessS x.Good d.marks[i].event.Stamp with
     | true=>rw [zaZ]; exact void (by unfold voidIf; rw [if_pos ⟨hpi,by rw [hc]; simp⟩])
     | false=>rw [zaB,w6Q,show ((i:Int)+1)=((i+1:Nat):Int) by omega]; have:=ih (i+1) (by omega) (by omega); rw [zDU hlt (by unfold voidIf; rw [if_neg (by rw [hf,hc]; simp)])] at this; exact this
theorem c_suspend (d:zat) (id:Int) (a:zbe) (hl:d.marks.length≤1000000) (hs:d.suspensions.length≤1000000) (hp:0≤d.period∧d.period≤d.marks.length):cw zgv [.loc 1000 14 0 0,I id,.agg (zcv a)] (zod d)=some (zb8 (suspS id a d)):=by
 refine zsD d id a ?_
 have go:∀ x:zbQ,x.First=!d.some→x.Good=(if d.some=true then d.good else d.started)→x.Marker=id→x.At=a→x.Until=⟨0,0,0⟩→x.Lifted=false→zdk d x (List.map zar d.marks) (List.map zao d.suspensions++[zao x]) d.period=some (zb8 (suspS id a d)):=by
  intro x h1 h2 h3 h4 h5 h6; have:=susp_loop hl x (d.suspensions++[x]) (d.marks.length - d.period.toNat) d.period.toNat (by omega) (by omega)
  rw [zBG _ _ _ hp.1,show ((d.period.toNat:Nat):Int)=d.period by omega,← zcS] at this; rw [this]; unfold suspS; obtain ⟨m,g,t,u,f,li⟩:=x; simp only at h1 h2 h3 h4 h5 h6; subst h1 h2 h3 h4 h5 h6; rfl
 cases hso:d.some with
 | true=>rw [zb6,zaB]; refine zog _ _ _ ?_; rw [zam rfl,zam (by simp only [zaq]; omega)]; exact go ⟨id,⟨d.good.Time,d.good.Source,d.good.Seq⟩,⟨a.Time,a.Source,a.Seq⟩,⟨0,0,0⟩,false,false⟩ (by rw [hso]; rfl) (by rw [hso]; rfl) rfl rfl rfl rfl
 | false=>rw [zdE,zaZ]; refine zpD _ _ _ ?_; rw [zam rfl,zam (by simp only [zaq]; omega)]; exact go ⟨id,⟨d.started.Time,d.started.Source,d.started.Seq⟩,⟨a.Time,a.Source,a.Seq⟩,⟨0,0,0⟩,true,false⟩ (by rw [hso]; rfl) (by rw [hso]; rfl) rfl rfl rfl rfl
theorem modify_at {α:Type} {l:List α} {i:Nat} (f:α→α) (h:i < l.length):l.modify i f=l.set i (f l[i]):=by
 apply zk7; intro j; rw [List.getElem?_modify,zqx]; by_cases hj:i=j
 · subst hj; simp [h]
 · simp [hj]
theorem zEp (d:zat) (a:zbe) (hs:d.suspensions.length≤1000000) (h0:d.watch.Suspended=true→0 < d.suspensions.length):cw zfD [.loc 1000 14 0 0,.agg (zcv a)] (zM d)=some (zb8 (reinS a d)):=by
 refine zrh d a ?_; unfold reinS; obtain ⟨lv,mk,pe,st,no,⟨la,su⟩,go,so,us⟩:=d; simp only at hs h0 ⊢
 cases su with
 | false=>rfl
 | true =>
   have h1:=h0 rfl; have hlt:us.length - 1 < us.length:=by omega
   rw [zb6,zaB,zaq,w6Q,cPQ,cPQ,zb9,zgF h1,zp0,zau hlt,zaS,zgk,zp0,zqx,if_pos rfl,if_pos hlt,zaS,zgk,List.set_set,if_pos rfl,modify_at _ hlt]; have e:us.length=(List.map zao (us.set (us.length - 1) ⟨us[us.length - 1].Marker,⟨us[us.length - 1].Good.Time,us[us.length - 1].Good.Source,us[us.length - 1].Good.Seq⟩,⟨us[us.length - 1].At.Time,us[us.length - 1].At.Source,us[us.length - 1].At.Seq⟩,⟨a.Time,a.Source,a.Seq⟩,us[us.length - 1].First,true⟩)).length:=by simp
   conv=>lhs; arg 1; arg 2; arg 1; arg 2; arg 3; rw [e]
   conv=>rhs; rw [show mk.length=(List.map zar mk).length by simp]
   rfl
theorem c_note (hok:CallOK zP (single zb2 zOrc)) (s:zak) (hm:OkMon s.Monitor) (p:zaJ) (sd:GSeed) (e:zab) (d:zat) {k:Nat} (hd:DeskOk s.Monitor k d) (hk:k < 1000000)
  (hp:p.Parts.length≤24) (hsd:sd.Marks.length=p.Parts.length):cw zhJ [.loc 1000 14 0 0,.agg (zaj s),.agg (zaT p),.agg (zcd sd),.agg (zaa e)] (zM d)=some (zb8 (noteS s p sd e d)):=by
 have hml:=hd.marks; have hsl:=hd.susp; refine zvC d s p sd e ?_; rw [zme]; unfold noteS
 cases hf:(mfind ⟨e.Script,e.Part⟩ d.noted).isSome with
 | true=>rw [zaZ,if_pos rfl]; rfl
 | false =>
 rw [zaB,iNs,zrP]; simp only; generalize mput ⟨e.Script,e.Part⟩ e.Value d.noted=no
 have key:∀ (n i:Nat) (x y:List Int),i+n=p.Parts.length→x.length≤i→y.length≤i→zfs d s p sd e (List.map zaz no) (List.map zaf x) (List.map zaf y) i=some (zb8 (match gather no e.Script sd.Marks (p.Parts.drop i) i x y with
    | none=>{ d with noted:=no }
    | some (x,y) =>
      if d.watch.Suspended then { d with noted:=no }
      else
       if (stepW s.Monitor d.watch (goodS s.Monitor x y)).Suspended then suspS e.Stamp.Source e.Stamp { { d with noted:=no } with watch:=stepW s.Monitor d.watch (goodS s.Monitor x y) }
       else if goodS s.Monitor x y then { { { d with noted:=no } with watch:=stepW s.Monitor d.watch (goodS s.Monitor x y) } with good:=e.Stamp,some:=true }
       else { { d with noted:=no } with watch:=stepW s.Monitor d.watch (goodS s.Monitor x y) })):=by
  intro n
  induction n with
  | zero =>
    intro i x y hi hx hy; refine znx _ _ _ _ _ _ _ _ _ ?_; rw [zaq,zaW (by omega),cPQ,cPQ,take_len,take_len,c_Good _ hm x y (by omega) (by omega),zaw,c_Step hok _ hm _ hd.watch,zwg,zmW (by omega)]; unfold gather; simp only; generalize goodS s.Monitor x y=gd; obtain ⟨lv,mk,pe,st,no0,⟨la,su⟩,go,so,us⟩:=d; simp only at *
    cases su with
    | true=>rfl
    | false =>
      rw [iNs,iNs,show ((0:Int) != 0)=false from rfl,zaB]; generalize hw:stepW s.Monitor ⟨la,false⟩ gd=w2; obtain ⟨l2,s2⟩:=w2; simp only
      cases s2 with
      | true=>rw [zaZ,if_pos rfl,zam trivial,zam trivial]; have hc:=c_suspend ⟨lv,mk,pe,st,no,⟨l2,true⟩,go,so,us⟩ e.Stamp.Source e.Stamp (by show mk.length≤_; omega) (by show us.length≤_; omega) hd.period; have hc':cw zgv [.loc 1000 14 0 0,I e.Stamp.Source,.agg (zcv e.Stamp)] [(1000,⟨14,zbu,[[I lv,.row 900 10 0 ((List.map zar mk).length),I pe,I st.Time,I st.Source,I st.Seq,.map 901,.sl 1 (List.map nBool l2),B true,I go.Time,I go.Source,I go.Seq,B so,.row 902 12 0 ((List.map zao us).length)]],true⟩),(900,⟨10,zbv,List.map zar mk,false⟩),(901,⟨0,za2,List.map zaz no,false⟩),(902,⟨12,zay,List.map zao us,false⟩)]=_:=hc; rw [hc',zge]; rfl
      | false =>
        rw [zaB,iNs]
        cases gd with
        | true=>rfl
        | false=>rfl
  | succ n ih =>
    intro i x y hi hx hy; have hlt:i < p.Parts.length:=by omega
    refine znx _ _ _ _ _ _ _ _ _ ?_; rw [zaq,zaC (by omega),cPQ,zbf,zdF,zau hlt,zaS,zhX hlt,w6Q,show ((i:Int)+1)=((i+1:Nat):Int) by omega]; unfold gather; by_cases hk1:p.Parts[i].Kind=1
    · rw [show (p.Parts[i].Kind != 1)=false by simp [hk1],zaB,if_pos hk1,zme]; have hi2:i < sd.Marks.length:=by omega
      cases hv:mfind ⟨e.Script,i⟩ no with
      | none=>simp only [zqX,zdE,zaZ]; rfl
      | some v=>simp only [zk8,zb6,zaB,zeV]; rw [cPQ,zbX,zau hi2,zaS,zam trivial,zam (by simp only [zaq]; omega),zam trivial,zam trivial,zam (by simp only [zaq]; omega),zam trivial]; have:=ih (i+1) (x++[sd.Marks[i]]) (y++[v]) (by omega) (by simp; omega) (by simp; omega); rw [← zcS,← zcS] at this; rw [show sd.Marks.getD i 0=sd.Marks[i] by rw [zqQ,zau hi2]; rfl]; exact this
    · rw [show (p.Parts[i].Kind != 1)=true by simp [hk1],zaZ,if_neg hk1]; exact ih (i+1) x y (by omega) (by omega) (by omega)
 have:=key p.Parts.length 0 [] [] (by omega) (by simp) (by simp); rw [zta] at this; exact this
set_option maxRecDepth 100000
noncomputable section
def walkW {s:zak} (g:Legs s) (ev:List zab):Desks×Reop:=ev.foldl (evG g) (seats s.Markers,[])
theorem upd_D {s:zak} (g:Legs s) {ds:Desks} {k i:Nat} {d:zat} (h:∀ i d,ds i=some d→g.D k d) (hd:g.D (k+1) d):∀ j d',upd ds i d j=some d'→g.D (k+1) d':=fun j d' hj=>by
 unfold upd at hj; split at hj
 · injection hj with hj; rw [← hj]; exact hd
 · exact g.Dup k d' (h j d' hj)
theorem stepW_D {s:zak} (g:Legs s) {ds:Desks} {R:Reop} {k:Nat} {e:zab} (hok:g.ok e) (h:∀ i d,ds i=some d→g.D k d):∀ i d,(evG g (ds,R) e).1 i=some d→g.D (k+1) d:=by
 intro i d hi; unfold evG at hi; split at hi
 · split at hi
   · rename_i d0 hd0; exact upd_D g h (g.Drein k d0 e hok (h _ _ hd0)) i d hi
   · exact g.Dup k d (h i d hi)
 · split at hi
   · exact g.Dup k d (h i d hi)
   · split at hi
     · split at hi
       · rename_i d0 q hd0 _; split at hi
         · exact upd_D g h (g.Dnote k d0 _ _ e hok (h _ _ hd0)) i d hi
         · exact upd_D g h (g.Dapp k d0 e hok (h _ _ hd0)) i d hi
         · exact g.Dup k d (h i d hi)
       · exact g.Dup k d (h i d hi)
     · exact g.Dup k d (h i d hi)
theorem seats_D {s:zak} (g:Legs s) (ms:List zbk):∀ i d,seats ms i=some d→g.D 0 d:=by
 have key:∀ (ms:List zbk) (ds:Desks),(∀ i d,ds i=some d→g.D 0 d)→∀ i d,(ms.foldl (fun ds m=>upd ds m.ID.toNat (desk0 m.Level)) ds) i=some d→g.D 0 d:=by
  intro ms
  induction ms with
  | nil=>intro ds h; exact h
  | cons m ms ih =>
    intro ds h; refine ih _ (fun i d hi=>?_); replace hi:upd ds m.ID.toNat (desk0 m.Level) i=some d:=hi; unfold upd at hi; split at hi
    · injection hi with hi; rw [← hi]; exact g.D0 _
    · exact h i d hi
 exact key ms _ (fun i d h=>by cases h)
section
variable {w0:World} {S0:Nat→Prop} {κ0:Kap} {K:Nat→Prop} {a:Act} {w:World}
theorem wk_loop {s:zak} {ev:List zab} (g:Legs s) {x:Nat→Option Addr} {κd0:Nat→Kap} (hok:∀ e∈ev,g.ok e) (hev:ev.length < 1000000)
  (h:Now w0 S0 κ0 K zaN.fn.ntmps (mems (seats s.Markers)) κd0 (stE s ev x [] 0) a w) (hp:Points (seats s.Markers) κd0 x) {Q:Exit→Act→World→Prop}
  (hQ:∀ a' w' κd,Now w0 S0 κ0 K zaN.fn.ntmps (mems (walkW g ev).1) κd (stE s ev x (walkW g ev).2 ev.length) a' w'→Points (walkW g ev).1 κd x→Q .normal a' w'):(Code.block 2 (.loop (.seq (.region 9 (wkO 9) (wkD 9)) (.seq (.cond (.tmp 41) .skip (.exit 2)) (.seq (.block 3 (.seq (.region 10 (wkO 10) (wkD 10)) (.seq (.region 11 (wkO 11) (wkD 11)) (.block 4 (.seq (.region 12 (wkO 12) (wkD 12)) (.cond (.tmp 46) (.seq (.region 13 (wkO 13) (wkD 13)) (.seq (.region 14 (wkO 14) (wkD 14)) (.cond (.tmp 55) (.region 15 (wkO 15) (wkD 15)) .skip))) (.seq (.region 16 (wkO 16) (wkD 16)) (.cond (.tmp 60) (.region 17 (wkO 17) (wkD 17)) (.seq (.region 18 (wkO 18) (wkD 18)) (.cond (.tmp 70) (.seq (.region 19 (wkO 19) (wkD 19)) (.seq (.seq (.region 20 (wkO 20) (wkD 20)) (.cond (.tmp 80) (.exit 3) .skip)) (.seq (.region 21 (wkO 21) (wkD 21)) (.seq (.region 22 (wkO 22) (wkD 22)) (.cond (.tmp 88) (.region 23 (wkO 23) (wkD 23)) (.region 24 (wkO 24) (wkD 24))))))) .skip)))))))))) (.region 25 (wkO 25) (wkD 25))))))).wp zaN.P Q a w:=by
 let pre:Nat→Desks×Reop:=fun k=>(ev.take k).foldl (evG g) (seats s.Markers,[])
 refine wp_block (wp_loop (fun a w=>∃ k κd,k≤ev.length∧Now w0 S0 κ0 K zaN.fn.ntmps (mems (pre k).1) κd (stE s ev x (pre k).2 k) a w∧Points (pre k).1 κd x∧∀ i d,(pre k).1 i=some d→g.D k d)
  (fun a _=>ev.length - cnt a 40) ⟨0,κd0,zfQ _,h,hp,seats_D g _⟩ ?_)
 rintro a w ⟨k,κd,hk,hn,hp,hD⟩
 have hc0:cnt a 40=k:=by rw [zxc hn (n:=(k:Int)) rfl]; simp
 refine wp_seq (wkStep wk_r9 (w9 s ev _ _ _ _) hn (fun a1 w1 h1=>?_)); refine wp_seq (wp_cond (h1.bool (b:=decide ((k:Int) < (List.map zaa ev).length)) rfl) ?_); by_cases hlt:k < ev.length
 · rw [decide_eq_true (by simp; omega),if_pos rfl]; refine wp_skip ?_; have h2:=h1.trim [2,6,9,38,39,40] [] (st':=stE s ev x (pre k).2 k) (by kernel_rfl); refine wp_seq ?_
   have e:pre (k+1)=evG g (pre k) ev[k]:=by show (ev.take (k+1)).foldl (evG g) _=_; rw [zk9 hlt,zqY]; rfl
   refine wk_event g hlt (hok _ (zbt hlt)) hev h2 hp hD (fun a3 w3 κd3 h3 hp3=>?_); refine wkStep wk_r25 (w25 s ev _ _ _ _) h3 (fun a6 w6 h6=>?_); rw [w6Q] at h6; refine ⟨⟨k+1,κd3,hlt,by rw [e]; exact_mod_cast h6,by rw [e]; exact hp3,by rw [e]; exact stepW_D g (hok _ (zbt hlt)) hD⟩,?_⟩; have:cnt a6 40=k+1:=by rw [zxc h6 (n:=(k:Int)+1) rfl]; omega
   show ev.length - cnt a6 40 < ev.length - cnt a 40; omega
 · rw [decide_eq_false (by simp; omega),iNs]; refine wp_exit ?_; have hkl:k=ev.length:=by omega
   subst hkl
   have e:pre ev.length=walkW g ev:=by show (ev.take ev.length).foldl (evG g) _=_; rw [ziE]; rfl
   rw [e] at h1 hp; exact hQ _ _ _ (h1.trim [2,6,9,38,39,40] [] (by kernel_rfl)) hp
theorem desk_snap (d:zat):snap (Ab.look (deskM d)) 5 (.loc 300 14 0 0)=some (.fp (zd9 d)):=by
 have e0:Ab.look (deskM d) 300=some (e0D d):=rfl; have e1:Ab.look (deskM d) 301=some ⟨10,zbv,List.map zar d.marks,false⟩:=rfl; have e2:Ab.look (deskM d) 302=some ⟨0,za2,List.map zaz d.noted,false⟩:=rfl; have e3:Ab.look (deskM d) 303=some ⟨12,zay,List.map zao d.suspensions,false⟩:=rfl
 have r1:snap (Ab.look (deskM d)) 4 (.row 301 10 0 (List.map zar d.marks).length)=some (.sl 10 (List.map zar d.marks)):=by simp only [snap,e1]; simp [zcG]
 have r2:snap (Ab.look (deskM d)) 4 (.map 302)=some (.mp (List.map zaz d.noted)):=by simp only [snap,e2]; simp
 have r3:snap (Ab.look (deskM d)) 4 (.row 303 12 0 (List.map zao d.suspensions).length)=some (.sl 12 (List.map zao d.suspensions)):=by simp only [snap,e3]; simp [zcG]
 rw [show snap (Ab.look (deskM d)) 5 (.loc 300 14 0 0)=(match mapO (snap (Ab.look (deskM d)) 4) [I d.level,.row 301 10 0 ((List.map zar d.marks).length),I d.period,I d.started.Time,I d.started.Source,I d.started.Seq,.map 302,AV.sl 1 (List.map nBool d.watch.Last),B d.watch.Suspended,I d.good.Time,I d.good.Source,I d.good.Seq,B d.some,.row 303 12 0 ((List.map zao d.suspensions).length)] with
  | some l=>some (.fp l)
  | none=>none) from rfl]
 simp only [mapO,r1,r2,r3]; rfl
theorem zEw:enters zaN.P zed=true:=by kernel_rfl
theorem zEA {S S':Nat→Prop} {κd:Kap} {d:zat} {g c:Nat} {w:World} (hF:FarObj S w κd (Ab.look (deskM d))) (hS:∀ g,S g→S' g) (hb:∀ b g c,(Ab.look (deskM d) b).isSome=true→κd b=some (g,c)→S' g)
  (hκ:κd 300=some (g,c)):CRel S' w (.fp (zd9 d)) (.pointer (some ⟨g,0,none⟩)):=by
 have hv:VRel S κd (fun b=>(Ab.look (deskM d) b).isSome=true) w (.loc 300 14 0 0) (.pointer (some ⟨g,0,none⟩)):=by have:=VRel.loc (S:=S) (κ:=κd) (D:=fun b=>(Ab.look (deskM d) b).isSome=true) (w:=w) 300 14 0 0 g c rfl hκ; simpa using this
 exact ziB hF.ents hS 5 hv (desk_snap d) (fun b hbm g c hk=>hb b g c (ids_D hF.ents 5 _ _ hv b hbm) hk)
theorem walk_calls {s:zak} {ev:List zab} (g:Legs s) (hm:∀ m∈s.Markers,0≤m.ID∧m.ID < 100) (hml:s.Markers.length < 1000000) (hok:∀ e∈ev,g.ok e) (hev:ev.length < 1000000)
  (w:World) (S:Nat→Prop) (κ:Kap) (vals:Array Value) (hvl:vals.size=2) (hS:∀ g,S g→g < w.heap.size)
  (hv:∀ (k:Nat) (a:AV) (x:Value),[AV.agg (zaj s),AV.sl 9 (List.map zaa ev)][k]?=some a→vals[k]?=some x→VRel S κ (Dm []) w a x):Calls zaN.P zed vals w (Ab.Left S κ [] [] (.tup [.fa 1 ((deskL (walkW g ev).1).map nDp),.mp (List.map zax (walkW g ev).2)]) w):=by
 have hf:zaN.P.funcs[zed]?=some zaN.fn:=by kernel_rfl
 refine calls_of_wp hf wk_hb ?_; have h0:=GoodS.start (args:=[AV.agg (zaj s),AV.sl 9 (List.map zaa ev)]) (κ:=κ) (ms:=[]) (N:=zaN.fn.ntmps) (by rw [hvl]; rfl) (show 2≤zaN.fn.ntmps by decide) hS hv (fun b ent hb=>by simp [Ab.look] at hb) (fun b b' g c c' hb=>by simp [Dm,Ab.look] at hb); have n0:Now w S κ (Dm []) zaN.fn.ntmps (fun _=>none) (fun _=>κ) ⟨argTab 0 [AV.agg (zaj s),AV.sl 9 (List.map zaa ev)],[]⟩ _ w:=⟨S,κ,h0,Objs.none⟩
 generalize ({ tmps:=vals++Array.replicate (zaN.fn.ntmps - vals.size) undef,defers:=[] }:Act)=a0 at n0; rw [wk_shape]; refine wp_seq (wkStep wk_r0 (Go.Proofs.YtlecnobdfhlmnaaGreat.w0 s ev) n0 (fun a1 w1 h1=>?_)); refine wp_seq (wkStep wk_r1 (Go.Proofs.YtlecnobdfhlmnaaGreat.w1 s ev) h1 (fun a2 w2 h2=>?_)); refine wp_seq (wp_seq (wkStep wk_r2 (Go.Proofs.YtlecnobdfhlmnaaGreat.w2 s ev (fun _=>none)) h2 (fun a3 w3 h3=>?_))); refine wk_markers hm hml h3 (fun a4 w4 κd4 x h4 hp4=>?_); have h5:=wk_toRow h4; refine wp_seq (wkStep wk_r7 (Go.Proofs.YtlecnobdfhlmnaaGreat.w7 s ev (rows x)) h5 (fun a6 w6 h6=>?_)); refine wp_seq (wp_seq (wkStep wk_r8 (Go.Proofs.YtlecnobdfhlmnaaGreat.w8 s ev (rows x) []) h6 (fun a7 w7 h7=>?_))); have h8:=h7.trim [2,6,9,38,39,40] [] (st':=stE s ev x [] 0) (by kernel_rfl); refine wk_loop g hok hev h8 hp4 (fun a9 w9 κd9 h9 hp9=>?_); have h10:=h9.trim [6,9] [2] (st':=⟨[(6,AV.loc 18 1 0 0),(9,AV.map 37)],[bA x,bR (walkW g ev).2]⟩) (by kernel_rfl); refine wp_seq (wkStep wk_r26 (Go.Proofs.YtlecnobdfhlmnaaGreat.w26 (rows x) _) h10 (fun a11 w11 h11=>?_)); refine wp_ret ?_; obtain ⟨S2,κ2,hg,ho⟩:=h11; refine ⟨hg.defers,?_⟩; obtain ⟨v,hrun,hres⟩:=zpQ (P:=zaN.P) (st:=⟨[(4,AV.loc 18 1 0 0),(5,AV.map 37)],[bA x,bR (walkW g ev).2]⟩) hg.slots hg.ents (fn:=zaN.fn) (l:=[.loc 18 1 0 0,.map 37]) (by kernel_rfl)
 have hv2:VRel S2 κ2 (fun b=>(Ab.look [bA x,bR (walkW g ev).2] b).isSome=true) w11 (.tup [.loc 18 1 0 0,.map 37]) v:=by
  rcases hres with ⟨a,ha,_⟩ | ⟨_,h⟩
  · cases ha
  · exact h
 refine ⟨v,hrun,v,fun q=>S2 q∨(∃ b c,(Ab.look [bA x,bR (walkW g ev).2] b).isSome=true∧κ2 b=some (q,c))∨∃ i d b c,(walkW g ev).1 i=some d∧(Ab.look (deskM d) b).isSome=true∧κd9 i b=some (q,c),κ,rfl,hg.os,hg.tape,hg.output,hg.grow,?_,?_,?_,?_,fun _ _=>rfl,?_,?_,?_,?_⟩
 · exact fun q hq hK=>hg.old q hq hK
 · exact fun q hq=>.inl (hg.sup q hq)
 · intro q hq; rcases hq with h | ⟨b,c,hb,hk⟩ | ⟨i,d,b,c,hd,hb,hk⟩
   · exact hg.snew q h
   · have hb':b < 300:=zj7 (m:=[bA x,bR (walkW g ev).2]) (by kernel_rfl) b hb; exact .inr (hg.own b q c (by omega) hb hk)
   · exact .inr (ho.far i (deskM d) b q c (by simp [mems,hd]) hb hk).2
 · intro q hq; rcases hq with h | ⟨b,c,hb,hk⟩ | ⟨i,d,b,c,hd,hb,hk⟩
   · exact hg.slt q h
   · obtain ⟨ent,he⟩:=zch.1 hb; have hE:=hg.ents b ent he; rw [hk] at hE; exact hE.lt
   · exact (ho.far i (deskM d) b q c (by simp [mems,hd]) hb hk).1.1
 · intro b g c _ hb; simp [Dm,Ab.look] at hb
 · intro b b' g c c' hb; simp [Dm,Ab.look] at hb
 · intro b ent hb; simp [Ab.look] at hb
 ·
  obtain ⟨vs,rfl,hsz,hvs⟩:=hv2.tup_inv; refine CRel.tup _ _ (by simpa using hsz) (fun j c y hj hy=>?_); have hS':∀ q,S2 q→(fun q=>S2 q∨(∃ b c,(Ab.look [bA x,bR (walkW g ev).2] b).isSome=true∧κ2 b=some (q,c))∨∃ i d b c,(walkW g ev).1 i=some d∧(Ab.look (deskM d) b).isSome=true∧κd9 i b=some (q,c)) q:=fun q hq=>.inl hq
  match j with
  | 0 =>
    simp only [zh7,zaU] at hj; subst hj; have hv0:=hvs 0 _ y rfl hy; have hc0:CRel _ w11 (.fa 1 (rows x)) y:=ziB hg.ents hS' 5 hv0 (a':=.fa 1 (rows x)) (by simp only [snap,Ab.look,if_true]; rw [zo5 x 0 (by omega)]; rfl) (fun b hb g c hk=>.inr (.inl ⟨b,c,ids_D hg.ents 5 _ _ hv0 b hb,hk⟩))
    cases hc0 with
    | fa _ _ a u hz hSa hc hr =>
      have hget:∀ i c,((deskL (walkW g ev).1).map nDp)[i]?=some c→i < 100∧c=nDp ((walkW g ev).1 i):=fun i c hi=>by
       have hl:i < 100:=by have:=(zbH.1 hi).1; simpa [deskL] using this
       refine ⟨hl,?_⟩; unfold deskL at hi; rw [zcQ,zcQ,zou hl] at hi; simpa using hi.symm
      refine .fa 1 _ a u (fun cs hcs=>?_) hSa (fun i j cs c hi hj=>?_) (fun i j cs c hi hj=>?_)
      · obtain ⟨o,_,rfl⟩:=zce.1 hcs; cases o <;> rfl
      · obtain ⟨hl,rfl⟩:=hget i cs hi
        have hj0:j=0:=by cases hq:(walkW g ev).1 i <;> rw [hq] at hj <;> cases j <;> simp [nDp] at hj ⊢
        subst hj0; exact hc i 0 _ _ (zo5 x i hl) rfl
      · obtain ⟨hl,rfl⟩:=hget i cs hi
        have hj0:j=0:=by cases hq:(walkW g ev).1 i <;> rw [hq] at hj <;> cases j <;> simp [nDp] at hj ⊢
        subst hj0
        have hu:u i 0=.pointer (x i):=by exact (VRel.c (κ:=fun _=>none) (D:=fun _=>False) (hr i 0 _ _ (zo5 x i hl) rfl)).v_inv
        rw [hu]; have hpi:=hp9 i hl
        cases hq:(walkW g ev).1 i with
        | none=>rw [hq] at hpi hj; simp [nDp] at hj; subst hj; rw [hpi]; exact .v _
        | some d=>rw [hq] at hpi hj; obtain ⟨g1,c1,hκ,hx⟩:=hpi; simp [nDp] at hj; subst hj; rw [hx]; exact zEA (ho.obj i (deskM d) (by simp [mems,hq])) hS' (fun b g c hb hk=>.inr (.inr ⟨i,d,b,c,hq,hb,hk⟩)) hκ
  | 1=>simp only [zwU,zh7,zaU] at hj; subst hj; have hv1:=hvs 1 _ y rfl hy; exact ziB hg.ents hS' 5 hv1 (by simp [snap,Ab.look]) (fun b hb g c hk=>.inr (.inl ⟨b,c,ids_D hg.ents 5 _ _ hv1 b hb,hk⟩))
  | j+2=>simp at hj
end
end
set_option maxRecDepth 10000
theorem zw9 {s:zak} {e:zab} {q:Nat} (h:fitS s e=some q):∃ x p y,zeP s.Scripts e.Script=some x∧eligB s.Markers e.Stamp.Source x=true∧zd3 s.Papers x=some (q,p)∧0≤e.Part∧p.Parts[e.Part.toNat]?=some y∧y.Kind=1∧permB y e.Value=true∧e.Pages=x.Pages:=by
 unfold fitS at h
 cases h1:zeP s.Scripts e.Script with
 | none=>simp [h1] at h
 | some x =>
   simp only [h1] at h; split at h
   case isFalse=>cases h
   rename_i h2
   cases h3:zd3 s.Papers x with
   | none=>simp [h3] at h
   | some kp =>
     obtain ⟨k,p⟩:=kp; simp only [h3] at h; split at h
     case isFalse=>cases h
     rename_i h4
     cases h5:p.Parts[e.Part.toNat]? with
     | none=>simp [h5] at h
     | some y =>
       simp only [h5] at h; split at h
       case isFalse=>cases h
       rename_i h6; injection h with h; subst h; exact ⟨x,p,y,rfl,h2,h3,h4,h5,h6.1,h6.2.1,h6.2.2⟩
theorem c_seedOf (s:zak) (n:Int) (hl:s.Seeds.length≤1000000):cw zjP [.agg (zaj s),I n] []=some (zhA ((seedS s n).getD ⟨0,[]⟩,(seedS s n).isSome)):=by
 refine zy7 s n ?_; unfold seedS; refine ziM s.Seeds (fun y=>y.Script == n) (fun i=>zim s n i) (fun o=>zhA (((o.map (·.2)).getD ⟨0,[]⟩),(o.map (·.2)).isSome)) ?_ ?_ ?_
 · exact zlG _ _ _ (by simp (disch:=omega) only [zaq,zaW]; rfl)
 · intro i hi h; refine zlG _ _ _ ?_; simp (disch:=omega) only [zaq,zaC,zam,zbf,zmA,zau hi,zaS,h,zaZ]; rfl
 · intro i hi y h hk; refine zlG _ _ _ ?_; simp (disch:=omega) only [zaq,zaC,zam,zbf,zmA,zau hi,zaS,h,zaB,w64_id,hk]
section
variable {s:zak} (hok:CallOK zP (single zbT zOrc)) (hs:zbP s)
include hok hs
theorem c_fits (x:Nat→Option Addr) (e:zab) (hr:0≤e.Stamp.Source∧e.Stamp.Source < 100) (hp:e.Pages.length≤1000000):cw zhc [.fa 1 (rows x),.agg (zaj s),.agg (zaa e)] []=some (zfM (match x e.Stamp.Source.toNat,fitS s e with
   | some p,some q=>((q:Int),some p)
   | _,_=>(0,none))):=by
 have hsl:=hs.scripts.1; have hpl:=hs.papers; have hml:=hs.markers.1; have hlen:=hs.len; refine zux _ s e ?_; have hrow:=zo5 x e.Stamp.Source.toNat (by omega)
 rw [zam hr.1,zam (by have:=hr.2; simpa using this)]
 cases hx:x e.Stamp.Source.toNat with
 | none=>rw [hx] at hrow; rw [zww hrow]; refine zqq _ _ ?_; rw [zun s _ (by omega),ziF]; rfl
 | some p =>
   rw [hx] at hrow; rw [zBR hrow]; refine zpF _ _ _ ?_; rw [zun s _ (by omega),ziF]; unfold fitS
   cases h1:zeP s.Scripts e.Script with
   | none=>rfl
   | some y =>
     simp only [scR,zb6,zaB]; rw [c_Eligible hok s.Markers _ y (by omega) (fun m hm=>hs.short2 m hm),zaw]
     cases h2:eligB s.Markers e.Stamp.Source y with
     | false=>rfl
     | true =>
       simp only [zb6,zaB,if_true]; rw [zwb s y (by omega),zgR]
       cases h3:zd3 s.Papers y with
       | none=>rfl
       | some kp =>
         obtain ⟨k,pp⟩:=kp; obtain ⟨hk,_⟩:=zeG h3; obtain ⟨hkl,_⟩:=zbH.1 hk; have hkc:k < s.Schemes.length:=by omega
         simp only [ixR,zb6,zaB]; by_cases h4:0≤e.Part
         case neg=>rw [zaC (by omega),if_neg h4]; rfl
         rw [zaW (by omega),if_pos h4,cPQ,zbf,ze4,hk,zaS,zaq]; by_cases h5:e.Part.toNat < pp.Parts.length
         case neg=>rw [zaC (by omega),zqT (by omega)]; rfl
         rw [zaW (by omega),cPQ,ze4,hk,zaS,zam h4,zdF,zau h5,zaS]; simp only; by_cases h6:pp.Parts[e.Part.toNat].Kind=1
         case neg=>rw [show (pp.Parts[e.Part.toNat].Kind != 1)=true by simp [h6],zaZ,if_neg (fun h=>h6 h.1)]; rfl
         rw [show (pp.Parts[e.Part.toNat].Kind != 1)=false by simp [h6],zaB]
         have fin:∀ b:Bool,permB pp.Parts[e.Part.toNat] e.Value=b→brn (!b) (some (AV.tup [I 0,.v (.pointer none)],[])) (zfx e p (y,true) ((k:Int),true))=some (zfM (match some p,if pp.Parts[e.Part.toNat].Kind=1∧permB pp.Parts[e.Part.toNat] e.Value=true∧e.Pages=y.Pages then some k else none with
           | some p,some q=>((q:Int),some p)
           | _,_=>(0,none))):=by
          intro b hb
          cases b with
          | false=>rw [zdE,zaZ,if_neg (fun h=>by rw [hb] at h; exact absurd h.2.1 (by simp))]; rfl
          | true =>
            rw [zb6,zaB]; refine zqr _ _ _ _ ?_; rw [c_Equal _ _ hp,zaw]; by_cases h7:e.Pages=y.Pages
            · rw [zbN h7,zb6,zaB,if_pos ⟨h6,hb,h7⟩]; rfl
            · rw [zbY h7,zdE,zaZ,if_neg (fun h=>h7 h.2.2)]; rfl
         by_cases h7:e.Value=-1
         · rw [show (e.Value != -1)=false by simp [h7],zaB]; have:=fin true (by unfold permB; rw [if_pos h7]); rw [zb6,zaB] at this; exact this
         · rw [show (e.Value != -1)=true by simp [h7],zaZ,cPQ,ze4,hk,zaS,cPQ,zpM,zau hkc,zaS]; have hc:=zEn pp s.Schemes[k] e.Part.toNat pp.Parts[e.Part.toNat] e.Value (hs.short _ (zbt hkc)) (hs.schemes k pp _ hk (zau hkc)) (zau h5); rw [show ((e.Part.toNat:Nat):Int)=e.Part by omega] at hc; rw [hc,zaw]; exact fin _ rfl
end
set_option maxRecDepth 10000
theorem lastW_len {r:zbr} {w:zdQ} {b:Bool} (h:(w.Last.length:Int)≤r.Window):((lastW r w b).length:Int)≤r.Window:=by
 unfold lastW; split
 · simp; omega
 · rename_i h; simp at h ⊢; omega
theorem zzw {r:zbr} {w:zdQ} {b:Bool} (h:(w.Last.length:Int)≤r.Window):zsX r (stepW r w b):=⟨lastW_len h,rfl⟩
theorem OkMon.blank {r:zbr} (h:OkMon r):zsX r ⟨[],false⟩:=by refine ⟨by have:=h.2.2.1; simp; omega,?_⟩; have:=h.2.2.2; show false=decide (r.Fails≤failsN []); rw [eq_comm,decide_eq_false_iff_not]; show ¬ r.Fails≤(0:Int); omega
section
variable {r:zbr} {k:Nat} {d:zat}
theorem DeskOk.zero (h:OkMon r) (l:Int):DeskOk r 0 (desk0 l):=⟨by simp [desk0],by simp [desk0],by simp [desk0],h.blank,by simp [desk0]⟩
theorem DeskOk.up (h:DeskOk r k d):DeskOk r (k+1) d:=⟨by have:=h.marks; omega,by have:=h.susp; omega,h.period,h.watch,h.some⟩
theorem DeskOk.rein (hm:OkMon r) (h:DeskOk r k d) (a:zbe):DeskOk r (k+1) (reinS a d):=by
 unfold reinS; split
 · exact ⟨by have:=h.marks; simp; omega,by have:=h.susp; simp; omega,by simp,hm.blank,by simp⟩
 · exact h.up
theorem DeskOk.app (h:DeskOk r k d) (m:zbC):DeskOk r (k+1) { d with marks:=d.marks++[m] }:=
 ⟨by have:=h.marks; simp; omega,by have:=h.susp; simp; omega,by have:=h.period; simp; omega,h.watch,h.some⟩
theorem DeskOk.note (h:DeskOk r k d) {s:zak} (hr:s.Monitor=r) (p:zaJ) (sd:GSeed) (e:zab):DeskOk r (k+1) (noteS s p sd e d):=by
 subst hr; have h1:=h.marks; have h2:=h.susp; have h3:=h.period; unfold noteS; split
 · exact h.up
 · simp only; split
   · exact ⟨by show d.marks.length≤_; omega,by show d.suspensions.length≤_; omega,h3,h.watch,h.some⟩
   · split
     · exact ⟨by show d.marks.length≤_; omega,by show d.suspensions.length≤_; omega,h3,h.watch,h.some⟩
     · split
       · unfold suspS; exact ⟨by simp; omega,by simp; omega,by simpa using h3,zzw h.watch.1,fun _=>by simp⟩
       · rename_i hn; split
         · exact ⟨by show d.marks.length≤_; omega,by show d.suspensions.length≤_; omega,h3,zzw h.watch.1,fun q=>absurd q hn⟩
         · exact ⟨by show d.marks.length≤_; omega,by show d.suspensions.length≤_; omega,h3,zzw h.watch.1,fun q=>absurd q hn⟩
end
theorem zBS {e:zab} (h:eventB e=true):OkEvent e:=by unfold eventB stampB at h; simp only [zcw,decide_eq_true_eq,zec] at h; obtain ⟨⟨⟨⟨h1,h2⟩,h3⟩,h4⟩,h5⟩:=h; exact ⟨h1,h2,h3,h4,h5⟩
section
variable (okI:CallOK zP (single zbT zOrc)) (okB:CallOK zP (single zb2 zOrc))
include okI okB
def legs {s:zak} (hs:zbP s):Legs s where
 rein:=reinS
 note:=noteS s
 fit:=fitS s
 seed:=seedS s
 ok:=fun e=>eventB e=true
 D:=DeskOk s.Monitor
 ranges:=fun e he=>by have h:=zBS he; have h1:=h.1; have h2:=h.2.2.2.2; unfold OkStamp at h1; unfold OkKind at h2; omega
 D0:=fun l=>DeskOk.zero hs.monitor l
 Dup:=fun _ _ h=>h.up
 Dlen:=fun _ _ h=>h.marks
 Drein:=fun _ _ _ _ h=>h.rein hs.monitor _
 Dnote:=fun _ _ _ _ _ _ h=>h.note rfl _ _ _
 Dapp:=fun _ _ _ _ h=>h.app _
 fit_lt:=fun e q h=>by obtain ⟨x,p,y,_,_,h3,_⟩:=zw9 h; exact (zbH.1 (zeG h3).1).1
 cRein:=fun k d e hk _ h=>zEp d e.Stamp (by have:=h.susp; omega) h.some
 cNote:=fun k d p sd e hk _ h hp hfit hseed=>by
  have hpm:=(hs.schemes · p · · ·)
  obtain ⟨q,hq,hpq⟩:=hfit; obtain ⟨x,p',y,h1,_,h3,_⟩:=zw9 hq
  have hpp:p'=p:=by have:=(zeG h3).1; rw [hpq] at this; injection this with this; exact this.symm
  subst hpp; unfold seedS at hseed
  cases hsd:seedOf s.Seeds e.Script with
  | none=>simp [hsd] at hseed
  | some js =>
    obtain ⟨j,sd'⟩:=js; simp only [hsd,zde,zaU] at hseed; subst hseed; obtain ⟨hj,hje,_⟩:=fnd_at hsd; have hse:sd'.Script=e.Script:=by simpa using hje
    obtain ⟨k2,p2,h4,h5⟩:=hs.seed sd' (zb1 hj); unfold zgX at h4; rw [hse,h1,zaS,h3] at h4; injection h4 with h4; cases h4; have hlen:p'.Parts.length≤24:=(zbP.okPaper hs hpq).2.2.1.2; exact c_note okB s hs.monitor p' sd' e d h hk hlen h5.1
 cFits:=fun x e he=>by have h:=zBS he; have h1:=h.1; have h2:=h.2.2.1; unfold OkStamp at h1; exact c_fits okI hs x e (by omega) (by omega)
 cSeed:=fun n=>c_seedOf s n (by have:=hs.seeds; omega)
theorem walk_ok:CallOK zP (single zed zOrc):=by
 intro f args ms r ms' h; unfold single at h; split at h
 case isFalse=>cases h
 rename_i hf; subst hf; simp only [zOrc,if_true] at h
 cases ms with
 | cons a m=>cases h
 | nil =>
 simp only [oWalk] at h; split at h
 case isFalse=>cases h
 rename_i hex; have hsp:=hex.choose_spec.choose_spec; generalize hex.choose_spec.choose=ev at h hsp; generalize hex.choose=s at h hsp; obtain ⟨ha,hs,hev,hlen⟩:=hsp; subst ha; injection h with h; have h1:r=.tup [.fa 1 ((deskL (walkS s ev).1).map nDp),.mp (List.map zax (walkS s ev).2)]:=(congrArg Prod.fst h).symm; have h2:ms'=[]:=(congrArg Prod.snd h).symm; subst h1 h2; refine ⟨zEw,fun w S κ vals hvl hS hv _ _=>?_⟩; have hm:=hs.markers; exact walk_calls (legs okI okB hs) (fun m hm'=>by have:=(hm.2.1 m hm').1.1; omega) (by have:=hm.1; omega) hev (by omega) w S κ vals (by simpa using hvl) hS hv
end
set_option maxRecDepth 100000
def ciC:Code:=(zbM.fn.body).getD .skip
def ciO (j:Nat):Array Oper:=opsAt j ciC
def ciD (j:Nat):Bool:=zoN j ciC
theorem ci_hb:zbM.fn.body=some ciC:=by kernel_rfl
theorem ci_shape:ciC=(.seq (.region 0 (ciO 0) (ciD 0)) (.seq (.seq (.region 1 (ciO 1) false) (.cond (.tmp 4) (.seq (.region 2 (ciO 2) (ciD 2)) .ret) .skip)) (.seq (.region 3 (ciO 3) (ciD 3)) .ret))):=by kernel_rfl
theorem ci_r0:regOf 0 ciC=some (.region 0 (ciO 0) (ciD 0)):=by kernel_rfl
theorem ci_r1:regOf 1 ciC=some (.region 1 (ciO 1) false):=by kernel_rfl
theorem ci_r2:regOf 2 ciC=some (.region 2 (ciO 2) (ciD 2)):=by kernel_rfl
theorem ci_r3:regOf 3 ciC=some (.region 3 (ciO 3) (ciD 3)):=by kernel_rfl
theorem ci_n:zbM.fn.ntmps≤1000:=by decide
theorem ci_enters:enters zbM.P zbT=true:=by kernel_rfl
theorem ci_t0 (es:List (List AV)):tReg zbM zT 0 ⟨[(0,AV.sl 1 es)],[]⟩=some ⟨[(0,AV.sl 1 es)],[]⟩:=by kernel_rfl
theorem ci_t1 (es:List (List AV)):tSeg zbM zT 1 0 1 ⟨[(0,AV.sl 1 es)],[]⟩=some ⟨[(3,AV.sl 1 es),(0,AV.sl 1 es)],[]⟩:=by kernel_rfl
theorem ci_t2:tReg zbM zT 2 ⟨[],[]⟩=some ⟨[(2,AV.row 2 1 0 0)],[(2,⟨1,zbK,[],false⟩)]⟩:=by kernel_rfl
theorem ci_t3 (es:List (List AV)):tReg zbM zT 3 ⟨[(0,AV.sl 1 es)],[]⟩=(chk (0=0)<|chk ((0+es.length)*(8+1)≤1099511627776)<|chk (es.length=es.length)<|some ⟨[(2,AV.row 2 1 0 es.length)],[(2,⟨1,zbK,es,false⟩)]⟩):=by kernel_rfl
theorem ci_body {w0:World} {S0:Nat→Prop} {κ0:Kap} {K:Nat→Prop} {a:Act} {w:World} {es:List (List AV)} (hl:es.length≤100000000) (h:NowP w0 S0 κ0 K zbM.fn.ntmps (fun _ _ _ _=>True) ⟨[(0,AV.sl 1 es)],[]⟩ a w):ciC.wp zbM.P (PostC w0 S0 κ0 K zbM.fn.ntmps .ret ⟨[(2,AV.row 2 1 0 es.length)],[(2,⟨1,zbK,es,false⟩)]⟩) a w:=by
 rw [ci_shape]; refine wp_seq (stepP Stable.none ci_hb ci_n ci_r0 (ci_t0 es) h (fun a1 w1 h1=>?_)); refine wp_seq (wp_seq (wp_region ?_)); have z1:(ciO 1).size=2:=by kernel_rfl
 rw [z1,show List.range 2=List.range' 0 1++[1] from rfl]; refine segP Stable.none ci_hb ci_n ci_r1 (ci_t1 es) (by rw [z1]; decide) h1 (fun a2 w2 h2=>?_); rw [wpOps_cons]; refine nil_op (t:=22) (u:=22) (e:=zbK) (s:=3) (d:=4) (by unfold opIs; kernel_rfl) (by kernel_rfl) (by decide) h2 rfl (fun b hb h3=>?_); refine wp_cond (h3.bool (b:=b) rfl) ?_
 cases b with
 | true=>have:=hb rfl; subst this; rw [if_pos rfl]; have h4:=h3.trim Stable.none [] [] (st':=⟨[],[]⟩) (by kernel_rfl); refine wp_seq (stepP Stable.none ci_hb ci_n ci_r2 ci_t2 h4 (fun a5 w5 h5=>?_)); refine wp_ret ⟨rfl,?_⟩; obtain ⟨S,κ,hg,_⟩:=h5; exact ⟨S,κ,hg⟩
 | false=>rw [iNs]; refine wp_skip ?_; have h4:=h3.trim Stable.none [0] [] (st':=⟨[(0,AV.sl 1 es)],[]⟩) (by kernel_rfl); have t3:=ci_t3 es; rw [zam rfl,cPQ,zam rfl] at t3; refine wp_seq (stepP Stable.none ci_hb ci_n ci_r3 t3 h4 (fun a5 w5 h5=>?_)); refine wp_ret ⟨rfl,?_⟩; obtain ⟨S,κ,hg,_⟩:=h5; exact ⟨S,κ,hg⟩
theorem ci_ok:CallOK zP (single zbT zOrc):=by
 intro f args ms r ms' h; unfold single at h; split at h
 case isFalse=>cases h
 rename_i hf; subst hf
 cases ms with
 | cons a m =>
   have hz:zOrc zbT args (a :: m)=none:=by unfold zOrc; simp (decide:=true) only [if_false,if_true]
   rw [hz] at h; cases h
 | nil =>
 have hz:zOrc zbT args []=oClone zbK args:=by unfold zOrc; simp (decide:=true) only [if_false,if_true]
 rw [hz] at h; clear hz; unfold oClone at h; split at h
 case h_2=>cases h
 rename_i es; split at h
 case isFalse=>cases h
 rename_i hl; injection h with h; injection h with h1 h2; subst h1 h2; refine ⟨ci_enters,fun w S κ vals hvl hS hv hms hinj=>?_⟩; have hf:zbM.P.funcs[zbT]?=some zbM.fn:=by kernel_rfl
 refine zle (args:=[AV.sl 1 es]) (frz:=false) (ex:=.ret) (st:=⟨[(2,AV.row 2 1 0 es.length)],[(2,⟨1,zbK,es,false⟩)]⟩) hf ci_hb (show 1≤zbM.fn.ntmps by decide) hvl hS hv hms hinj (fun id=>by simp) (fun a hg=>?_) ?_ ?_ ?_
 · obtain ⟨S,κ,hg⟩:=hg; exact ci_body hl ⟨S,κ,hg,trivial⟩
 · rw [show zgp zbM.P false zbM.fn ⟨[(2,.row 2 1 0 es.length)],[(2,⟨1,zbK,es,false⟩)]⟩=outOf false [(2,⟨1,zbK,es,false⟩)] (.row 2 1 0 es.length) from by kernel_rfl]; simp [outOf,Ab.look]
 · kernel_rfl
 · kernel_rfl
def cbC:Code:=(zbD.fn.body).getD .skip
def cbO (j:Nat):Array Oper:=opsAt j cbC
def cbD (j:Nat):Bool:=zoN j cbC
theorem cb_hb:zbD.fn.body=some cbC:=by kernel_rfl
theorem cb_shape:cbC=(.seq (.region 0 (cbO 0) (cbD 0)) (.seq (.seq (.region 1 (cbO 1) false) (.cond (.tmp 4) (.seq (.region 2 (cbO 2) (cbD 2)) .ret) .skip)) (.seq (.region 3 (cbO 3) (cbD 3)) .ret))):=by kernel_rfl
theorem cb_r0:regOf 0 cbC=some (.region 0 (cbO 0) (cbD 0)):=by kernel_rfl
theorem cb_r1:regOf 1 cbC=some (.region 1 (cbO 1) false):=by kernel_rfl
theorem cb_r2:regOf 2 cbC=some (.region 2 (cbO 2) (cbD 2)):=by kernel_rfl
theorem cb_r3:regOf 3 cbC=some (.region 3 (cbO 3) (cbD 3)):=by kernel_rfl
theorem cb_n:zbD.fn.ntmps≤1000:=by decide
theorem cb_enters:enters zbD.P zb2=true:=by kernel_rfl
theorem cb_t0 (es:List (List AV)):tReg zbD zT 0 ⟨[(0,AV.sl 1 es)],[]⟩=some ⟨[(0,AV.sl 1 es)],[]⟩:=by kernel_rfl
theorem cb_t1 (es:List (List AV)):tSeg zbD zT 1 0 1 ⟨[(0,AV.sl 1 es)],[]⟩=some ⟨[(3,AV.sl 1 es),(0,AV.sl 1 es)],[]⟩:=by kernel_rfl
theorem cb_t2:tReg zbD zT 2 ⟨[],[]⟩=some ⟨[(2,AV.row 2 1 0 0)],[(2,⟨1,zgr,[],false⟩)]⟩:=by kernel_rfl
theorem cb_t3 (es:List (List AV)):tReg zbD zT 3 ⟨[(0,AV.sl 1 es)],[]⟩=(chk (0=0)<|chk ((0+es.length)*(1+1)≤1099511627776)<|chk (es.length=es.length)<|some ⟨[(2,AV.row 2 1 0 es.length)],[(2,⟨1,zgr,es,false⟩)]⟩):=by kernel_rfl
theorem cb_body {w0:World} {S0:Nat→Prop} {κ0:Kap} {K:Nat→Prop} {a:Act} {w:World} {es:List (List AV)} (hl:es.length≤100000000) (h:NowP w0 S0 κ0 K zbD.fn.ntmps (fun _ _ _ _=>True) ⟨[(0,AV.sl 1 es)],[]⟩ a w):cbC.wp zbD.P (PostC w0 S0 κ0 K zbD.fn.ntmps .ret ⟨[(2,AV.row 2 1 0 es.length)],[(2,⟨1,zgr,es,false⟩)]⟩) a w:=by
 rw [cb_shape]; refine wp_seq (stepP Stable.none cb_hb cb_n cb_r0 (cb_t0 es) h (fun a1 w1 h1=>?_)); refine wp_seq (wp_seq (wp_region ?_)); have z1:(cbO 1).size=2:=by kernel_rfl
 rw [z1,show List.range 2=List.range' 0 1++[1] from rfl]; refine segP Stable.none cb_hb cb_n cb_r1 (cb_t1 es) (by rw [z1]; decide) h1 (fun a2 w2 h2=>?_); rw [wpOps_cons]; refine nil_op (t:=129) (u:=129) (e:=zgr) (s:=3) (d:=4) (by unfold opIs; kernel_rfl) (by kernel_rfl) (by decide) h2 rfl (fun b hb h3=>?_); refine wp_cond (h3.bool (b:=b) rfl) ?_
 cases b with
 | true=>have:=hb rfl; subst this; rw [if_pos rfl]; have h4:=h3.trim Stable.none [] [] (st':=⟨[],[]⟩) (by kernel_rfl); refine wp_seq (stepP Stable.none cb_hb cb_n cb_r2 cb_t2 h4 (fun a5 w5 h5=>?_)); refine wp_ret ⟨rfl,?_⟩; obtain ⟨S,κ,hg,_⟩:=h5; exact ⟨S,κ,hg⟩
 | false=>rw [iNs]; refine wp_skip ?_; have h4:=h3.trim Stable.none [0] [] (st':=⟨[(0,AV.sl 1 es)],[]⟩) (by kernel_rfl); have t3:=cb_t3 es; rw [zam rfl,cPQ,zam rfl] at t3; refine wp_seq (stepP Stable.none cb_hb cb_n cb_r3 t3 h4 (fun a5 w5 h5=>?_)); refine wp_ret ⟨rfl,?_⟩; obtain ⟨S,κ,hg,_⟩:=h5; exact ⟨S,κ,hg⟩
theorem cb_ok:CallOK zP (single zb2 zOrc):=by
 intro f args ms r ms' h; unfold single at h; split at h
 case isFalse=>cases h
 rename_i hf; subst hf
 cases ms with
 | cons a m =>
   have hz:zOrc zb2 args (a :: m)=none:=by unfold zOrc; simp (decide:=true) only [if_false,if_true]
   rw [hz] at h; cases h
 | nil =>
 have hz:zOrc zb2 args []=oClone zgr args:=by unfold zOrc; simp (decide:=true) only [if_false,if_true]
 rw [hz] at h; clear hz; unfold oClone at h; split at h
 case h_2=>cases h
 rename_i es; split at h
 case isFalse=>cases h
 rename_i hl; injection h with h; injection h with h1 h2; subst h1 h2; refine ⟨cb_enters,fun w S κ vals hvl hS hv hms hinj=>?_⟩; have hf:zbD.P.funcs[zb2]?=some zbD.fn:=by kernel_rfl
 refine zle (args:=[AV.sl 1 es]) (frz:=false) (ex:=.ret) (st:=⟨[(2,AV.row 2 1 0 es.length)],[(2,⟨1,zgr,es,false⟩)]⟩) hf cb_hb (show 1≤zbD.fn.ntmps by decide) hvl hS hv hms hinj (fun id=>by simp) (fun a hg=>?_) ?_ ?_ ?_
 · obtain ⟨S,κ,hg⟩:=hg; exact cb_body hl ⟨S,κ,hg,trivial⟩
 · rw [show zgp zbD.P false zbD.fn ⟨[(2,.row 2 1 0 es.length)],[(2,⟨1,zgr,es,false⟩)]⟩=outOf false [(2,⟨1,zgr,es,false⟩)] (.row 2 1 0 es.length) from by kernel_rfl]; simp [outOf,Ab.look]
 · kernel_rfl
 · kernel_rfl
set_option maxRecDepth 100000
def frA (b:Bool) (k:Nat) (l:List zab):AV:=bif b then .row k 9 0 (List.map zaa l).length else .sl 9 (List.map zaa l)
def frM (b:Bool) (k:Nat) (l:List zab):Mem:=bif b then [(k,⟨9,zah,List.map zaa l,false⟩)] else []
theorem c0 (b:Bool) (l:List zab):tReg zaY zT 0 ⟨[(0,frA b 1000 l)],frM b 1000 l⟩=(some ⟨[(0,frA b 1000 l)],frM b 1000 l⟩):=by cases b <;> kernel_rfl
theorem c1 (b:Bool) (l:List zab):tReg zaY zT 1 ⟨[(0,frA b 1000 l)],frM b 1000 l⟩=(some ⟨[(0,frA b 1000 l),(4,AV.row 4 9 0 0)],[(4,⟨9,zah,[],false⟩)]++frM b 1000 l⟩):=by cases b <;> kernel_rfl
theorem c4 (b:Bool) (l:List zab) (ev:List zab) (p:Addr) (k:Int×Int) (g:zbx):tSeg zaY zT 4 1 3 ⟨[(0,frA b 1000 l),(4,AV.row 4 9 0 (List.length (List.map zaa ev))),(10,AV.v (.pointer (some p))),(13,AV.tup [AV.agg [I k.fst,I k.snd],AV.agg [I g.first,B g.disputed]])],[(4,⟨9,zah,List.map zaa ev,false⟩)]++frM b 1000 l⟩=(some ⟨[(6,AV.loc 6 2 0 0),(14,AV.agg [I g.first,B g.disputed]),(0,frA b 1000 l),(4,AV.row 4 9 0 (List.length (List.map zaa ev))),(10,AV.v (.pointer (some p))),(13,AV.tup [AV.agg [I k.fst,I k.snd],AV.agg [I g.first,B g.disputed]])],[(6,⟨2,zey,[zbS g],true⟩),(4,⟨9,zah,List.map zaa ev,false⟩)]++frM b 1000 l⟩):=by cases b <;> kernel_rfl
theorem c5 (b:Bool) (l:List zab) (ev:List zab) (p:Addr) (g:zbx):tReg zaY zT 5 ⟨[(0,frA b 1000 l),(4,AV.row 4 9 0 (List.length (List.map zaa ev))),(6,AV.loc 6 2 0 0),(10,AV.v (.pointer (some p)))],[(4,⟨9,zah,List.map zaa ev,false⟩),(6,⟨2,zey,[zbS g],true⟩)]++frM b 1000 l⟩=(some ⟨[(0,frA b 1000 l),(4,AV.row 4 9 0 (List.length (List.map zaa ev))),(6,AV.loc 6 2 0 0),(10,AV.v (.pointer (some p))),(17,B (!g.disputed))],[(4,⟨9,zah,List.map zaa ev,false⟩),(6,⟨2,zey,[zbS g],true⟩)]++frM b 1000 l⟩):=by cases b <;> kernel_rfl
theorem c7 (b:Bool) (l:List zab) (ev:List zab):tReg zaY zT 7 ⟨[(4,AV.row 4 9 0 (List.length (List.map zaa ev)))],[(4,⟨9,zah,List.map zaa ev,false⟩)]++frM b 1000 l⟩=(some ⟨[(4,AV.row 4 9 0 (List.length (List.map zaa ev))),(28,B (decide (2000 < (↑(List.map zaa ev).length:Int))))],[(4,⟨9,zah,List.map zaa ev,false⟩)]++frM b 1000 l⟩):=by cases b <;> kernel_rfl
theorem c9 (b:Bool) (l:List zab) (ev:List zab):tReg zaY zT 9 ⟨[(4,AV.row 4 9 0 (List.length (List.map zaa ev)))],[(4,⟨9,zah,List.map zaa ev,false⟩)]++frM b 1000 l⟩=(callD zcP (cw zbZ [AV.row 1000 9 0 (List.length (List.map zaa ev)),AV.fn zdp []] [(1000,⟨9,zah,List.map zaa ev,false⟩)]) fun (r0:(List zab))=>some ⟨[(4,AV.row 4 9 0 ((List.map zaa ev).length))],[(4,⟨9,zah,List.map zaa r0,false⟩)]++frM b 1000 l⟩):=by cases b <;> kernel_rfl
theorem c10 (b:Bool) (l:List zab) (ev:List zab):tReg zaY zT 10 ⟨[(4,AV.row 4 9 0 (List.length (List.map zaa ev)))],[(4,⟨9,zah,List.map zaa ev,false⟩)]++frM b 1000 l⟩=(some ⟨[(4,AV.row 4 9 0 (List.length (List.map zaa ev))),(32,I ((↑(List.map zaa ev).length:Int))),(33,I 0)],[(4,⟨9,zah,List.map zaa ev,false⟩)]++frM b 1000 l⟩):=by cases b <;> kernel_rfl
theorem c11 (b:Bool) (l:List zab) (ev:List zab) (n:Int) (i:Int):tReg zaY zT 11 ⟨[(4,AV.row 4 9 0 (List.length (List.map zaa ev))),(32,I n),(33,I i)],[(4,⟨9,zah,List.map zaa ev,false⟩)]++frM b 1000 l⟩=(some ⟨[(4,AV.row 4 9 0 (List.length (List.map zaa ev))),(32,I n),(33,I i),(34,B (decide (i < n)))],[(4,⟨9,zah,List.map zaa ev,false⟩)]++frM b 1000 l⟩):=by cases b <;> kernel_rfl
theorem c12 (b:Bool) (l:List zab) (ev:List zab) (n:Int) (i:Int):tReg zaY zT 12 ⟨[(4,AV.row 4 9 0 (List.length (List.map zaa ev))),(32,I n),(33,I i)],[(4,⟨9,zah,List.map zaa ev,false⟩)]++frM b 1000 l⟩=(some ⟨[(4,AV.row 4 9 0 (List.length (List.map zaa ev))),(7,I i),(32,I n),(33,I i)],[(4,⟨9,zah,List.map zaa ev,false⟩)]++frM b 1000 l⟩):=by cases b <;> kernel_rfl
theorem c13 (b:Bool) (l:List zab) (ev:List zab) (n:Int) (i:Int):tReg zaY zT 13 ⟨[(4,AV.row 4 9 0 (List.length (List.map zaa ev))),(7,I i),(32,I n),(33,I i)],[(4,⟨9,zah,List.map zaa ev,false⟩)]++frM b 1000 l⟩=(chk ((0:Int)≤i)<|
 chk ((i:Int) < ((↑(List.map zaa ev).length:Int)))<|
 elemD zaV (List.map zaa ev) (0+i.toNat) fun (c0:zab) =>
 callD ziz (cw zgT [AV.agg (zaa c0)] []) fun (r1:zab) =>
 chk ((0:Int)≤i)<|
 chk ((i:Int) < ((↑(List.map zaa ev).length:Int)))<|
 elemD zaV (List.map zaa ev) (0+i.toNat) fun (c2:zab) =>
 some ⟨[(4,AV.row 4 9 0 ((List.map zaa ev).length)),(32,I n),(33,I i)],[(4,⟨9,zah,List.set (List.map zaa ev) (0+i.toNat) (zaa r1),false⟩)]++frM b 1000 l⟩):=by cases b <;> kernel_rfl
theorem c14 (b:Bool) (l:List zab) (ev:List zab) (n:Int) (i:Int):tReg zaY zT 14 ⟨[(4,AV.row 4 9 0 (List.length (List.map zaa ev))),(32,I n),(33,I i)],[(4,⟨9,zah,List.map zaa ev,false⟩)]++frM b 1000 l⟩=(some ⟨[(4,AV.row 4 9 0 (List.length (List.map zaa ev))),(32,I n),(33,I (w64 (i+1)))],[(4,⟨9,zah,List.map zaa ev,false⟩)]++frM b 1000 l⟩):=by cases b <;> kernel_rfl
theorem c15 (b:Bool) (l:List zab) (ev:List zab):tReg zaY zT 15 ⟨[(4,AV.row 4 9 0 (List.length (List.map zaa ev)))],[(4,⟨9,zah,List.map zaa ev,false⟩)]++frM b 1000 l⟩=(some ⟨[(2,AV.row 4 9 0 (List.length (List.map zaa ev))),(3,I 0)],[(4,⟨9,zah,List.map zaa ev,false⟩)]++frM b 1000 l⟩):=by cases b <;> kernel_rfl
theorem c2 (l:List zab):tSeg zaY zT 2 0 2 ⟨[(0,AV.row 1000 9 0 (List.length (List.map zaa l))),(4,AV.row 4 9 0 0)],[(4,⟨9,zah,[],false⟩),(1000,⟨9,zah,List.map zaa l,false⟩)]⟩=(callD zj6 (cw zdG [AV.row 1000 9 0 (List.length (List.map zaa l))] [(1000,⟨9,zah,List.map zaa l,false⟩)]) fun (r0:((List ((Int×Int)×zbx)))×(List zab))=>some ⟨[(9,AV.map 9),(8,AV.row 1000 9 0 ((List.map zaa l).length)),(0,AV.row 1000 9 0 ((List.map zaa l).length)),(4,AV.row 4 9 0 0)],[(9,⟨0,zbF,List.map zbO r0.fst,false⟩),(4,⟨9,zah,[],false⟩),(1000,⟨9,zah,List.map zaa r0.snd,false⟩)]⟩):=by kernel_rfl
theorem c2f (l:List zab):tSeg zaY zT 2 0 2 ⟨[(0,AV.sl 9 (List.map zaa l)),(4,AV.row 4 9 0 0)],[(4,⟨9,zah,[],false⟩)]⟩=(callD ziA (cw zdG [AV.sl 9 (List.map zaa l)] []) fun (r0:(List ((Int×Int)×zbx)))=>some ⟨[(9,AV.map 9),(8,AV.sl 9 (List.map zaa l)),(0,AV.sl 9 (List.map zaa l)),(4,AV.row 4 9 0 0)],[(9,⟨0,zbF,List.map zbO r0,false⟩),(4,⟨9,zah,[],false⟩)]⟩):=by kernel_rfl
theorem c6 (l:List zab) (ev:List zab) (p:Addr) (g:zbx):tReg zaY zT 6 ⟨[(0,AV.row 1000 9 0 (List.length (List.map zaa l))),(4,AV.row 4 9 0 (List.length (List.map zaa ev))),(6,AV.loc 6 2 0 0),(10,AV.v (.pointer (some p)))],[(4,⟨9,zah,List.map zaa ev,false⟩),(6,⟨2,zey,[zbS g],true⟩),(1000,⟨9,zah,List.map zaa l,false⟩)]⟩=(chk ((0:Int)≤g.first)<|
 chk ((g.first:Int) < ((↑(List.map zaa l).length:Int)))<|
 elemD zaV (List.map zaa l) (0+g.first.toNat) fun (c0:zab) =>
 chk ((List.map zaa ev).length=(List.map zaa ev).length)<|
 chk (((List.map zaa ev).length+1)*(88+1)≤1099511627776)<|
 chk ((List.map zaa ev++[[AV.v (Go.Value.int IntKind.i64 c0.Stamp.Time),AV.v (Go.Value.int IntKind.i64 c0.Stamp.Source),AV.v (Go.Value.int IntKind.i64 c0.Stamp.Seq),AV.v (Go.Value.int IntKind.i64 c0.Kind),AV.v (Go.Value.int IntKind.i64 c0.Script),AV.v (Go.Value.int IntKind.i64 c0.Part),AV.v (Go.Value.int IntKind.i64 c0.Value),AV.v (Go.Value.int IntKind.i64 c0.Marker),AV.sl 1 (List.map zaf c0.Pages)]]).length=(List.map zaa ev++[[AV.v (Go.Value.int IntKind.i64 c0.Stamp.Time),AV.v (Go.Value.int IntKind.i64 c0.Stamp.Source),AV.v (Go.Value.int IntKind.i64 c0.Stamp.Seq),AV.v (Go.Value.int IntKind.i64 c0.Kind),AV.v (Go.Value.int IntKind.i64 c0.Script),AV.v (Go.Value.int IntKind.i64 c0.Part),AV.v (Go.Value.int IntKind.i64 c0.Value),AV.v (Go.Value.int IntKind.i64 c0.Marker),AV.sl 1 (List.map zaf c0.Pages)]]).length)<|
 some ⟨[(0,AV.row 1000 9 0 (List.length (List.map zaa l))),(4,AV.row 4 9 0 (List.length ((List.map zaa ev)++([[I c0.Stamp.Time,I c0.Stamp.Source,I c0.Stamp.Seq,I c0.Kind,I c0.Script,I c0.Part,I c0.Value,I c0.Marker,AV.sl 1 (List.map zaf c0.Pages)]])))),(10,AV.v (.pointer (some p)))],[(4,⟨9,zah,(List.map zaa ev)++([zaa c0]),false⟩),(1000,⟨9,zah,List.map zaa l,false⟩)]⟩):=by kernel_rfl
theorem c6f (l:List zab) (ev:List zab) (p:Addr) (g:zbx):tReg zaY zT 6 ⟨[(0,AV.sl 9 (List.map zaa l)),(4,AV.row 4 9 0 (List.length (List.map zaa ev))),(6,AV.loc 6 2 0 0),(10,AV.v (.pointer (some p)))],[(4,⟨9,zah,List.map zaa ev,false⟩),(6,⟨2,zey,[zbS g],true⟩)]⟩=(chk ((0:Int)≤g.first)<|
 elemD zaV (List.map zaa l) g.first.toNat fun (c0:zab) =>
 chk ((List.map zaa ev).length=(List.map zaa ev).length)<|
 chk (((List.map zaa ev).length+1)*(88+1)≤1099511627776)<|
 chk ((List.map zaa ev++[[AV.v (Go.Value.int IntKind.i64 c0.Stamp.Time),AV.v (Go.Value.int IntKind.i64 c0.Stamp.Source),AV.v (Go.Value.int IntKind.i64 c0.Stamp.Seq),AV.v (Go.Value.int IntKind.i64 c0.Kind),AV.v (Go.Value.int IntKind.i64 c0.Script),AV.v (Go.Value.int IntKind.i64 c0.Part),AV.v (Go.Value.int IntKind.i64 c0.Value),AV.v (Go.Value.int IntKind.i64 c0.Marker),AV.sl 1 (List.map zaf c0.Pages)]]).length=(List.map zaa ev++[[AV.v (Go.Value.int IntKind.i64 c0.Stamp.Time),AV.v (Go.Value.int IntKind.i64 c0.Stamp.Source),AV.v (Go.Value.int IntKind.i64 c0.Stamp.Seq),AV.v (Go.Value.int IntKind.i64 c0.Kind),AV.v (Go.Value.int IntKind.i64 c0.Script),AV.v (Go.Value.int IntKind.i64 c0.Part),AV.v (Go.Value.int IntKind.i64 c0.Value),AV.v (Go.Value.int IntKind.i64 c0.Marker),AV.sl 1 (List.map zaf c0.Pages)]]).length)<|
 some ⟨[(0,AV.sl 9 (List.map zaa l)),(4,AV.row 4 9 0 (List.length ((List.map zaa ev)++([[I c0.Stamp.Time,I c0.Stamp.Source,I c0.Stamp.Seq,I c0.Kind,I c0.Script,I c0.Part,I c0.Value,I c0.Marker,AV.sl 1 (List.map zaf c0.Pages)]])))),(10,AV.v (.pointer (some p)))],[(4,⟨9,zah,(List.map zaa ev)++([zaa c0]),false⟩)]⟩):=by kernel_rfl
end Go.Proofs.YtlecnobdfhlmnaaGreat
end
