/- marklog.Canonical by hand: a range over a map, in whatever order. -/
import Derived.Test.YtlecnobdfhlmnaaGreatJ2
import Derived.Control
import Derived.Test.YtlecnobdfhlmnaaGreatProg
import Derived.Shelf.SlSortCmp.WholeK
import Derived.Shelf.SlIterI.Nil
import Derived.Shelf.SortM.Plain
import Derived.Shelf.SortM.SortNone
import Derived.Test.YtlecnobdfhlmnaaGreatXAnn
import Derived.Test.YtlecnobdfhlmnaaGreatAb10
set_option linter.unusedSimpArgs false
set_option linter.unusedVariables false
set_option linter.unusedSectionVars false
noncomputable section
namespace Go.Proofs.YtlecnobdfhlmnaaGreat
open Go.Ab
set_option maxRecDepth 100000
def cnC:Code:=(zaY.fn.body).getD .skip
def cnO (j:Nat):Array Oper:=opsAt j cnC
def cnD (j:Nat):Bool:=zoN j cnC
theorem cn_hb:zaY.fn.body=some cnC:=by kernel_rfl
theorem cn_shape:cnC=(.seq (.region 0 (cnO 0) (cnD 0)) (.seq (.region 1 (cnO 1) (cnD 1)) (.seq (.seq (.region 2 (cnO 2) false) (.block 0 (.loop (.seq (.region 3 (cnO 3) false) (.seq (.cond (.tmp 12) .skip (.exit 0)) (.block 1 (.seq (.region 4 (cnO 4) false) (.seq (.region 5 (cnO 5) (cnD 5)) (.cond (.tmp 17) (.region 6 (cnO 6) (cnD 6)) .skip))))))))) (.seq (.seq (.region 7 (cnO 7) (cnD 7)) (.cond (.tmp 28) (.seq (.region 8 (cnO 8) (cnD 8)) .ret) .skip)) (.seq (.region 9 (cnO 9) (cnD 9)) (.seq (.seq (.region 10 (cnO 10) (cnD 10)) (.block 2 (.loop (.seq (.region 11 (cnO 11) (cnD 11)) (.seq (.cond (.tmp 34) .skip (.exit 2)) (.seq (.block 3 (.seq (.region 12 (cnO 12) (cnD 12)) (.region 13 (cnO 13) (cnD 13)))) (.region 14 (cnO 14) (cnD 14)))))))) (.seq (.region 15 (cnO 15) (cnD 15)) .ret))))))):=by kernel_rfl
theorem cn_r0:regOf 0 cnC=some (.region 0 (cnO 0) (cnD 0)):=by kernel_rfl
theorem cn_r1:regOf 1 cnC=some (.region 1 (cnO 1) (cnD 1)):=by kernel_rfl
theorem cn_r2:regOf 2 cnC=some (.region 2 (cnO 2) false):=by kernel_rfl
theorem cn_r4:regOf 4 cnC=some (.region 4 (cnO 4) false):=by kernel_rfl
theorem cn_r5:regOf 5 cnC=some (.region 5 (cnO 5) (cnD 5)):=by kernel_rfl
theorem cn_r6:regOf 6 cnC=some (.region 6 (cnO 6) (cnD 6)):=by kernel_rfl
theorem cn_r7:regOf 7 cnC=some (.region 7 (cnO 7) (cnD 7)):=by kernel_rfl
theorem cn_r9:regOf 9 cnC=some (.region 9 (cnO 9) (cnD 9)):=by kernel_rfl
theorem cn_r10:regOf 10 cnC=some (.region 10 (cnO 10) (cnD 10)):=by kernel_rfl
theorem cn_r11:regOf 11 cnC=some (.region 11 (cnO 11) (cnD 11)):=by kernel_rfl
theorem cn_r12:regOf 12 cnC=some (.region 12 (cnO 12) (cnD 12)):=by kernel_rfl
theorem cn_r13:regOf 13 cnC=some (.region 13 (cnO 13) (cnD 13)):=by kernel_rfl
theorem cn_r14:regOf 14 cnC=some (.region 14 (cnO 14) (cnD 14)):=by kernel_rfl
theorem cn_r15:regOf 15 cnC=some (.region 15 (cnO 15) (cnD 15)):=by kernel_rfl
theorem cn_n:zaY.fn.ntmps≤1000:=by decide
abbrev X0:Sat2:=fun _ _ _ _=>True
def pickG (l:List zab) (p:(Int×Int)×zbx):Option zab:=if p.2.disputed then none else l[p.2.first.toNat]?
def evsOf (l:List zab) (gs:zel) (done:List Nat):List zab:=done.filterMap fun j=>gs[j]?.bind (pickG l)
theorem evsOf_snoc (l:List zab) (gs:zel) (done:List Nat) (j:Nat):evsOf l gs (done++[j])=evsOf l gs done++((gs[j]?.bind (pickG l)).toList):=by unfold evsOf; rw [zt1]; congr 1
theorem ztu {α β:Type} {f:α→Option β} {g:α→β}:∀ l:List α,(∀ x∈l,f x=some (g x))→l.filterMap f=l.map g
 | [],_=>rfl
 | x :: r,h=>by rw [zyy,h x (by simp)]; simp only [zdo]; rw [ztu r (fun y hy=>h y (by simp [hy]))]
theorem zps {β:Type} (l:List β):(List.range l.length).filterMap (fun j=>l[j]?)=l:=by
 cases l with
 | nil=>rfl
 | cons d r =>
   rw [ztu (g:=fun j=>(d :: r).getD j d) _ (fun j hj=>by
    have:=zja.1 hj; rw [zqQ,zau this]
    rfl)]
   apply zlP
   · simp
   · intro i h1 h2; rw [zqD,aLiAs98,zqQ,zau h2]; rfl
noncomputable section
abbrev bL (l:List zab):Nat×Ent:=(1000,⟨9,zah,List.map zaa l,false⟩)
abbrev bV (ev:List zab):Nat×Ent:=(4,⟨9,zah,List.map zaa ev,false⟩)
abbrev s0 (b:Bool) (l:List zab):Nat×AV:=(0,frA b 1000 l)
abbrev s4 (ev:List zab):Nat×AV:=(4,.row 4 9 0 (List.map zaa ev).length)
abbrev s10 (r:Nat):Nat×AV:=(10,.v (.pointer (some ⟨r,0,none⟩)))
abbrev stC (b:Bool) (l ev:List zab) (r:Nat):St:=⟨[s0 b l,s4 ev,s10 r],[bV ev]++frM b 1000 l⟩
structure CnLegs (b:Bool) (l:List zab):Prop where
 len:l.length < 1000000
 glen:(zcj l).length < 1000000
 few:(keepS l).length < 1000
 cGroups:cw zdG [frA b 1000 l] (frM b 1000 l)=some (bif b then zev (zcj l,l) else zd1 (zcj l))
 first:∀ p∈zcj l,0≤p.2.first∧p.2.first < l.length
 cSort:∀ ev,List.Perm ev (keepS l)→cw zbZ [.row 1000 9 0 (List.map zaa ev).length,.fn zdp []] [bL ev]=some (zcO (canonS l))
 perm:List.Perm (canonS l) (keepS l)
 cClone:∀ e∈canonS l,cw zgT [.agg (zaa e)] []=some (zis e)
theorem c2b (b:Bool) (l:List zab) {gs:zel} (h:cw zdG [frA b 1000 l] (frM b 1000 l)=some (bif b then zev (gs,l) else zd1 gs)):tSeg zaY zT 2 0 2 ⟨[(0,frA b 1000 l),(4,AV.row 4 9 0 0)],[(4,⟨9,zah,[],false⟩)]++frM b 1000 l⟩=some ⟨[(9,AV.map 9),(8,frA b 1000 l),(0,frA b 1000 l),(4,AV.row 4 9 0 0)],[(9,⟨0,zbF,List.map zbO gs,false⟩),(4,⟨9,zah,[],false⟩)]++frM b 1000 l⟩:=by
 cases b with
 | true=>have t:=c2 l; rw [show cw zdG [AV.row 1000 9 0 (List.length (List.map zaa l))] [(1000,⟨9,zah,List.map zaa l,false⟩)]=some (zev (gs,l)) from h,zus] at t; exact t
 | false=>have t:=c2f l; rw [show cw zdG [AV.sl 9 (List.map zaa l)] []=some (zd1 gs) from h,zsu] at t; exact t
theorem c6b (b:Bool) (l ev:List zab) (p:Addr) (g:zbx) (h1:0≤g.first) (h2:g.first < (l.length:Int)) (hev:ev.length < 1000000000):tReg zaY zT 6 ⟨[(0,frA b 1000 l),(4,AV.row 4 9 0 (List.length (List.map zaa ev))),(6,AV.loc 6 2 0 0),(10,AV.v (.pointer (some p)))],[(4,⟨9,zah,List.map zaa ev,false⟩),(6,⟨2,zey,[zbS g],true⟩)]++frM b 1000 l⟩ =
  some ⟨[(0,frA b 1000 l),(4,AV.row 4 9 0 (List.length ((List.map zaa ev)++[zaa (l[g.first.toNat]'(by omega))]))),(10,AV.v (.pointer (some p)))],[(4,⟨9,zah,(List.map zaa ev)++[zaa (l[g.first.toNat]'(by omega))],false⟩)]++frM b 1000 l⟩:=by
 have hf:g.first.toNat < l.length:=by omega
 cases b with
 | true=>have t6:=c6 l ev p g; rw [zam h1,zam (by simpa using h2),zb9,zbW,zau hf,zaS,zam rfl,zam (by simp; omega),zam rfl] at t6; exact t6
 | false=>have t6:=c6f l ev p g; rw [zam h1,zbW,zau hf,zaS,zam rfl,zam (by simp; omega),zam rfl] at t6; exact t6
section
variable {w0:World} {S0:Nat→Prop} {κ0:Kap} {K:Nat→Prop} {a:Act} {w:World}
theorem cnStep {j:Nat} {st st':St} {X:Sat2} (hX:Stable X) (hr:regOf j cnC=some (.region j (cnO j) (cnD j))) (ht:tReg zaY zT j st=some st')
  (h:NowP w0 S0 κ0 K zaY.fn.ntmps X st a w) {Q:Exit→Act→World→Prop} (hQ:∀ a' w',NowP w0 S0 κ0 K zaY.fn.ntmps X st' a' w'→Q .normal a' w'):(Code.region j (cnO j) (cnD j)).wp zaY.P Q a w:=stepP hX cn_hb cn_n hr ht h hQ
theorem keepS_perm {l:List zab} {done:List Nat} (hd:done.Nodup) (h1:∀ i∈done,i < (zcj l).length) (h2:∀ i,i < (zcj l).length→i∈done):List.Perm (evsOf l (zcj l) done) (keepS l):=by
 have hp:List.Perm done (List.range (zcj l).length):=(zoz hd zyz).2 (fun i=>⟨fun h=>zja.2 (h1 i h),fun h=>h2 i (zja.1 h)⟩)
 have e:keepS l=evsOf l (zcj l) (List.range (zcj l).length):=by
  unfold keepS evsOf; have:zcj l=(List.range (zcj l).length).filterMap fun j=>(zcj l)[j]?:=(zps _).symm
  conv=>lhs; rw [this]
  rw [List.filterMap_filterMap]; rfl
 rw [e]; exact hp.filterMap _
theorem cn_range {b:Bool} {l:List zab} (g:CnLegs b l)
  (h:NowP w0 S0 κ0 K zaY.fn.ntmps X0 ⟨[s0 b l,s4 []],[bV []]++frM b 1000 l⟩ a w) {Q:Exit→Act→World→Prop}
  (hQ:∀ ev a' w',List.Perm ev (keepS l)→NowP w0 S0 κ0 K zaY.fn.ntmps X0 ⟨[s4 ev],[bV ev]++frM b 1000 l⟩ a' w'→Q .normal a' w'):(Code.seq (.region 2 (cnO 2) false) (.block 0 (.loop (.seq (.region 3 (cnO 3) false) (.seq (.cond (.tmp 12) .skip (.exit 0)) (.block 1 (.seq (.region 4 (cnO 4) false) (.seq (.region 5 (cnO 5) (cnD 5)) (.cond (.tmp 17) (.region 6 (cnO 6) (cnD 6)) .skip))))))))).wp zaY.P Q a w:=by
 refine wp_seq (wp_region ?_); have z2:(cnO 2).size=3:=by cases b <;> kernel_rfl
 rw [z2,show List.range 3=List.range' 0 2++[2] from rfl]; have t2:=c2b b l g.cGroups; refine segP Stable.none cn_hb cn_n cn_r2 t2 (by rw [z2]; decide) h (fun a1 w1 h1=>?_); have h2:=h1.freeze Stable.none cn_n [9] (by cases b <;> kernel_rfl) (st':=⟨[(9,.mp (List.map zbO (zcj l))),(8,frA b 1000 l),s0 b l,(4,.row 4 9 0 0)],[(4,⟨9,zah,[],false⟩)]++frM b 1000 l⟩) (by cases b <;> kernel_rfl); rw [wpOps_cons]; refine zuT (t:=206) (k:=137) (e:=209) (by unfold opIs; kernel_rfl) (by cases b <;> kernel_rfl) (by decide) h2 (m:=9) (d:=10) rfl (fun a3 w3 r q en clock h3=>?_); have h4:=h3.trim Rng.stable [0,4,10] [] (st':=stC b l (evsOf l (zcj l) []) r) (by cases b <;> kernel_rfl); refine zuV (it:=10) (d1:=11) (d2:=12) (r:=r) (stf:=fun done=>stC b l (evsOf l (zcj l) done) r) [0,4,10] (by cases b <;> kernel_rfl) (by unfold opIs; kernel_rfl) (by unfold opIs; kernel_rfl) (by decide) (by decide) (fun _=>rfl) (fun _ _ _=>by cases b <;> kernel_rfl) ?_ h4 ?_
 · intro done j k v hd hl hjd hkv a w hn
   have hj:j < (zcj l).length:=by have:=(zbH.1 hkv).1; simpa using this
   rw [zcQ,zau hj] at hkv; have hp:=g.first _ (zbt hj)
   have hev:evsOf l (zcj l) (done++[j])=evsOf l (zcj l) done++(pickG l (zcj l)[j]).toList:=by rw [evsOf_snoc,zau hj]; rfl
   have hlen:(evsOf l (zcj l) done).length < 1000000000:=by have:(evsOf l (zcj l) done).length≤done.length:=zmX _ _; have:=zsb hd (n:=(zcj l).length) (fun i hi=>by simpa using hl i hi); have:=g.glen; omega
   simp only [hev]; generalize evsOf l (zcj l) done=ev at hn hlen ⊢; generalize hx:(zcj l)[j]=x at hkv hp ⊢; obtain ⟨⟨k1,k2⟩,gr⟩:=x; simp only [zde,zaU,zbO,zbq,and_true] at hkv; obtain ⟨rfl,rfl⟩:=hkv; refine wp_block (wp_seq (wp_region ?_)); have z4:(cnO 4).size=4:=by cases b <;> kernel_rfl
   rw [z4,show List.range 4=0 :: (List.range' 1 3++[]) from rfl,wpOps_cons]; refine zuD (by unfold opIs; kernel_rfl) (by decide) hn (it:=10) (d:=13) rfl (by rw [zcQ,zau hj,hx]; rfl) (fun a1 w1 h1=>?_); have h2:=h1.trim Rng.stable [0,4,10,13] [] (st':=⟨[s0 b l,s4 ev,s10 r,(13,.tup [.agg [I k1,I k2],.agg [I gr.first,B gr.disputed]])],[bV ev]++frM b 1000 l⟩) (by cases b <;> kernel_rfl); refine segP Rng.stable cn_hb cn_n cn_r4 (c4 b l ev _ (k1,k2) gr) (by rw [z4]; decide) h2 (fun a3 w3 h3=>?_); have h4:=h3.trim Rng.stable [0,4,6,10] [] (st':=⟨[s0 b l,s4 ev,(6,.loc 6 2 0 0),s10 r],[bV ev,(6,⟨2,zey,[zbS gr],true⟩)]++frM b 1000 l⟩) (by cases b <;> kernel_rfl); refine wp_seq (cnStep Rng.stable cn_r5 (c5 b l ev _ gr) h4 (fun a5 w5 h5=>?_)); refine wp_cond (h5.bool (b:=!gr.disputed) rfl) ?_
   cases hdsp:gr.disputed with
   | true =>
     rw [iNs]; refine wp_skip ⟨rfl,?_⟩; have h6:=h5.trim Rng.stable [0,4,10] [6] (st':=stC b l ev r) (by cases b <;> kernel_rfl); have e:pickG l ((k1,k2),gr)=none:=by unfold pickG; simp [hdsp]
     rw [e]; simpa using h6
   | false =>
     rw [if_pos (by simp)]; have h6:=h5.trim Rng.stable [0,4,6,10] [] (st':=⟨[s0 b l,s4 ev,(6,.loc 6 2 0 0),s10 r],[bV ev,(6,⟨2,zey,[zbS gr],true⟩)]++frM b 1000 l⟩) (by cases b <;> kernel_rfl); simp only at hp; have hf:gr.first.toNat < l.length:=by omega
     have t6:=c6b b l ev ⟨r,0,none⟩ gr hp.1 hp.2 (by omega); refine cnStep Rng.stable cn_r6 t6 h6 (fun a7 w7 h7=>⟨rfl,?_⟩); have h8:=h7.trim Rng.stable [0,4,10] [6] (st':=⟨[s0 b l,(4,.row 4 9 0 (List.length ((List.map zaa ev)++[zaa l[gr.first.toNat]]))),s10 r],[(4,⟨9,zah,(List.map zaa ev)++[zaa l[gr.first.toNat]],false⟩)]++frM b 1000 l⟩) (by cases b <;> kernel_rfl); have e:pickG l ((k1,k2),gr)=some l[gr.first.toNat]:=by unfold pickG; simp [hdsp,hf]
     rw [e,show (some l[gr.first.toNat]).toList=[l[gr.first.toNat]] from rfl,show stC b l (ev++[l[gr.first.toNat]]) r=⟨[s0 b l,(4,.row 4 9 0 (List.length ((List.map zaa ev)++[zaa l[gr.first.toNat]]))),s10 r],[(4,⟨9,zah,(List.map zaa ev)++[zaa l[gr.first.toNat]],false⟩)]++frM b 1000 l⟩ from by simp only [stC,s4,bV,zga,zdo,zoF]]; exact h8
 · intro done hd hl hall a' w' hn; refine hQ _ a' w' (keepS_perm hd (fun i hi=>by simpa using hl i hi) (fun i hi=>hall i (by simpa using hi))) ?_; exact (hn.trim Rng.stable [4] [] (st':=⟨[s4 (evsOf l (zcj l) done)],[bV (evsOf l (zcj l) done)]++frM b 1000 l⟩) (by cases b <;> kernel_rfl)).drop
abbrev s33 (n i:Int):List (Nat×AV):=[(32,I n),(33,I i)]
theorem cn_copy {b:Bool} {l ev:List zab} (hcl:∀ e∈ev,cw zgT [.agg (zaa e)] []=some (zis e)) (hev:ev.length < 1000000)
  (h:NowP w0 S0 κ0 K zaY.fn.ntmps X0 ⟨[s4 ev],[bV ev]++frM b 1000 l⟩ a w) {Q:Exit→Act→World→Prop}
  (hQ:∀ a' w',NowP w0 S0 κ0 K zaY.fn.ntmps X0 ⟨[s4 ev],[bV ev]++frM b 1000 l⟩ a' w'→Q .normal a' w'):(Code.seq (.region 10 (cnO 10) (cnD 10)) (.block 2 (.loop (.seq (.region 11 (cnO 11) (cnD 11)) (.seq (.cond (.tmp 34) .skip (.exit 2)) (.seq (.block 3 (.seq (.region 12 (cnO 12) (cnD 12)) (.region 13 (cnO 13) (cnD 13)))) (.region 14 (cnO 14) (cnD 14)))))))).wp zaY.P Q a w:=by
 refine wp_seq (cnStep Stable.none cn_r10 (c10 b l ev) h (fun a1 w1 h1=>?_)); refine wp_block (wp_loop (fun a w=>∃ k:Nat,k≤ev.length∧NowP w0 S0 κ0 K zaY.fn.ntmps X0 ⟨s4 ev :: s33 (List.map zaa ev).length k,[bV ev]++frM b 1000 l⟩ a w) (fun a _=>ev.length - cnt a 33) ⟨0,zfQ _,h1⟩ ?_)
 rintro a w ⟨k,hk,hn⟩
 have hc0:cnt a 33=k:=by rw [hn.cnt (n:=(k:Int)) rfl]; simp
 refine wp_seq (cnStep Stable.none cn_r11 (c11 b l ev _ _) hn (fun a2 w2 h2=>?_)); refine wp_seq (wp_cond (h2.bool (b:=decide ((k:Int) < (List.map zaa ev).length)) rfl) ?_); by_cases hlt:k < ev.length
 · rw [decide_eq_true (by simp; omega),if_pos rfl]; refine wp_skip ?_; have h3:=h2.trim Stable.none [4,32,33] [] (st':=⟨s4 ev :: s33 (List.map zaa ev).length k,[bV ev]++frM b 1000 l⟩) (by cases b <;> kernel_rfl); refine wp_seq (wp_block (wp_seq (cnStep Stable.none cn_r12 (c12 b l ev _ _) h3 (fun a4 w4 h4=>?_)))); have t:=c13 b l ev (List.map zaa ev).length k; rw [cPQ,zam (by simp; omega),zb9,zbW,show ((k:Int)).toNat=k from rfl,zau hlt,zaS,hcl _ (zbt hlt),zon,cPQ,zam (by simp; omega),zbW,zau hlt,zaS] at t
   have e:List.set (List.map zaa ev) k (zaa ev[k])=List.map zaa ev:=by rw [← List.map_set,List.set_getElem_self]
   rw [e] at t; refine cnStep Stable.none cn_r13 t h4 (fun a5 w5 h5=>?_); refine cnStep Stable.none cn_r14 (c14 b l ev _ _) h5 (fun a6 w6 h6=>?_); rw [w6Q] at h6; refine ⟨⟨k+1,hlt,by exact_mod_cast h6⟩,?_⟩; have:cnt a6 33=k+1:=by rw [h6.cnt (n:=(k:Int)+1) rfl]; omega
   show ev.length - cnt a6 33 < ev.length - cnt a 33; omega
 · rw [decide_eq_false (by simp; omega),iNs]; exact wp_exit (hQ _ _ (h2.trim Stable.none [4] [] (by cases b <;> kernel_rfl)))
abbrev stN (b:Bool) (l:List zab):St:=⟨[(2,.row 4 9 0 (List.map zaa (canonS l)).length),(3,I 0)],[bV (canonS l)]++frM b 1000 l⟩
theorem cn_body {b:Bool} {l:List zab} (g:CnLegs b l) (h:NowP w0 S0 κ0 K zaY.fn.ntmps X0 ⟨[s0 b l],(frM b 1000 l)⟩ a w):cnC.wp zaY.P (PostC w0 S0 κ0 K zaY.fn.ntmps .ret (stN b l)) a w:=by
 rw [cn_shape]; refine wp_seq (cnStep Stable.none cn_r0 (c0 b l) h (fun a1 w1 h1=>?_)); refine wp_seq (cnStep Stable.none cn_r1 (c1 b l) h1 (fun a2 w2 h2=>?_)); refine wp_seq (cn_range g h2 (fun ev a3 w3 hp h3=>?_)); have hl:ev.length=(keepS l).length:=hp.length_eq; have hf:=g.few; refine wp_seq (wp_seq (cnStep Stable.none cn_r7 (c7 b l ev) h3 (fun a4 w4 h4=>?_))); refine wp_cond (h4.bool (b:=decide (2000 < ((List.map zaa ev).length:Int))) rfl) ?_; rw [decide_eq_false (by simp; omega),iNs]; refine wp_skip ?_; have h5:=h4.trim Stable.none [4] [] (st':=⟨[s4 ev],[bV ev]++frM b 1000 l⟩) (by cases b <;> kernel_rfl); have t9:=c9 b l ev; rw [show List.length (List.map zaa ev)=(List.map zaa ev).length from rfl,g.cSort ev hp,zho] at t9
 have hlen:(List.map zaa ev).length=(List.map zaa (canonS l)).length:=by rw [zaq,zaq,hp.length_eq,g.perm.length_eq]
 have hcl:(canonS l).length=(keepS l).length:=g.perm.length_eq; refine wp_seq (cnStep Stable.none cn_r9 t9 h5 (fun a6 w6 h6=>?_)); rw [hlen] at h6; refine wp_seq (cn_copy (ev:=canonS l) g.cClone (by omega) h6 (fun a7 w7 h7=>?_)); refine wp_seq (cnStep Stable.none cn_r15 (c15 b l (canonS l)) h7 (fun a8 w8 h8=>?_)); refine wp_ret ⟨rfl,?_⟩; obtain ⟨S,κ,hg,_⟩:=h8; exact ⟨S,κ,hg⟩
theorem zBQ:enters zaY.P zbG=true:=by kernel_rfl
theorem cn_calls {b:Bool} {l:List zab} (g:CnLegs b l) (w:World) (S:Nat→Prop) (κ:Kap) (vals:Array Value) (hvl:vals.size=1) (hS:∀ g,S g→g < w.heap.size)
  (hv:∀ (k:Nat) (a:AV) (x:Value),[frA b 1000 l][k]?=some a→vals[k]?=some x→VRel S κ (Dm (frM b 1000 l)) w a x)
  (hms:∀ d ent,Ab.look (frM b 1000 l) d=some ent→EntAt S κ (Dm (frM b 1000 l)) w (κ d) ent) (hinj:∀ d d' g c c',Dm (frM b 1000 l) d→Dm (frM b 1000 l) d'→κ d=some (g,c)→κ d'=some (g,c')→d=d'):Calls zaY.P zbG vals w (Ab.Left S κ (frM b 1000 l) (frM b 1000 l) (.tup [.sl 9 (List.map zaa (canonS l)),I 0]) w):=by
 have hf:zaY.P.funcs[zbG]?=some zaY.fn:=by cases b <;> kernel_rfl
 refine zle (args:=[frA b 1000 l]) (frz:=false) (ex:=.ret) (st:=stN b l) hf cn_hb (show 1≤zaY.fn.ntmps by decide) hvl hS hv hms hinj (fun id=>by simp) (fun a hg=>?_) ?_ ?_ ?_
 · obtain ⟨S,κ,hg⟩:=hg; exact cn_body g ⟨S,κ,hg,trivial⟩
 · unfold stN bV; generalize List.map zaa (canonS l)=xs; rw [show zgp zaY.P false zaY.fn ⟨[(2,.row 4 9 0 xs.length),(3,I 0)],[(4,⟨9,zah,xs,false⟩)]++frM b 1000 l⟩=outOf false ([(4,⟨9,zah,xs,false⟩)]++frM b 1000 l) (.tup [.row 4 9 0 xs.length,I 0]) from by cases b <;> kernel_rfl]; simp [outOf,snap,mapO,Ab.look]
 · cases b <;> kernel_rfl
 · cases b <;> kernel_rfl
end
end
end Go.Proofs.YtlecnobdfhlmnaaGreat
namespace Go.Proofs.YtlecnobdfhlmnaaGreat
open Go.Shelf
def zzj:Go.Shelf.Ren:=⟨fun | 6=>97 | 15=>123 | 14=>147 | 28=>170 | 29=>171 | 20=>193 | 21=>194 | 22=>195 | 23=>196 | 24=>197 | 25=>198 | 26=>199 | 27=>200 | 46=>247 | 47=>222 | 48=>223 | 49=>248 | 50=>249 | 57=>264 | n=>n,fun | 22=>51 | 24=>70 | 25=>183 | 3=>3 | 39=>204 | 0=>0 | 53=>256 | 55=>258 | 4=>4 | 46=>250 | 45=>249 | 50=>166 | 5=>5 | 9=>9 | 66=>292 | 70=>296 | 76=>313 | 77=>314 | n=>n,fun | n=>n⟩
theorem layG:Go.Proofs.SlLaysF0.n6 Tryz.prog zzj:={ mixed:=by kernel_rfl,f6:=⟨Tryz.f97.name,by decide,Tryz.func97.trans (congrArg some (by kernel_rfl))⟩,f14:=⟨Tryz.f147.name,by decide,Tryz.func147.trans (congrArg some (by kernel_rfl))⟩,f15:=Tryz.func123.trans (congrArg some (by kernel_rfl)),f20:=⟨Tryz.f193.name,by decide,Tryz.func193.trans (congrArg some (by kernel_rfl))⟩,f21:=⟨Tryz.f194.name,by decide,Tryz.func194.trans (congrArg some (by kernel_rfl))⟩,f22:=⟨Tryz.f195.name,by decide,Tryz.func195.trans (congrArg some (by kernel_rfl))⟩,f23:=⟨Tryz.f196.name,by decide,Tryz.func196.trans (congrArg some (by kernel_rfl))⟩,f24:=⟨Tryz.f197.name,by decide,Tryz.func197.trans (congrArg some (by kernel_rfl))⟩,f25:=⟨Tryz.f198.name,by decide,Tryz.func198.trans (congrArg some (by kernel_rfl))⟩,f26:=⟨Tryz.f199.name,by decide,Tryz.func199.trans (congrArg some (by kernel_rfl))⟩,f27:=⟨Tryz.f200.name,by decide,Tryz.func200.trans (congrArg some (by kernel_rfl))⟩,f28:=Tryz.func170.trans (congrArg some (by kernel_rfl)),f29:=Tryz.func171.trans (congrArg some (by kernel_rfl)),f46:=⟨Tryz.f247.name,by decide,Tryz.func247.trans (congrArg some (by kernel_rfl))⟩,f47:=Tryz.func222.trans (congrArg some (by kernel_rfl)),f48:=Tryz.func223.trans (congrArg some (by kernel_rfl)),f49:=⟨Tryz.f248.name,by decide,Tryz.func248.trans (congrArg some (by kernel_rfl))⟩,f50:=⟨Tryz.f249.name,by decide,Tryz.func249.trans (congrArg some (by kernel_rfl))⟩,f57:=⟨Tryz.f264.name,by decide,Tryz.func264.trans (congrArg some (by kernel_rfl))⟩,t0:=Tryz.underlying0,a0:=Tryz.isAgg0,z0:=Tryz.sizeOf0,v0:=Tryz.zeroValue0,t3:=Tryz.underlying3,a3:=Tryz.isAgg3,z3:=Tryz.sizeOf3,v3:=Tryz.zeroValue3,t4:=Tryz.underlying4,a4:=Tryz.isAgg4,z4:=Tryz.sizeOf4,v4:=Tryz.zeroValue4,t5:=Tryz.underlying5,a5:=Tryz.isAgg5,z5:=Tryz.sizeOf5,v5:=Tryz.zeroValue5,t9:=Tryz.underlying9,a9:=Tryz.isAgg9,z9:=Tryz.sizeOf9,v9:=Tryz.zeroValue9,t22:=Tryz.underlying51,a22:=Tryz.isAgg51,z22:=Tryz.sizeOf51,v22:=Tryz.zeroValue51,t25:=Tryz.underlying183,a25:=Tryz.isAgg183,z25:=Tryz.sizeOf183,v25:=Tryz.zeroValue183,t39:=Tryz.underlying204,a39:=Tryz.isAgg204,z39:=Tryz.sizeOf204,v39:=Tryz.zeroValue204,t45:=Tryz.underlying249,a45:=Tryz.isAgg249,z45:=Tryz.sizeOf249,v45:=Tryz.zeroValue249,t46:=Tryz.underlying250,a46:=Tryz.isAgg250,z46:=Tryz.sizeOf250,v46:=Tryz.zeroValue250,t50:=Tryz.underlying166,a50:=Tryz.isAgg166,z50:=Tryz.sizeOf166,v50:=Tryz.zeroValue166,t53:=Tryz.underlying256,a53:=Tryz.isAgg256,z53:=Tryz.sizeOf256,v53:=Tryz.zeroValue256,t55:=Tryz.underlying258,a55:=Tryz.isAgg258,z55:=Tryz.sizeOf258,v55:=Tryz.zeroValue258,t66:=Tryz.underlying292,a66:=Tryz.isAgg292,z66:=Tryz.sizeOf292,v66:=Tryz.zeroValue292,t70:=Tryz.underlying296,a70:=Tryz.isAgg296,z70:=Tryz.sizeOf296,v70:=Tryz.zeroValue296,t76:=Tryz.underlying313,a76:=Tryz.isAgg313,z76:=Tryz.sizeOf313,v76:=Tryz.zeroValue313,t77:=Tryz.underlying314,a77:=Tryz.isAgg314,z77:=Tryz.sizeOf314,v77:=Tryz.zeroValue314 }
theorem aggG (w:World):(Go.isAgg (zzj.t 24)).run Tryz.prog w=.ok true w:=Tryz.isAgg70 w
theorem sizeG (w:World):(Go.sizeOf (zzj.t 24)).run Tryz.prog w=.ok 8 w:=Tryz.sizeOf70 w
def zzi:Go.Shelf.Ren:=⟨fun | 6=>128 | 15=>123 | 14=>176 | 28=>170 | 29=>171 | 20=>227 | 21=>228 | 22=>229 | 23=>230 | 24=>231 | 25=>232 | 26=>233 | 27=>234 | 46=>259 | 47=>222 | 48=>223 | 49=>260 | 50=>261 | 57=>269 | n=>n,fun | 22=>37 | 24=>85 | 25=>211 | 3=>3 | 39=>204 | 0=>0 | 53=>256 | 55=>258 | 4=>4 | 46=>250 | 45=>249 | 50=>166 | 5=>5 | 9=>9 | 66=>292 | 70=>296 | 76=>313 | 77=>314 | n=>n,fun | n=>n⟩
theorem layE:Go.Proofs.SlLaysF0.n6 Tryz.prog zzi:={ mixed:=by kernel_rfl,f6:=⟨Tryz.f128.name,by decide,Tryz.func128.trans (congrArg some (by kernel_rfl))⟩,f14:=⟨Tryz.f176.name,by decide,Tryz.func176.trans (congrArg some (by kernel_rfl))⟩,f15:=Tryz.func123.trans (congrArg some (by kernel_rfl)),f20:=⟨Tryz.f227.name,by decide,Tryz.func227.trans (congrArg some (by kernel_rfl))⟩,f21:=⟨Tryz.f228.name,by decide,Tryz.func228.trans (congrArg some (by kernel_rfl))⟩,f22:=⟨Tryz.f229.name,by decide,Tryz.func229.trans (congrArg some (by kernel_rfl))⟩,f23:=⟨Tryz.f230.name,by decide,Tryz.func230.trans (congrArg some (by kernel_rfl))⟩,f24:=⟨Tryz.f231.name,by decide,Tryz.func231.trans (congrArg some (by kernel_rfl))⟩,f25:=⟨Tryz.f232.name,by decide,Tryz.func232.trans (congrArg some (by kernel_rfl))⟩,f26:=⟨Tryz.f233.name,by decide,Tryz.func233.trans (congrArg some (by kernel_rfl))⟩,f27:=⟨Tryz.f234.name,by decide,Tryz.func234.trans (congrArg some (by kernel_rfl))⟩,f28:=Tryz.func170.trans (congrArg some (by kernel_rfl)),f29:=Tryz.func171.trans (congrArg some (by kernel_rfl)),f46:=⟨Tryz.f259.name,by decide,Tryz.func259.trans (congrArg some (by kernel_rfl))⟩,f47:=Tryz.func222.trans (congrArg some (by kernel_rfl)),f48:=Tryz.func223.trans (congrArg some (by kernel_rfl)),f49:=⟨Tryz.f260.name,by decide,Tryz.func260.trans (congrArg some (by kernel_rfl))⟩,f50:=⟨Tryz.f261.name,by decide,Tryz.func261.trans (congrArg some (by kernel_rfl))⟩,f57:=⟨Tryz.f269.name,by decide,Tryz.func269.trans (congrArg some (by kernel_rfl))⟩,t0:=Tryz.underlying0,a0:=Tryz.isAgg0,z0:=Tryz.sizeOf0,v0:=Tryz.zeroValue0,t3:=Tryz.underlying3,a3:=Tryz.isAgg3,z3:=Tryz.sizeOf3,v3:=Tryz.zeroValue3,t4:=Tryz.underlying4,a4:=Tryz.isAgg4,z4:=Tryz.sizeOf4,v4:=Tryz.zeroValue4,t5:=Tryz.underlying5,a5:=Tryz.isAgg5,z5:=Tryz.sizeOf5,v5:=Tryz.zeroValue5,t9:=Tryz.underlying9,a9:=Tryz.isAgg9,z9:=Tryz.sizeOf9,v9:=Tryz.zeroValue9,t22:=Tryz.underlying37,a22:=Tryz.isAgg37,z22:=Tryz.sizeOf37,v22:=Tryz.zeroValue37,t25:=Tryz.underlying211,a25:=Tryz.isAgg211,z25:=Tryz.sizeOf211,v25:=Tryz.zeroValue211,t39:=Tryz.underlying204,a39:=Tryz.isAgg204,z39:=Tryz.sizeOf204,v39:=Tryz.zeroValue204,t45:=Tryz.underlying249,a45:=Tryz.isAgg249,z45:=Tryz.sizeOf249,v45:=Tryz.zeroValue249,t46:=Tryz.underlying250,a46:=Tryz.isAgg250,z46:=Tryz.sizeOf250,v46:=Tryz.zeroValue250,t50:=Tryz.underlying166,a50:=Tryz.isAgg166,z50:=Tryz.sizeOf166,v50:=Tryz.zeroValue166,t53:=Tryz.underlying256,a53:=Tryz.isAgg256,z53:=Tryz.sizeOf256,v53:=Tryz.zeroValue256,t55:=Tryz.underlying258,a55:=Tryz.isAgg258,z55:=Tryz.sizeOf258,v55:=Tryz.zeroValue258,t66:=Tryz.underlying292,a66:=Tryz.isAgg292,z66:=Tryz.sizeOf292,v66:=Tryz.zeroValue292,t70:=Tryz.underlying296,a70:=Tryz.isAgg296,z70:=Tryz.sizeOf296,v70:=Tryz.zeroValue296,t76:=Tryz.underlying313,a76:=Tryz.isAgg313,z76:=Tryz.sizeOf313,v76:=Tryz.zeroValue313,t77:=Tryz.underlying314,a77:=Tryz.isAgg314,z77:=Tryz.sizeOf314,v77:=Tryz.zeroValue314 }
theorem aggE (w:World):(Go.isAgg (zzi.t 24)).run Tryz.prog w=.ok true w:=Tryz.isAgg85 w
theorem sizeE (w:World):(Go.sizeOf (zzi.t 24)).run Tryz.prog w=.ok 9 w:=Tryz.sizeOf85 w
def zzh:Go.Shelf.Ren:=⟨fun | 6=>69 | 15=>123 | 14=>122 | 28=>170 | 29=>171 | 20=>162 | 21=>163 | 22=>164 | 23=>165 | 24=>166 | 25=>167 | 26=>168 | 27=>169 | 46=>221 | 47=>222 | 48=>223 | 49=>224 | 50=>225 | 57=>257 | n=>n,fun | 22=>39 | 24=>62 | 25=>141 | 3=>3 | 39=>204 | 0=>0 | 53=>256 | 55=>258 | 4=>4 | 46=>250 | 45=>249 | 50=>166 | 5=>5 | 9=>9 | 66=>292 | 70=>296 | 76=>313 | 77=>314 | n=>n,fun | n=>n⟩
theorem layA:Go.Proofs.SlLaysF0.n6 Tryz.prog zzh:={ mixed:=by kernel_rfl,f6:=⟨Tryz.f69.name,by decide,Tryz.func69.trans (congrArg some (by kernel_rfl))⟩,f14:=⟨Tryz.f122.name,by decide,Tryz.func122.trans (congrArg some (by kernel_rfl))⟩,f15:=Tryz.func123.trans (congrArg some (by kernel_rfl)),f20:=⟨Tryz.f162.name,by decide,Tryz.func162.trans (congrArg some (by kernel_rfl))⟩,f21:=⟨Tryz.f163.name,by decide,Tryz.func163.trans (congrArg some (by kernel_rfl))⟩,f22:=⟨Tryz.f164.name,by decide,Tryz.func164.trans (congrArg some (by kernel_rfl))⟩,f23:=⟨Tryz.f165.name,by decide,Tryz.func165.trans (congrArg some (by kernel_rfl))⟩,f24:=⟨Tryz.f166.name,by decide,Tryz.func166.trans (congrArg some (by kernel_rfl))⟩,f25:=⟨Tryz.f167.name,by decide,Tryz.func167.trans (congrArg some (by kernel_rfl))⟩,f26:=⟨Tryz.f168.name,by decide,Tryz.func168.trans (congrArg some (by kernel_rfl))⟩,f27:=⟨Tryz.f169.name,by decide,Tryz.func169.trans (congrArg some (by kernel_rfl))⟩,f28:=Tryz.func170.trans (congrArg some (by kernel_rfl)),f29:=Tryz.func171.trans (congrArg some (by kernel_rfl)),f46:=⟨Tryz.f221.name,by decide,Tryz.func221.trans (congrArg some (by kernel_rfl))⟩,f47:=Tryz.func222.trans (congrArg some (by kernel_rfl)),f48:=Tryz.func223.trans (congrArg some (by kernel_rfl)),f49:=⟨Tryz.f224.name,by decide,Tryz.func224.trans (congrArg some (by kernel_rfl))⟩,f50:=⟨Tryz.f225.name,by decide,Tryz.func225.trans (congrArg some (by kernel_rfl))⟩,f57:=⟨Tryz.f257.name,by decide,Tryz.func257.trans (congrArg some (by kernel_rfl))⟩,t0:=Tryz.underlying0,a0:=Tryz.isAgg0,z0:=Tryz.sizeOf0,v0:=Tryz.zeroValue0,t3:=Tryz.underlying3,a3:=Tryz.isAgg3,z3:=Tryz.sizeOf3,v3:=Tryz.zeroValue3,t4:=Tryz.underlying4,a4:=Tryz.isAgg4,z4:=Tryz.sizeOf4,v4:=Tryz.zeroValue4,t5:=Tryz.underlying5,a5:=Tryz.isAgg5,z5:=Tryz.sizeOf5,v5:=Tryz.zeroValue5,t9:=Tryz.underlying9,a9:=Tryz.isAgg9,z9:=Tryz.sizeOf9,v9:=Tryz.zeroValue9,t22:=Tryz.underlying39,a22:=Tryz.isAgg39,z22:=Tryz.sizeOf39,v22:=Tryz.zeroValue39,t25:=Tryz.underlying141,a25:=Tryz.isAgg141,z25:=Tryz.sizeOf141,v25:=Tryz.zeroValue141,t39:=Tryz.underlying204,a39:=Tryz.isAgg204,z39:=Tryz.sizeOf204,v39:=Tryz.zeroValue204,t45:=Tryz.underlying249,a45:=Tryz.isAgg249,z45:=Tryz.sizeOf249,v45:=Tryz.zeroValue249,t46:=Tryz.underlying250,a46:=Tryz.isAgg250,z46:=Tryz.sizeOf250,v46:=Tryz.zeroValue250,t50:=Tryz.underlying166,a50:=Tryz.isAgg166,z50:=Tryz.sizeOf166,v50:=Tryz.zeroValue166,t53:=Tryz.underlying256,a53:=Tryz.isAgg256,z53:=Tryz.sizeOf256,v53:=Tryz.zeroValue256,t55:=Tryz.underlying258,a55:=Tryz.isAgg258,z55:=Tryz.sizeOf258,v55:=Tryz.zeroValue258,t66:=Tryz.underlying292,a66:=Tryz.isAgg292,z66:=Tryz.sizeOf292,v66:=Tryz.zeroValue292,t70:=Tryz.underlying296,a70:=Tryz.isAgg296,z70:=Tryz.sizeOf296,v70:=Tryz.zeroValue296,t76:=Tryz.underlying313,a76:=Tryz.isAgg313,z76:=Tryz.sizeOf313,v76:=Tryz.zeroValue313,t77:=Tryz.underlying314,a77:=Tryz.isAgg314,z77:=Tryz.sizeOf314,v77:=Tryz.zeroValue314 }
theorem aggA (w:World):(Go.isAgg (zzh.t 24)).run Tryz.prog w=.ok true w:=Tryz.isAgg62 w
theorem sizeA (w:World):(Go.sizeOf (zzh.t 24)).run Tryz.prog w=.ok 6 w:=Tryz.sizeOf62 w
def layK_ren:Go.Shelf.Ren:=⟨fun | 7=>74 | 10=>126 | n=>n,fun | 23=>68 | 26=>3 | 3=>4 | 28=>121 | 0=>0 | 27=>120 | 33=>98 | 4=>4 | n=>n,fun | n=>n⟩
theorem layK:Go.Proofs.SlLaysZI.n7 Tryz.prog layK_ren:={ mixed:=by kernel_rfl,f7:=⟨Tryz.f74.name,by decide,Tryz.func74.trans (congrArg some (by kernel_rfl))⟩,f10:=⟨Tryz.f126.name,by decide,Tryz.func126.trans (congrArg some (by kernel_rfl))⟩,t0:=Tryz.underlying0,a0:=Tryz.isAgg0,z0:=Tryz.sizeOf0,v0:=Tryz.zeroValue0,t4:=Tryz.underlying4,a4:=Tryz.isAgg4,z4:=Tryz.sizeOf4,v4:=Tryz.zeroValue4,t23:=Tryz.underlying68,a23:=Tryz.isAgg68,z23:=Tryz.sizeOf68,v23:=Tryz.zeroValue68,t26:=Tryz.underlying3,a26:=Tryz.isAgg3,z26:=Tryz.sizeOf3,v26:=Tryz.zeroValue3,t27:=Tryz.underlying120,a27:=Tryz.isAgg120,z27:=Tryz.sizeOf120,v27:=Tryz.zeroValue120,t28:=Tryz.underlying121,a28:=Tryz.isAgg121,z28:=Tryz.sizeOf121,v28:=Tryz.zeroValue121,t33:=Tryz.underlying98,a33:=Tryz.isAgg98,z33:=Tryz.sizeOf98,v33:=Tryz.zeroValue98 }
def layL_ren:Go.Shelf.Ren:=⟨fun | 7=>59 | 10=>102 | n=>n,fun | 23=>114 | 26=>3 | 3=>3 | 28=>121 | 0=>0 | 27=>120 | 33=>98 | 4=>4 | n=>n,fun | n=>n⟩
theorem layL:Go.Proofs.SlLaysZI.n7 Tryz.prog layL_ren:={ mixed:=by kernel_rfl,f7:=⟨Tryz.f59.name,by decide,Tryz.func59.trans (congrArg some (by kernel_rfl))⟩,f10:=⟨Tryz.f102.name,by decide,Tryz.func102.trans (congrArg some (by kernel_rfl))⟩,t0:=Tryz.underlying0,a0:=Tryz.isAgg0,z0:=Tryz.sizeOf0,v0:=Tryz.zeroValue0,t4:=Tryz.underlying4,a4:=Tryz.isAgg4,z4:=Tryz.sizeOf4,v4:=Tryz.zeroValue4,t23:=Tryz.underlying114,a23:=Tryz.isAgg114,z23:=Tryz.sizeOf114,v23:=Tryz.zeroValue114,t26:=Tryz.underlying3,a26:=Tryz.isAgg3,z26:=Tryz.sizeOf3,v26:=Tryz.zeroValue3,t27:=Tryz.underlying120,a27:=Tryz.isAgg120,z27:=Tryz.sizeOf120,v27:=Tryz.zeroValue120,t28:=Tryz.underlying121,a28:=Tryz.isAgg121,z28:=Tryz.sizeOf121,v28:=Tryz.zeroValue121,t33:=Tryz.underlying98,a33:=Tryz.isAgg98,z33:=Tryz.sizeOf98,v33:=Tryz.zeroValue98 }
def layS_ren:Go.Shelf.Ren:=⟨fun | 6=>58 | 8=>100 | 9=>101 | 11=>149 | 13=>123 | 12=>150 | 23=>170 | 24=>171 | 14=>201 | 15=>202 | 16=>203 | 17=>204 | 18=>205 | 19=>206 | 20=>207 | 21=>208 | 22=>209 | 25=>250 | 26=>222 | 27=>223 | 28=>251 | 29=>252 | 30=>172 | 31=>265 | n=>n,fun | 26=>3 | 28=>121 | 24=>22 | 0=>0 | 3=>3 | 37=>204 | 48=>256 | 50=>258 | 4=>4 | 40=>250 | 39=>249 | 45=>166 | 5=>5 | 9=>9 | 51=>292 | 55=>296 | 57=>313 | 58=>314 | 33=>98 | n=>n,fun | n=>n⟩
theorem layS:Go.Proofs.SlLaysZI.n6 Tryz.prog layS_ren:={ mixed:=by kernel_rfl,f6:=⟨Tryz.f58.name,by decide,Tryz.func58.trans (congrArg some (by kernel_rfl))⟩,f8:=⟨Tryz.f100.name,by decide,Tryz.func100.trans (congrArg some (by kernel_rfl))⟩,f11:=⟨Tryz.f149.name,by decide,Tryz.func149.trans (congrArg some (by kernel_rfl))⟩,t0:=Tryz.underlying0,a0:=Tryz.isAgg0,z0:=Tryz.sizeOf0,v0:=Tryz.zeroValue0,t24:=Tryz.underlying22,a24:=Tryz.isAgg22,z24:=Tryz.sizeOf22,v24:=Tryz.zeroValue22,t26:=Tryz.underlying3,a26:=Tryz.isAgg3,z26:=Tryz.sizeOf3,v26:=Tryz.zeroValue3,t28:=Tryz.underlying121,a28:=Tryz.isAgg121,z28:=Tryz.sizeOf121,v28:=Tryz.zeroValue121,i26:=by kernel_rfl }
def layI_ren:Go.Shelf.Ren:=⟨fun | 5=>101 | 8=>123 | 7=>150 | 19=>170 | 20=>171 | 10=>201 | 11=>202 | 12=>203 | 13=>204 | 14=>205 | 15=>206 | 16=>207 | 17=>208 | 18=>209 | 30=>250 | 31=>222 | 32=>223 | 33=>251 | 34=>252 | 35=>172 | 40=>265 | n=>n,fun | 23=>22 | 25=>3 | 3=>3 | 32=>204 | 22=>22 | 0=>0 | 44=>256 | 46=>258 | 4=>4 | 36=>250 | 35=>249 | 41=>166 | 5=>5 | 9=>9 | 53=>292 | 57=>296 | 63=>313 | 64=>314 | n=>n,fun | n=>n⟩
theorem layI:Go.Proofs.SlLaysM.n5 Tryz.prog layI_ren:={ mixed:=by kernel_rfl,f5:=⟨Tryz.f101.name,by decide,Tryz.func101.trans (congrArg some (by kernel_rfl))⟩,f7:=⟨Tryz.f150.name,by decide,Tryz.func150.trans (congrArg some (by kernel_rfl))⟩,f8:=Tryz.func123.trans (congrArg some (by kernel_rfl)),f10:=⟨Tryz.f201.name,by decide,Tryz.func201.trans (congrArg some (by kernel_rfl))⟩,f11:=⟨Tryz.f202.name,by decide,Tryz.func202.trans (congrArg some (by kernel_rfl))⟩,f12:=⟨Tryz.f203.name,by decide,Tryz.func203.trans (congrArg some (by kernel_rfl))⟩,f13:=⟨Tryz.f204.name,by decide,Tryz.func204.trans (congrArg some (by kernel_rfl))⟩,f14:=⟨Tryz.f205.name,by decide,Tryz.func205.trans (congrArg some (by kernel_rfl))⟩,f15:=⟨Tryz.f206.name,by decide,Tryz.func206.trans (congrArg some (by kernel_rfl))⟩,f16:=⟨Tryz.f207.name,by decide,Tryz.func207.trans (congrArg some (by kernel_rfl))⟩,f17:=⟨Tryz.f208.name,by decide,Tryz.func208.trans (congrArg some (by kernel_rfl))⟩,f18:=⟨Tryz.f209.name,by decide,Tryz.func209.trans (congrArg some (by kernel_rfl))⟩,f19:=Tryz.func170.trans (congrArg some (by kernel_rfl)),f20:=Tryz.func171.trans (congrArg some (by kernel_rfl)),f30:=⟨Tryz.f250.name,by decide,Tryz.func250.trans (congrArg some (by kernel_rfl))⟩,f31:=Tryz.func222.trans (congrArg some (by kernel_rfl)),f32:=Tryz.func223.trans (congrArg some (by kernel_rfl)),f33:=⟨Tryz.f251.name,by decide,Tryz.func251.trans (congrArg some (by kernel_rfl))⟩,f34:=⟨Tryz.f252.name,by decide,Tryz.func252.trans (congrArg some (by kernel_rfl))⟩,f35:=⟨Tryz.f172.name,by decide,Tryz.func172.trans (congrArg some (by kernel_rfl))⟩,f40:=⟨Tryz.f265.name,by decide,Tryz.func265.trans (congrArg some (by kernel_rfl))⟩,t0:=Tryz.underlying0,a0:=Tryz.isAgg0,z0:=Tryz.sizeOf0,v0:=Tryz.zeroValue0,t3:=Tryz.underlying3,a3:=Tryz.isAgg3,z3:=Tryz.sizeOf3,v3:=Tryz.zeroValue3,t4:=Tryz.underlying4,a4:=Tryz.isAgg4,z4:=Tryz.sizeOf4,v4:=Tryz.zeroValue4,t5:=Tryz.underlying5,a5:=Tryz.isAgg5,z5:=Tryz.sizeOf5,v5:=Tryz.zeroValue5,t9:=Tryz.underlying9,a9:=Tryz.isAgg9,z9:=Tryz.sizeOf9,v9:=Tryz.zeroValue9,t22:=Tryz.underlying22,a22:=Tryz.isAgg22,z22:=Tryz.sizeOf22,v22:=Tryz.zeroValue22,t23:=Tryz.underlying22,a23:=Tryz.isAgg22,z23:=Tryz.sizeOf22,v23:=Tryz.zeroValue22,t25:=Tryz.underlying3,a25:=Tryz.isAgg3,z25:=Tryz.sizeOf3,v25:=Tryz.zeroValue3,t32:=Tryz.underlying204,a32:=Tryz.isAgg204,z32:=Tryz.sizeOf204,v32:=Tryz.zeroValue204,t35:=Tryz.underlying249,a35:=Tryz.isAgg249,z35:=Tryz.sizeOf249,v35:=Tryz.zeroValue249,t36:=Tryz.underlying250,a36:=Tryz.isAgg250,z36:=Tryz.sizeOf250,v36:=Tryz.zeroValue250,t41:=Tryz.underlying166,a41:=Tryz.isAgg166,z41:=Tryz.sizeOf166,v41:=Tryz.zeroValue166,t44:=Tryz.underlying256,a44:=Tryz.isAgg256,z44:=Tryz.sizeOf256,v44:=Tryz.zeroValue256,t46:=Tryz.underlying258,a46:=Tryz.isAgg258,z46:=Tryz.sizeOf258,v46:=Tryz.zeroValue258,t53:=Tryz.underlying292,a53:=Tryz.isAgg292,z53:=Tryz.sizeOf292,v53:=Tryz.zeroValue292,t57:=Tryz.underlying296,a57:=Tryz.isAgg296,z57:=Tryz.sizeOf296,v57:=Tryz.zeroValue296,t63:=Tryz.underlying313,a63:=Tryz.isAgg313,z63:=Tryz.sizeOf313,v63:=Tryz.zeroValue313,t64:=Tryz.underlying314,a64:=Tryz.isAgg314,z64:=Tryz.sizeOf314,v64:=Tryz.zeroValue314 }
end Go.Proofs.YtlecnobdfhlmnaaGreat
namespace Go.Proofs.YtlecnobdfhlmnaaGreat
open Go.Ab
set_option maxRecDepth 10000
section
variable {α:Type} {lt:α→α→Bool}
theorem zzf (x:α):∀ l:List α,List.Perm (ins lt x l) (x :: l)
 | []=>zt2 _
 | y :: r=>by
   unfold ins; split
   · exact zt2 _
   · exact ((zzf x r).cons y).trans (List.Perm.swap x y r)
theorem ze8:∀ l:List α,List.Perm (isort lt l) l
 | []=>zt2 _
 | x :: r=>(zzf x (isort lt r)).trans ((ze8 r).cons x)
theorem zAD (ht:∀ a b c,lt b a=false→lt c b=false→lt c a=false) (ha:∀ a b,lt a b=true→lt b a=false) (x:α):∀ l:List α,l.Pairwise (fun a b=>lt b a=false)→(ins lt x l).Pairwise (fun a b=>lt b a=false)
 | [],_=>by simp [ins]
 | y :: r,h=>by
   unfold ins; split
   · rename_i hxy; refine zlb.2 ⟨fun z hz=>?_,h⟩; rcases zbV.1 hz with rfl | hz
     · exact ha _ _ hxy
     · exact ht _ _ _ (ha _ _ hxy) ((zlb.1 h).1 z hz)
   · rename_i hxy; obtain ⟨h1,h2⟩:=zlb.1 h; refine zlb.2 ⟨fun z hz=>?_,zAD ht ha x r h2⟩; rcases zbV.1 ((zzf x r).mem_iff.1 hz) with rfl | hz
     · simpa using hxy
     · exact h1 z hz
theorem znZ (ht:∀ a b c,lt b a=false→lt c b=false→lt c a=false) (ha:∀ a b,lt a b=true→lt b a=false):∀ l:List α,(isort lt l).Pairwise (fun a b=>lt b a=false)
 | []=>List.Pairwise.nil
 | x :: r=>zAD ht ha x _ (znZ ht ha r)
theorem zmQ:∀ {l1 l2:List α},List.Perm l1 l2→l1.Pairwise (fun a b=>lt b a=false)→l2.Pairwise (fun a b=>lt b a=false)→(∀ a∈l1,∀ b∈l1,lt a b=false→lt b a=false→a=b)→l1=l2
 | [],l2,hp,_,_,_=>(List.nil_perm.1 hp).symm
 | x :: r,l2,hp,h1,h2,ha=>by
   cases l2 with
   | nil=>exact absurd hp.length_eq (by simp)
   | cons y s =>
     obtain ⟨h3,h4⟩:=zlb.1 h1; obtain ⟨h5,h6⟩:=zlb.1 h2
     have hxy:x=y:=by
      have m1:y∈x :: r:=hp.mem_iff.2 (by simp); have m2:x∈y :: s:=hp.mem_iff.1 (by simp); rcases zbV.1 m1 with e | m1
      · exact e.symm
      rcases zbV.1 m2 with e | m2
      · exact e
      exact ha x (by simp) y (by simp [m1]) (h5 x m2) (h3 y m1)
     subst hxy; rw [zmQ ((List.perm_cons x).1 hp) h4 h6 (fun a ha' b hb=>ha a (by simp [ha']) b (by simp [hb]))]
end
theorem zmC {a b:zbe} (h:lessS a b=true):lessS b a=false:=by
 rcases zx2 a b with q | q
 · rw [h] at q; cases q
 · exact q
theorem lessS_eq {a b:zbe} (h1:lessS a b=false) (h2:lessS b a=false):a=b:=by
 unfold lessS at h1 h2; obtain ⟨t,s,q⟩:=a; obtain ⟨t',s',q'⟩:=b; simp only at h1 h2
 have:t=t':=by
  by_cases h:t=t'
  · exact h
  · simp [h,Ne.symm h] at h1 h2; omega
 subst this
 have:s=s':=by
  by_cases h:s=s'
  · exact h
  · simp [h,Ne.symm h] at h1 h2; omega
 subst this; simp at h1 h2; have:q=q':=by omega
 rw [this]
theorem zra (s:zbe):cw zkh [.agg (zcv s)] []=some (zas (stampB s)):=by
 refine zCR s ?_; unfold stampB; simp only [zfi,decide_eq_true_eq]
 repeat' split
 all_goals first
  | (rw [decide_eq_false (by omega)]; rfl)
  | (rw [show decide ((0≤s.Time∧s.Time≤1000000)∧(0≤s.Source∧s.Source≤99)∧(0≤s.Seq∧s.Seq≤9999))=decide (s.Seq≤9999) from decide_eq_decide.2 (by omega)]; rfl)
theorem zu6 (n:Int):cw zcI [I n] []=some (zas (!decide (0≤n∧n≤1152921504606846976))):=by
 refine ztt n ?_; rw [zdR]; split
 · rw [show decide (0≤n∧n≤1152921504606846976)=false from decide_eq_false (by omega)]; rfl
 · rw [show (!decide (0≤n∧n≤1152921504606846976))=decide (1152921504606846976 < n) by rw [← decide_not]; exact decide_eq_decide.2 (by omega)]
   rfl
theorem c_idx_v (l:List Int) (hl:l.length≤1000000):cw zcr [.sl 1 (List.map zaf l),.fn zcI []] []=some (zbw (match fnd (fun n=>!decide (0≤n∧n≤1152921504606846976)) 0 l with | some (i,_)=>(i:Int) | none=>-1)):=by
 refine zoQ l ?_; refine ziM l (fun n=>!decide (0≤n∧n≤1152921504606846976)) (fun i=>zeo l i) (fun o=>zbw (match o with | some (i,_)=>(i:Int) | none=>-1)) ?_ ?_ ?_
 · exact zfP _ _ (by simp (disch:=omega) only [zaq,zaW]; rfl)
 · intro i hi h; refine zfP _ _ ?_; simp (disch:=omega) only [zaq,zaC,zam,zbf,zbX,zau hi,zaS,zu6,zaw]; rw [h,zaZ]; rfl
 · intro i hi y h hk; refine zfP _ _ ?_; simp (disch:=omega) only [zaq,zaC,zam,zbf,zbX,zau hi,zaS,zu6,zaw]; rw [h,zaB,w6Q]; exact hk
theorem zDB (l:List Int) (hl:l.length≤1000000):cw zb7 [.sl 1 (List.map zaf l),.fn zcI []] []=some (zas (l.any fun n=>!decide (0≤n∧n≤1152921504606846976))):=by
 refine znz l ?_; rw [c_idx_v l hl,za3,← fnd_any]
 cases fnd (fun n=>!decide (0≤n∧n≤1152921504606846976)) 0 l with
 | none=>rfl
 | some q=>simp; rfl
theorem zEj {α:Type} (p:α→Bool) (l:List α):(!l.any fun n=>!p n)=l.all p:=by
 induction l with
 | nil=>rfl
 | cons x r ih=>simp only [List.any_cons,List.all_cons,Bool.not_or,Bool.not_not,ih]
theorem zEq (e:zab) (hp:e.Pages.length≤1000000):cw zkJ [.agg (zaa e)] []=some (zas (decide (1≤e.Stamp.Source∧(0≤e.Part∧e.Part≤23)∧(-1≤e.Value∧e.Value≤40)∧e.Marker=0) && decide (e.Pages.length≤12) && e.Pages.all (fun n=>decide (0≤n∧n≤1152921504606846976)))):=by
 refine zvD e ?_; rw [zDB _ hp,zaw,zEj,zaq]; simp only [zfi,decide_eq_true_eq,bne_iff_ne,ne_eq]; by_cases hl:12 < e.Pages.length
 · rw [if_pos (show (12:Int) < (e.Pages.length:Int) by omega),show decide (e.Pages.length≤12)=false from decide_eq_false (by omega),zt0,zjb]
   repeat' split
   all_goals rfl
 · rw [if_neg (show ¬ (12:Int) < (e.Pages.length:Int) by omega),show decide (e.Pages.length≤12)=true from decide_eq_true (by omega),zqW]
   repeat' split
   all_goals first
    | (rw [decide_eq_false (by omega),zjb]; rfl)
    | (rw [decide_eq_true (by omega),zhn]; rfl)
theorem c_Valid (e:zab) (hp:e.Pages.length≤1000000):cw zkR [.agg (zaa e)] []=some (zas (eventB e)):=by
 refine zAp e ?_; rw [zra,zaw,zEq e hp,zaw,zaq]; unfold eventB
 cases hs:stampB e.Stamp with
 | false=>simp only [zdE,zaZ,zjb]; rfl
 | true =>
 simp only [zb6,zaB,zhn,zfi,decide_eq_true_eq,beq_iff_eq,zdH,if_false]; by_cases h1:0≤e.Script∧e.Script≤319999
 case neg =>
  rw [decide_eq_false h1,zjb,zjb,zjb]; by_cases h2:e.Script < 0
  · rw [if_pos h2]; rfl
  · rw [if_neg h2,if_pos (show 319999 < e.Script by omega)]; rfl
 rw [if_neg (show ¬ e.Script < 0 by omega),if_neg (show ¬ 319999 < e.Script by omega),decide_eq_true h1,zhn]; by_cases k0:e.Kind=0
 · rw [if_pos k0]; have:decide ((e.Kind=0∧1≤e.Stamp.Source∧(0≤e.Part∧e.Part≤23)∧(-1≤e.Value∧e.Value≤40)∧e.Marker=0)∨(e.Kind=1∧e.Stamp.Source=0∧e.Script=0∧e.Part=0∧e.Value=0∧(1≤e.Marker∧e.Marker≤99)∧e.Pages.length=0)∨(e.Kind=2∧e.Stamp.Source=0∧e.Value=0∧e.Marker=0∧(-1≤e.Part∧e.Part≤23)∧e.Pages.length=0))=decide (1≤e.Stamp.Source∧(0≤e.Part∧e.Part≤23)∧(-1≤e.Value∧e.Value≤40)∧e.Marker=0):=decide_eq_decide.2 (by omega); rw [this]; generalize decide (1≤e.Stamp.Source∧(0≤e.Part∧e.Part≤23)∧(-1≤e.Value∧e.Value≤40)∧e.Marker=0)=x; generalize decide (e.Pages.length≤12)=y; generalize (e.Pages.all fun n=>decide (0≤n∧n≤1152921504606846976))=z; cases x <;> cases y <;> cases z <;> rfl
 rw [if_neg k0]; by_cases hl:e.Pages.length=0
 · have hnil:e.Pages=[]:=zs8 hl; rw [hnil]; simp only [zqR,List.all_nil,zqW,and_true]; rw [show decide ((0:Nat)≤12)=true from rfl,zhn]
   repeat' split
   all_goals first
    | (rw [decide_eq_false (by omega)]; rfl)
    | (rw [decide_eq_true (by omega)]; rfl)
 · have:decide ((e.Kind=0∧1≤e.Stamp.Source∧(0≤e.Part∧e.Part≤23)∧(-1≤e.Value∧e.Value≤40)∧e.Marker=0) ∨
    (e.Kind=1∧e.Stamp.Source=0∧e.Script=0∧e.Part=0∧e.Value=0∧(1≤e.Marker∧e.Marker≤99)∧e.Pages.length=0)∨(e.Kind=2∧e.Stamp.Source=0∧e.Value=0∧e.Marker=0∧(-1≤e.Part∧e.Part≤23)∧e.Pages.length=0))=false:=decide_eq_false (by omega)
   rw [this,zt0,show ((e.Pages.length:Int) == 0)=false by simp; intro h; rw [h] at hl; exact hl rfl]
   repeat' split
   all_goals rfl
theorem c_Same (a b:zab) (hl:a.Pages.length≤1000000):cw zlY [.agg (zaa a),.agg (zaa b)] []=some (zas (decide (a=b))):=by
 refine zBz a b ?_; rw [c_Equal _ _ hl,zaw,zAg]; obtain ⟨⟨t,s,q⟩,k,sc,pa,v,m,pg⟩:=a; obtain ⟨⟨t',s',q'⟩,k',sc',pa',v',m',pg'⟩:=b; simp only [zfi,zcw,beq_iff_eq,and_true,zab.mk.injEq,zbe.mk.injEq]
 repeat' split
 all_goals first
  | (rw [decide_eq_false (by simp_all)]; rfl)
  | (rename_i h1 h2 h3 h4 h5 h6
     rw [show decide ((t=t'∧s=s'∧q=q')∧k=k'∧sc=sc'∧pa=pa'∧v=v'∧m=m'∧pg=pg')=decide (pg=pg') from decide_eq_decide.2 (by simp_all)]
     rfl)
theorem c_clone (e:zab) (hl:e.Pages.length≤1000000):cw zgT [.agg (zaa e)] []=some (zis e):=by refine zAq e ?_; rw [c_CloneI ci_ok _ hl,zkB,cPQ,zcG (by omega)]; rfl
theorem zCJ [Dr] (a b:zab):cw zdp [.agg (zaa a),.agg (zaa b)] []=some (zbw (cmpS a.Stamp b.Stamp)):=by refine zts a b ?_; rw [ztk,za3]; rfl
theorem znY {l:List zab} {m:zel} {i:Nat} {e:zab} (hm:∀ p∈m,0≤p.2.first∧p.2.first < (i:Int)):∀ p∈zeQ l m i e,0≤p.2.first∧p.2.first < ((i+1:Nat):Int):=by
 intro p hp; have up:p∈m→0≤p.2.first∧p.2.first < ((i+1:Nat):Int):=fun h=>by have:=hm p h; omega
 unfold zeQ at hp; split at hp
 · split at hp
   · rcases zlu hp with rfl | h
     · simp; omega
     · exact up h
   · rename_i g hg; have:=hm _ (zlt hg); rcases zlu hp with rfl | h
     · simp at this ⊢; omega
     · exact up h
 · exact up hp
theorem zEB (l:List zab) (hl:l.length≤1000000) (hp:∀ e∈l,e.Pages.length≤1000000):∀ (n i:Nat) (m:zel),i+n=l.length→(∀ p∈m,0≤p.2.first∧p.2.first < (i:Int))→zd0 l (List.map zbO m) i=some (zev (zdO l (l.drop i) i m,l)):=by
 intro n
 induction n with
 | zero=>intro i m hi hm; refine zpG _ _ _ ?_; rw [zaq,zaW (by omega),zmW (by omega)]; rfl
 | succ n ih =>
   intro i m hi hm; have hlt:i < l.length:=by omega
   have hpe:=hp _ (zbt hlt)
   have IH:∀ m':zel,zeQ l m i l[i]=m'→zd0 l (List.map zbO m') ((i+1:Nat):Int)=some (zev (zdO l (l.drop i) i m,l)):=by intro m' hm'; rw [zhX hlt]; unfold zdO; rw [hm']; refine ih (i+1) m' (by omega) ?_; rw [← hm']; exact znY hm
   refine zpG _ _ _ ?_; rw [zaC (by simp; omega),cPQ,zam (by simp; omega),zb9,zbf,zbW,zau hlt,zaS,c_Valid _ hpe,zaw,w6Q,show ((i:Int)+1)=((i+1:Nat):Int) by omega]; unfold zeQ at IH
   cases hv:eventB l[i] with
   | false=>rw [zdE,zaZ]; exact IH m (by rw [hv]; rfl)
   | true =>
     rw [zb6,zaB,zpn l[i] (y:=zit (l[i].Stamp.Source,l[i].Stamp.Seq)) rfl,zmy]; rw [show (AV.agg (zef.enc (l[i].Stamp.Source,l[i].Stamp.Seq)))=.agg (zbB (l[i].Stamp.Source,l[i].Stamp.Seq)) from rfl,zkW]; rw [hv] at IH; simp only [if_true] at IH
     cases hf:mfind (l[i].Stamp.Source,l[i].Stamp.Seq) m with
     | none=>rw [hf] at IH; simp only [zqX,zdE,zaZ,zt3]; rw [zdJ]; exact IH _ rfl
     | some g =>
       rw [hf] at IH; have hg:=hm _ (zlt hf); simp only at hg; have hgl:g.first.toNat < l.length:=by omega
       simp only [zk8,zb6,zaB,zeV]; rw [zam hg.1,zam (by simp; omega),zb9,zbW,zau hgl,zaS,c_Same _ _ (hp _ (zbt hgl)),zaw]; by_cases he:l[g.first.toNat]=l[i]
       · rw [decide_eq_true he,zb6,zaB,zdJ]; exact IH _ (by simp only [zau hgl,he,if_true])
       · rw [decide_eq_false he,zdE,zaZ,zdJ]; exact IH _ (by simp only [zau hgl,zaU,he,if_false])
theorem c_groups (l:List zab) (hl:l.length≤1000000) (hp:∀ e∈l,e.Pages.length≤1000000):cw zdG [.row 1000 9 0 (List.map zaa l).length] [(1000,⟨9,zah,List.map zaa l,false⟩)]=some (zev (zcj l,l)):=by refine zy8 l ?_; have:=zEB l hl hp l.length 0 [] (by omega) (by simp); rw [zta] at this; exact this
theorem zCV (l:List zab) (hl:l.length≤1000000) (hp:∀ e∈l,e.Pages.length≤1000000):∀ (n i:Nat) (m:zel),i+n=l.length→(∀ p∈m,0≤p.2.first∧p.2.first < (i:Int))→zdz l (List.map zbO m) i=some (zd1 (zdO l (l.drop i) i m)):=by
 intro n
 induction n with
 | zero=>intro i m hi hm; refine zoc _ _ _ ?_; rw [zaq,zaW (by omega),zmW (by omega)]; rfl
 | succ n ih =>
   intro i m hi hm; have hlt:i < l.length:=by omega
   have hpe:=hp _ (zbt hlt)
   have IH:∀ m':zel,zeQ l m i l[i]=m'→zdz l (List.map zbO m') ((i+1:Nat):Int)=some (zd1 (zdO l (l.drop i) i m)):=by intro m' hm'; rw [zhX hlt]; unfold zdO; rw [hm']; refine ih (i+1) m' (by omega) ?_; rw [← hm']; exact znY hm
   refine zoc _ _ _ ?_; rw [zaC (by simp; omega),cPQ,zbf,zbW,zau hlt,zaS,c_Valid _ hpe,zaw,w6Q,show ((i:Int)+1)=((i+1:Nat):Int) by omega]; unfold zeQ at IH
   cases hv:eventB l[i] with
   | false=>rw [zdE,zaZ]; exact IH m (by rw [hv]; rfl)
   | true =>
     rw [zb6,zaB,zpn l[i] (y:=zit (l[i].Stamp.Source,l[i].Stamp.Seq)) rfl,zmy]; rw [show (AV.agg (zef.enc (l[i].Stamp.Source,l[i].Stamp.Seq)))=.agg (zbB (l[i].Stamp.Source,l[i].Stamp.Seq)) from rfl,zkW]; rw [hv] at IH; simp only [if_true] at IH
     cases hf:mfind (l[i].Stamp.Source,l[i].Stamp.Seq) m with
     | none=>rw [hf] at IH; simp only [zqX,zdE,zaZ,zt3]; rw [zdJ]; exact IH _ rfl
     | some g =>
       rw [hf] at IH; have hg:=hm _ (zlt hf); simp only at hg; have hgl:g.first.toNat < l.length:=by omega
       simp only [zk8,zb6,zaB,zeV]; rw [zam hg.1,zbW,zau hgl,zaS,c_Same _ _ (hp _ (zbt hgl)),zaw]; by_cases he:l[g.first.toNat]=l[i]
       · rw [decide_eq_true he,zb6,zaB,zdJ]; exact IH _ (by simp only [zau hgl,he,if_true])
       · rw [decide_eq_false he,zdE,zaZ,zdJ]; exact IH _ (by simp only [zau hgl,zaU,he,if_false])
theorem c_groups_d (l:List zab) (hl:l.length≤1000000) (hp:∀ e∈l,e.Pages.length≤1000000):cw zdG [.sl 9 (List.map zaa l)] []=some (zd1 (zcj l)):=by refine zwp l ?_; have:=zCV l hl hp l.length 0 [] (by omega) (by simp); rw [zta] at this; exact this
theorem zrn {l:List zab}:∀ {r:List zab} {i:Nat} {m:zel},(∀ p∈m,0≤p.2.first∧p.2.first < (i:Int))→∀ p∈zdO l r i m,0≤p.2.first∧p.2.first < ((i+r.length:Nat):Int)
 | [],i,m,h,p,hp=>by simpa using h p hp
 | e :: r,i,m,h,p,hp=>by have:=zrn (znY h) p hp; simp only [zgc] at this ⊢; omega
theorem zDT (l:List zab):∀ p∈zcj l,0≤p.2.first∧p.2.first < (l.length:Int):=fun p hp=>by have:=zrn (l:=l) (r:=l) (i:=0) (m:=[]) (by simp) p hp; simpa using this
theorem zoZ {κ ν:Type} [DecidableEq κ] {k:κ} {v:ν}:∀ {l:List (κ×ν)},(mput k v l).length≤l.length+1
 | []=>by simp [mput]
 | p :: r=>by
   unfold mput; split
   · simp
   · have:=zoZ (k:=k) (v:=v) (l:=r); simp only [zgc]; omega
theorem zCU {l:List zab} {m:zel} {i:Nat} {e:zab}:(zeQ l m i e).length≤m.length+1:=by
 unfold zeQ; split
 · split
   · exact zoZ
   · exact zoZ
 · omega
theorem ztx {l:List zab}:∀ {r:List zab} {i:Nat} {m:zel},(zdO l r i m).length≤m.length+r.length
 | [],i,m=>by simp [zdO]
 | e :: r,i,m=>by have h1:=ztx (l:=l) (r:=r) (i:=i+1) (m:=zeQ l m i e); have h2:=zCU (l:=l) (m:=m) (i:=i) (e:=e); unfold zdO; simp only [zgc]; omega
theorem zAB (l:List zab):(zcj l).length≤l.length:=by have:=ztx (l:=l) (r:=l) (i:=0) (m:=[]); rw [zqR,zb9] at this; exact this
theorem zjA {κ ν:Type} [DecidableEq κ] {k:κ} {v:ν} {l:List (κ×ν)} (h:(l.map (·.1)).Nodup):((mput k v l).map (·.1)).Nodup∧∀ x,x∈(mput k v l).map (·.1)→x=k∨x∈l.map (·.1):=by
 induction l with
 | nil=>simp [mput]
 | cons p r ih =>
   obtain ⟨h1,h2⟩:=zqy.1 h; unfold mput; split
   · rename_i hk; refine ⟨by simpa [← hk] using h,fun x hx=>?_⟩; simp only [zdo,zbV] at hx ⊢; rcases hx with h | h
     · exact .inl h
     · exact .inr (.inr h)
   · rename_i hk; obtain ⟨i1,i2⟩:=ih h2; refine ⟨zqy.2 ⟨fun hm=>?_,i1⟩,fun x hx=>?_⟩
     · rcases i2 _ hm with h | h
       · exact hk h
       · exact h1 h
     · simp only [zdo,zbV] at hx ⊢; rcases hx with h | h
       · exact .inr (.inl h)
       · rcases i2 x h with h | h
         · exact .inl h
         · exact .inr (.inr h)
def Keyed (l:List zab) (m:zel):Prop:=(m.map (·.1)).Nodup∧∀ p∈m,∃ e,l[p.2.first.toNat]?=some e∧(e.Stamp.Source,e.Stamp.Seq)=p.1∧eventB e=true
theorem zAA {l:List zab} {m:zel} {i:Nat} {e:zab} (h:Keyed l m) (he:l[i]?=some e):Keyed l (zeQ l m i e):=by
 unfold zeQ; split
 · rename_i hv; split
   · refine ⟨(zjA h.1).1,fun p hp=>?_⟩; rcases zlu hp with rfl | hp
     · exact ⟨e,by simpa using he,rfl,hv⟩
     · exact h.2 p hp
   · rename_i g hg; refine ⟨(zjA h.1).1,fun p hp=>?_⟩; rcases zlu hp with rfl | hp
     · obtain ⟨e',h1,h2,h3⟩:=h.2 _ (zlt hg); exact ⟨e',h1,h2,h3⟩
     · exact h.2 p hp
 · exact h
theorem zro {l:List zab}:∀ {r:List zab} {i:Nat} {m:zel},Keyed l m→l.drop i=r→Keyed l (zdO l r i m)
 | [],i,m,h,_=>h
 | e :: r,i,m,h,hd=>by
   unfold zdO
   have he:l[i]?=some e:=by have:=congrArg (·[0]?) hd; simpa using this
   refine zro (zAA h he) ?_; have:=congrArg (List.drop 1) hd; simpa [List.drop_drop] using this
theorem zrp (l:List zab):Keyed l (zcj l):=zro ⟨by simp,by simp⟩ (by simp)
theorem zu8 {l:List zab} {m:zel} (h:Keyed l m):(m.filterMap (pickG l)).Pairwise (fun a b=>(a.Stamp.Source,a.Stamp.Seq)≠(b.Stamp.Source,b.Stamp.Seq))∧∀ e∈m.filterMap (pickG l),eventB e=true∧e∈l:=by
 constructor
 · rw [List.pairwise_filterMap]; have hn:=h.1; rw [List.Nodup,zoG] at hn; refine List.Pairwise.imp_of_mem ?_ hn; intro a b ha hb hab x hx y hy; obtain ⟨e,h1,h2,_⟩:=h.2 a ha; obtain ⟨f,h3,h4,_⟩:=h.2 b hb
   have e1:x=e:=by
    unfold pickG at hx; split at hx
    · cases hx
    · rw [h1] at hx; injection hx with hx; exact hx.symm
   have e2:y=f:=by
    unfold pickG at hy; split at hy
    · cases hy
    · rw [h3] at hy; injection hy with hy; exact hy.symm
   subst e1 e2; rw [h2,h4]; exact hab
 · intro x hx; obtain ⟨p,hp,hpx⟩:=zoE.1 hx; obtain ⟨e,h1,_,h3⟩:=h.2 p hp; unfold pickG at hpx; split at hpx
   · cases hpx
   · rw [h1] at hpx; injection hpx with hpx; subst hpx; exact ⟨h3,zb1 h1⟩
theorem keep_mem {l:List zab} {e:zab} (h:e∈keepS l):eventB e=true∧e∈l:=(zu8 (zrp l)).2 e h
theorem keep_ids (l:List zab):(keepS l).Pairwise (fun a b=>(a.Stamp.Source,a.Stamp.Seq)≠(b.Stamp.Source,b.Stamp.Seq)):=(zu8 (zrp l)).1
theorem zwJ {α:Type} {f:α→Int×Int} {l:List α} (h:l.Pairwise (fun a b=>f a≠f b)) {a b:α} (ha:a∈l) (hb:b∈l) (e:f a=f b):a=b:=by
 induction l with
 | nil=>cases ha
 | cons x r ih =>
   obtain ⟨h1,h2⟩:=zlb.1 h; rcases zbV.1 ha with ea | ha'
   · rcases zbV.1 hb with eb | hb'
     · rw [ea,eb]
     · rw [ea] at e; exact absurd e (h1 b hb')
   · rcases zbV.1 hb with eb | hb'
     · rw [eb] at e; exact absurd e.symm (h1 a ha')
     · exact ih h2 ha' hb'
theorem keep_inj {l:List zab} {a b:zab} (ha:a∈keepS l) (hb:b∈keepS l) (e:a.Stamp=b.Stamp):a=b:=zwJ (f:=fun x=>(x.Stamp.Source,x.Stamp.Seq)) (keep_ids l) ha hb (by simp only [e])
theorem zwh (l:List zab):(canonS l).Pairwise (fun a b=>lessS b.Stamp a.Stamp=false):=
 znZ (lt:=fun a b:zab=>lessS a.Stamp b.Stamp) (fun _ _ _ h1 h2=>zmD h1 h2) (fun _ _ h=>zmC h) _
theorem zgu (l:List zab):List.Perm (canonS l) (keepS l):=ze8 _
theorem canon_of {l r:List zab} (hp:List.Perm r (keepS l)) (hs:r.Pairwise (fun a b=>lessS b.Stamp a.Stamp=false)):r=canonS l:=
 zmQ (lt:=fun a b:zab=>lessS a.Stamp b.Stamp) (hp.trans (zgu l).symm) hs (zwh l) (fun _ ha _ hb h1 h2=>keep_inj (hp.mem_iff.1 ha) (hp.mem_iff.1 hb) (lessS_eq h1 h2))
theorem swoE:Go.Sort.SWO (fun a b:zab=>lessS a.Stamp b.Stamp) where
 irrefl:=fun x=>by rcases zx2 x.Stamp x.Stamp with h | h <;> exact h
 trans:=fun x y z h1 h2=>by
  cases h:lessS x.Stamp z.Stamp with
  | true=>rfl
  | false=>have h3:=zmD (zmC h2) h; rw [h1] at h3; cases h3
 ntrans:=fun x y z h1 h2=>zmD h2 h1
theorem cmpE [Dr] (x y:zab):∃ v:Int,cw zdp [.agg (zaa x),.agg (zaa y)] []=some (.v (.int .i64 v),[])∧decide (v < 0)=evLt x y:=⟨_,zCJ x y,cmpS_neg _ _⟩
theorem sortE_ok:CallOK zP (single zbZ zOrc):=
 zzp (C:=zC) (A:=zA) (ty:=zah) (nT:=zaa) (lt:=evLt) layE rfl (by kernel_rfl) aggE sizeE (by decide) (fun _=>rfl) (by kernel_rfl) swoE (@cmpE drOn) (fun args ms=>by unfold zOrc; simp (decide:=true) only [if_false,if_true])
theorem c_sortE (ev:List zab) (h:ev.length < 1000000):cw zbZ [.row 1000 9 0 (List.map zaa ev).length,.fn zdp []] [bL ev]=some (zcO (sortS evLt ev)):=by
 rw [zaq]; refine zft sortE_ok ?_; have hz:∀ args ms,zOrc zbZ args ms=oSort 9 zah zdp zaa evLt args ms:=fun args ms=>by unfold zOrc; simp (decide:=true) only [if_false,if_true]
 exact (hz _ _).trans (zwH (fun x y h=>zaV.inj h) h)
theorem cnLegs (b:Bool) {l:List zab} (h:FewEv l):CnLegs b l where
 len:=h.1
 glen:=by have:=zAB l; have:=h.1; omega
 few:=by have:=h.2.1; omega
 cGroups:=by
  cases b with
  | true=>exact c_groups l (by have:=h.1; omega) h.2.2
  | false=>exact c_groups_d l (by have:=h.1; omega) h.2.2
 first:=zDT l
 cSort:=fun ev hp=>by have h1:=c_sortE ev (by have:=hp.length_eq; have:=h.2.1; omega); rw [show sortS evLt ev=canonS l from canon_of ((zqm (lt:=evLt) swoE ev).trans hp) (zrB (lt:=evLt) swoE ev)] at h1; exact h1
 perm:=zgu l
 cClone:=fun e he=>c_clone e (h.2.2 e (keep_mem ((zgu l).mem_iff.1 he)).2)
set_option maxRecDepth 100000
theorem f0 (b:Bool) (s:zak) (l:List zab):tReg za9 zT 0 ⟨[(0,AV.agg [AV.sl 5 (List.map zbh s.Markers),AV.sl 7 (List.map za0 s.Scripts),AV.sl 3 (List.map zaT s.Papers),AV.sl 2 (List.map zbJ s.Schemes),AV.sl 2 (List.map zcd s.Seeds),I s.Monitor.Part,I s.Monitor.Total,I s.Monitor.Window,I s.Monitor.Fails]),(1,frA b 1001 l)],frM b 1001 l⟩=(some ⟨[(1,frA b 1001 l),(2,AV.loc 2 9 0 0),(4,AV.loc 4 2 0 0)],[(2,⟨9,zan,[zaj s],true⟩),(4,⟨2,zal,[[AV.v (.slice none 0 0),AV.v (.slice none 0 0)]],true⟩)]++frM b 1001 l⟩):=by cases b <;> kernel_rfl
theorem f1 (b:Bool) (s:zak) (l:List zab):tReg za9 zT 1 ⟨[(1,frA b 1001 l),(2,AV.loc 2 9 0 0),(4,AV.loc 4 2 0 0)],[(2,⟨9,zan,[zaj s],true⟩),(4,⟨2,zal,[[AV.v (.slice none 0 0),AV.v (.slice none 0 0)]],true⟩)]++frM b 1001 l⟩=(callD zaD (cw zgS [AV.agg (zaj s)] []) fun (r0:Int)=>some ⟨[(1,frA b 1001 l),(2,AV.loc 2 9 0 0),(4,AV.loc 4 2 0 0),(17,B (r0 != 0))],[(2,⟨9,zan,[zaj s],true⟩),(4,⟨2,zal,[[AV.v (.slice none 0 0),AV.v (.slice none 0 0)]],true⟩)]++frM b 1001 l⟩):=by cases b <;> kernel_rfl
theorem f4 (b:Bool) (s:zak) (l:List zab) (ev:List zab) (c:Int):tReg za9 zT 4 ⟨[(2,AV.loc 2 9 0 0),(4,AV.loc 4 2 0 0),(6,AV.sl 9 (List.map zaa ev)),(7,I c)],[(2,⟨9,zan,[zaj s],true⟩),(4,⟨2,zal,[[AV.v (.slice none 0 0),AV.v (.slice none 0 0)]],true⟩)]++frM b 1001 l⟩=(some ⟨[(2,AV.loc 2 9 0 0),(4,AV.loc 4 2 0 0),(6,AV.sl 9 (List.map zaa ev)),(7,I c),(25,B (c != 0))],[(2,⟨9,zan,[zaj s],true⟩),(4,⟨2,zal,[[AV.v (.slice none 0 0),AV.v (.slice none 0 0)]],true⟩)]++frM b 1001 l⟩):=by cases b <;> kernel_rfl
theorem f6 (b:Bool) (s:zak) (l:List zab) (ev:List zab):tReg za9 zT 6 ⟨[(2,AV.loc 2 9 0 0),(4,AV.loc 4 2 0 0),(6,AV.sl 9 (List.map zaa ev))],[(2,⟨9,zan,[zaj s],true⟩),(4,⟨2,zal,[[AV.v (.slice none 0 0),AV.v (.slice none 0 0)]],true⟩)]++frM b 1001 l⟩=(callD zl6 (cw zed [AV.agg (zaj s),AV.sl 9 (List.map zaa ev)] []) fun (r0:List (Option zat)×List (zaL×zbe))=>some ⟨[(4,AV.loc 4 2 0 0),(8,AV.fa 1 (List.map nDp r0.fst)),(9,AV.mp (List.map zax r0.snd))],[(4,⟨2,zal,[[AV.v (.slice none 0 0),AV.v (.slice none 0 0)]],true⟩)]++frM b 1001 l⟩):=by cases b <;> kernel_rfl
theorem f7 (b:Bool) (l:List zab) (ds:List (Option zat)) (R:List (zaL×zbe)):tReg za9 zT 7 ⟨[(4,AV.loc 4 2 0 0),(8,AV.fa 1 (List.map nDp ds)),(9,AV.mp (List.map zax R))],[(4,⟨2,zal,[[AV.v (.slice none 0 0),AV.v (.slice none 0 0)]],true⟩)]++frM b 1001 l⟩=(some ⟨[(4,AV.loc 4 2 0 0),(8,AV.fa 1 (List.map nDp ds)),(9,AV.mp (List.map zax R)),(10,AV.loc 10 2 0 0)],[(4,⟨2,zal,[[AV.v (.slice none 0 0),AV.v (.slice none 0 0)]],true⟩),(10,⟨2,zal,[[AV.row 301 8 0 0,AV.row 302 12 0 0]],true⟩),(301,⟨8,zbg,[],false⟩),(302,⟨12,zay,[],false⟩)]++frM b 1001 l⟩):=by cases b <;> kernel_rfl
theorem f8 (b:Bool) (l:List zab) (ds:List (Option zat)) (R:List (zaL×zbe)) (xs:List (List AV)) (ys:List (List AV)):tReg za9 zT 8 ⟨[(4,AV.loc 4 2 0 0),(8,AV.fa 1 (List.map nDp ds)),(9,AV.mp (List.map zax R)),(10,AV.loc 10 2 0 0)],[(4,⟨2,zal,[[AV.v (.slice none 0 0),AV.v (.slice none 0 0)]],true⟩),(10,⟨2,zal,[[AV.row 301 8 0 (List.length xs),AV.row 302 12 0 (List.length ys)]],true⟩),(301,⟨8,zbg,xs,false⟩),(302,⟨12,zay,ys,false⟩)]++frM b 1001 l⟩=(some ⟨[(4,AV.loc 4 2 0 0),(9,AV.mp (List.map zax R)),(10,AV.loc 10 2 0 0),(34,AV.fa 1 (List.map nDp ds)),(35,I 0)],[(4,⟨2,zal,[[AV.v (.slice none 0 0),AV.v (.slice none 0 0)]],true⟩),(10,⟨2,zal,[[AV.row 301 8 0 (List.length xs),AV.row 302 12 0 (List.length ys)]],true⟩),(301,⟨8,zbg,xs,false⟩),(302,⟨12,zay,ys,false⟩)]++frM b 1001 l⟩):=by cases b <;> kernel_rfl
theorem f9 (b:Bool) (l:List zab) (ds:List (Option zat)) (R:List (zaL×zbe)) (xs:List (List AV)) (ys:List (List AV)) (i:Int):tReg za9 zT 9 ⟨[(4,AV.loc 4 2 0 0),(9,AV.mp (List.map zax R)),(10,AV.loc 10 2 0 0),(34,AV.fa 1 (List.map nDp ds)),(35,I i)],[(4,⟨2,zal,[[AV.v (.slice none 0 0),AV.v (.slice none 0 0)]],true⟩),(10,⟨2,zal,[[AV.row 301 8 0 (List.length xs),AV.row 302 12 0 (List.length ys)]],true⟩),(301,⟨8,zbg,xs,false⟩),(302,⟨12,zay,ys,false⟩)]++frM b 1001 l⟩=(some ⟨[(4,AV.loc 4 2 0 0),(9,AV.mp (List.map zax R)),(10,AV.loc 10 2 0 0),(34,AV.fa 1 (List.map nDp ds)),(35,I i),(36,B (decide (i < 100)))],[(4,⟨2,zal,[[AV.v (.slice none 0 0),AV.v (.slice none 0 0)]],true⟩),(10,⟨2,zal,[[AV.row 301 8 0 (List.length xs),AV.row 302 12 0 (List.length ys)]],true⟩),(301,⟨8,zbg,xs,false⟩),(302,⟨12,zay,ys,false⟩)]++frM b 1001 l⟩):=by cases b <;> kernel_rfl
theorem f10 (b:Bool) (l:List zab) (ds:List (Option zat)) (R:List (zaL×zbe)) (xs:List (List AV)) (ys:List (List AV)) (i:Int):tReg za9 zT 10 ⟨[(4,AV.loc 4 2 0 0),(9,AV.mp (List.map zax R)),(10,AV.loc 10 2 0 0),(34,AV.fa 1 (List.map nDp ds)),(35,I i)],[(4,⟨2,zal,[[AV.v (.slice none 0 0),AV.v (.slice none 0 0)]],true⟩),(10,⟨2,zal,[[AV.row 301 8 0 (List.length xs),AV.row 302 12 0 (List.length ys)]],true⟩),(301,⟨8,zbg,xs,false⟩),(302,⟨12,zay,ys,false⟩)]++frM b 1001 l⟩=(chk ((0:Int)≤i)<|
 chk ((i:Int) < (↑100:Int))<|
 elemP zh0 (List.map nDp ds) i.toNat (some ⟨[(4,AV.loc 4 2 0 0),(9,AV.mp (List.map zax R)),(10,AV.loc 10 2 0 0),(11,I i),(12,AV.v (.pointer none)),(34,AV.fa 1 (List.map nDp ds)),(35,I i)],[(4,⟨2,zal,[[AV.v (.slice none 0 0),AV.v (.slice none 0 0)]],true⟩),(10,⟨2,zal,[[AV.row 301 8 0 (List.length xs),AV.row 302 12 0 (List.length ys)]],true⟩),(301,⟨8,zbg,xs,false⟩),(302,⟨12,zay,ys,false⟩)]++frM b 1001 l⟩)
 (fun (p0:Addr)=>some ⟨[(4,AV.loc 4 2 0 0),(9,AV.mp (List.map zax R)),(10,AV.loc 10 2 0 0),(11,I i),(12,AV.v (.pointer (some p0))),(34,AV.fa 1 (List.map nDp ds)),(35,I i)],[(4,⟨2,zal,[[AV.v (.slice none 0 0),AV.v (.slice none 0 0)]],true⟩),(10,⟨2,zal,[[AV.row 301 8 0 (List.length xs),AV.row 302 12 0 (List.length ys)]],true⟩),(301,⟨8,zbg,xs,false⟩),(302,⟨12,zay,ys,false⟩)]++frM b 1001 l⟩)
 fun (c1:zat) =>
 some ⟨[(4,AV.loc 4 2 0 0),(9,AV.mp (List.map zax R)),(10,AV.loc 10 2 0 0),(11,I i),(12,AV.fp [I c1.level,AV.sl 10 (List.map zar c1.marks),I c1.period,I c1.started.Time,I c1.started.Source,I c1.started.Seq,AV.mp (List.map zaz c1.noted),AV.sl 1 (List.map nBool c1.watch.Last),B c1.watch.Suspended,I c1.good.Time,I c1.good.Source,I c1.good.Seq,B c1.some,AV.sl 12 (List.map zao c1.suspensions)]),(34,AV.fa 1 (List.map nDp ds)),(35,I i)],[(4,⟨2,zal,[[AV.v (.slice none 0 0),AV.v (.slice none 0 0)]],true⟩),(10,⟨2,zal,[[AV.row 301 8 0 (List.length xs),AV.row 302 12 0 (List.length ys)]],true⟩),(301,⟨8,zbg,xs,false⟩),(302,⟨12,zay,ys,false⟩)]++frM b 1001 l⟩):=by cases b <;> kernel_rfl
theorem f11n (b:Bool) (l:List zab) (ds:List (Option zat)) (R:List (zaL×zbe)) (xs:List (List AV)) (ys:List (List AV)) (i:Int):tReg za9 zT 11 ⟨[(4,AV.loc 4 2 0 0),(9,AV.mp (List.map zax R)),(10,AV.loc 10 2 0 0),(11,I i),(12,AV.v (.pointer none)),(34,AV.fa 1 (List.map nDp ds)),(35,I i)],[(4,⟨2,zal,[[AV.v (.slice none 0 0),AV.v (.slice none 0 0)]],true⟩),(10,⟨2,zal,[[AV.row 301 8 0 (List.length xs),AV.row 302 12 0 (List.length ys)]],true⟩),(301,⟨8,zbg,xs,false⟩),(302,⟨12,zay,ys,false⟩)]++frM b 1001 l⟩=(some ⟨[(4,AV.loc 4 2 0 0),(9,AV.mp (List.map zax R)),(10,AV.loc 10 2 0 0),(11,I i),(12,AV.v (.pointer none)),(34,AV.fa 1 (List.map nDp ds)),(35,I i),(42,B true)],[(4,⟨2,zal,[[AV.v (.slice none 0 0),AV.v (.slice none 0 0)]],true⟩),(10,⟨2,zal,[[AV.row 301 8 0 (List.length xs),AV.row 302 12 0 (List.length ys)]],true⟩),(301,⟨8,zbg,xs,false⟩),(302,⟨12,zay,ys,false⟩)]++frM b 1001 l⟩):=by cases b <;> kernel_rfl
theorem f11d (b:Bool) (l:List zab) (ds:List (Option zat)) (R:List (zaL×zbe)) (xs:List (List AV)) (ys:List (List AV)) (i:Int) (d:zat):tReg za9 zT 11 ⟨[(4,AV.loc 4 2 0 0),(9,AV.mp (List.map zax R)),(10,AV.loc 10 2 0 0),(11,I i),(12,AV.fp [I d.level,AV.sl 10 (List.map zar d.marks),I d.period,I d.started.Time,I d.started.Source,I d.started.Seq,AV.mp (List.map zaz d.noted),AV.sl 1 (List.map nBool d.watch.Last),B d.watch.Suspended,I d.good.Time,I d.good.Source,I d.good.Seq,B d.some,AV.sl 12 (List.map zao d.suspensions)]),(34,AV.fa 1 (List.map nDp ds)),(35,I i)],[(4,⟨2,zal,[[AV.v (.slice none 0 0),AV.v (.slice none 0 0)]],true⟩),(10,⟨2,zal,[[AV.row 301 8 0 (List.length xs),AV.row 302 12 0 (List.length ys)]],true⟩),(301,⟨8,zbg,xs,false⟩),(302,⟨12,zay,ys,false⟩)]++frM b 1001 l⟩=(some ⟨[(4,AV.loc 4 2 0 0),(9,AV.mp (List.map zax R)),(10,AV.loc 10 2 0 0),(11,I i),(12,AV.fp [I d.level,AV.sl 10 (List.map zar d.marks),I d.period,I d.started.Time,I d.started.Source,I d.started.Seq,AV.mp (List.map zaz d.noted),AV.sl 1 (List.map nBool d.watch.Last),B d.watch.Suspended,I d.good.Time,I d.good.Source,I d.good.Seq,B d.some,AV.sl 12 (List.map zao d.suspensions)]),(34,AV.fa 1 (List.map nDp ds)),(35,I i),(42,B false)],[(4,⟨2,zal,[[AV.v (.slice none 0 0),AV.v (.slice none 0 0)]],true⟩),(10,⟨2,zal,[[AV.row 301 8 0 (List.length xs),AV.row 302 12 0 (List.length ys)]],true⟩),(301,⟨8,zbg,xs,false⟩),(302,⟨12,zay,ys,false⟩)]++frM b 1001 l⟩):=by cases b <;> kernel_rfl
theorem f12 (b:Bool) (l:List zab) (ds:List (Option zat)) (R:List (zaL×zbe)) (xs:List (List AV)) (ys:List (List AV)) (i:Int) (d:zat):tReg za9 zT 12 ⟨[(4,AV.loc 4 2 0 0),(9,AV.mp (List.map zax R)),(10,AV.loc 10 2 0 0),(11,I i),(12,AV.fp [I d.level,AV.sl 10 (List.map zar d.marks),I d.period,I d.started.Time,I d.started.Source,I d.started.Seq,AV.mp (List.map zaz d.noted),AV.sl 1 (List.map nBool d.watch.Last),B d.watch.Suspended,I d.good.Time,I d.good.Source,I d.good.Seq,B d.some,AV.sl 12 (List.map zao d.suspensions)]),(34,AV.fa 1 (List.map nDp ds)),(35,I i)],[(4,⟨2,zal,[[AV.v (.slice none 0 0),AV.v (.slice none 0 0)]],true⟩),(10,⟨2,zal,[[AV.row 301 8 0 (List.length xs),AV.row 302 12 0 (List.length ys)]],true⟩),(301,⟨8,zbg,xs,false⟩),(302,⟨12,zay,ys,false⟩)]++frM b 1001 l⟩=(chk (ys.length=ys.length)<|
 chk ((ys.length+(List.map zao d.suspensions).length)*(88+1)≤1099511627776)<|
 some ⟨[(4,AV.loc 4 2 0 0),(9,AV.mp (List.map zax R)),(10,AV.loc 10 2 0 0),(11,I i),(12,AV.fp [I d.level,AV.sl 10 (List.map zar d.marks),I d.period,I d.started.Time,I d.started.Source,I d.started.Seq,AV.mp (List.map zaz d.noted),AV.sl 1 (List.map nBool d.watch.Last),B d.watch.Suspended,I d.good.Time,I d.good.Source,I d.good.Seq,B d.some,AV.sl 12 (List.map zao d.suspensions)]),(34,AV.fa 1 (List.map nDp ds)),(35,I i)],[(4,⟨2,zal,[[AV.v (.slice none 0 0),AV.v (.slice none 0 0)]],true⟩),(10,⟨2,zal,[[AV.row 301 8 0 (List.length xs),AV.row 302 12 0 (List.length (ys++(List.map zao d.suspensions)))]],true⟩),(301,⟨8,zbg,xs,false⟩),(302,⟨12,zay,ys++(List.map zao d.suspensions),false⟩)]++frM b 1001 l⟩):=by cases b <;> kernel_rfl
theorem f13 (b:Bool) (l:List zab) (ds:List (Option zat)) (R:List (zaL×zbe)) (xs:List (List AV)) (ys:List (List AV)) (i:Int) (d:zat):tSeg za9 zT 13 0 3 ⟨[(4,AV.loc 4 2 0 0),(9,AV.mp (List.map zax R)),(10,AV.loc 10 2 0 0),(11,I i),(12,AV.fp [I d.level,AV.sl 10 (List.map zar d.marks),I d.period,I d.started.Time,I d.started.Source,I d.started.Seq,AV.mp (List.map zaz d.noted),AV.sl 1 (List.map nBool d.watch.Last),B d.watch.Suspended,I d.good.Time,I d.good.Source,I d.good.Seq,B d.some,AV.sl 12 (List.map zao d.suspensions)]),(34,AV.fa 1 (List.map nDp ds)),(35,I i)],[(4,⟨2,zal,[[AV.v (.slice none 0 0),AV.v (.slice none 0 0)]],true⟩),(10,⟨2,zal,[[AV.row 301 8 0 (List.length xs),AV.row 302 12 0 (List.length ys)]],true⟩),(301,⟨8,zbg,xs,false⟩),(302,⟨12,zay,ys,false⟩)]++frM b 1001 l⟩=(callD zfZ (cw zeJ [AV.fp [I d.level,AV.sl 10 (List.map zar d.marks),I d.period,I d.started.Time,I d.started.Source,I d.started.Seq,AV.mp (List.map zaz d.noted),AV.sl 1 (List.map nBool d.watch.Last),B d.watch.Suspended,I d.good.Time,I d.good.Source,I d.good.Seq,B d.some,AV.sl 12 (List.map zao d.suspensions)],AV.mp (List.map zax R)] []) fun (r0:(List (zaL×zab)))=>some ⟨[(53,AV.map 53),(52,AV.mp (List.map zax R)),(51,AV.fp [I d.level,AV.sl 10 (List.map zar d.marks),I d.period,I d.started.Time,I d.started.Source,I d.started.Seq,AV.mp (List.map zaz d.noted),AV.sl 1 (List.map nBool d.watch.Last),B d.watch.Suspended,I d.good.Time,I d.good.Source,I d.good.Seq,B d.some,AV.sl 12 (List.map zao d.suspensions)]),(4,AV.loc 4 2 0 0),(9,AV.mp (List.map zax R)),(10,AV.loc 10 2 0 0),(11,I i),(12,AV.fp [I d.level,AV.sl 10 (List.map zar d.marks),I d.period,I d.started.Time,I d.started.Source,I d.started.Seq,AV.mp (List.map zaz d.noted),AV.sl 1 (List.map nBool d.watch.Last),B d.watch.Suspended,I d.good.Time,I d.good.Source,I d.good.Seq,B d.some,AV.sl 12 (List.map zao d.suspensions)]),(34,AV.fa 1 (List.map nDp ds)),(35,I i)],[(53,⟨0,zcq,List.map zcy r0,false⟩),(4,⟨2,zal,[[AV.v (.slice none 0 0),AV.v (.slice none 0 0)]],true⟩),(10,⟨2,zal,[[AV.row 301 8 0 (List.length xs),AV.row 302 12 0 (List.length ys)]],true⟩),(301,⟨8,zbg,xs,false⟩),(302,⟨12,zay,ys,false⟩)]++frM b 1001 l⟩):=by cases b <;> kernel_rfl
theorem f15 (b:Bool) (l:List zab) (ds:List (Option zat)) (R:List (zaL×zbe)) (xs:List (List AV)) (ys:List (List AV)) (i:Int) (d:zat) (p:Addr) (k:zaL) (e:zab):tSeg za9 zT 15 1 3 ⟨[(4,AV.loc 4 2 0 0),(9,AV.mp (List.map zax R)),(10,AV.loc 10 2 0 0),(11,I i),(12,AV.fp [I d.level,AV.sl 10 (List.map zar d.marks),I d.period,I d.started.Time,I d.started.Source,I d.started.Seq,AV.mp (List.map zaz d.noted),AV.sl 1 (List.map nBool d.watch.Last),B d.watch.Suspended,I d.good.Time,I d.good.Source,I d.good.Seq,B d.some,AV.sl 12 (List.map zao d.suspensions)]),(34,AV.fa 1 (List.map nDp ds)),(35,I i),(54,AV.v (.pointer (some p))),(57,AV.tup [AV.agg [I k.script,I k.part],AV.agg [I e.Stamp.Time,I e.Stamp.Source,I e.Stamp.Seq,I e.Kind,I e.Script,I e.Part,I e.Value,I e.Marker,AV.sl 1 (List.map zaf e.Pages)]])],[(4,⟨2,zal,[[AV.v (.slice none 0 0),AV.v (.slice none 0 0)]],true⟩),(10,⟨2,zal,[[AV.row 301 8 0 (List.length xs),AV.row 302 12 0 (List.length ys)]],true⟩),(301,⟨8,zbg,xs,false⟩),(302,⟨12,zay,ys,false⟩)]++frM b 1001 l⟩=(some ⟨[(14,AV.loc 14 9 0 0),(58,AV.agg [I e.Stamp.Time,I e.Stamp.Source,I e.Stamp.Seq,I e.Kind,I e.Script,I e.Part,I e.Value,I e.Marker,AV.sl 1 (List.map zaf e.Pages)]),(4,AV.loc 4 2 0 0),(9,AV.mp (List.map zax R)),(10,AV.loc 10 2 0 0),(11,I i),(12,AV.fp [I d.level,AV.sl 10 (List.map zar d.marks),I d.period,I d.started.Time,I d.started.Source,I d.started.Seq,AV.mp (List.map zaz d.noted),AV.sl 1 (List.map nBool d.watch.Last),B d.watch.Suspended,I d.good.Time,I d.good.Source,I d.good.Seq,B d.some,AV.sl 12 (List.map zao d.suspensions)]),(34,AV.fa 1 (List.map nDp ds)),(35,I i),(54,AV.v (.pointer (some p))),(57,AV.tup [AV.agg [I k.script,I k.part],AV.agg [I e.Stamp.Time,I e.Stamp.Source,I e.Stamp.Seq,I e.Kind,I e.Script,I e.Part,I e.Value,I e.Marker,AV.sl 1 (List.map zaf e.Pages)]])],[(14,⟨9,zah,[zaa e],true⟩),(4,⟨2,zal,[[AV.v (.slice none 0 0),AV.v (.slice none 0 0)]],true⟩),(10,⟨2,zal,[[AV.row 301 8 0 (List.length xs),AV.row 302 12 0 (List.length ys)]],true⟩),(301,⟨8,zbg,xs,false⟩),(302,⟨12,zay,ys,false⟩)]++frM b 1001 l⟩):=by cases b <;> kernel_rfl
theorem f16 (b:Bool) (l:List zab) (ds:List (Option zat)) (R:List (zaL×zbe)) (xs:List (List AV)) (ys:List (List AV)) (i:Int) (d:zat) (p:Addr) (e:zab):tReg za9 zT 16 ⟨[(4,AV.loc 4 2 0 0),(9,AV.mp (List.map zax R)),(10,AV.loc 10 2 0 0),(11,I i),(12,AV.fp [I d.level,AV.sl 10 (List.map zar d.marks),I d.period,I d.started.Time,I d.started.Source,I d.started.Seq,AV.mp (List.map zaz d.noted),AV.sl 1 (List.map nBool d.watch.Last),B d.watch.Suspended,I d.good.Time,I d.good.Source,I d.good.Seq,B d.some,AV.sl 12 (List.map zao d.suspensions)]),(14,AV.loc 14 9 0 0),(34,AV.fa 1 (List.map nDp ds)),(35,I i),(54,AV.v (.pointer (some p)))],[(4,⟨2,zal,[[AV.v (.slice none 0 0),AV.v (.slice none 0 0)]],true⟩),(10,⟨2,zal,[[AV.row 301 8 0 (List.length xs),AV.row 302 12 0 (List.length ys)]],true⟩),(14,⟨9,zah,[zaa e],true⟩),(301,⟨8,zbg,xs,false⟩),(302,⟨12,zay,ys,false⟩)]++frM b 1001 l⟩=(chk (xs.length=xs.length)<|
 chk ((xs.length+1)*(64+1)≤1099511627776)<|
 some ⟨[(4,AV.loc 4 2 0 0),(9,AV.mp (List.map zax R)),(10,AV.loc 10 2 0 0),(11,I i),(12,AV.fp [I d.level,AV.sl 10 (List.map zar d.marks),I d.period,I d.started.Time,I d.started.Source,I d.started.Seq,AV.mp (List.map zaz d.noted),AV.sl 1 (List.map nBool d.watch.Last),B d.watch.Suspended,I d.good.Time,I d.good.Source,I d.good.Seq,B d.some,AV.sl 12 (List.map zao d.suspensions)]),(34,AV.fa 1 (List.map nDp ds)),(35,I i),(54,AV.v (.pointer (some p)))],[(4,⟨2,zal,[[AV.v (.slice none 0 0),AV.v (.slice none 0 0)]],true⟩),(10,⟨2,zal,[[AV.row 301 8 0 (List.length (xs++([[I e.Script,I e.Part,I i,I d.level,I e.Value,I e.Stamp.Time,I e.Stamp.Source,I e.Stamp.Seq]]))),AV.row 302 12 0 (List.length ys)]],true⟩),(301,⟨8,zbg,xs++([za7 (⟨e.Script,e.Part,i,d.level,e.Value,⟨e.Stamp.Time,e.Stamp.Source,e.Stamp.Seq⟩⟩)]),false⟩),(302,⟨12,zay,ys,false⟩)]++frM b 1001 l⟩):=by cases b <;> kernel_rfl
theorem f17 (b:Bool) (l:List zab) (ds:List (Option zat)) (R:List (zaL×zbe)) (xs:List (List AV)) (ys:List (List AV)) (i:Int):tReg za9 zT 17 ⟨[(4,AV.loc 4 2 0 0),(9,AV.mp (List.map zax R)),(10,AV.loc 10 2 0 0),(34,AV.fa 1 (List.map nDp ds)),(35,I i)],[(4,⟨2,zal,[[AV.v (.slice none 0 0),AV.v (.slice none 0 0)]],true⟩),(10,⟨2,zal,[[AV.row 301 8 0 (List.length xs),AV.row 302 12 0 (List.length ys)]],true⟩),(301,⟨8,zbg,xs,false⟩),(302,⟨12,zay,ys,false⟩)]++frM b 1001 l⟩=(some ⟨[(4,AV.loc 4 2 0 0),(9,AV.mp (List.map zax R)),(10,AV.loc 10 2 0 0),(34,AV.fa 1 (List.map nDp ds)),(35,I (w64 (i+1)))],[(4,⟨2,zal,[[AV.v (.slice none 0 0),AV.v (.slice none 0 0)]],true⟩),(10,⟨2,zal,[[AV.row 301 8 0 (List.length xs),AV.row 302 12 0 (List.length ys)]],true⟩),(301,⟨8,zbg,xs,false⟩),(302,⟨12,zay,ys,false⟩)]++frM b 1001 l⟩):=by cases b <;> kernel_rfl
theorem f18 (b:Bool) (l:List zab) (gs:List zbb) (ys:List (List AV)):tReg za9 zT 18 ⟨[(4,AV.loc 4 2 0 0),(10,AV.loc 10 2 0 0)],[(4,⟨2,zal,[[AV.v (.slice none 0 0),AV.v (.slice none 0 0)]],true⟩),(10,⟨2,zal,[[AV.row 301 8 0 (List.length (List.map za7 gs)),AV.row 302 12 0 (List.length ys)]],true⟩),(301,⟨8,zbg,List.map za7 gs,false⟩),(302,⟨12,zay,ys,false⟩)]++frM b 1001 l⟩=(callD zdt (cw zcu [AV.row 1000 8 0 (List.length (List.map za7 gs)),AV.fn zda []] [(1000,⟨8,zbg,List.map za7 gs,false⟩)]) fun (r0:(List zbb))=>some ⟨[(4,AV.loc 4 2 0 0),(10,AV.loc 10 2 0 0)],[(4,⟨2,zal,[[AV.v (.slice none 0 0),AV.v (.slice none 0 0)]],true⟩),(10,⟨2,zal,[[AV.row 301 8 0 ((List.map za7 gs).length),AV.row 302 12 0 (List.length ys)]],true⟩),(301,⟨8,zbg,List.map za7 r0,false⟩),(302,⟨12,zay,ys,false⟩)]++frM b 1001 l⟩):=by cases b <;> kernel_rfl
theorem f19 (b:Bool) (l:List zab) (xs:List (List AV)) (ys:List (List AV)):tReg za9 zT 19 ⟨[(4,AV.loc 4 2 0 0),(10,AV.loc 10 2 0 0)],[(4,⟨2,zal,[[AV.v (.slice none 0 0),AV.v (.slice none 0 0)]],true⟩),(10,⟨2,zal,[[AV.row 301 8 0 (List.length xs),AV.row 302 12 0 (List.length ys)]],true⟩),(301,⟨8,zbg,xs,false⟩),(302,⟨12,zay,ys,false⟩)]++frM b 1001 l⟩=(some ⟨[(4,AV.loc 4 2 0 0),(5,I 0)],[(4,⟨2,zal,[[AV.row 301 8 0 (List.length xs),AV.row 302 12 0 (List.length ys)]],true⟩),(301,⟨8,zbg,xs,false⟩),(302,⟨12,zay,ys,false⟩)]++frM b 1001 l⟩):=by cases b <;> kernel_rfl
theorem f3 (s:zak) (l:List zab):tReg za9 zT 3 ⟨[(1,AV.row 1001 9 0 (List.length (List.map zaa l))),(2,AV.loc 2 9 0 0),(4,AV.loc 4 2 0 0)],[(2,⟨9,zan,[zaj s],true⟩),(4,⟨2,zal,[[AV.v (.slice none 0 0),AV.v (.slice none 0 0)]],true⟩),(1001,⟨9,zah,List.map zaa l,false⟩)]⟩=(callD zhT (cw zbG [AV.row 1000 9 0 (List.length (List.map zaa l))] [(1000,⟨9,zah,List.map zaa l,false⟩)]) fun (r0:((List zab)×Int)×(List zab))=>some ⟨[(2,AV.loc 2 9 0 0),(4,AV.loc 4 2 0 0),(6,AV.sl 9 (List.map zaa r0.fst.fst)),(7,I r0.fst.snd)],[(2,⟨9,zan,[zaj s],true⟩),(4,⟨2,zal,[[AV.v (.slice none 0 0),AV.v (.slice none 0 0)]],true⟩),(1001,⟨9,zah,List.map zaa r0.snd,false⟩)]⟩):=by kernel_rfl
theorem f3f (s:zak) (l:List zab):tReg za9 zT 3 ⟨[(1,AV.sl 9 (List.map zaa l)),(2,AV.loc 2 9 0 0),(4,AV.loc 4 2 0 0)],[(2,⟨9,zan,[zaj s],true⟩),(4,⟨2,zal,[[AV.v (.slice none 0 0),AV.v (.slice none 0 0)]],true⟩)]⟩=(callD zdq (cw zbG [AV.sl 9 (List.map zaa l)] []) fun (r0:(List zab)×Int)=>some ⟨[(2,AV.loc 2 9 0 0),(4,AV.loc 4 2 0 0),(6,AV.sl 9 (List.map zaa r0.fst)),(7,I r0.snd)],[(2,⟨9,zan,[zaj s],true⟩),(4,⟨2,zal,[[AV.v (.slice none 0 0),AV.v (.slice none 0 0)]],true⟩)]⟩):=by kernel_rfl
set_option maxRecDepth 100000
def foC:Code:=(za9.fn.body).getD .skip
def foO (j:Nat):Array Oper:=opsAt j foC
def foD (j:Nat):Bool:=zoN j foC
theorem fo_hb:za9.fn.body=some foC:=by kernel_rfl
theorem fo_shape:foC=(.seq (.region 0 (foO 0) (foD 0)) (.seq (.seq (.region 1 (foO 1) (foD 1)) (.cond (.tmp 17) (.seq (.region 2 (foO 2) (foD 2)) .ret) .skip)) (.seq (.region 3 (foO 3) (foD 3)) (.seq (.seq (.region 4 (foO 4) (foD 4)) (.cond (.tmp 25) (.seq (.region 5 (foO 5) (foD 5)) .ret) .skip)) (.seq (.region 6 (foO 6) (foD 6)) (.seq (.region 7 (foO 7) (foD 7)) (.seq (.seq (.region 8 (foO 8) (foD 8)) (.block 0 (.loop (.seq (.region 9 (foO 9) (foD 9)) (.seq (.cond (.tmp 36) .skip (.exit 0)) (.seq (.block 1 (.seq (.region 10 (foO 10) (foD 10)) (.seq (.seq (.region 11 (foO 11) (foD 11)) (.cond (.tmp 42) (.exit 1) .skip)) (.seq (.region 12 (foO 12) (foD 12)) (.seq (.region 13 (foO 13) false) (.block 2 (.loop (.seq (.region 14 (foO 14) false) (.seq (.cond (.tmp 56) .skip (.exit 2)) (.block 3 (.seq (.region 15 (foO 15) false) (.region 16 (foO 16) (foD 16))))))))))))) (.region 17 (foO 17) (foD 17)))))))) (.seq (.region 18 (foO 18) (foD 18)) (.seq (.region 19 (foO 19) (foD 19)) .ret))))))))):=by kernel_rfl
theorem fo_r0:regOf 0 foC=some (.region 0 (foO 0) (foD 0)):=by kernel_rfl
theorem fo_r1:regOf 1 foC=some (.region 1 (foO 1) (foD 1)):=by kernel_rfl
theorem fo_r3:regOf 3 foC=some (.region 3 (foO 3) (foD 3)):=by kernel_rfl
theorem fo_r4:regOf 4 foC=some (.region 4 (foO 4) (foD 4)):=by kernel_rfl
theorem fo_r6:regOf 6 foC=some (.region 6 (foO 6) (foD 6)):=by kernel_rfl
theorem fo_r7:regOf 7 foC=some (.region 7 (foO 7) (foD 7)):=by kernel_rfl
theorem fo_r8:regOf 8 foC=some (.region 8 (foO 8) (foD 8)):=by kernel_rfl
theorem fo_r9:regOf 9 foC=some (.region 9 (foO 9) (foD 9)):=by kernel_rfl
theorem fo_r10:regOf 10 foC=some (.region 10 (foO 10) (foD 10)):=by kernel_rfl
theorem fo_r11:regOf 11 foC=some (.region 11 (foO 11) (foD 11)):=by kernel_rfl
theorem fo_r12:regOf 12 foC=some (.region 12 (foO 12) (foD 12)):=by kernel_rfl
theorem fo_r16:regOf 16 foC=some (.region 16 (foO 16) (foD 16)):=by kernel_rfl
theorem fo_r17:regOf 17 foC=some (.region 17 (foO 17) (foD 17)):=by kernel_rfl
theorem fo_r18:regOf 18 foC=some (.region 18 (foO 18) (foD 18)):=by kernel_rfl
theorem fo_r19:regOf 19 foC=some (.region 19 (foO 19) (foD 19)):=by kernel_rfl
theorem fo_r13:regOf 13 foC=some (.region 13 (foO 13) false):=by kernel_rfl
theorem fo_r15:regOf 15 foC=some (.region 15 (foO 15) false):=by kernel_rfl
theorem fo_n:za9.fn.ntmps≤1000:=by decide
def zcR (ds:Desks) (R:Reop) (n:Nat):List zbb:=(List.range n).flatMap fun (i:Nat)=>match ds i with
 | some d=>(countS d R).map fun p=>zcJ i d p.2
 | none=>[]
def suspTo (ds:Desks) (n:Nat):List zbQ:=(List.range n).flatMap fun (i:Nat)=>match ds i with
 | some d=>d.suspensions
 | none=>[]
theorem znX (ds:Desks) (R:Reop) (n:Nat):zcR ds R (n+1)=zcR ds R n++(match ds n with
 | some d=>(countS d R).map fun p=>zcJ n d p.2
 | none=>[]):=by
 unfold zcR; rw [zqZ,List.flatMap_append]; simp
theorem zmH (ds:Desks) (n:Nat):suspTo ds (n+1)=suspTo ds n++(match ds n with
 | some d=>d.suspensions
 | none=>[]):=by
 unfold suspTo; rw [zqZ,List.flatMap_append]; simp
theorem deskL_get (ds:Desks) {i:Nat} (hi:i < 100):(List.map nDp (deskL ds))[i]?=some (nDp (ds i)):=by unfold deskL; rw [zcQ,zcQ,zou hi]; rfl
def gotOf (i:Nat) (d:zat) (cs:Counts) (done:List Nat):List zbb:=done.filterMap fun j=>cs[j]?.map fun p=>zcJ i d p.2
noncomputable section
abbrev fA (b:Bool) (l:List zab):Nat×AV:=(1,frA b 1001 l)
abbrev fB2 (s:zak):Nat×Ent:=(2,⟨9,zan,[zaj s],true⟩)
abbrev fB4:Nat×Ent:=(4,⟨2,zal,[[.v (.slice none 0 0),.v (.slice none 0 0)]],true⟩)
abbrev fS2:Nat×AV:=(2,.loc 2 9 0 0)
abbrev fS4:Nat×AV:=(4,.loc 4 2 0 0)
abbrev fS10:Nat×AV:=(10,.loc 10 2 0 0)
abbrev fS9 (R:Reop):Nat×AV:=(9,.mp (List.map zax R))
abbrev fS34 (ds:Desks):Nat×AV:=(34,.fa 1 (List.map nDp (deskL ds)))
abbrev fS35 (i:Nat):Nat×AV:=(35,I (i:Int))
abbrev fS11 (i:Nat):Nat×AV:=(11,I (i:Int))
abbrev fS12 (d:zat):Nat×AV:=(12,.fp (zd9 d))
abbrev fS54 (r:Nat):Nat×AV:=(54,.v (.pointer (some ⟨r,0,none⟩)))
abbrev fM (b:Bool) (gs:List zbb) (us:List zbQ) (l:List zab):Mem:=[fB4,(10,⟨2,zal,[[.row 301 8 0 (List.map za7 gs).length,.row 302 12 0 (List.map zao us).length]],true⟩),(301,⟨8,zbg,List.map za7 gs,false⟩),(302,⟨12,zay,List.map zao us,false⟩)]++frM b 1001 l
abbrev stF (b:Bool) (l:List zab) (ds:Desks) (R:Reop) (gs:List zbb) (us:List zbQ) (i:Nat):St:=⟨[fS4,fS9 R,fS10,fS34 ds,fS35 i],fM b gs us l⟩
abbrev stG (b:Bool) (l:List zab) (ds:Desks) (R:Reop) (gs:List zbb) (us:List zbQ) (i:Nat) (d:zat) (r:Nat):St:=⟨[fS4,fS9 R,fS10,fS11 i,fS12 d,fS34 ds,fS35 i,fS54 r],fM b gs us l⟩
structure FoLegs (b:Bool) (s:zak) (l:List zab) (ds:Desks) (R:Reop):Prop where
 cCheck:cw zgS [.agg (zaj s)] []=some (zbw 0)
 cCanon:cw zbG [frA b 1000 l] (frM b 1000 l)=some (bif b then zeY ((canonS l,0),l) else zek (canonS l,0))
 cWalk:cw zed [.agg (zaj s),.sl 9 (List.map zaa (canonS l))] []=some (zjl (deskL ds,R))
 cCount:∀ i d,ds i=some d→cw zeJ [.fp (zd9 d),.mp (List.map zax R)] []=some (zdv (countS d R))
 cSort:∀ gs,List.Perm gs (zcR ds R 100)→cw zcu [.row 1000 8 0 (List.map za7 gs).length,.fn zda []] [(1000,⟨8,zbg,List.map za7 gs,false⟩)]=some (zds (isort zcx (zcR ds R 100)))
 few:(zcR ds R 100).length < 1000000
 fewS:(suspTo ds 100).length < 1000000
theorem f3b (b:Bool) (s:zak) (l:List zab) {ev:List zab} (h:cw zbG [frA b 1000 l] (frM b 1000 l)=some (bif b then zeY ((ev,0),l) else zek (ev,0))):tReg za9 zT 3 ⟨[(1,frA b 1001 l),(2,AV.loc 2 9 0 0),(4,AV.loc 4 2 0 0)],[(2,⟨9,zan,[zaj s],true⟩),(4,⟨2,zal,[[AV.v (.slice none 0 0),AV.v (.slice none 0 0)]],true⟩)]++frM b 1001 l⟩=some ⟨[(2,AV.loc 2 9 0 0),(4,AV.loc 4 2 0 0),(6,AV.sl 9 (List.map zaa ev)),(7,I 0)],[(2,⟨9,zan,[zaj s],true⟩),(4,⟨2,zal,[[AV.v (.slice none 0 0),AV.v (.slice none 0 0)]],true⟩)]++frM b 1001 l⟩:=by
 cases b with
 | true=>have t:=f3 s l; rw [show cw zbG [AV.row 1000 9 0 (List.length (List.map zaa l))] [(1000,⟨9,zah,List.map zaa l,false⟩)]=some (zeY ((ev,0),l)) from h,zrM] at t; exact t
 | false=>have t:=f3f s l; rw [show cw zbG [AV.sl 9 (List.map zaa l)] []=some (zek (ev,0)) from h,zgP] at t; exact t
section
variable {w0:World} {S0:Nat→Prop} {κ0:Kap} {K:Nat→Prop} {a:Act} {w:World}
abbrev Y0:Sat2:=fun _ _ _ _=>True
theorem foStep {j:Nat} {st st':St} {X:Sat2} (hX:Stable X) (hr:regOf j foC=some (.region j (foO j) (foD j))) (ht:tReg za9 zT j st=some st')
  (h:NowP w0 S0 κ0 K za9.fn.ntmps X st a w) {Q:Exit→Act→World→Prop} (hQ:∀ a' w',NowP w0 S0 κ0 K za9.fn.ntmps X st' a' w'→Q .normal a' w'):(Code.region j (foO j) (foD j)).wp za9.P Q a w:=stepP hX fo_hb fo_n hr ht h hQ
theorem got_snoc (i:Nat) (d:zat) (cs:Counts) (done:List Nat) {j:Nat} {k:zaL} {e:zab} (hj:cs[j]?=some (k,e)):gotOf i d cs (done++[j])=gotOf i d cs done++[zcJ i d e]:=by unfold gotOf; rw [zt1]; congr 1; simp [hj]
theorem got_perm (i:Nat) (d:zat) (cs:Counts) {done:List Nat} (hd:done.Nodup) (h1:∀ i∈done,i < cs.length) (h2:∀ i,i < cs.length→i∈done):List.Perm (gotOf i d cs done) (cs.map fun p=>zcJ i d p.2):=by
 have hp:List.Perm done (List.range cs.length):=(zoz hd zyz).2 (fun i=>⟨fun h=>zja.2 (h1 i h),fun h=>h2 i (zja.1 h)⟩); refine (hp.filterMap _).trans (.of_eq ?_)
 have e:(List.range cs.length).filterMap (fun j=>cs[j]?.map fun p=>zcJ i d p.2)=((List.range cs.length).filterMap (fun j=>cs[j]?)).map fun p=>zcJ i d p.2:=by rw [List.map_filterMap]
 rw [e,zps]
theorem fo_range {b:Bool} {l:List zab} {ds:Desks} {R:Reop} {gs:List zbb} {us:List zbQ} {i:Nat} {d:zat} (hc:cw zeJ [.fp (zd9 d),.mp (List.map zax R)] []=some (zdv (countS d R))) (hfew:gs.length+(countS d R).length < 1000000)
  (h:NowP w0 S0 κ0 K za9.fn.ntmps Y0 ⟨[fS4,fS9 R,fS10,fS11 i,fS12 d,fS34 ds,fS35 i],fM b gs us l⟩ a w) {Q:Exit→Act→World→Prop}
  (hQ:∀ xs a' w',List.Perm xs ((countS d R).map fun p=>zcJ i d p.2)→NowP w0 S0 κ0 K za9.fn.ntmps Y0 (stF b l ds R (gs++xs) us i) a' w'→Q .normal a' w'):(Code.seq (.region 13 (foO 13) false) (.block 2 (.loop (.seq (.region 14 (foO 14) false) (.seq (.cond (.tmp 56) .skip (.exit 2)) (.block 3 (.seq (.region 15 (foO 15) false) (.region 16 (foO 16) (foD 16))))))))).wp za9.P Q a w:=by
 refine wp_seq (wp_region ?_); have z2:(foO 13).size=4:=by kernel_rfl
 rw [z2,show List.range 4=List.range' 0 3++[3] from rfl]; have t2:=f13 b l (deskL ds) R (List.map za7 gs) (List.map zao us) i d; unfold zd9 at hc; rw [hc,zpk] at t2; refine segP Stable.none fo_hb fo_n fo_r13 t2 (by rw [z2]; decide) h (fun a1 w1 h1=>?_); have h2:=h1.freeze Stable.none fo_n [53] (by cases b <;> kernel_rfl) (st':=⟨[(53,.mp (List.map zcy (countS d R))),(52,.mp (List.map zax R)),(51,.fp (zd9 d)),fS4,fS9 R,fS10,fS11 i,fS12 d,fS34 ds,fS35 i],fM b gs us l⟩) (by cases b <;> kernel_rfl); rw [wpOps_cons]; refine zuT (t:=178) (k:=181) (e:=85) (by unfold opIs; kernel_rfl) (by cases b <;> kernel_rfl) (by decide) h2 (m:=53) (d:=54) rfl (fun a3 w3 r q en clock h3=>?_); have h4:=h3.trim Rng.stable [4,9,10,11,12,34,35,54] [] (st':=stG b l ds R gs us i d r) (by cases b <;> kernel_rfl); rw [show gs=gs++gotOf i d (countS d R) [] by simp [gotOf]] at h4; refine zuV (it:=54) (d1:=55) (d2:=56) (r:=r) (stf:=fun done=>stG b l ds R (gs++gotOf i d (countS d R) done) us i d r) [4,9,10,11,12,34,35,54] (by cases b <;> kernel_rfl) (by unfold opIs; kernel_rfl) (by unfold opIs; kernel_rfl) (by decide) (by decide) (fun _=>rfl) (fun _ _ _=>by cases b <;> kernel_rfl) ?_ h4 ?_
 · intro done j k v hd hl hjd hkv a w hn
   have hj:j < (countS d R).length:=by have:=(zbH.1 hkv).1; simpa using this
   rw [zcQ,zau hj] at hkv
   have hlen:(gs++gotOf i d (countS d R) done).length < 1000000:=by have h1:(gotOf i d (countS d R) done).length≤done.length:=zmX _ _; have h2:=zsb hd (n:=(countS d R).length) (fun i hi=>by simpa using hl i hi); rw [zeU]; omega
   have hev:=got_snoc i d (countS d R) done (j:=j) (k:=(countS d R)[j].1) (e:=(countS d R)[j].2) (zau hj); simp only [hev,← zi9]; generalize gs++gotOf i d (countS d R) done=xs at hn hlen ⊢; generalize hx:(countS d R)[j]=x at hkv ⊢; obtain ⟨kk,e⟩:=x; simp only [zde,zaU,zcy,zbq,and_true] at hkv; obtain ⟨rfl,rfl⟩:=hkv; refine wp_block (wp_seq (wp_region ?_)); have z4:(foO 15).size=4:=by kernel_rfl
   rw [z4,show List.range 4=0 :: (List.range' 1 3++[]) from rfl,wpOps_cons]; refine zuD (by unfold opIs; kernel_rfl) (by decide) hn (it:=54) (d:=57) rfl (by rw [zcQ,zau hj,hx]; rfl) (fun a1 w1 h1=>?_); have h2:=h1.trim Rng.stable [4,9,10,11,12,34,35,54,57] [] (st':=⟨[fS4,fS9 R,fS10,fS11 i,fS12 d,fS34 ds,fS35 i,fS54 r,(57,.tup [.agg (zbI kk),.agg (zaa e)])],fM b xs us l⟩) (by cases b <;> kernel_rfl); refine segP Rng.stable fo_hb fo_n fo_r15 (f15 b l (deskL ds) R (List.map za7 xs) (List.map zao us) i d _ kk e) (by rw [z4]; decide) h2 (fun a3 w3 h3=>?_); have h4:=h3.trim Rng.stable [4,9,10,11,12,14,34,35,54] [] (st':=⟨[fS4,fS9 R,fS10,fS11 i,fS12 d,(14,.loc 14 9 0 0),fS34 ds,fS35 i,fS54 r],[fB4,(10,⟨2,zal,[[.row 301 8 0 (List.map za7 xs).length,.row 302 12 0 (List.map zao us).length]],true⟩),(14,⟨9,zah,[zaa e],true⟩),(301,⟨8,zbg,List.map za7 xs,false⟩),(302,⟨12,zay,List.map zao us,false⟩)]++frM b 1001 l⟩) (by cases b <;> kernel_rfl); have t6:=f16 b l (deskL ds) R (List.map za7 xs) (List.map zao us) i d ⟨r,0,none⟩ e; rw [zam rfl,zam (by simp only [zaq]; omega)] at t6; refine foStep Rng.stable fo_r16 t6 h4 (fun a7 w7 h7=>⟨rfl,?_⟩); have e1:List.map za7 (xs++[zcJ i d e])=List.map za7 xs++[za7 (zcJ i d e)]:=by simp
   unfold stG fM; rw [e1]; exact h7
 · intro done hd hl hall a' w' hn; refine hQ _ a' w' (got_perm i d (countS d R) hd (fun i hi=>by simpa using hl i hi) (fun i hi=>hall i (by simpa using hi))) ?_; exact (hn.trim Rng.stable [4,9,10,34,35] [] (st':=stF b l ds R (gs++gotOf i d (countS d R) done) us i) (by cases b <;> kernel_rfl)).drop
theorem fo_loop {b:Bool} {s:zak} {l:List zab} {ds:Desks} {R:Reop} (g:FoLegs b s l ds R) (h:NowP w0 S0 κ0 K za9.fn.ntmps Y0 (stF b l ds R [] [] 0) a w) {Q:Exit→Act→World→Prop}
  (hQ:∀ gs a' w',List.Perm gs (zcR ds R 100)→NowP w0 S0 κ0 K za9.fn.ntmps Y0 (stF b l ds R gs (suspTo ds 100) 100) a' w'→Q .normal a' w'):(Code.wp za9.P (.block 0 (.loop (.seq (.region 9 (foO 9) (foD 9)) (.seq (.cond (.tmp 36) .skip (.exit 0)) (.seq (.block 1 (.seq (.region 10 (foO 10) (foD 10)) (.seq (.seq (.region 11 (foO 11) (foD 11)) (.cond (.tmp 42) (.exit 1) .skip)) (.seq (.region 12 (foO 12) (foD 12)) (.seq (.region 13 (foO 13) false) (.block 2 (.loop (.seq (.region 14 (foO 14) false) (.seq (.cond (.tmp 56) .skip (.exit 2)) (.block 3 (.seq (.region 15 (foO 15) false) (.region 16 (foO 16) (foD 16))))))))))))) (.region 17 (foO 17) (foD 17))))))) Q a w):=by
 have mono:∀ k,k≤100→(zcR ds R k).length≤(zcR ds R 100).length∧(suspTo ds k).length≤(suspTo ds 100).length:=fun k hk=>by
  induction hn:100 - k generalizing k with
  | zero =>
    have:k=100:=by omega
    subst this; exact ⟨zcb _,zcb _⟩
  | succ n ih=>have h1:=ih (k+1) (by omega) (by omega); rw [znX,zmH,zeU,zeU] at h1; omega
 have hfew:=g.few; have hfewS:=g.fewS; refine wp_block (wp_loop (fun a w=>∃ k gs,k≤100∧List.Perm gs (zcR ds R k)∧NowP w0 S0 κ0 K za9.fn.ntmps Y0 (stF b l ds R gs (suspTo ds k) k) a w) (fun a _=>100 - cnt a 35) ⟨0,[],zfQ _,zt2 _,h⟩ ?_)
 rintro a w ⟨k,gs,hk,hp,hn⟩
 have hc0:cnt a 35=k:=by rw [hn.cnt (n:=(k:Int)) rfl]; simp
 have hup:∀ (a':Act) (w':World) (gs':List zbb),k < 100→List.Perm gs' (zcR ds R (k+1))→NowP w0 S0 κ0 K za9.fn.ntmps Y0 (stF b l ds R gs' (suspTo ds (k+1)) k) a' w'→(Code.region 17 (foO 17) (foD 17)).wp za9.P (Exit.then (fun a' w'=>(∃ k gs,k≤100∧List.Perm gs (zcR ds R k)∧NowP w0 S0 κ0 K za9.fn.ntmps Y0 (stF b l ds R gs (suspTo ds k) k) a' w')∧100 - cnt a' 35 < 100 - cnt a 35) (Exit.inBlock 0 Q)) a' w':=fun a' w' gs' hk' hp' hn'=>by
  refine foStep Stable.none fo_r17 (f17 b l (deskL ds) R _ _ _) hn' (fun a6 w6 h6=>?_); rw [w6Q] at h6; refine ⟨⟨k+1,gs',hk',hp',by exact_mod_cast h6⟩,?_⟩; have:cnt a6 35=k+1:=by rw [h6.cnt (n:=(k:Int)+1) rfl]; omega
  omega
 refine wp_seq (foStep Stable.none fo_r9 (f9 b l (deskL ds) R _ _ _) hn (fun a2 w2 h2=>?_)); refine wp_seq (wp_cond (h2.bool (b:=decide ((k:Int) < 100)) rfl) ?_); by_cases hlt:k < 100
 · rw [decide_eq_true (by omega),if_pos rfl]; refine wp_skip ?_; have h3:=h2.trim Stable.none [4,9,10,34,35] [] (st':=stF b l ds R gs (suspTo ds k) k) (by cases b <;> kernel_rfl); have t:=f10 b l (deskL ds) R (List.map za7 gs) (List.map zao (suspTo ds k)) k; have hget:=deskL_get ds hlt; rw [cPQ,zam (show ((k:Int)) < 100 by omega)] at t; refine wp_seq (wp_block (wp_seq ?_))
   cases hd:ds k with
   | none =>
     rw [hd] at hget; rw [zww (by simpa [nDp] using hget)] at t; refine foStep Stable.none fo_r10 t h3 (fun a4 w4 h4=>?_); refine wp_seq (wp_seq (foStep Stable.none fo_r11 (f11n b l (deskL ds) R _ _ _) h4 (fun a5 w5 h5=>?_))); refine wp_cond (h5.bool (b:=true) rfl) ?_; rw [if_pos rfl]; refine wp_exit ?_; have h6:=h5.trim Stable.none [4,9,10,34,35] [] (st':=stF b l ds R gs (suspTo ds k) k) (by cases b <;> kernel_rfl); refine hup a5 w5 gs hlt ?_ ?_
     · rw [znX,hd]; simpa using hp
     · rw [zmH,hd]; simpa using h6
   | some d =>
     rw [hd] at hget; rw [elemP_dat (D:=zh0) (x:=d) (by simpa [nDp] using hget)] at t; refine foStep Stable.none fo_r10 t h3 (fun a4 w4 h4=>?_); refine wp_seq (wp_seq (foStep Stable.none fo_r11 (f11d b l (deskL ds) R _ _ _ d) h4 (fun a5 w5 h5=>?_))); refine wp_cond (h5.bool (b:=false) rfl) ?_; rw [iNs]; refine wp_skip ?_; have h6:=h5.trim Stable.none [4,9,10,11,12,34,35] [] (st':=⟨[fS4,fS9 R,fS10,fS11 k,fS12 d,fS34 ds,fS35 k],fM b gs (suspTo ds k) l⟩) (by cases b <;> kernel_rfl); have hm:=mono (k+1) (by omega); rw [znX,zmH,hd,zeU,zeU] at hm; simp only [zaq] at hm; have t12:=f12 b l (deskL ds) R (List.map za7 gs) (List.map zao (suspTo ds k)) k d; rw [zam rfl,zam (by simp only [zaq]; omega)] at t12; refine wp_seq (foStep Stable.none fo_r12 t12 h6 (fun a7 w7 h7=>?_))
     have e1:List.map zao (suspTo ds (k+1))=List.map zao (suspTo ds k)++List.map zao d.suspensions:=by rw [zmH,hd]; simp
     have h8:NowP w0 S0 κ0 K za9.fn.ntmps Y0 ⟨[fS4,fS9 R,fS10,fS11 k,fS12 d,fS34 ds,fS35 k],fM b gs (suspTo ds (k+1)) l⟩ a7 w7:=by unfold fM; rw [e1]; exact h7
     have hgl:gs.length=(zcR ds R k).length:=hp.length_eq; refine fo_range (g.cCount k d hd) (by omega) h8 (fun xs a9 w9 hx h9=>?_); refine hup a9 w9 (gs++xs) hlt ?_ h9; rw [znX,hd]; exact hp.append hx
 · rw [decide_eq_false (by omega),iNs]; have:k=100:=by omega
   subst this; exact wp_exit (hQ _ _ _ hp (h2.trim Stable.none [4,9,10,34,35] [] (by cases b <;> kernel_rfl)))
abbrev stZ (b:Bool) (l:List zab) (ds:Desks) (R:Reop):St:=⟨[fS4,(5,I 0)],[(4,⟨2,zal,[[.row 301 8 0 (List.map za7 (isort zcx (zcR ds R 100))).length,.row 302 12 0 (List.map zao (suspTo ds 100)).length]],true⟩),(301,⟨8,zbg,List.map za7 (isort zcx (zcR ds R 100)),false⟩),(302,⟨12,zay,List.map zao (suspTo ds 100),false⟩)]++frM b 1001 l⟩
theorem fo_body {b:Bool} {s:zak} {l:List zab} {ds:Desks} {R:Reop} (g:FoLegs b s l ds R) (hl:(isort zcx (zcR ds R 100)).length=(zcR ds R 100).length) (h:NowP w0 S0 κ0 K za9.fn.ntmps Y0 ⟨[(0,.agg (zaj s)),fA b l],(frM b 1001 l)⟩ a w):foC.wp za9.P (PostC w0 S0 κ0 K za9.fn.ntmps .ret (stZ b l ds R)) a w:=by
 rw [fo_shape]; refine wp_seq (foStep Stable.none fo_r0 (f0 b s l) h (fun a1 w1 h1=>?_)); have t1:=f1 b s l; rw [g.cCheck,za3] at t1; refine wp_seq (wp_seq (foStep Stable.none fo_r1 t1 h1 (fun a2 w2 h2=>?_))); refine wp_cond (h2.bool (b:=false) rfl) ?_; rw [iNs]; refine wp_skip ?_; have h3:=h2.trim Stable.none [1,2,4] [] (st':=⟨[fA b l,fS2,fS4],[fB2 s,fB4]++frM b 1001 l⟩) (by cases b <;> kernel_rfl); have t3:=f3b b s l g.cCanon; refine wp_seq (foStep Stable.none fo_r3 t3 h3 (fun a4 w4 h4=>?_)); refine wp_seq (wp_seq (foStep Stable.none fo_r4 (f4 b s l (canonS l) 0) h4 (fun a5 w5 h5=>?_))); refine wp_cond (h5.bool (b:=false) rfl) ?_; rw [iNs]; refine wp_skip ?_; have h6:=h5.trim Stable.none [2,4,6] [] (st':=⟨[fS2,fS4,(6,.sl 9 (List.map zaa (canonS l)))],[fB2 s,fB4]++frM b 1001 l⟩) (by cases b <;> kernel_rfl); have t6:=f6 b s l (canonS l); rw [g.cWalk,zwf] at t6; refine wp_seq (foStep Stable.none fo_r6 t6 h6 (fun a7 w7 h7=>?_)); refine wp_seq (foStep Stable.none fo_r7 (f7 b l (deskL ds) R) h7 (fun a8 w8 h8=>?_)); refine wp_seq (wp_seq (foStep Stable.none fo_r8 (f8 b l (deskL ds) R [] []) h8 (fun a9 w9 h9=>?_))); refine fo_loop g h9 (fun gs a10 w10 hp h10=>?_); have h11:=h10.trim Stable.none [4,10] [] (st':=⟨[fS4,fS10],fM b gs (suspTo ds 100) l⟩) (by cases b <;> kernel_rfl); have t18:=f18 b l gs (List.map zao (suspTo ds 100)); rw [show List.length (List.map za7 gs)=(List.map za7 gs).length from rfl,g.cSort gs hp,zjt] at t18; refine wp_seq (foStep Stable.none fo_r18 t18 h11 (fun a12 w12 h12=>?_))
 have hlen:(List.map za7 gs).length=(List.map za7 (isort zcx (zcR ds R 100))).length:=by rw [zaq,zaq,hp.length_eq,hl]
 rw [hlen] at h12; refine wp_seq (foStep Stable.none fo_r19 (f19 b l _ _) h12 (fun a13 w13 h13=>?_)); refine wp_ret ⟨rfl,?_⟩; obtain ⟨S,κ,hg,_⟩:=h13; exact ⟨S,κ,hg⟩
theorem zBU:enters za9.P zcF=true:=by kernel_rfl
theorem fo_calls {b:Bool} {s:zak} {l:List zab} {ds:Desks} {R:Reop} (g:FoLegs b s l ds R) (hl:(isort zcx (zcR ds R 100)).length=(zcR ds R 100).length) (w:World) (S:Nat→Prop) (κ:Kap) (vals:Array Value) (hvl:vals.size=2) (hS:∀ g,S g→g < w.heap.size)
  (hv:∀ (k:Nat) (a:AV) (x:Value),[AV.agg (zaj s),frA b 1001 l][k]?=some a→vals[k]?=some x→VRel S κ (Dm (frM b 1001 l)) w a x)
  (hms:∀ d ent,Ab.look (frM b 1001 l) d=some ent→EntAt S κ (Dm (frM b 1001 l)) w (κ d) ent) (hinj:∀ d d' g c c',Dm (frM b 1001 l) d→Dm (frM b 1001 l) d'→κ d=some (g,c)→κ d'=some (g,c')→d=d'):Calls za9.P zcF vals w (Ab.Left S κ (frM b 1001 l) (frM b 1001 l) (.tup [.agg (zaK ⟨isort zcx (zcR ds R 100),suspTo ds 100⟩),I 0]) w):=by
 have hf:za9.P.funcs[zcF]?=some za9.fn:=by kernel_rfl
 refine zle (args:=[AV.agg (zaj s),frA b 1001 l]) (frz:=false) (ex:=.ret) (st:=stZ b l ds R) hf fo_hb (show 2≤za9.fn.ntmps by decide) hvl hS hv hms hinj (fun id=>by simp) (fun a hg=>?_) ?_ ?_ ?_
 · obtain ⟨S,κ,hg⟩:=hg; exact fo_body g hl ⟨S,κ,hg,trivial⟩
 · unfold stZ zaK; simp only; generalize List.map za7 (isort zcx (zcR ds R 100))=xs; generalize List.map zao (suspTo ds 100)=ys; rw [show zgp za9.P false za9.fn ⟨[fS4,(5,I 0)],[(4,⟨2,zal,[[.row 301 8 0 xs.length,.row 302 12 0 ys.length]],true⟩),(301,⟨8,zbg,xs,false⟩),(302,⟨12,zay,ys,false⟩)]++frM b 1001 l⟩=outOf false ([(4,⟨2,zal,[[.row 301 8 0 xs.length,.row 302 12 0 ys.length]],true⟩),(301,⟨8,zbg,xs,false⟩),(302,⟨12,zay,ys,false⟩)]++frM b 1001 l) (.tup [.agg [.row 301 8 0 xs.length,.row 302 12 0 ys.length],I 0]) from by cases b <;> kernel_rfl]; simp [outOf,snap,mapO,Ab.look]
 · cases b <;> kernel_rfl
 · cases b <;> kernel_rfl
end
end
end Go.Proofs.YtlecnobdfhlmnaaGreat
end
