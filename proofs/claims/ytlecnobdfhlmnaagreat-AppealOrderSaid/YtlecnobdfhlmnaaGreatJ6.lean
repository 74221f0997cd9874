/- appeal.Reopened by hand: a range over a map, in whatever order. -/
import Derived.Test.YtlecnobdfhlmnaaGreatJ0
import Derived.Test.YtlecnobdfhlmnaaGreatJ5
import Derived.Control
import Derived.Test.YtlecnobdfhlmnaaGreatJ1
import Derived.Test.YtlecnobdfhlmnaaGreatAb9
import Derived.OpenShut
import Derived.DataElems
import Derived.ChangeArms
set_option linter.unusedSimpArgs false
set_option linter.unusedVariables false
noncomputable section
namespace Go.Proofs.YtlecnobdfhlmnaaGreat
open Go.Ab
set_option maxRecDepth 100000
def rpC:Code:=(za5.fn.body).getD .skip
def rpO (j:Nat):Array Oper:=opsAt j rpC
def rpD (j:Nat):Bool:=zoN j rpC
theorem rp_hb:za5.fn.body=some rpC:=by kernel_rfl
theorem rp_shape:rpC=(.seq (.region 0 (rpO 0) (rpD 0)) (.seq (.region 1 (rpO 1) (rpD 1)) (.seq (.seq (.region 2 (rpO 2) (rpD 2)) (.cond (.tmp 39) (.seq (.region 3 (rpO 3) (rpD 3)) .ret) .skip)) (.seq (.region 4 (rpO 4) (rpD 4)) (.seq (.seq (.region 5 (rpO 5) (rpD 5)) (.cond (.tmp 47) (.seq (.region 6 (rpO 6) (rpD 6)) .ret) .skip)) (.seq (.region 7 (rpO 7) (rpD 7)) (.seq (.seq (.region 8 (rpO 8) (rpD 8)) (.cond (.tmp 56) (.seq (.region 9 (rpO 9) (rpD 9)) .ret) .skip)) (.seq (.region 10 (rpO 10) (rpD 10)) (.seq (.region 11 (rpO 11) (rpD 11)) (.seq (.seq (.region 12 (rpO 12) (rpD 12)) (.block 0 (.loop (.seq (.region 13 (rpO 13) (rpD 13)) (.seq (.cond (.tmp 62) .skip (.exit 0)) (.seq (.block 1 (.seq (.region 14 (rpO 14) (rpD 14)) (.seq (.region 15 (rpO 15) (rpD 15)) (.seq (.region 16 (rpO 16) (rpD 16)) (.block 2 (.loop (.seq (.region 17 (rpO 17) (rpD 17)) (.seq (.cond (.tmp 76) .skip (.exit 2)) (.seq (.block 3 (.seq (.region 18 (rpO 18) (rpD 18)) (.region 19 (rpO 19) (rpD 19)))) (.region 20 (rpO 20) (rpD 20))))))))))) (.region 21 (rpO 21) (rpD 21)))))))) (.seq (.region 22 (rpO 22) (rpD 22)) (.seq (.seq (.region 23 (rpO 23) (rpD 23)) (.block 4 (.loop (.seq (.region 24 (rpO 24) (rpD 24)) (.seq (.cond (.tmp 96) .skip (.exit 4)) (.seq (.block 5 (.seq (.region 25 (rpO 25) (rpD 25)) (.seq (.region 26 (rpO 26) false) (.block 6 (.loop (.seq (.region 27 (rpO 27) false) (.seq (.cond (.tmp 104) .skip (.exit 6)) (.block 7 (.seq (.region 28 (rpO 28) false) (.seq (.region 29 (rpO 29) (rpD 29)) (.cond (.tmp 110) (.region 30 (rpO 30) (rpD 30)) .skip))))))))))) (.region 31 (rpO 31) (rpD 31)))))))) (.seq (.region 32 (rpO 32) (rpD 32)) (.seq (.seq (.region 33 (rpO 33) (rpD 33)) (.seq (.region 34 (rpO 34) (rpD 34)) (.cond (.tmp 126) (.seq (.region 35 (rpO 35) (rpD 35)) .ret) .skip))) (.seq (.region 36 (rpO 36) (rpD 36)) .ret))))))))))))))):=by kernel_rfl
theorem rp_r0:regOf 0 rpC=some (.region 0 (rpO 0) (rpD 0)):=by kernel_rfl
theorem rp_r1:regOf 1 rpC=some (.region 1 (rpO 1) (rpD 1)):=by kernel_rfl
theorem rp_r2:regOf 2 rpC=some (.region 2 (rpO 2) (rpD 2)):=by kernel_rfl
theorem rp_r3:regOf 3 rpC=some (.region 3 (rpO 3) (rpD 3)):=by kernel_rfl
theorem rp_r4:regOf 4 rpC=some (.region 4 (rpO 4) (rpD 4)):=by kernel_rfl
theorem rp_r5:regOf 5 rpC=some (.region 5 (rpO 5) (rpD 5)):=by kernel_rfl
theorem rp_r7:regOf 7 rpC=some (.region 7 (rpO 7) (rpD 7)):=by kernel_rfl
theorem rp_r8:regOf 8 rpC=some (.region 8 (rpO 8) (rpD 8)):=by kernel_rfl
theorem rp_r10:regOf 10 rpC=some (.region 10 (rpO 10) (rpD 10)):=by kernel_rfl
theorem rp_r11:regOf 11 rpC=some (.region 11 (rpO 11) (rpD 11)):=by kernel_rfl
theorem rp_r12:regOf 12 rpC=some (.region 12 (rpO 12) (rpD 12)):=by kernel_rfl
theorem rp_r13:regOf 13 rpC=some (.region 13 (rpO 13) (rpD 13)):=by kernel_rfl
theorem rp_r14:regOf 14 rpC=some (.region 14 (rpO 14) (rpD 14)):=by kernel_rfl
theorem rp_r15:regOf 15 rpC=some (.region 15 (rpO 15) (rpD 15)):=by kernel_rfl
theorem rp_r16:regOf 16 rpC=some (.region 16 (rpO 16) (rpD 16)):=by kernel_rfl
theorem rp_r17:regOf 17 rpC=some (.region 17 (rpO 17) (rpD 17)):=by kernel_rfl
theorem rp_r18:regOf 18 rpC=some (.region 18 (rpO 18) (rpD 18)):=by kernel_rfl
theorem rp_r19:regOf 19 rpC=some (.region 19 (rpO 19) (rpD 19)):=by kernel_rfl
theorem rp_r20:regOf 20 rpC=some (.region 20 (rpO 20) (rpD 20)):=by kernel_rfl
theorem rp_r21:regOf 21 rpC=some (.region 21 (rpO 21) (rpD 21)):=by kernel_rfl
theorem rp_r22:regOf 22 rpC=some (.region 22 (rpO 22) (rpD 22)):=by kernel_rfl
theorem rp_r23:regOf 23 rpC=some (.region 23 (rpO 23) (rpD 23)):=by kernel_rfl
theorem rp_r24:regOf 24 rpC=some (.region 24 (rpO 24) (rpD 24)):=by kernel_rfl
theorem rp_r25:regOf 25 rpC=some (.region 25 (rpO 25) (rpD 25)):=by kernel_rfl
theorem rp_r26:regOf 26 rpC=some (.region 26 (rpO 26) false):=by kernel_rfl
theorem rp_r28:regOf 28 rpC=some (.region 28 (rpO 28) false):=by kernel_rfl
theorem rp_r29:regOf 29 rpC=some (.region 29 (rpO 29) (rpD 29)):=by kernel_rfl
theorem rp_r30:regOf 30 rpC=some (.region 30 (rpO 30) (rpD 30)):=by kernel_rfl
theorem rp_r31:regOf 31 rpC=some (.region 31 (rpO 31) (rpD 31)):=by kernel_rfl
theorem rp_r32:regOf 32 rpC=some (.region 32 (rpO 32) (rpD 32)):=by kernel_rfl
theorem rp_r33:regOf 33 rpC=some (.region 33 (rpO 33) (rpD 33)):=by kernel_rfl
theorem rp_r34:regOf 34 rpC=some (.region 34 (rpO 34) (rpD 34)):=by kernel_rfl
theorem rp_r36:regOf 36 rpC=some (.region 36 (rpO 36) (rpD 36)):=by kernel_rfl
theorem rp_n:za5.fn.ntmps≤1000:=by decide
theorem rp_enters:enters za5.P zc5=true:=by kernel_rfl
noncomputable section
abbrev NR:Nat:=za5.fn.ntmps
abbrev PR:Program:=za5.P
abbrev e58 (M:List (Int×Int)):Nat×Ent:=(58,⟨0,zaH,List.map zaF M,false⟩)
abbrev e15 (m:zaG):Nat×Ent:=(15,⟨2,zal,[zaK m],true⟩)
abbrev s39 (ev:List zab):Nat×AV:=(3,.sl 9 (List.map zaa ev))
abbrev stP (r:zaM) (s:zak) (ev:List zab) (ch:List Int) (m:zaG) (M:List (Int×Int)) (g:Int) (lt:List (Nat×AV)):St:=
 ⟨[s39 ev,(5,.loc 5 3 0 0),(7,.loc 7 9 0 0),(12,.sl 1 (List.map zaf ch)),(15,.loc 15 2 0 0),(16,.map 58),(17,I g)]++lt,[(5,⟨3,zaO,[zaP r],true⟩),(7,⟨9,zan,[zaj s],true⟩),e15 m,e58 M]⟩
abbrev ltC (c:List zai) (i:Int):List (Nat×AV):=[(59,.sl 6 (List.map zag c)),(60,I (List.map zag c).length),(61,I i)]
abbrev stX (r:zaM) (s:zak) (ev:List zab) (ch:List Int) (m:zaG) (M:List (Int×Int)) (g:Int) (x:zai) (lt:List (Nat×AV)):St:=
 ⟨[s39 ev,(5,.loc 5 3 0 0),(7,.loc 7 9 0 0),(12,.sl 1 (List.map zaf ch)),(15,.loc 15 2 0 0),(16,.map 58),(17,I g),(19,.loc 19 6 0 0)]++lt,[(5,⟨3,zaO,[zaP r],true⟩),(7,⟨9,zan,[zaj s],true⟩),e15 m,(19,⟨6,zaA,[zag x],true⟩),e58 M]⟩
abbrev ltS (sc:List Int) (j:Int):List (Nat×AV):=[(73,.sl 1 (List.map zaf sc)),(74,I (List.map zaf sc).length),(75,I j)]
abbrev stQ (ev:List zab) (m:zaG) (M:List (Int×Int)) (g:Int) (sd:List (Int×Bool)) (bl:List Int) (i:Int) (lt:List (Nat×AV)):St:=
 ⟨[s39 ev,(15,.loc 15 2 0 0),(16,.map 58),(17,I g),(22,.map 88),(93,.row 93 1 0 (List.map zaf bl).length),(94,I (List.map zaf bl).length),(95,I i)]++lt,[e15 m,e58 M,(88,⟨0,zbo,List.map za4 sd,false⟩),(93,⟨1,zbK,List.map zaf bl,false⟩)]⟩
def at25 (k:Int) (st:St):St:=⟨st.t.take 5++(25,I k) :: st.t.drop 5,st.m⟩
theorem Times.congr {s:zak} {f f':zaE→Option Int} {M:List (Int×Int)} (h:Times s f M) (e:∀ x∈s.Scripts,f x=f' x):Times s f' M:=⟨h.nd,h.num,fun x hx=>(h.val x hx).trans (e x hx)⟩
def keysV (kv sd:List (Int×Bool)) (done:List Nat):List Int:=(done.filterMap fun j=>(kv[j]?).map (·.1)).filter fun k=>!(mfind k sd).getD false
theorem keysV_snoc (kv sd:List (Int×Bool)) (done:List Nat) {j:Nat} {p:Int×Bool} (h:kv[j]?=some p):keysV kv sd (done++[j])=keysV kv sd done++(if (mfind p.1 sd).getD false then [] else [p.1]):=by unfold keysV; rw [zt1,List.filter_append]; congr 1; simp only [zyy,h,zde,List.filterMap_nil,zgb,zoA]; cases (mfind p.1 sd).getD false <;> rfl
theorem mem_keysV {kv sd:List (Int×Bool)} {done:List Nat} (h1:∀ i∈done,i < kv.length) (h2:∀ i,i < kv.length→i∈done) (k:Int):k∈keysV kv sd done↔k∈kv.map (·.1)∧(mfind k sd).getD false=false:=by
 unfold keysV; rw [zgO,zoE]
 have e:(∃ a,a∈done∧Option.map (fun x=>x.fst) kv[a]?=some k)↔k∈kv.map (·.1):=by
  rw [zce]; constructor
  · rintro ⟨i,hi,h⟩
    obtain ⟨p,hp,rfl⟩:=zf7.1 h; exact ⟨p,zb1 hp,rfl⟩
  · rintro ⟨p,hp,rfl⟩
    obtain ⟨i,hi,rfl⟩:=zfB.1 hp; exact ⟨i,h2 i hi,by rw [zau hi]; rfl⟩
 rw [e]; simp
theorem zBK (l:List Int) (k t:Int) (M:List (Int×Int)):addL (l++[k]) t M=addT k t (addL l t M):=by unfold addL; rw [zqY]; rfl
section
variable {w0:World} {S0:Nat→Prop} {κ0:Kap} {K:Nat→Prop} {a:Act} {w:World}
theorem rpStep {j:Nat} {st st':St} {X:Sat2} (hX:Stable X) (hr:regOf j rpC=some (.region j (rpO j) (rpD j))) (ht:tReg za5 zT j st=some st')
  (h:NowP w0 S0 κ0 K NR X st a w) {Q:Exit→Act→World→Prop} (hQ:∀ a' w',NowP w0 S0 κ0 K NR X st' a' w'→Q .normal a' w'):(Code.region j (rpO j) (rpD j)).wp PR Q a w:=stepP hX rp_hb rp_n hr ht h hQ
theorem rp_scope {r:zaM} {s:zak} {ev:List zab} {ch:List Int} {m:zaG} {M:List (Int×Int)} {g:Int} {c:List zai} {i:Int} {x:zai} {sc:List Int} (hsc:sc.length≤1000)
  (h:NowP w0 S0 κ0 K NR X0 (stX r s ev ch m M g x (ltC c i++ltS sc 0)) a w) {Q:Exit→Act→World→Prop}
  (hQ:∀ a' w',NowP w0 S0 κ0 K NR X0 (stP r s ev ch m (addL sc x.Stamp.Time M) g (ltC c i)) a' w'→Q .normal a' w'):(Code.block 2 (.loop (.seq (.region 17 (rpO 17) (rpD 17)) (.seq (.cond (.tmp 76) .skip (.exit 2)) (.seq (.block 3 (.seq (.region 18 (rpO 18) (rpD 18)) (.region 19 (rpO 19) (rpD 19)))) (.region 20 (rpO 20) (rpD 20))))))).wp PR Q a w:=by
 refine wp_block (wp_loop (fun a w=>∃ k:Nat,k≤sc.length∧NowP w0 S0 κ0 K NR X0 (stX r s ev ch m (addL (sc.take k) x.Stamp.Time M) g x (ltC c i++ltS sc k)) a w) (fun a _=>sc.length - cnt a 75) ⟨0,zfQ _,h⟩ ?_)
 rintro a w ⟨k,hk,hn⟩
 have hc0:cnt a 75=k:=by rw [hn.cnt (n:=(k:Int)) rfl]; simp
 generalize hM:addL (sc.take k) x.Stamp.Time M=Mk at hn; refine wp_seq (rpStep Stable.none rp_r17 (re17 r s ev ch c m Mk g _ i x sc _ k) hn (fun a2 w2 h2=>?_)); refine wp_seq (wp_cond (h2.bool (b:=decide ((k:Int) < (List.map zaf sc).length)) rfl) ?_); by_cases hlt:k < sc.length
 case neg=>rw [decide_eq_false (by simp; omega),iNs]; rw [zcG (by omega)] at hM; exact wp_exit (hQ _ _ (by rw [hM]; exact h2.trim Stable.none [3,5,7,12,15,16,17,59,60,61] [19] (by kernel_rfl)))
 rw [decide_eq_true (by simp; omega),if_pos rfl]; refine wp_skip ?_; have h3:=h2.trim Stable.none [3,5,7,12,15,16,17,19,59,60,61,73,74,75] [] (st':=stX r s ev ch m Mk g x (ltC c i++ltS sc k)) (by kernel_rfl); have t18:=re18 r s ev ch c m Mk g (List.map zag c).length i x sc (List.map zaf sc).length k; rw [cPQ,zbX,show ((k:Int)).toNat=k from rfl,zau hlt,zaS] at t18; refine wp_seq (wp_block (wp_seq (rpStep Stable.none rp_r18 t18 h3 (fun a4 w4 h4=>?_)))); have t19:=re19 r s ev ch c m Mk g (List.map zag c).length i x sc (List.map zaf sc).length k sc[k]; rw [c_add,zhb] at t19; refine rpStep Stable.none rp_r19 t19 h4 (fun a5 w5 h5=>?_); have t20:=re20 r s ev ch c m (addT sc[k] x.Stamp.Time Mk) g (List.map zag c).length i x sc (List.map zaf sc).length k; rw [w6Q] at t20; refine rpStep Stable.none rp_r20 t20 h5 (fun a6 w6 h6=>⟨⟨k+1,hlt,?_⟩,?_⟩)
 · rw [zk9 hlt,zBK,hM]; exact h6
 · have:cnt a6 75=k+1:=by rw [h6.cnt (n:=(k:Int)+1) rfl]; omega
   show sc.length - cnt a6 75 < sc.length - cnt a 75; omega
theorem rp_appeals {r:zaM} {s:zak} (hs:zbP s) {ev:List zab} {ch:List Int} {m:zaG} (hm:m.Given.length≤1000000) {c:List zai} (hc:c.length≤24)
  (h:NowP w0 S0 κ0 K NR X0 (stP r s ev ch m [] 0 (ltC c 0)) a w) {Q:Exit→Act→World→Prop}
  (hQ:∀ a' w',NowP w0 S0 κ0 K NR X0 (stP r s ev ch m (schedM s m c []) (lastT c) []) a' w'→Q .normal a' w'):(Code.block 0 (.loop (.seq (.region 13 (rpO 13) (rpD 13)) (.seq (.cond (.tmp 62) .skip (.exit 0)) (.seq (.block 1 (.seq (.region 14 (rpO 14) (rpD 14)) (.seq (.region 15 (rpO 15) (rpD 15)) (.seq (.region 16 (rpO 16) (rpD 16)) (.block 2 (.loop (.seq (.region 17 (rpO 17) (rpD 17)) (.seq (.cond (.tmp 76) .skip (.exit 2)) (.seq (.block 3 (.seq (.region 18 (rpO 18) (rpD 18)) (.region 19 (rpO 19) (rpD 19)))) (.region 20 (rpO 20) (rpD 20))))))))))) (.region 21 (rpO 21) (rpD 21))))))).wp PR Q a w:=by
 refine wp_block (wp_loop (fun a w=>∃ k:Nat,k≤c.length∧NowP w0 S0 κ0 K NR X0 (stP r s ev ch m (schedM s m (c.take k) []) (lastT (c.take k)) (ltC c k)) a w) (fun a _=>c.length - cnt a 61) ⟨0,zfQ _,h⟩ ?_)
 rintro a w ⟨k,hk,hn⟩
 have hc0:cnt a 61=k:=by rw [hn.cnt (n:=(k:Int)) rfl]; simp
 generalize hM:schedM s m (c.take k) []=Mk at hn; generalize hg:lastT (c.take k)=g at hn; refine wp_seq (rpStep Stable.none rp_r13 (re13 r s ev ch c m Mk g _ k) hn (fun a2 w2 h2=>?_)); refine wp_seq (wp_cond (h2.bool (b:=decide ((k:Int) < (List.map zag c).length)) rfl) ?_); by_cases hlt:k < c.length
 case neg=>rw [decide_eq_false (by simp; omega),iNs]; rw [zcG (by omega)] at hM hg; exact wp_exit (hQ _ _ (by rw [hM,hg]; exact h2.trim Stable.none [3,5,7,12,15,16,17] [] (by kernel_rfl)))
 rw [decide_eq_true (by simp; omega),if_pos rfl]; refine wp_skip ?_; have h3:=h2.trim Stable.none [3,5,7,12,15,16,17,59,60,61] [] (st':=stP r s ev ch m Mk g (ltC c k)) (by kernel_rfl)
 have hnM:schedM s m (c.take (k+1)) []=addL (scopeL s m c[k]) c[k].Stamp.Time Mk:=by rw [zk9 hlt,← hM]; unfold schedM; rw [zqY]; rfl
 have hng:lastT (c.take (k+1))=if g < c[k].Stamp.Time then c[k].Stamp.Time else g:=by rw [zk9 hlt,← hg]; unfold lastT; rw [zqY]; rfl
 have t14:=re14 r s ev ch c m Mk g (List.map zag c).length k; rw [cPQ,zeA,show ((k:Int)).toNat=k from rfl,zau hlt,zaS] at t14; generalize c[k]=x at hnM hng t14; refine wp_seq (wp_block (wp_seq (rpStep Stable.none rp_r14 t14 h3 (fun a4 w4 h4=>?_)))); refine wp_seq (rpStep Stable.none rp_r15 (re15 r s ev ch c m Mk g _ k x) h4 (fun a5 w5 h5=>?_)); have t16:=re16 r s ev ch c m Mk (if x.Stamp.Time > g then x.Stamp.Time else g) (List.map zag c).length k x; rw [zw7 hs.scripts (by have:=hs.seeds; omega) m hm x,zes] at t16; refine wp_seq (rpStep Stable.none rp_r16 t16 h5 (fun a6 w6 h6=>?_))
 have hsl:(scopeL s m x).length≤1000:=by unfold scopeL; rw [zaq]; have:=zoB (scopeB s m x) s.Scripts; have:=hs.scripts.1; omega
 refine rp_scope (c:=c) (i:=(k:Int)) (x:=x) (sc:=scopeL s m x) hsl h6 (fun a7 w7 h7=>?_); have t21:=re21 r s ev ch c m (addL (scopeL s m x) x.Stamp.Time Mk) (if x.Stamp.Time > g then x.Stamp.Time else g) (List.map zag c).length k; rw [w6Q] at t21; refine rpStep Stable.none rp_r21 t21 h7 (fun a8 w8 h8=>⟨⟨k+1,hlt,?_⟩,?_⟩)
 · rw [hnM,hng]; exact h8
 · have:cnt a8 61=k+1:=by rw [h8.cnt (n:=(k:Int)+1) rfl]; omega
   show c.length - cnt a8 61 < c.length - cnt a 61; omega
theorem rp_marks {s:zak} {ev:List zab} {m:zaG} (hm:m.Given.length≤1000000) {M:List (Int×Int)} {g:Int} {sd:List (Int×Bool)} {bl:List Int} {i id:Int}
  (h:NowP w0 S0 κ0 K NR X0 ⟨[s39 ev,(15,.loc 15 2 0 0),(16,.map 58),(17,I g),(22,.map 88),(24,I id),(93,.row 93 1 0 (List.map zaf bl).length),(94,I (List.map zaf bl).length),(95,I i)],(stQ ev m M g sd bl i []).m⟩ a w) {Q:Exit→Act→World→Prop}
  (hQ:∀ ks a' w',(∀ k,k∈ks↔marksB m id k=true∧(mfind k sd).getD false=false)→NowP w0 S0 κ0 K NR X0 (stQ ev m (addL ks g M) g sd bl i []) a' w'→Q .normal a' w'):(Code.seq (.region 26 (rpO 26) false) (.block 6 (.loop (.seq (.region 27 (rpO 27) false) (.seq (.cond (.tmp 104) .skip (.exit 6)) (.block 7 (.seq (.region 28 (rpO 28) false) (.seq (.region 29 (rpO 29) (rpD 29)) (.cond (.tmp 110) (.region 30 (rpO 30) (rpD 30)) .skip))))))))).wp PR Q a w:=by
 refine wp_seq (wp_region ?_); have z26:(rpO 26).size=4:=by kernel_rfl
 rw [z26,show List.range 4=List.range' 0 3++[3] from rfl]; have t26:=re26 ev m M g sd bl (List.map zaf bl).length i id; rw [zul m id hm,zgH] at t26; generalize hkv:setM (markL m id) []=kv at t26; refine segP Stable.none rp_hb rp_n rp_r26 t26 (by rw [z26]; decide) h (fun a1 w1 h1=>?_); have h2:=(h1.trim Stable.none [101,3,15,16,17,22,93,94,95] [] (st':=⟨(101,.map 101) :: (stQ ev m M g sd bl i []).t,(stQ ev m M g sd bl i []).m++[(101,⟨0,zbo,List.map za4 kv,false⟩)]⟩) (by kernel_rfl)).freeze Stable.none rp_n [101] (by kernel_rfl) (st':=⟨(101,.mp (List.map za4 kv)) :: (stQ ev m M g sd bl i []).t,(stQ ev m M g sd bl i []).m⟩) (by kernel_rfl); rw [wpOps_cons]; refine zuT (t:=68) (k:=3) (e:=4) (by unfold opIs; kernel_rfl) (by kernel_rfl) (by decide) h2 (m:=101) (d:=102) rfl (fun a3 w3 r q en clock h3=>?_); have h4:=h3.trim Rng.stable [3,15,16,17,22,93,94,95,102] [] (st':=stQ ev m (addL (keysV kv sd []) g M) g sd bl i [(102,.v (.pointer (some ⟨r,0,none⟩)))]) (by kernel_rfl); refine zuV (it:=102) (d1:=103) (d2:=104) (r:=r) (stf:=fun done=>stQ ev m (addL (keysV kv sd done) g M) g sd bl i [(102,.v (.pointer (some ⟨r,0,none⟩)))]) [3,15,16,17,22,93,94,95,102] (by kernel_rfl) (by unfold opIs; kernel_rfl) (by unfold opIs; kernel_rfl) (by decide) (by decide) (fun _=>rfl) (fun _ _ _=>by kernel_rfl) ?_ h4 ?_
 · intro done j k v hd hdl hjd hk a w hn
   have hj:j < kv.length:=by have:=(zbH.1 hk).1; simpa using this
   have hkj:=zau hj; rw [zcQ,hkj] at hk; simp only [keysV_snoc kv sd done hkj]; generalize kv[j]=p at hk hkj ⊢; obtain ⟨ky,b⟩:=p; simp only [zde,zaU,za4,zbq,and_true] at hk; obtain ⟨rfl,rfl⟩:=hk; generalize keysV kv sd done=ks at hn ⊢; refine wp_block (wp_seq (wp_region ?_)); have z28:(rpO 28).size=3:=by kernel_rfl
   rw [z28,show List.range 3=0 :: (List.range' 1 2++[]) from rfl,wpOps_cons]; refine zuD (by unfold opIs; kernel_rfl) (by decide) hn (it:=102) (d:=105) rfl (by rw [zcQ,hkj]; rfl) (fun a1 w1 h1=>?_); have h2:=h1.trim Rng.stable [3,15,16,17,22,93,94,95,102,105] [] (st':=stQ ev m (addL ks g M) g sd bl i [(102,.v (.pointer (some ⟨r,0,none⟩))),(105,.tup [I ky,B b])]) (by kernel_rfl); refine segP Rng.stable rp_hb rp_n rp_r28 (re28 ev m (addL ks g M) g sd bl _ i ⟨r,0,none⟩ ky b) (by rw [z28]; decide) h2 (fun a3 w3 h3=>?_); have h4:=h3.trim Rng.stable [3,15,16,17,22,25,93,94,95,102] [] (st':=stQ ev m (addL ks g M) g sd bl i [(102,.v (.pointer (some ⟨r,0,none⟩)))] |> at25 ky) (by kernel_rfl); have t29:=re29 ev m (addL ks g M) g sd bl (List.map zaf bl).length i ⟨r,0,none⟩ ky; rw [zh1] at t29; refine wp_seq (rpStep Rng.stable rp_r29 t29 h4 (fun a5 w5 h5=>?_)); refine wp_cond (h5.bool (b:=!(mfind ky sd).getD false) rfl) ?_
   cases hsd:(mfind ky sd).getD false with
   | true=>rw [iNs]; rw [hsd] at h5; refine wp_skip ⟨rfl,?_⟩; rw [if_pos rfl,zmY]; exact h5.trim Rng.stable [3,15,16,17,22,93,94,95,102] [] (by kernel_rfl)
   | false=>rw [if_pos (by simp)]; rw [hsd] at h5; have h6:=h5.trim Rng.stable [3,15,16,17,22,25,93,94,95,102] [] (st':=stQ ev m (addL ks g M) g sd bl i [(102,.v (.pointer (some ⟨r,0,none⟩)))] |> at25 ky) (by kernel_rfl); have t30:=re30 ev m (addL ks g M) g sd bl (List.map zaf bl).length i ⟨r,0,none⟩ ky; rw [c_add,zhb] at t30; refine rpStep Rng.stable rp_r30 t30 h6 (fun a7 w7 h7=>⟨rfl,?_⟩); rw [iNs,zBK]; exact h7
 · intro done hd hdl hall a' w' hn; refine hQ (keysV kv sd done) a' w' (fun k=>?_) (hn.trim Rng.stable [3,15,16,17,22,93,94,95] [] (by kernel_rfl)).drop; rw [mem_keysV (fun i hi=>by simpa using hdl i hi) (fun i hi=>hall i (by simpa using hi)),← hkv,← zzn]; refine and_congr_left' ?_; constructor
   · intro hk
     cases hf:mfind k (setM (markL m id) []) with
     | none=>exact absurd hk (zl3.1 hf)
     | some b =>
       rw [zse] at hf; simp only [mfind] at hf; split at hf
       · injection hf with hf; rw [← hf]; rfl
       · cases hf
   · intro hk; apply zq1; intro hn; rw [zl3.2 hn] at hk; cases hk
theorem rp_blamed {s:zak} {ev:List zab} {m:zaG} (hm:m.Given.length≤1000000) (hg:∀ n id,marksB m id n=true→∃ x∈s.Scripts,x.Number=n) {f:zaE→Option Int} {M:List (Int×Int)} (hM:Times s f M) {g:Int} (hf:∀ x∈s.Scripts,∀ a,f x=some a→a≤g) {sd:List (Int×Bool)} {bl:List Int} (hb:bl.length≤1000)
  (h:NowP w0 S0 κ0 K NR X0 (stQ ev m M g sd bl 0 []) a w) {Q:Exit→Act→World→Prop}
  (hQ:∀ M' a' w',Times s (fun x=>(f x).or (if bl.any (fun id=>marksB m id x.Number)=true∧(mfind x.Number sd).getD false=false then some g else none)) M'→NowP w0 S0 κ0 K NR X0 ⟨[s39 ev,(16,.map 58)],[e58 M']⟩ a' w'→Q .normal a' w'):(Code.block 4 (.loop (.seq (.region 24 (rpO 24) (rpD 24)) (.seq (.cond (.tmp 96) .skip (.exit 4)) (.seq (.block 5 (.seq (.region 25 (rpO 25) (rpD 25)) (.seq (.region 26 (rpO 26) false) (.block 6 (.loop (.seq (.region 27 (rpO 27) false) (.seq (.cond (.tmp 104) .skip (.exit 6)) (.block 7 (.seq (.region 28 (rpO 28) false) (.seq (.region 29 (rpO 29) (rpD 29)) (.cond (.tmp 110) (.region 30 (rpO 30) (rpD 30)) .skip))))))))))) (.region 31 (rpO 31) (rpD 31))))))).wp PR Q a w:=by
 refine wp_block (wp_loop (fun a w=>∃ (k:Nat) (M':List (Int×Int)),k≤bl.length∧Times s (fun x=>(f x).or (if (bl.take k).any (fun id=>marksB m id x.Number)=true∧(mfind x.Number sd).getD false=false then some g else none)) M'∧NowP w0 S0 κ0 K NR X0 (stQ ev m M' g sd bl k []) a w) (fun a _=>bl.length - cnt a 95) ⟨0,M,zfQ _,hM.congr (fun x hx=>by simp),h⟩ ?_)
 rintro a w ⟨k,M',hk,hT,hn⟩
 have hc0:cnt a 95=k:=by rw [hn.cnt (n:=(k:Int)) rfl]; simp
 refine wp_seq (rpStep Stable.none rp_r24 (re24 ev m M' g sd bl _ k) hn (fun a2 w2 h2=>?_)); refine wp_seq (wp_cond (h2.bool (b:=decide ((k:Int) < (List.map zaf bl).length)) rfl) ?_); by_cases hlt:k < bl.length
 case neg=>rw [decide_eq_false (by simp; omega),iNs]; rw [zcG (by omega)] at hT; exact wp_exit (hQ M' _ _ hT (h2.trim Stable.none [3,16] [15,88,93] (by kernel_rfl)))
 rw [decide_eq_true (by simp; omega),if_pos rfl]; refine wp_skip ?_; have h3:=h2.trim Stable.none [3,15,16,17,22,93,94,95] [] (st':=stQ ev m M' g sd bl k []) (by kernel_rfl); have t25:=re25 ev m M' g sd bl (List.map zaf bl).length k; rw [cPQ,zam (by simp; omega),zbX,zb9,show ((k:Int)).toNat=k from rfl,zau hlt,zaS] at t25; refine wp_seq (wp_block (wp_seq (rpStep Stable.none rp_r25 t25 h3 (fun a4 w4 h4=>?_)))); refine rp_marks (s:=s) hm h4 (fun ks a5 w5 hks h5=>?_); have t31:=re31 ev m (addL ks g M') g sd bl (List.map zaf bl).length k; rw [w6Q] at t31; refine rpStep Stable.none rp_r31 t31 h5 (fun a6 w6 h6=>⟨⟨k+1,addL ks g M',hlt,?_,h6⟩,?_⟩)
 · refine (hT.addL (l:=ks) (t:=g) (fun n hn=>hg n bl[k] ((hks n).1 hn).1) (fun x hx b hb=>?_)).congr (fun x hx=>?_)
   · cases hfx:f x with
     | some c=>rw [hfx] at hb; simp at hb; rw [← hb]; exact hf x hx c hfx
     | none =>
       rw [hfx,zgZ] at hb; split at hb
       · injection hb with hb; omega
       · cases hb
   · have hkx:=hks x.Number; rw [zk9 hlt,List.any_append]; simp only [List.any_cons,List.any_nil,Bool.or_false]
     cases f x with
     | some c=>rfl
     | none =>
       simp only [zgZ]; by_cases h1:(bl.take k).any (fun id=>marksB m id x.Number)=true∧(mfind x.Number sd).getD false=false
       · rw [if_pos h1]; simp [h1.1,h1.2]
       · rw [if_neg h1,zgZ]; by_cases h2:x.Number∈ks
         · have h3:=hkx.1 h2; rw [if_pos h2]; simp [h3.1,h3.2]
         · rw [if_neg h2,if_neg]
           rintro ⟨h3,h4⟩
           rcases Bool.or_eq_true_iff.1 h3 with h5 | h5
           · exact h1 ⟨h5,h4⟩
           · exact h2 (hkx.2 ⟨h5,h4⟩)
 · have:cnt a6 95=k+1:=by rw [h6.cnt (n:=(k:Int)+1) rfl]; omega
   show bl.length - cnt a6 95 < bl.length - cnt a 95; omega
theorem reopR_err {r:zaM} {q:za8} {s:zak} {ev:List zab} {l:List zai} (h:(zd5 r q s ev l).2≠0):reopR r q s ev l=([],(zd5 r q s ev l).2):=by
 unfold reopR zd5 at *; split
 · split
   · rename_i h1 h2; rw [if_pos h1,if_pos h2] at h; exact absurd rfl h
   · rfl
 · rfl
theorem reopR_ok {r:zaM} {q:za8} {s:zak} {ev:List zab} {l:List zai} (h:(zd5 r q s ev l).2=0):reopR r q s ev l=(reopS r q s ev (appS l).1,0)∧(appS l).2=0∧(zd5 r q s ev l).1=zet r q s ev (appS l).1:=by
 unfold reopR zd5 at *; split
 · rename_i h1; rw [if_pos h1] at h; split
   · rename_i h2; exact ⟨rfl,h2,rfl⟩
   · rename_i h2; rw [if_neg h2] at h; exact absurd h h2
 · rename_i h1; rw [if_neg h1] at h; cases h
theorem appS_bd {l:List zai} {a:zai} (h:a∈(appS l).1):0≤a.Stamp.Time:=by have:=(zuf.1 (appS_mem h)).2.1; unfold zeX at this; simp only [zcw] at this; obtain ⟨⟨h1,_⟩,_⟩:=this; unfold stampB at h1; simp only [decide_eq_true_eq] at h1; omega
theorem rp_body {r:zaM} {q:za8} {s:zak} {ev:List zab} {l:List zai} (hO:OkApp s ev l) (h:NowP w0 S0 κ0 K NR X0 ⟨[(0,.agg (zaP r)),(1,.agg (zbA q)),(2,.agg (zaj s)),s39 ev,(4,.sl 6 (List.map zag l))],[]⟩ a w):rpC.wp PR (PostC w0 S0 κ0 K NR .ret (if (zd5 r q s ev l).2≠0 then ⟨[(10,.v (.slice none 0 0)),(11,I (zd5 r q s ev l).2)],[]⟩ else ⟨[(10,.sl 9 (List.map zaa (reopS r q s ev (appS l).1))),(11,I 0)],[]⟩)) a w:=by
 have hs:=hO.1; rw [rp_shape]; refine wp_seq (rpStep Stable.none rp_r0 (re0 r q s ev l) h (fun a1 w1 h1=>?_)); have t1:=re1 r q s ev l; rw [c_Changed hO,znH] at t1; refine wp_seq (rpStep Stable.none rp_r1 t1 h1 (fun a2 w2 h2=>?_)); refine wp_seq (wp_seq (rpStep Stable.none rp_r2 (re2 r s ev l _ _) h2 (fun a3 w3 h3=>?_))); refine wp_cond (h3.bool (b:=(zd5 r q s ev l).2 != 0) rfl) ?_; by_cases hE:(zd5 r q s ev l).2=0
 case neg=>rw [if_pos (show ((zd5 r q s ev l).2 != 0)=true by simpa using hE),if_pos hE]; have h4:=h3.trim Stable.none [13] [5,7] (st':=⟨[(13,I (zd5 r q s ev l).2)],[]⟩) (by kernel_rfl); refine wp_seq (rpStep Stable.none rp_r3 (re3 _) h4 (fun a5 w5 h5=>?_)); refine wp_ret ⟨rfl,?_⟩; obtain ⟨S,κ,hg,_⟩:=h5; exact ⟨S,κ,hg⟩
 rw [if_neg (show ¬ ((zd5 r q s ev l).2 != 0)=true by simpa using hE),if_neg (by simpa using hE)]; refine wp_skip ?_; obtain ⟨_,hA,hch⟩:=reopR_ok hE; have h4:=h3.trim Stable.none [3,4,5,7,12] [] (st':=⟨[s39 ev,(4,.sl 6 (List.map zag l)),(5,.loc 5 3 0 0),(7,.loc 7 9 0 0),(12,.sl 1 (List.map zaf (zd5 r q s ev l).1))],[(5,⟨3,zaO,[zaP r],true⟩),(7,⟨9,zan,[zaj s],true⟩)]⟩) (by kernel_rfl); rw [hch] at h4; have hcas:=zEr (r:=r) (q:=q) hs ev (appS l).1; have hcfew:=zEs (r:=r) (q:=q) hs ev (appS l).1; have hc24:=zyR l; have hasc:=appS_asc l; have hpos:=fun a (ha:a∈(appS l).1)=>appS_bd ha
 unfold reopS; generalize zet r q s ev (appS l).1=ch at h4 hcas hcfew; have t4:=re4 r s ev l ch; rw [zpj hO.2.2.2,ze2] at t4; refine wp_seq (rpStep Stable.none rp_r4 t4 h4 (fun a5 w5 h5=>?_)); generalize appS l=ap at h5 hA hc24 hasc hpos; obtain ⟨c,e0⟩:=ap; simp only at hA hc24 hasc hpos; subst hA; refine wp_seq (wp_seq (rpStep Stable.none rp_r5 (re5 r s ev ch c 0) h5 (fun a6 w6 h6=>?_))); refine wp_cond (h6.bool (b:=false) rfl) ?_; rw [iNs]; refine wp_skip ?_; have h7:=h6.trim Stable.none [3,5,7,12,14] [] (st':=⟨[s39 ev,(5,.loc 5 3 0 0),(7,.loc 7 9 0 0),(12,.sl 1 (List.map zaf ch)),(14,.sl 6 (List.map zag c))],[(5,⟨3,zaO,[zaP r],true⟩),(7,⟨9,zan,[zaj s],true⟩)]⟩) (by kernel_rfl); have t7:=re7 r s ev ch c; rw [c_fold_d hs (few_ev hO),znJ] at t7; refine wp_seq (rpStep Stable.none rp_r7 t7 h7 (fun a8 w8 h8=>?_)); have hsm:=zuF hs (few_ev hO)
 have hgv:∀ n id,marksB (foldS s ev) id n=true→∃ x∈s.Scripts,x.Number=n:=fun n id hb=>by obtain ⟨y,hy,e⟩:=ztZ.1 hb; simp only [zcw,beq_iff_eq] at e; rw [← e.2]; exact zDS (zqf hs hy).1
 generalize foldS s ev=m at h8 hsm hgv; refine wp_seq (wp_seq (rpStep Stable.none rp_r8 (re8 r s ev ch c m 0) h8 (fun a9 w9 h9=>?_))); refine wp_cond (h9.bool (b:=false) rfl) ?_; rw [iNs]; refine wp_skip ?_; have h10:=h9.trim Stable.none [3,5,7,12,14,15] [] (st':=⟨[s39 ev,(5,.loc 5 3 0 0),(7,.loc 7 9 0 0),(12,.sl 1 (List.map zaf ch)),(14,.sl 6 (List.map zag c)),(15,.loc 15 2 0 0)],[(5,⟨3,zaO,[zaP r],true⟩),(7,⟨9,zan,[zaj s],true⟩),e15 m]⟩) (by kernel_rfl); refine wp_seq (rpStep Stable.none rp_r10 (re10 r s ev ch c m) h10 (fun a11 w11 h11=>?_)); refine wp_seq (rpStep Stable.none rp_r11 (re11 r s ev ch c m) h11 (fun a12 w12 h12=>?_)); refine wp_seq (wp_seq (rpStep Stable.none rp_r12 (re12 r s ev ch c m 0) h12 (fun a13 w13 h13=>?_))); refine rp_appeals hs hsm.1 hc24 h13 (fun a14 w14 h14=>?_); have hT:=zyi hs m hasc
 have hlast:∀ x∈s.Scripts,∀ a,timeS s m c x=some a→a≤lastT c:=fun x hx a ha=>by obtain ⟨y,hy,_,rfl⟩:=timeS_mem ha; exact (lastT_ge c 0).2 y hy
 have t22:=re22 r s ev ch c m (schedM s m c []) (lastT c); rw [c_seeds s (by have:=hs.seeds; omega),zgH] at t22; refine wp_seq (rpStep Stable.none rp_r22 t22 h14 (fun a15 w15 h15=>?_)); have t23:=re23 r s ev ch c m (schedM s m c []) (lastT c) (setM (s.Seeds.map (·.Script)) []); rw [c_blamed r hs m hsm.1 ch (hcas.imp fun h e=>by omega) (by omega),zkB] at t23; refine wp_seq (wp_seq (rpStep Stable.none rp_r23 t23 h15 (fun a16 w16 h16=>?_)))
 have hbl:(zhZ r s m ch).length≤1000:=by unfold zhZ; rw [zaq]; have:=zoB (fun x:zbk=>x.Level == 1 && decide (r.Fails≤(ch.filter (marksB m x.ID)).length)) s.Markers; have:=hs.markers.1; omega
 refine rp_blamed (s:=s) hsm.1 hgv hT hlast hbl h16 (fun M' a17 w17 hM' h17=>?_)
 have hM2:Times s (reopT s m c (zhZ r s m ch)) M':=hM'.congr (fun x hx=>by
  unfold reopT; rw [zzu]
  cases timeS s m c x with
  | some t=>rfl
  | none =>
    simp only [zgZ]
    cases (seedOf s.Seeds x.Number).isSome <;> cases (zhZ r s m ch).any (fun id=>marksB m id x.Number) <;> rfl)
 have t32:=re32 ev M'; rw [c_open hs hM2,ziY] at t32; refine wp_seq (rpStep Stable.none rp_r32 t32 h17 (fun a18 w18 h18=>?_)); have hfew:=zzc hO (reopT s m c (zhZ r s m ch)); have holen:=znr s (reopT s m c (zhZ r s m ch)); have h60:=hs.scripts.1; have hev:=hO.2.1; have hol:=zuO (schedL s (reopT s m c (zhZ r s m ch))); generalize openS (schedL s (reopT s m c (zhZ r s m ch)))=o at h18 hfew hol ⊢; have t33:=re33 ev o; rw [c_with ev o (by omega) (by omega),ziY] at t33; rw [show cw zbG [AV.sl 9 (List.map zaa (ev++o))] []=some (zek (canonS (ev++o),0)) from c_canon false hfew,zgP] at t33; refine wp_seq (wp_seq (rpStep Stable.none rp_r33 t33 h18 (fun a19 w19 h19=>?_))); refine wp_seq (rpStep Stable.none rp_r34 (re34 o 0) h19 (fun a20 w20 h20=>?_)); refine wp_cond (h20.bool (b:=false) rfl) ?_; rw [iNs]; refine wp_skip ?_; have h21:=h20.trim Stable.none [26] [] (st':=⟨[(26,.sl 9 (List.map zaa o))],[]⟩) (by kernel_rfl); refine wp_seq (rpStep Stable.none rp_r36 (re36 o) h21 (fun a22 w22 h22=>?_)); refine wp_ret ⟨rfl,?_⟩; obtain ⟨S,κ,hg,_⟩:=h22; exact ⟨S,κ,hg⟩
end
theorem zET:CallOK zP (single zc5 zOrc):=by
 intro f args ms r ms' h; unfold single at h; split at h
 case isFalse=>cases h
 rename_i hf; subst hf
 cases ms with
 | cons a m =>
   have hz:zOrc zc5 args (a :: m)=none:=by unfold zOrc; simp (decide:=true) only [if_false,if_true]
   rw [hz] at h; cases h
 | nil =>
 have hz:zOrc zc5 args []=zpr args:=by unfold zOrc; simp (decide:=true) only [if_false,if_true]
 rw [hz] at h; clear hz; unfold zpr at h; split at h
 case isFalse=>cases h
 rename_i hex; have hsp:=hex.choose_spec.choose_spec.choose_spec.choose_spec.choose_spec; generalize hex.choose_spec.choose_spec.choose_spec.choose_spec.choose=l at h hsp; generalize hex.choose_spec.choose_spec.choose_spec.choose=ev at h hsp; generalize hex.choose_spec.choose_spec.choose=s at h hsp; generalize hex.choose_spec.choose=q at h hsp; generalize hex.choose=r0 at h hsp; obtain ⟨rfl,hO⟩:=hsp; injection h with h; injection h with h1 h2; subst h1 h2; refine ⟨rp_enters,fun w S κ vals hvl hS hv hms hinj=>?_⟩; have hf:za5.P.funcs[zc5]?=some za5.fn:=by kernel_rfl
 refine zle (args:=argR r0 q s ev l) (frz:=false) (ex:=.ret) hf rp_hb (show 5≤za5.fn.ntmps by decide) hvl hS hv hms hinj (fun id=>by simp) (fun a hg=>?_) (st:=if (zd5 r0 q s ev l).2≠0 then ⟨[(10,.v (.slice none 0 0)),(11,I (zd5 r0 q s ev l).2)],[]⟩ else ⟨[(10,.sl 9 (List.map zaa (reopS r0 q s ev (appS l).1))),(11,I 0)],[]⟩) ?_ ?_ ?_
 · obtain ⟨S,κ,hg⟩:=hg; exact rp_body hO ⟨S,κ,hg,trivial⟩
 · by_cases hE:(zd5 r0 q s ev l).2=0
   · rw [if_neg (by simpa using hE),(reopR_ok hE).1]; kernel_rfl
   · rw [if_pos hE,reopR_err hE]; kernel_rfl
 · split <;> kernel_rfl
 · kernel_rfl
theorem zz6 {r:zaM} {q:za8} {s:zak} {ev:List zab} {l:List zai} (hO:OkApp s ev l):cw zc5 [.agg (zaP r),.agg (zbA q),.agg (zaj s),.sl 9 (List.map zaa ev),.sl 6 (List.map zag l)] []=some (zek (reopR r q s ev l)):=by
 refine zft zET ?_; show zOrc zc5 (argR r q s ev l) []=_
 have hz:zOrc zc5 (argR r q s ev l) []=zpr (argR r q s ev l):=by unfold zOrc; simp (decide:=true) only [if_false,if_true]
 rw [hz]; unfold zpr; have hex:∃ r' q' s' ev' l',argR r q s ev l=argR r' q' s' ev' l'∧OkApp s' ev' l':=⟨r,q,s,ev,l,rfl,hO⟩
 rw [dif_pos hex]; have hsp:=hex.choose_spec.choose_spec.choose_spec.choose_spec.choose_spec; generalize hex.choose_spec.choose_spec.choose_spec.choose_spec.choose=l' at hsp; generalize hex.choose_spec.choose_spec.choose_spec.choose=ev' at hsp; generalize hex.choose_spec.choose_spec.choose=s' at hsp; generalize hex.choose_spec.choose=q' at hsp; generalize hex.choose=r' at hsp; have h1:=hsp.1; unfold argR at h1; simp only [zbq,AV.agg.injEq,AV.sl.injEq,true_and,and_true] at h1; obtain ⟨g1,g2,g3,g4,g5⟩:=h1; have e1:r=r':=zjd.inj g1; have e2:q=q':=zlS.inj g2; have e3:s=s':=zlT.inj g3; have e4:ev=ev':=ev_inj g4; have e5:l=l':=Eq.mp (TyD.minj zbE) g5; subst e1 e2 e3 e4 e5; rfl
end
set_option maxRecDepth 20000
theorem swap_mem {α:Type} {l:List α} {i k:Nat} (hi:i < l.length) (hk:k < l.length) (e:α):e∈((l.set i l[k]).set k l[i])↔e∈l:=by
 constructor
 · intro h; obtain ⟨j,hj,rfl⟩:=zfB.1 h; rw [zmZ]; split
   · exact zbt hi
   · rw [zmZ]; split
     · exact zbt hk
     · exact zbt _
 · intro h; obtain ⟨j,hj,rfl⟩:=zfB.1 h; by_cases h1:j=i
   · subst h1; exact zfB.2 ⟨k,by simpa using hk,by rw [zmZ,if_pos rfl]⟩
   · by_cases h2:j=k
     · subst h2; exact zfB.2 ⟨i,by simpa using hi,by rw [zmZ,if_neg h1,zmZ,if_pos rfl]⟩
     · exact zfB.2 ⟨j,by simpa using hj,by rw [zmZ,if_neg (Ne.symm h2),zmZ,if_neg (Ne.symm h1)]⟩
theorem c_Shuffled (d:zac) (l:List zab) (hd:DOk d) (hl:l.length≤1000):∃ (r:List zab) (d':zac),cw zjL [.loc 1000 2 0 0,.sl 9 (List.map zaa l)] (mD d)=some (zhg (r,d'))∧(∀ e,e∈r↔e∈l)∧r.length≤2*l.length∧DOk d':=by
 let Q:AV×Mem→Prop:=fun y=>∃ (r:List zab) (d':zac),y=zhg (r,d')∧(∀ e,e∈r↔e∈l)∧r.length≤2*l.length∧DOk d'
 have loop2:∀ (n i:Nat) (xs:List zab) (d:zac) (q:Nat),i+n=l.length→(∀ e,e∈xs↔e∈l)→xs.length≤l.length+i→DOk d→q=xs.length→Sat Q (ze6 l (List.map zaa xs) d q i):=by
  intro n
  induction n with
  | zero=>intro i xs d q hi hm hx hd hq; refine sat_of (fun y=>zmM _ _ _ _ _) ?_; rw [zaq,zaW (by omega),zam (by simp; omega),zcG (by simp; omega)]; exact zuX ⟨xs,d,rfl,hm,by omega,hd⟩
  | succ n ih =>
    intro i xs d q hi hm hx hd hq; have hlt:i < l.length:=by omega
    refine sat_of (fun y=>zmM _ _ _ _ _) ?_; obtain ⟨v,d1,e1,hd1⟩:=zmx d 4 hd (by omega); rw [zaq,zaC (by omega),e1,zbR]
    cases v with
    | true=>rw [zaZ,cPQ,zbf,zbW,zau hlt,zaS,zam (by simp; omega),zam (by simp only [zaq]; omega),zam rfl]; refine sat_of (fun y=>zqp _ _ _ _ _ _) ?_; rw [w6Q,show ((i:Int)+1)=((i+1:Nat):Int) by omega,zcS zaa]; refine ih (i+1) (xs++[l[i]]) d1 _ (by omega) (fun e=>?_) (by simp; omega) hd1 (by simp); rw [zb3,zcV,hm e]; exact ⟨fun h=>h.elim id (fun h=>h▸zbt hlt),.inl⟩
    | false=>rw [zaB]; refine sat_of (fun y=>zpC _ _ _ _ _) ?_; rw [w6Q,show ((i:Int)+1)=((i+1:Nat):Int) by omega]; exact ih (i+1) xs d1 q (by omega) hm (by omega) hd1 hq
 have loop1:∀ (n:Nat) (i:Int) (xs:List zab) (d:zac),i+1=n→i < l.length→xs.length=l.length→(∀ e,e∈xs↔e∈l)→DOk d→Sat Q (zgx l (List.map zaa xs) d i):=by
  intro n
  induction n with
  | zero=>intro i xs d hi hil hx hm hd; refine sat_of (fun y=>zmL _ _ _ _) ?_; rw [zaW (by omega)]; exact loop2 l.length 0 xs d _ (by omega) hm (by omega) hd (by simp [hx])
  | succ n ih =>
    intro i xs d hi hil hx hm hd; refine sat_of (fun y=>zmL _ _ _ _) ?_; by_cases h0:0 < i
    case neg=>rw [zaW (by omega)]; exact loop2 l.length 0 xs d _ (by omega) hm (by omega) hd (by simp [hx])
    obtain ⟨r,d1,e1,hr0,hr1,hd1⟩:=zcc d (i+1) hd (by omega); have hrk:r.toNat < xs.length:=by omega
    have hik:i.toNat < xs.length:=by omega
    have hc:∀ z:Int,z < (l.length:Int)→z < (((List.map zaa l).length:Nat):Int):=fun z hz=>by rw [zaq]; exact hz
    rw [zaC h0,w6Q,e1,zaX,zam hr0,zam (hc _ (by omega)),zb9,zbW,zau hrk,zaS,cPQ,zam (hc _ (by omega)),zb9,zbW,zau hik,zaS,cPQ,zam (hc _ (by omega)),zbW,zau hik,zaS,zam hr0,zam (hc _ (by omega)),zgk,zbW,zau (show r.toNat < (xs.set i.toNat xs[r.toNat]).length by simpa using hrk),zaS,zgk,w6Q]; exact ih (i - 1) _ d1 (by omega) (by omega) (by simpa using hx) (fun e=>(swap_mem hik hrk e).trans (hm e)) hd1
 obtain ⟨y,e1,r,d',rfl,h⟩:=loop1 l.length (l.length - 1) l d (by omega) (by omega) rfl (fun _=>Iff.rfl) hd; refine ⟨r,d',zuv _ _ ?_,h⟩; rw [zam (by simp only [zaq]; omega),zam rfl,zaq,w6Q]; exact e1
theorem c_Rule (d:zac) (hd:DOk d):∃ (q:za8) (d':zac),cw zm4 [.loc 1000 2 0 0] (mD d)=some (znb (q,d'))∧chkR q=0∧DOk d':=by
 obtain ⟨b,d1,h1,hd1⟩:=zmx d 2 hd (by omega); obtain ⟨n,d2,h2,h0,h3,hd2⟩:=zcc d1 3 hd1 (by omega); refine ⟨⟨b,n⟩,d2,zy3 d ?_,?_,hd2⟩
 · simp only [h1,h2,zbR,zaX]; rfl
 · unfold chkR; rw [if_neg (by show ¬ n < 0; omega),if_neg (by show ¬ 40 < n; omega)]
theorem zDz (d:zac) (hd:DOk d):∃ (r:zaM) (d':zac),cw ziK [.loc 1000 2 0 0] (mD d)=some (ziR (r,d'))∧chkA r=0∧DOk d':=by
 obtain ⟨a,d1,h1,ha,hd1⟩:=c_Pick d [1000,100,0] hd (by simp) (by simp); obtain ⟨n,d2,h2,n0,n1,hd2⟩:=zcc d1 2 hd1 (by omega); obtain ⟨k,d3,h3,k0,k1,hd3⟩:=zcc d2 3 hd2 (by omega); refine ⟨⟨a,1+n,k⟩,d3,zsA d ?_,?_,hd3⟩
 · rw [h1,zaX]; simp only; rw [h2,zaX]; simp only; rw [h3,zaX,w6Q]; rfl
 · unfold chkA; have:a=1000∨a=100∨a=0:=by simpa using ha
   exact if_pos (by dsimp only; omega)
theorem c_Appeals (d:zac) (s:zak) (hd:DOk d) (hs:DSetup s):∃ (l:List zai) (d':zac),cw zkF [.loc 1000 2 0 0,.agg (zaj s),I 5] (mD d)=some (zhM (l,d'))∧l.length≤10∧DOk d':=by
 have hm1:=hs.markers.1; have hm2:=hs.markers.2.1
 let Q:AV×Mem→Prop:=fun y=>∃ (l:List zai) (d':zac),y=zhM (l,d')∧l.length≤10∧DOk d'
 have loop:∀ (n i:Nat) (xs:List zai) (d:zac),i+n=5→xs.length≤2*i→DOk d→Sat Q (zfo s 5 (List.map zag xs) d i):=by
  intro n
  induction n with
  | zero=>intro i xs d hi hx hd; refine sat_of (fun y=>znu _ _ _ _ _) ?_; rw [zaW (by omega),cPQ,ziE]; exact zuX ⟨xs,d,rfl,by omega,hd⟩
  | succ n ih =>
    intro i xs d hi hx hd
    have next:∀ (a:zai) (d:zac),DOk d→Sat Q (zfG s 5 (List.map zag xs) i a d):=by
     intro a d hd; have hraw:List.map zag xs++[[AV.v (Go.Value.int IntKind.i64 a.Stamp.Time),AV.v (Go.Value.int IntKind.i64 a.Stamp.Source),AV.v (Go.Value.int IntKind.i64 a.Stamp.Seq),AV.v (Go.Value.int IntKind.i64 a.Kind),AV.v (Go.Value.int IntKind.i64 a.Candidate),AV.v (Go.Value.int IntKind.i64 a.Marker)]]=List.map zag (xs++[a]):=by rw [← zcS zag]; rfl
     obtain ⟨b,d1,e1,hd1⟩:=zmx d 5 hd (by omega); refine sat_of (fun y=>zrE _ _ _ _ _ _) ?_; rw [hraw,zam rfl,zam (by simp only [zaq]; omega),zam rfl,e1,zbR,zcS zag]; simp only; rw [w6Q,show ((i:Int)+1)=((i+1:Nat):Int) by omega]
     cases b with
     | false=>rw [zaB]; exact ih (i+1) (xs++[a]) d1 (by omega) (by simp; omega) hd1
     | true =>
       obtain ⟨v,d2,e2,h0,h1,hd2⟩:=zcc d1 ((List.map zag (xs++[a])).length:Int) hd1 (by simp only [zaq,zeU,zmV]; omega); have hv:v.toNat < (xs++[a]).length:=by simp only [zaq,zeU,zmV] at h1 ⊢; omega
       rw [zaZ,e2,zaX]; simp only; rw [zam h0,zam (by simp only [zaq,zeU,zmV] at h1 ⊢; omega),zb9,zeA,zau hv,zaS]; simp only [zbz]; rw [zam (by simp only [zaq,zeU,zmV]; omega),zcS zag]; exact ih (i+1) (xs++[a]++[(xs++[a])[v.toNat]]) d2 (by omega) (by simp; omega) hd2
    obtain ⟨u,d1,e1,u0,u1,hd1⟩:=zcc d 200 hd (by omega); obtain ⟨v,d2,e2,v0,v1,hd2⟩:=zcc d1 3 hd1 (by omega); obtain ⟨b,d3,e3,hd3⟩:=zmx d2 4 hd2 (by omega); refine sat_of (fun y=>znu _ _ _ _ _) ?_; rw [zaC (by omega),e1,zaX]; simp only; rw [e2,zaX]; simp only; rw [e3,zbR]
    cases b with
    | true =>
      obtain ⟨k,d4,e4,k0,k1,hd4⟩:=zcc d3 ((List.map zbh s.Markers).length:Int) hd3 (by rw [zaq]; omega); have hk:k.toNat < s.Markers.length:=by rw [zaq] at k1; omega
      rw [zaZ,e4,zaX]; simp only; rw [zam k0,zeB,zau hk,zaS]; exact next _ _ hd4
    | false=>obtain ⟨k,d4,e4,k0,k1,hd4⟩:=zcc d3 4 hd3 (by omega); rw [zaB,e4,zaX]; exact next _ _ hd4
 obtain ⟨y,e1,l,d',rfl,h⟩:=loop 5 0 [] d (by omega) (by simp) hd; exact ⟨l,d',zvy d s 5 e1,h⟩
theorem c_SameList (a b:List zab) (ha:a.length≤1000000) (hp:∀ e∈a,e.Pages.length≤1000000):cw zm7 [.sl 9 (List.map zaa a),.sl 9 (List.map zaa b)] []=some (zas (dec (a=b))):=by
 refine zy9 a b ?_; by_cases h:a.length=b.length
 · simp only [zaq,h,bne_self_eq_false,zaB]; have H:=zlc a.length (fun j hj=>a[j]=b[j]'(by omega)) (fun i=>zin a b i) zas ?_ ?_ ?_
   · rw [H,zje]; exact ⟨fun hh=>zlP h (fun i h1 h2=>hh i h1),fun hh=>by subst hh; intros; rfl⟩
   · exact zlI _ _ _ (by simp (disch:=omega) only [zaq,zaW]; rfl)
   · intro i hi hn; refine zlI _ _ _ ?_; simp (disch:=omega) only [zaq,zaC,zam,zbf,zbW,zau hi,zau (show i < b.length by omega),zaS]; rw [zwc _ _ (hp _ (zbt hi)),zaw,zbY hn]; rfl
   · intro i hi y hn hk; refine zlI _ _ _ ?_; simp (disch:=omega) only [zaq,zaC,zam,zbf,zbW,zau hi,zau (show i < b.length by omega),zaS]; rw [zwc _ _ (hp _ (zbt hi)),zaw,zbN hn,zb6,zaB,w6Q]; exact hk
 · rw [zbY (fun hh=>h (by rw [hh]))]; simp only [zaq,show ((a.length:Int) != (b.length:Int))=true by simp only [bne_iff_ne,ne_eq]; omega,zaZ]; rfl
theorem c_same38 (a b:List zai) (ha:a.length≤1000000):cw zrj [.sl 6 (List.map zag a),.sl 6 (List.map zag b)] []=some (zas (dec (a=b))):=by
 refine zDL a b ?_; by_cases h:a.length=b.length
 · simp only [zaq,h,bne_self_eq_false,zaB]; have H:=zlc a.length (fun j hj=>a[j]=b[j]'(by omega)) (fun i=>zl1 a b i) zas ?_ ?_ ?_
   · rw [H,zje]; exact ⟨fun hh=>zlP h (fun i h1 h2=>hh i h1),fun hh=>by subst hh; intros; rfl⟩
   · exact zo6 _ _ _ (by simp (disch:=omega) only [zaq,zaW]; rfl)
   · intro i hi hn; refine zo6 _ _ _ ?_; simp (disch:=omega) only [zaq,zaC,zam,zbf,zeA,zau hi,zau (show i < b.length by omega),zaS]; rw [ap_ne,decide_eq_false hn]; rfl
   · intro i hi y hn hk; refine zo6 _ _ _ ?_; simp (disch:=omega) only [zaq,zaC,zam,zbf,zeA,zau hi,zau (show i < b.length by omega),zaS]; rw [ap_ne,decide_eq_true hn,zb6,zaB,w6Q]; exact hk
 · rw [zbY (fun hh=>h (by rw [hh]))]; simp only [zaq,show ((a.length:Int) != (b.length:Int))=true by simp only [bne_iff_ne,ne_eq]; omega,zaZ]; rfl
def rv (a b c d:Int):zai:=⟨⟨a,b,c⟩,0,d,0⟩
theorem c_review (a b c d:Int):cw zgi [I a,I b,I c,I d] []=some (zo3 (rv a b c d)):=zBy a b c d rfl
def inTime (r:zaM) (p:Int) (l:List zai):List zai:=l.filter fun a=>stampB a.Stamp && decide (0≤p∧p≤1000000∧p≤a.Stamp.Time∧a.Stamp.Time - p≤r.Days)
theorem c_InTime (r:zaM) (p:Int) (l:List zai) (hl:l.length≤1000000):cw znN [.agg (zaP r),I p,.sl 6 (List.map zag l)] []=some (zkZ (inTime r p l)):=by
 refine zAi r p l ?_; by_cases h0:0≤p∧p≤1000000
 case neg =>
  have e:inTime r p l=[]:=by unfold inTime; rw [List.filter_eq_nil_iff.2 (fun x _=>by simp; omega)]
  rw [e]; by_cases h1:p < 0
  · rw [zaC h1]; rfl
  · rw [zaW h1,zaC (by omega)]; rfl
 rw [zaW (by omega),zaW (by omega)]; refine zcn l (fun i rest=>∀ out:List zai,(out.length:Int)≤i→zeM r p l (List.map zag out) i=some (zkZ (out++inTime r p rest))) ?_ ?_ [] (by simp)
 · intro out ho; refine zp3 _ _ _ _ _ ?_; rw [zaq,zaW (by omega),zam rfl]; unfold inTime; rw [zoA,zmY]; rfl
 · intro i hi rest _ ih out ho; refine zp3 _ _ _ _ _ ?_; rw [zaq,zaC (by omega),cPQ,zbf,zeA,zau hi,zaS,zra,zaw,zam rfl,zam (by rw [zaq]; omega),zam rfl,w64_id (show -9223372036854775808≤(i:Int)+1 by omega) (by omega)]; unfold inTime at ih ⊢; rw [zgb]; generalize l[i]=a
   cases hs:stampB a.Stamp with
   | false=>rw [zaB,zjb,iNs]; exact ih out (by omega)
   | true =>
     have ht:0≤a.Stamp.Time∧a.Stamp.Time≤1000000:=by unfold stampB at hs; simp only [decide_eq_true_eq] at hs; exact hs.1
     rw [zaZ,zhn,w6Q]; by_cases h1:p≤a.Stamp.Time
     · by_cases h2:a.Stamp.Time - p≤r.Days
       · rw [zaC h1,zaC h2,if_pos (by simp; omega)]; have:=ih (out++[a]) (by simp; omega); rw [zi9,zt4,zga] at this; exact this
       · rw [zaC h1,zaW h2,if_neg (by simp; omega)]; exact ih out (by omega)
     · rw [zaW h1,if_neg (by simp; omega)]; exact ih out (by omega)
def S38:zak:=⟨[],[⟨7,0,7,3,0,[],[]⟩,⟨8,0,8,3,0,[],[]⟩],[],[],[],⟨0,0,0,0⟩⟩
theorem okS38:zju S38.Scripts:=by
 refine ⟨by decide,fun x hx=>?_,fun j hj=>?_⟩
 · have:x=⟨7,0,7,3,0,[],[]⟩∨x=⟨8,0,8,3,0,[],[]⟩:=by simpa [S38] using hx
   unfold zmS; rcases this with rfl | rfl <;> simp
 · have:j=0:=by simp only [S38,zgc,zqR] at hj; omega
   subst this; show (7:Int) < 8; omega
theorem c_sane38:cw znR [] []=some (zas true):=by
 refine zDM ?_; simp only [c_review,zwd]; have h1:appS [rv 5 3 0 7,rv 5 3 0 7,rv 2 3 1 8]=([rv 2 3 1 8,rv 5 3 0 7],0):=by kernel_rfl
 have h2:scopeL S38 ⟨[],[]⟩ (rv 5 3 0 7)=[7]:=by kernel_rfl
 have h3:scopeL S38 ⟨[],[]⟩ (rv 5 4 0 7)=[]:=by kernel_rfl
 have h4:inTime ⟨3,0,0⟩ 2 [rv 2 3 1 8,rv 5 3 0 7]=[rv 2 3 1 8,rv 5 3 0 7]:=by kernel_rfl
 have h5:zeX (rv 2 3 1 8)=true:=by kernel_rfl
 rw [zpj (l:=[rv 5 3 0 7,rv 5 3 0 7,rv 2 3 1 8]) (by simp),h1,ze2]; have e1:=zw7 okS38 (by decide) ⟨[],[]⟩ (by simp) (rv 5 3 0 7); have e2:=zw7 okS38 (by decide) ⟨[],[]⟩ (by simp) (rv 5 4 0 7); rw [h2] at e1; rw [h3] at e2; unfold S38 at e1 e2; rw [e1,zes,e2,zes,c_InTime _ _ _ (by simp),h4,zvs]; rw [cPQ,zeA,show ([rv 2 3 1 8,rv 5 3 0 7]:List zai)[Int.toNat 0]?=some (rv 2 3 1 8) from rfl,zaS]; rw [cPQ,zbX,show ([7]:List Int)[Int.toNat 0]?=some 7 from rfl,zaS]; rw [cPQ,zeA,show ([rv 2 3 1 8,rv 5 3 0 7]:List zai)[Int.toNat 0]?=some (rv 2 3 1 8) from rfl,zaS,zyS,h5,zaw,c_ACheck,za3]; rfl
set_option maxRecDepth 20000
theorem zwz {s:zak} {a b:List zab} (h:∀ e,e∈a↔e∈b):foldS s a=foldS s b:=by rw [zxa,zxa,canon_same (stays_set h)]
theorem zCL {r:zaM} {q:za8} {s:zak} {a b:List zab} (h:∀ e,e∈a↔e∈b) (c:List zai):zet r q s a c=zet r q s b c:=by
 have hU:∀ t,foldS s (untilS a t)=foldS s (untilS b t):=fun t=>zwz fun e=>by unfold untilS; rw [zgO,zgO,h]
 unfold zet; simp only [hU]; rw [zwz (a:=a++openS (zeZ s c)) (b:=b++openS (zeZ s c)) (fun e=>by rw [zb3,zb3,h])]
theorem reopR_same {r:zaM} {q:za8} {s:zak} {a b:List zab} (h:∀ e,e∈a↔e∈b) {l m:List zai} (hl:appS l=appS m):reopR r q s a l=reopR r q s b m:=by unfold reopR reopS; rw [hl,zwz h,zCL h]
theorem reop_few {r:zaM} {q:za8} {s:zak} (hs:zbP s) (ev:List zab) (l:List zai):(reopR r q s ev l).1.length≤60∧∀ e∈(reopR r q s ev l).1,e.Pages.length≤1000000:=by
 unfold reopR; split
 · split
   · unfold reopS; refine ⟨?_,fun e he=>by rw [zAR he]; simp⟩; have h1:=zuO (schedL s (reopT s (foldS s ev) (appS l).1 (zhZ r s (foldS s ev) (zet r q s ev (appS l).1)))); have h2:=znr s (reopT s (foldS s ev) (appS l).1 (zhZ r s (foldS s ev) (zet r q s ev (appS l).1))); have h3:=hs.scripts.1; simp only; omega
   · simp
 · simp
theorem appS_ok {l:List zai} (h:l.length≤24):(appS l).2=0:=by unfold appS; have h1:=zz1 l; have h2:=zz2 l; rw [iNQ]
theorem zAG (t:List Int):cw zop [.sl 1 (List.map zaf t)] []=some (zas true):=by
 refine zvx t ?_; rw [c_Light,zaw]; by_cases ht:(t.length:Int)≤600
 case neg=>rw [decide_eq_false ht,zdE,zaZ,c_sane38,zaw]; rfl
 rw [decide_eq_true ht,zb6,zaB,c_Roll,zAa]; obtain ⟨s,d1,e1,hs,hd1⟩:=c_Setup ⟨t,0⟩ ⟨by simp,by show t.length≤600; omega⟩; obtain ⟨a,d2,e2,ha,hpa,hd2⟩:=c_Full d1 s 20 hd1 hs; obtain ⟨b,d3,e3,hb,hpb,hd3⟩:=c_Events d2 s 20 hd2 hs (by omega); obtain ⟨l,d4,e4,hl,hd4⟩:=c_Appeals d3 s hd3 hs; rw [e1,ztm]; simp only; rw [e2,znI]; simp only; rw [e3,znI]; simp only
 have hev:OkApp s (a++b) l:=⟨hs.ok,by rw [zeU]; omega,fun e he=>by
  rcases zb3.1 he with h | h
  · have:=hpa e h; omega
  · have:=hpb e h; omega,by omega⟩
 rw [cPQ,zam trivial,ziE,zam (by simp only [zaq]; omega),zam trivial,e4,zrI]; simp only; rw [zaq,w6Q]
 have loop:∀ (n:Nat) (i:Int) (xs:List zai),i+1=n→i < l.length→(∀ x∈xs,x∈l)→(xs.length:Int)+i < l.length→zgV (s,d1) (a,d2) (b,d3) (l,d4) (List.map zag xs) i=some (zas true):=by
  intro n
  induction n with
  | zero =>
    intro i xs hi hil hx hlen; refine znt _ _ _ _ _ _ ?_; obtain ⟨r,d5,e5,hr,hd5⟩:=zDz d4 hd4; obtain ⟨q,d6,e6,hq,hd6⟩:=c_Rule d5 hd5; obtain ⟨z,d7,e7,hz,hzl,hd7⟩:=c_Shuffled d6 (a++b) hd6 (by rw [zeU]; omega)
    have hback:∀ x,x∈xs++l↔x∈l:=fun x=>by rw [zb3]; exact ⟨fun h=>h.elim (hx x) id,.inr⟩
    have hevz:OkApp s z (xs++l):=⟨hs.ok,by have:=hev.2.1; rw [zeU] at this hzl; omega,fun e he=>hev.2.2.1 e ((hz e).1 he),by rw [zeU]; omega⟩
    have same:=appS_same hback; have sameR:reopR r q s z (xs++l)=reopR r q s (a++b) l:=reopR_same hz same; have hok:=appS_ok (l:=l) (by omega)
    have hrk:(reopR r q s (a++b) l).2=0:=by unfold reopR; rw [if_pos ⟨hr,hq⟩,if_pos hok]
    have hfew:=reop_few (r:=r) (q:=q) hs.ok (a++b) l; rw [zaW (by omega)]; simp only [← zga,ziE]; rw [zam trivial,zam (by simp only [zaq]; omega),zam trivial,e5,zpK]; simp only; rw [e6,zup]; simp only; rw [cPQ,zz6 hev,zgP,cPQ,cPQ,cPQ,e7,zrc]; simp only; rw [zz6 hevz,zgP,zpj hev.2.2.2,ze2,zpj hevz.2.2.2,ze2,sameR,same,hrk,hok,c_SameList _ _ (by omega) hfew.2,zaw,zbN rfl,c_same38 _ _ (by have:=zyR l; omega),zaw,zbN rfl,c_sane38,zaw]; rfl
  | succ n ih =>
    intro i xs hi hil hx hlen; have hi2:i.toNat < l.length:=by omega
    refine znt _ _ _ _ _ _ ?_; rw [zaC (by omega),cPQ,zeA,zau hi2,zaS,zam rfl,zam (by simp only [zaq]; omega),zam rfl,zcS zag,w6Q]; refine ih (i - 1) _ (by omega) (by omega) (fun x hm=>?_) (by simp; omega); rcases zb3.1 hm with h | h
    · exact hx x h
    · rw [zcV.1 h]; exact zbt hi2
 exact loop l.length _ [] (by omega) (by omega) (by simp) (by simp; omega)
end Go.Proofs.YtlecnobdfhlmnaaGreat
namespace Go.Ab
open Go.RowKit
abbrev Old (w:World):Nat→Prop:=fun g=>g < w.heap.size
def Rd (P:Program) (w:World) (t:TypeId) (n:Nat) {T:Type} (nT:T→List AV):Prop:=
 P.cellsOf t=n∧(∀ v,(nT v).length=n)∧∀ (H:Type) (enc:TypeId×Value→H) (base:Nat) (spare:Nat→Bool) (held:Bool) (fuel:Nat) (cs:List Value) (x:DataW H×List MemPlace),DataW.trod enc P w base spare held fuel t cs=some x→∃ v:T,cs.length=n∧∀ (j:Nat) (c:AV) (y:Value),(nT v)[j]?=some c→cs[j]?=some y→CRel (Old w) w c y∧y.oneCell'=true
theorem rd_int {P:Program} {w:World} {t:TypeId} {k:IntKind} (hc:P.cellsOf t=1) (ht:P.underlying t=some (.int k)):Rd P w t 1 (fun n:Int=>[AV.v (.int k n)]):=by
 refine ⟨hc,fun _=>rfl,fun H enc base spare held fuel cs x h=>?_⟩; obtain ⟨n,rfl,_,_⟩:=DataW.trod_int ht h; refine ⟨n,rfl,fun j c y h1 h2=>?_⟩
 cases j with
 | zero=>simp at h1 h2; subst h1; subst h2; exact ⟨.v _,rfl⟩
 | succ j=>simp at h1
theorem list_of {T:Type} {R:Nat→T→Prop}:∀ n:Nat,(∀ i,i < n→∃ v,R i v)→∃ l:List T,l.length=n∧∀ i v,l[i]?=some v→R i v
 | 0,_=>⟨[],rfl,fun i v h=>by simp at h⟩
 | n+1,h=>by
   obtain ⟨l,h1,h2⟩:=list_of n (fun i hi=>h i (by omega)); obtain ⟨v,hv⟩:=h n (by omega); refine ⟨l++[v],by simp [h1],fun i u hu=>?_⟩; by_cases hi:i < n
   · rw [zow (by omega)] at hu; exact h2 i u hu
   · have hlt:=(zbH.1 hu).1; simp at hlt; have:i=l.length:=by omega
     subst this; rw [List.getElem?_append_right (by omega)] at hu; simp at hu; subst hu; rw [h1]; exact hv
theorem rd_slice {P:Program} {w:World} {t e:TypeId} {n:Nat} {T:Type} {nT:T→List AV} (hc:P.cellsOf t=1) (ht:P.underlying t=some (.slice e)) (hn:0 < n) (he:Rd P w e n nT):Rd P w t 1 (fun l:List T=>[AV.sl n (l.map nT)]):=by
 refine ⟨hc,fun _=>rfl,fun H enc base spare held fuel cs x h=>?_⟩
 have done:∀ (l:List T) (y:Value),CRel (Old w) w (.sl n (l.map nT)) y→y.oneCell'=true→∃ v:List T,[y].length=1∧∀ (j:Nat) (c:AV) (z:Value),[AV.sl n (v.map nT)][j]?=some c→[y][j]?=some z→CRel (Old w) w c z∧z.oneCell'=true:=by
  intro l y hy h1; refine ⟨l,rfl,fun j c z hj hz=>?_⟩
  cases j with
  | zero=>simp at hj hz; subst hj; subst hz; exact ⟨hy,h1⟩
  | succ j=>simp at hj
 rcases DataW.trod_slice ht h with ⟨rfl,_⟩ | ⟨a,len,cap,elems,rest,m,rfl,rfl,_,hb,hl,_,hlen,hel,_,_⟩
 · exact done [] _ (CRel.nil_sl n) rfl
 · have each:∀ i,i < len→∃ v:T,a.block < w.heap.size∧∀ (j:Nat) (c:AV),(nT v)[j]?=some c→∃ y,w.cell? (a.add (i*n+j))=some y∧CRel (Old w) w c y∧y.oneCell'=true:=by
    intro i hi; have h1:=hel i hi; rw [zau (by omega),he.1] at h1; obtain ⟨cs',h2,h3⟩:=Option.bind_eq_some_iff.1 h1; obtain ⟨v,h4,h5⟩:=he.2.2 H enc base spare held m cs' _ h3; obtain ⟨h6,h7,h8⟩:=World.cells?_some h2; have hblk:=World.cells?_block h2 hn; rw [zjv] at hblk; refine ⟨v,hblk,fun j c hj=>?_⟩; have hjn:j < n:=by have:=(zbH.1 hj).1; rw [he.2.1] at this; exact this
    have h9:=h8 j hjn; rw [Go.Addr.add_add] at h9; have h10:cs'[j]?=some (cs'[j]'(by omega)):=zau (by omega); refine ⟨cs'[j]'(by omega),by rw [h9,h10],h5 j c _ hj h10⟩
   obtain ⟨l,hll,hlr⟩:=list_of len each; refine done l _ (.sl n _ (some a) len cap (fun i j=>(w.cell? (a.add (i*n+j))).getD undef) (by simp; omega) hl (fun cs hcs=>by obtain ⟨v,_,rfl⟩:=zce.1 hcs; exact he.2.1 v) ?_ ?_) rfl
   · cases l with
     | nil=>left; rfl
     | cons v l'=>right; refine ⟨a,rfl,(hlr 0 v rfl).1,fun i j cs c h1 h2=>?_⟩; rw [zcQ] at h1; obtain ⟨u,hu,rfl⟩:=zf7.1 h1; obtain ⟨y,hy,hr,ho⟩:=(hlr i u hu).2 j c h2; rw [hy]; exact ⟨rfl,ho⟩
   · intro i j cs c h1 h2; rw [zcQ] at h1; obtain ⟨u,hu,rfl⟩:=zf7.1 h1; obtain ⟨y,hy,hr,ho⟩:=(hlr i u hu).2 j c h2; rw [hy]; exact hr
theorem arg_cell {P:Program} {w:World} {t:TypeId} {T:Type} {f:T→AV} (hr:Rd P w t 1 (fun v=>[f v])) {H:Type} {enc:TypeId×Value→H} {base:Nat} {spare:Nat→Bool} {held:Bool} {y:Value} (hy:y.cells.toList=[y]) {d:DataW H} {ps:List MemPlace}
  (h:DataW.Trod enc P w base spare held t y d ps) {κ:Kap} {D:Nat→Prop}:∃ v:T,VRel (Old w) κ D w (f v) y:=by
 obtain ⟨fuel,hf⟩:=h; rw [hy] at hf; obtain ⟨v,_,h2⟩:=hr.2.2 H enc base spare held fuel _ _ hf; exact ⟨v,.c (h2 0 _ _ rfl rfl).1⟩
end Go.Ab
end
