/- console.Parse by hand: words are read into the places of an operation. -/
import Derived.Test.YtdclabgakicjeaaGreatDoorJ0
import Derived.Test.YtdclabgakicjeaaGreatDoorXAnn
import Derived.Test.YtdclabgakicjeaaGreatDoorXCs
import Derived.Test.YtdclabgakicjeaaGreatDoorAb2
import Derived.Shelf.Strings.BuilderF
import Derived.Shelf.Strings.OnBuilder
import Derived.Lib.BufferOwn
import Derived.Test.YtdclabgakicjeaaGreatDoorK0
import Derived.Test.YtdclabgakicjeaaGreatDoorRows
import Derived.Test.YtdclabgakicjeaaGreatDoorXSp
import Derived.Lib.LaidTab
import Derived.OpenShut
import Derived.MakeChecks
set_option linter.unusedSimpArgs false
set_option linter.unusedVariables false
set_option linter.unusedSectionVars false
noncomputable section
namespace Go.Proofs.YtdclabgakicjeaaGreatDoor
open Go.Ab Go.Str
set_option maxRecDepth 100000
def pzC:Code:=(zar.fn.body).getD .skip
def pzO (j:Nat):Array Oper:=opsAt j pzC
def pzD (j:Nat):Bool:=zlJ j pzC
theorem pz_hb:zar.fn.body=some pzC:=by kernel_rfl
theorem pz_shape:pzC=(.seq (.region 0 (pzO 0) (pzD 0)) (.seq (.region 1 (pzO 1) (pzD 1)) (.seq (.seq (.region 2 (pzO 2) false) (.block 0 (.loop (.seq (.region 3 (pzO 3) (pzD 3)) (.seq (.cond (.tmp 14) .skip (.exit 0)) (.seq (.block 1 (.seq (.region 4 (pzO 4) (pzD 4)) (.seq (.seq (.region 5 (pzO 5) (pzD 5)) (.cond (.tmp 22) (.exit 1) .skip)) (.seq (.seq (.region 6 (pzO 6) (pzD 6)) (.cond (.tmp 27) (.seq (.region 7 (pzO 7) (pzD 7)) .ret) .skip)) (.seq (.region 8 (pzO 8) (pzD 8)) (.seq (.seq (.region 9 (pzO 9) false) (.block 2 (.loop (.seq (.region 10 (pzO 10) (pzD 10)) (.seq (.cond (.tmp 35) .skip (.exit 2)) (.seq (.block 3 (.seq (.region 11 (pzO 11) (pzD 11)) (.seq (.region 12 (pzO 12) (pzD 12)) (.cond (.tmp 46) (.seq (.region 13 (pzO 13) (pzD 13)) .ret) .skip)))) (.region 14 (pzO 14) (pzD 14)))))))) (.seq (.region 15 (pzO 15) (pzD 15)) .ret))))))) (.region 16 (pzO 16) (pzD 16)))))))) (.seq (.region 17 (pzO 17) (pzD 17)) .ret)))):=by kernel_rfl
theorem pz_r0:regOf 0 pzC=some (.region 0 (pzO 0) (pzD 0)):=by kernel_rfl
theorem pz_r1:regOf 1 pzC=some (.region 1 (pzO 1) (pzD 1)):=by kernel_rfl
theorem pz_r2:regOf 2 pzC=some (.region 2 (pzO 2) false):=by kernel_rfl
theorem pz_r3:regOf 3 pzC=some (.region 3 (pzO 3) (pzD 3)):=by kernel_rfl
theorem pz_r4:regOf 4 pzC=some (.region 4 (pzO 4) (pzD 4)):=by kernel_rfl
theorem pz_r5:regOf 5 pzC=some (.region 5 (pzO 5) (pzD 5)):=by kernel_rfl
theorem pz_r6:regOf 6 pzC=some (.region 6 (pzO 6) (pzD 6)):=by kernel_rfl
theorem pz_r7:regOf 7 pzC=some (.region 7 (pzO 7) (pzD 7)):=by kernel_rfl
theorem pz_r8:regOf 8 pzC=some (.region 8 (pzO 8) (pzD 8)):=by kernel_rfl
theorem pz_r9:regOf 9 pzC=some (.region 9 (pzO 9) false):=by kernel_rfl
theorem pz_r10:regOf 10 pzC=some (.region 10 (pzO 10) (pzD 10)):=by kernel_rfl
theorem pz_r11:regOf 11 pzC=some (.region 11 (pzO 11) (pzD 11)):=by kernel_rfl
theorem pz_r12:regOf 12 pzC=some (.region 12 (pzO 12) (pzD 12)):=by kernel_rfl
theorem pz_r13:regOf 13 pzC=some (.region 13 (pzO 13) (pzD 13)):=by kernel_rfl
theorem pz_r14:regOf 14 pzC=some (.region 14 (pzO 14) (pzD 14)):=by kernel_rfl
theorem pz_r15:regOf 15 pzC=some (.region 15 (pzO 15) (pzD 15)):=by kernel_rfl
theorem pz_r16:regOf 16 pzC=some (.region 16 (pzO 16) (pzD 16)):=by kernel_rfl
theorem pz_r17:regOf 17 pzC=some (.region 17 (pzO 17) (pzD 17)):=by kernel_rfl
theorem pz_n:zar.fn.ntmps≤1000:=by decide
theorem pz_enters:enters zar.P zbP=true:=by kernel_rfl
theorem view_put {S:Nat→Prop} {κ:Kap} {D D':Nat→Prop} {w:World} {kb:Option (Nat×Nat)} {W g c:Nat} {e:TypeId} (hW:W < 12) (hk:κ 7=some (g,c)) (hd:D' 7) (h:EntAt S κ D w kb ⟨2,e,List.map zaf (slotsS W g),false⟩):EntAt S κ D' w kb ⟨2,e,tsP W,true⟩:=by
 refine h.boxed (by decide) (fun q=>slots_ne hW (by unfold slotsS at q; simpa using q)) (by unfold tsP slotsS; simp) (fun cs hcs=>?_) (fun i j cs cs' a' hi hi' hj=>?_)
 · unfold tsP at hcs; obtain ⟨p,_,rfl⟩:=List.mem_map.1 hcs; split <;> rfl
 · unfold tsP at hi'; unfold slotsS at hi; rw [List.getElem?_map] at hi'; rw [List.map_map,List.getElem?_map] at hi
   cases hp:(slotsC W)[i]? with
   | none=>rw [hp] at hi'; cases hi'
   | some p =>
     obtain ⟨b,off⟩:=p; rw [hp] at hi hi'; injection hi with hi; injection hi' with hi'; subst hi; subst hi'
     have hv:VRel S κ D' w (.loc 7 31 0 off) (.pointer (some ⟨g,off,none⟩)):=by
      have:=VRel.loc (S:=S) (w:=w) 7 31 0 off g c hd hk
      rwa [Nat.zero_mul,Nat.zero_add] at this
     cases b with
     | false =>
       match j,hj with
       | 0,hj=>injection hj with hj; subst hj; exact ⟨_,rfl,fun u hu=>by cases hu; exact hv⟩
       | 1,hj=>injection hj with hj; subst hj; exact ⟨_,rfl,fun u hu=>.c hu⟩
       | j+2,hj=>simp at hj
     | true =>
       match j,hj with
       | 0,hj=>injection hj with hj; subst hj; exact ⟨_,rfl,fun u hu=>.c hu⟩
       | 1,hj=>injection hj with hj; subst hj; exact ⟨_,rfl,fun u hu=>by cases hu; exact hv⟩
       | j+2,hj=>simp at hj
section
variable {w0:World} {S0:Nat→Prop} {κ0:Kap} {K:Nat→Prop} {a:Act} {w:World}
theorem pzStep {j:Nat} {st st':St} (hr:regOf j pzC=some (.region j (pzO j) (pzD j))) (ht:tReg zar zT j st=some st')
  (h:NowP w0 S0 κ0 K zar.fn.ntmps X0 st a w) {Q:Exit→Act→World→Prop} (hQ:∀ a' w',NowP w0 S0 κ0 K zar.fn.ntmps X0 st' a' w'→Q .normal a' w'):(Code.region j (pzO j) (pzD j)).wp zar.P Q a w:=stepP Stable.none pz_hb pz_n hr ht h hQ
abbrev stR (r:Option GOp):St:=⟨[(2,AV.loc 2 31 0 0),(3,I (match r with | some _=>0 | none=>7))],[(2,⟨31,zag,[match r with | some o=>nGOp o | none=>nilOp],true⟩)]⟩
abbrev stL (ws:List ByteArray) (c:GOp) (W:Nat) (i:Int):St:=⟨[(2,AV.loc 2 31 0 0),(4,AV.sl 1 (List.map nStr ws)),(7,AV.loc 7 31 0 0),(32,AV.row 32 2 0 (slotsC W).length),(33,I (slotsC W).length),(34,I i)],[(2,⟨31,zag,[nilOp],true⟩),(7,⟨31,zag,[nGOp c],true⟩),(32,⟨2,zae,tsP W,true⟩)]⟩
abbrev pzBody:Code:=.seq (.region 11 (pzO 11) (pzD 11)) (.seq (.region 12 (pzO 12) (pzD 12)) (.cond (.tmp 46) (.seq (.region 13 (pzO 13) (pzD 13)) .ret) .skip))
theorem pz_round (ws:List ByteArray) (W:Nat) (hW:W < 12) (i:Nat) (p:Bool×Nat) (hp:(slotsC W)[i]?=some p) (l:List UInt8) (hl:l.length < 4294967281) (hw:ws[i+1]?=some (tx l)) (c:GOp)
  (h:NowP w0 S0 κ0 K zar.fn.ntmps X0 (stL ws c W i) a w) {Q:Exit→Act→World→Prop}
  (hok:∀ c',read1 c p l=some c'→∀ a' w',NowP w0 S0 κ0 K zar.fn.ntmps X0 (stL ws c' W i) a' w'→Q .normal a' w')
  (hbad:read1 c p l=none→∀ a' w',NowP w0 S0 κ0 K zar.fn.ntmps X0 (stR none) a' w'→Q .ret a' w'):pzBody.wp zar.P Q a w:=by
 have hil:i < (slotsC W).length:=(List.getElem?_eq_some_iff.1 hp).1; have hs7:=zi2 W; have t11:=pz11 W i p hp c ws (slotsC W).length; rw [cPQ,cPQ] at t11; refine wp_seq (pzStep pz_r11 t11 h (fun a1 w1 h1=>?_)); have hi1:(w64 ((i:Int)+1)).toNat=i+1:=by rw [w6Q]; omega
 have hi0:(0:Int)≤w64 ((i:Int)+1):=by rw [w6Q]; omega
 obtain ⟨pl,off⟩:=p
 cases pl with
 | false =>
   have t12:=pz12n c ws W hW (slotsC W).length i off; rw [zai hi0,zdJ,hi1,hw,Option.bind_some,read_n (slots_n hp),zgM] at t12; refine wp_seq (pzStep pz_r12 t12 h1 (fun a2 w2 h2=>?_)); refine wp_cond (h2.bool (b:=!(numR l).2) rfl) ?_; unfold numR at h2 ⊢
   cases hn:numS l with
   | some n=>rw [hn] at h2; simp only; rw [Bool.not_true,iNs]; exact wp_skip (hok (putN n off c) (by simp [read1,hn]) _ _ (h2.trim Stable.none [2,4,7,32,33,34] [] (by kernel_rfl)))
   | none=>simp only; rw [Bool.not_false,if_pos rfl]; rw [hn] at h2; have h3:=h2.trim Stable.none [2] [7,32] (st':=⟨[(2,AV.loc 2 31 0 0)],[(2,⟨31,zag,[nilOp],true⟩)]⟩) (by kernel_rfl); exact wp_seq (pzStep pz_r13 pz13 h3 (fun a4 w4 h4=>wp_ret (hbad (by simp [read1,hn]) a4 w4 h4)))
 | true =>
   have t12:=pz12l c ws W hW (slotsC W).length i off; rw [zai hi0,zdJ,hi1,hw,Option.bind_some,read_l (slots_l hp) c l hl,zgM] at t12; refine wp_seq (pzStep pz_r12 t12 h1 (fun a2 w2 h2=>?_)); refine wp_cond (h2.bool (b:=!(listR l).2) rfl) ?_; unfold listR at h2 ⊢
   cases hn:readL l with
   | some n=>rw [hn] at h2; simp only; rw [Bool.not_true,iNs]; exact wp_skip (hok (putL n off c) (by simp [read1,hn]) _ _ (h2.trim Stable.none [2,4,7,32,33,34] [] (by kernel_rfl)))
   | none=>simp only; rw [Bool.not_false,if_pos rfl]; rw [hn] at h2; have h3:=h2.trim Stable.none [2] [7,32] (st':=⟨[(2,AV.loc 2 31 0 0)],[(2,⟨31,zag,[nilOp],true⟩)]⟩) (by kernel_rfl); exact wp_seq (pzStep pz_r13 pz13 h3 (fun a4 w4 h4=>wp_ret (hbad (by simp [read1,hn]) a4 w4 h4)))
abbrev pzLoop:Code:=.loop (.seq (.region 10 (pzO 10) (pzD 10)) (.seq (.cond (.tmp 35) .skip (.exit 2)) (.seq (.block 3 pzBody) (.region 14 (pzO 14) (pzD 14)))))
theorem zti {p:Bool×Nat} {ps:List (Bool×Nat)} {w:List UInt8} {ws:List (List UInt8)} {c:GOp}:zbH (p :: ps) (w :: ws) c=(match read1 c p w with | some c'=>zbH ps ws c' | none=>none):=rfl
theorem pz_loop (hd:List UInt8) (tl:List (List UInt8)) (W:Nat) (hW:W < 12) (hlen:tl.length=(slotsC W).length) (hsm:∀ l∈tl,l.length < 4294967281)
  (h:NowP w0 S0 κ0 K zar.fn.ntmps X0 (stL ((hd :: tl).map tx) (blankS W) W 0) a w) {Q:Exit→Act→World→Prop}
  (hok:∀ o,zbH (slotsC W) tl (blankS W)=some o→∀ a' w',NowP w0 S0 κ0 K zar.fn.ntmps X0 ⟨[(2,AV.loc 2 31 0 0),(7,AV.loc 7 31 0 0)],[(2,⟨31,zag,[nilOp],true⟩),(7,⟨31,zag,[nGOp o],true⟩)]⟩ a' w'→Q .normal a' w')
  (hbad:zbH (slotsC W) tl (blankS W)=none→∀ a' w',NowP w0 S0 κ0 K zar.fn.ntmps X0 (stR none) a' w'→Q .ret a' w'):(Code.block 2 pzLoop).wp zar.P Q a w:=by
 have hs7:=zi2 W; refine wp_block (wp_loop (fun a w=>∃ k:Nat,k≤(slotsC W).length∧∃ c,zbH ((slotsC W).drop k) (tl.drop k) c=zbH (slotsC W) tl (blankS W)∧NowP w0 S0 κ0 K zar.fn.ntmps X0 (stL ((hd :: tl).map tx) c W k) a w) (fun a _=>(slotsC W).length - cnt a 34) ⟨0,Nat.zero_le _,blankS W,rfl,h⟩ ?_)
 rintro a w ⟨k,hk,c,hA,hn⟩
 have hc0:cnt a 34=k:=by rw [hn.cnt (n:=(k:Int)) rfl]; simp
 refine wp_seq (pzStep pz_r10 (pz10 c ((hd :: tl).map tx) W hW (slotsC W).length k) hn (fun a2 w2 h2=>?_)); refine wp_seq (wp_cond (h2.bool (b:=decide ((k:Int) < (slotsC W).length)) rfl) ?_); by_cases hlt:k < (slotsC W).length
 · rw [decide_eq_true (by omega),if_pos rfl]; refine wp_skip ?_; have h3:=h2.trim Stable.none [2,4,7,32,33,34] [] (st':=stL ((hd :: tl).map tx) c W k) (by kernel_rfl); have hp:(slotsC W)[k]?=some (slotsC W)[k]:=List.getElem?_eq_getElem hlt; have hkt:k < tl.length:=by omega
   have hw:((hd :: tl).map tx)[k+1]?=some (tx tl[k]):=by rw [List.map_cons,List.getElem?_cons_succ,List.getElem?_map,List.getElem?_eq_getElem hkt]; rfl
   have hstep:zbH ((slotsC W).drop k) (tl.drop k) c=(match read1 c (slotsC W)[k] tl[k] with | some c'=>zbH ((slotsC W).drop (k+1)) (tl.drop (k+1)) c' | none=>none):=by rw [List.drop_eq_getElem_cons hlt,List.drop_eq_getElem_cons hkt]; exact zti
   refine wp_seq (wp_block (pz_round _ W hW k _ hp tl[k] (hsm _ (List.getElem_mem hkt)) hw c h3 (fun c' hc' a4 w4 h4=>?_) (fun hb a4 w4 h4=>hbad (by rw [← hA,hstep,hb]) a4 w4 h4))); refine pzStep pz_r14 (pz14 c' _ W hW (slotsC W).length k) h4 (fun a5 w5 h5=>?_); rw [w6Q] at h5; refine ⟨⟨k+1,hlt,c',by rw [← hA,hstep,hc'],by exact_mod_cast h5⟩,?_⟩; have:cnt a5 34=k+1:=by rw [h5.cnt (n:=(k:Int)+1) rfl]; omega
   show (slotsC W).length - cnt a5 34 < (slotsC W).length - cnt a 34; omega
 · rw [decide_eq_false (by omega),iNs]; have hkl:k=(slotsC W).length:=by omega
   have hA':zbH (slotsC W) tl (blankS W)=some c:=by rw [← hA,hkl,List.drop_length]; rfl
   exact wp_exit (hok c hA' _ _ (h2.trim Stable.none [2,7] [32] (by kernel_rfl)))
theorem pz9 (ws:List ByteArray) (w:Int) (g7:Nat):tSeg zar zT 9 0 4 ⟨[(2,AV.loc 2 31 0 0),(4,AV.sl 1 (List.map nStr ws)),(5,I w),(7,AV.v (.pointer (some ⟨g7,0,none⟩)))],[(2,⟨31,zag,[nilOp],true⟩)]⟩=(callD zaV (cw zdE [I w,AV.v (.pointer (some ⟨g7,0,none⟩))] []) fun (r0:(List zaM))=>some ⟨[(34,I 0),(33,I (List.length (List.map zaf r0))),(32,.row 32 2 0 (List.length (List.map zaf r0))),(31,I w),(2,AV.loc 2 31 0 0),(4,AV.sl 1 (List.map nStr ws)),(5,I w),(7,AV.v (.pointer (some ⟨g7,0,none⟩)))],[(32,⟨2,zae,List.map zaf r0,false⟩),(2,⟨31,zag,[nilOp],true⟩)]⟩):=by kernel_rfl
theorem pz_mid (ws:List ByteArray) (c:GOp) (W:Nat) (hW:W < 12)
  (h:NowP w0 S0 κ0 K zar.fn.ntmps X0 ⟨[(2,AV.loc 2 31 0 0),(4,AV.sl 1 (List.map nStr ws)),(5,I W),(7,AV.loc 7 31 0 0)],[(2,⟨31,zag,[nilOp],true⟩),(7,⟨31,zag,[nGOp c],true⟩)]⟩ a w) {Q:Exit→Act→World→Prop} {rest:Code}
  (hQ:∀ a' w',NowP w0 S0 κ0 K zar.fn.ntmps X0 (stL ws c W 0) a' w'→rest.wp zar.P Q a' w'):(Code.seq (.region 9 (pzO 9) false) rest).wp zar.P Q a w:=by
 obtain ⟨g7,c7,κd,hκd,hg7,h2⟩:=h.leave (B:=7) (k:=7) rfl (by decide) (by kernel_rfl) rfl; have hst7:=Away.stable (w0:=w0) (κ0:=κ0) (K:=K) (B:=7) (e:=⟨31,zag,[nGOp c],true⟩) hκd; have hany:Stable X0:=Stable.none
 have h3:NowP w0 S0 κ0 K zar.fn.ntmps (fun S κ L w=>Away w0 κ0 K 7 ⟨31,zag,[nGOp c],true⟩ g7 κd S κ L w∧X0 S κ L w)
   ⟨[(2,AV.loc 2 31 0 0),(4,AV.sl 1 (List.map nStr ws)),(5,I W),(7,AV.v (.pointer (some ⟨g7,0,none⟩)))],[(2,⟨31,zag,[nilOp],true⟩)]⟩ a w:=by
  obtain ⟨S,κ,hg,hx⟩:=h2; have q1:=GoodS.set hg 7 (.v (.pointer (some ⟨g7,0,none⟩))) (by rw [hg7]; exact .c (.v _)); exact NowP.trim (hst7.both hany) ⟨S,κ,q1,hx,trivial⟩ [2,4,5,7] [] (by kernel_rfl)
 have z9:(pzO 9).size=4:=by kernel_rfl
 have t9:=pz9 ws (W:Nat) g7; rw [zns g7 hW,zbD] at t9; refine wp_seq (wp_region ?_); rw [z9,show List.range 4=List.range' 0 4++[] from rfl]; refine segP (hst7.both hany) pz_hb pz_n pz_r9 t9 (by rw [z9]; decide) h3 (fun a2 w2 h4=>?_); show rest.wp zar.P Q a2 w2; have h5:=h4.trim (hst7.both hany) [2,4,7,32,33,34] [] (by kernel_rfl) (st':=⟨[(2,AV.loc 2 31 0 0),(4,AV.sl 1 (List.map nStr ws)),(7,AV.v (.pointer (some ⟨g7,0,none⟩))),(32,.row 32 2 0 (List.length (List.map zaf (slotsS W g7)))),(33,I (List.length (List.map zaf (slotsS W g7)))),(34,I 0)],[(2,⟨31,zag,[nilOp],true⟩),(32,⟨2,zae,List.map zaf (slotsS W g7),false⟩)]⟩); obtain ⟨S,κ,hg,hk7,κ1,_⟩:=h5.back hκd (by decide) rfl; have e7:=(hg.slots 7).v_inv
 have q2:=GoodS.set hg 7 (.loc 7 31 0 0) (by
  rw [show a2.tmps.getD 7 undef=_ from e7]; have:=VRel.loc (S:=S) (κ:=κ) (D:=fun b=>(Ab.look ((7,(⟨31,zag,[nGOp c],true⟩:Ent)) :: (2,(⟨31,zag,[nilOp],true⟩:Ent)) :: [(32,(⟨2,zae,List.map zaf (slotsS W g7),false⟩:Ent))]) b).isSome=true) (w:=w2) 7 31 0 0 g7 c7 (by rfl) hk7
  exact this)
 have q4:=GoodS.reent q2 (B:=32) (ent':=⟨2,zae,tsP W,true⟩) rfl (view_put hW hk7 (by rfl) (hg.ents 32 _ rfl))
 exact hQ _ _ (NowP.trim Stable.none (X:=X0) ⟨S,κ,q4,trivial⟩ [2,4,7,32,33,34] [] (by
  unfold stL; rw [show (slotsC W).length=(List.map zaf (slotsS W g7)).length by unfold slotsS; simp]
  rfl))
theorem load_op {N:Nat} {ops:Array Oper} {Q:Exit→Act→World→Prop} {i d:Nat} {st:St} {X:Sat2} {K':Act→World→Prop} (ho:opIs ops i d (.load zbN (.global 0))) (hd:d < N) (h:NowP w0 S0 κ0 K N X st a w)
  (hK:∀ a',NowP w0 S0 κ0 K N X { st with t:=(d,.agg (zbl.map AV.v)) :: st.t } a' w→K' a' w):wpOp zP ops Q i K' a w:=by
 obtain ⟨S,κ,h1,h2⟩:=h; obtain ⟨o,o1,o2,o3,o4⟩:=ho.get; have hvs:VRel S κ (fun b=>(Ab.look st.m b).isSome=true) w (.fp (zbl.map AV.v)) (.pointer (some ⟨0,0,none⟩)):=.c (zrQ (Good.okw h1)); have hi:aLoad zP (fun _=>none) zbN (.fp (zbl.map AV.v))=some { val:=.agg (zbl.map AV.v) }:=by kernel_rfl
 obtain ⟨y,e1,e2,_⟩:=zlb (w:=w) hi hvs (fun b ent hb=>by cases hb); refine zjX (w':=w) (y:=y) o1 o4 ?_ ?_
 · have:(Instr.loadAt zbN (a.eval (.global 0))).run zP w=.ok y w:=e1; simp [execOp,o3,this]
 · rw [o2]; exact hK _ ⟨S,κ,h1.put hd _ _ e2,h2⟩
abbrev stO (ws:List ByteArray) (i:Int):St:=⟨[(2,AV.loc 2 31 0 0),(4,AV.sl 1 (List.map nStr ws)),(12,AV.agg (zbl.map AV.v)),(13,I i)],[(2,⟨31,zag,[nilOp],true⟩)]⟩
theorem pz2 (ws:List ByteArray):tSeg zar zT 2 1 1 ⟨[(12,AV.agg (zbl.map AV.v)),(2,AV.loc 2 31 0 0),(4,AV.sl 1 (List.map nStr ws))],[(2,⟨31,zag,[nilOp],true⟩)]⟩ =
  some ⟨[(13,I 0),(12,AV.agg (zbl.map AV.v)),(2,AV.loc 2 31 0 0),(4,AV.sl 1 (List.map nStr ws))],[(2,⟨31,zag,[nilOp],true⟩)]⟩:=by kernel_rfl
theorem zra (c:UInt8):∀ (l:List UInt8),∀ x∈splitC c l,x.length≤l.length
 | [],x,h=>by rw [show splitC c []=[[]] from rfl] at h; rw [List.mem_singleton.1 h]; exact Nat.le_refl _
 | b :: r,x,h=>by
   have ih:=zra c r; unfold splitC at h; split at h
   · rcases List.mem_cons.1 h with rfl | h
     · simp
     · exact Nat.le_succ_of_le (ih x h)
   · cases hr:splitC c r with
     | nil=>exact absurd hr (zgq c r)
     | cons a t =>
       rw [hr] at h ih; rcases List.mem_cons.1 h with rfl | h
       · have:=ih a List.mem_cons_self; simp; omega
       · exact Nat.le_succ_of_le (ih x (List.mem_cons_of_mem _ h))
theorem formOfK_eq {k:Nat} {hd:List UInt8} (hk:k < 12) (h1:∀ j < k,kw j≠hd) (h2:kw k=hd):zbn hd=k:=by
 unfold zbn
 have:(List.range 12).find? (fun w=>kw w == hd)=some k:=by rw [List.find?_range_eq_some]; refine ⟨by simp [h2],List.mem_range.2 hk,fun j hj=>by simp [h1 j hj]⟩
 rw [this]; rfl
theorem ztc {hd:List UInt8} (h:∀ j < 12,kw j≠hd):zbn hd=12:=by
 unfold zbn
 have:(List.range 12).find? (fun w=>kw w == hd)=none:=by rw [List.find?_range_eq_none]; exact fun j hj=>by simp [h j hj]
 rw [this]; rfl
theorem forms_get {k:Nat} (hk:k < 12):(formsT.map fun p=>(⟨tx p.1,p.2⟩:zcq))[k]?=some ⟨tx (kw k),(((slotsC k).length+1:Nat):Int)⟩:=by rcases lt12 hk with rfl | rfl | rfl | rfl | rfl | rfl | rfl | rfl | rfl | rfl | rfl | rfl <;> rfl
theorem pz_body {l:List UInt8} (hl:l.length < 4294967281) (h:NowP w0 S0 κ0 K zar.fn.ntmps X0 ⟨[(0,AV.v (.string (tx l)))],[]⟩ a w):pzC.wp zar.P (PostC w0 S0 κ0 K zar.fn.ntmps .ret (stR (parS l))) a w:=by
 have fin:∀ a' w',NowP w0 S0 κ0 K zar.fn.ntmps X0 (stR (parS l)) a' w'→PostC w0 S0 κ0 K zar.fn.ntmps .ret (stR (parS l)) .ret a' w':=fun a' w' hn=>by obtain ⟨S,κ,hg,_⟩:=hn; exact ⟨rfl,S,κ,hg⟩
 rw [pz_shape]; refine wp_seq (pzStep pz_r0 (pz0 (tx l)) h (fun a1 w1 h1=>?_)); have t1:=pz1 (tx l); rw [show (({ data:={ toList:=[32] } }:ByteArray))=tx [32] from rfl,c_Split hl,zdY] at t1; refine wp_seq (pzStep pz_r1 t1 h1 (fun a2 w2 h2=>?_)); have hsum:∀ x∈splitC 32 l,x.length < 4294967281:=fun x hx=>Nat.lt_of_le_of_lt (zra 32 l x hx) hl
 have hslen:=zh8 32 l; have hpar:parS l=(match splitC 32 l with | []=>none | k :: ws=>if zbn k < 12∧ws.length=(slotsC (zbn k)).length then zbH (slotsC (zbn k)) ws (blankS (zbn k)) else none):=rfl; have hne:=zgq 32 l; generalize splitC 32 l=wl at h2 hsum hslen hpar hne
 cases wl with
 | nil=>exact absurd rfl hne
 | cons hd tl =>
 simp only at hpar
 have h3:=h2.freeze Stable.none pz_n [11] rfl (st':=⟨[(2,AV.loc 2 31 0 0),(4,.sl 1 (List.map nStr ((hd :: tl).map tx)))],[(2,⟨31,zag,[nilOp],true⟩)]⟩) (by
  generalize List.map nStr ((hd :: tl).map tx)=xs
  simp [zbm,zhI,zfJ,zbE,snap,Ab.look])
 have z2:(pzO 2).size=2:=by kernel_rfl
 refine wp_seq (wp_seq (wp_region ?_)); rw [z2,show List.range 2=0 :: (List.range' 1 1++[]) from rfl,wpOps_cons]; refine load_op (d:=12) (by unfold opIs; kernel_rfl) (by decide) h3 (fun a4 h4=>?_); refine segP Stable.none pz_hb pz_n pz_r2 (pz2 ((hd :: tl).map tx)) (by rw [z2]; decide) h4 (fun a5 w5 h5=>?_); have h6:=h5.trim Stable.none [2,4,12,13] [] (st':=stO ((hd :: tl).map tx) 0) (by kernel_rfl); refine wp_block (wp_loop (fun a w=>∃ k:Nat,k≤12∧(∀ j < k,kw j≠hd)∧NowP w0 S0 κ0 K zar.fn.ntmps X0 (stO ((hd :: tl).map tx) k) a w) (fun a _=>12 - cnt a 13) ⟨0,Nat.zero_le _,fun j hj=>absurd hj (Nat.not_lt_zero j),h6⟩ ?_)
 rintro a w ⟨k,hk,hall,hn⟩
 have hc0:cnt a 13=k:=by rw [hn.cnt (n:=(k:Int)) rfl]; simp
 refine wp_seq (pzStep pz_r3 (pz3 ((hd :: tl).map tx) k) hn (fun a7 w7 h7=>?_)); refine wp_seq (wp_cond (h7.bool (b:=decide ((k:Int) < 12)) rfl) ?_); by_cases hlt:k < 12
 rotate_left
 · rw [decide_eq_false (by omega),iNs]; have hkl:k=12:=by omega
   subst hkl; have hF:=ztc hall; have hP:parS l=none:=by rw [hpar,if_neg (fun q=>by omega)]
   have h8:=h7.trim Stable.none [2] [] (st':=⟨[(2,AV.loc 2 31 0 0)],[(2,⟨31,zag,[nilOp],true⟩)]⟩) (by kernel_rfl); refine wp_exit (wp_seq (pzStep pz_r17 pz17 h8 (fun a9 w9 h9=>wp_ret ?_))); refine fin a9 w9 ?_; rw [hP]; exact h9
 rw [decide_eq_true (by omega),if_pos rfl]; refine wp_skip ?_; have h8:=h7.trim Stable.none [2,4,12,13] [] (st':=stO ((hd :: tl).map tx) k) (by kernel_rfl); have t4:=pz4 k hlt ((hd :: tl).map tx); rw [cPQ,cPQ,znA,show ((k:Nat):Int).toNat=k from rfl,forms_get hlt,Option.bind_some] at t4; refine wp_seq (wp_block (wp_seq (pzStep pz_r4 t4 h8 (fun a9 w9 h9=>?_)))); have t5:=pz5 ((hd :: tl).map tx) k (tx (kw k)) (((slotsC k).length+1:Nat):Int); rw [zai (by decide),zdJ,show Int.toNat 0=0 from rfl,List.map_cons,List.getElem?_cons_zero,Option.bind_some,tx_beq] at t5; refine wp_seq (wp_seq (pzStep pz_r5 t5 h9 (fun aA wA hA=>?_))); refine wp_cond (hA.bool (b:=!decide (kw k=hd)) rfl) ?_; by_cases hkw:kw k=hd
 rotate_left
 · rw [decide_eq_false hkw,Bool.not_false,if_pos rfl]; have hB:=hA.trim Stable.none [2,4,12,13] [6] (st':=stO ((hd :: tl).map tx) k) (by kernel_rfl); refine wp_exit ?_; refine pzStep pz_r16 (pz16 ((hd :: tl).map tx) k) hB (fun aC wC hC=>?_); rw [w6Q] at hC; refine ⟨⟨k+1,hlt,fun j hj=>?_,by exact_mod_cast hC⟩,?_⟩
   · rcases Nat.lt_succ_iff_lt_or_eq.1 hj with q | q
     · exact hall j q
     · rw [q]; exact hkw
   · have:cnt aC 13=k+1:=by rw [hC.cnt (n:=(k:Int)+1) rfl]; omega
     show 12 - cnt aC 13 < 12 - cnt a 13; omega
 rw [decide_eq_true hkw,Bool.not_true,iNs]; refine wp_skip ?_; have hF:=formOfK_eq hlt hall hkw; rw [hF] at hpar; have hB:=hA.trim Stable.none [2,4,5,6] [] (st':=⟨[(2,AV.loc 2 31 0 0),(4,AV.sl 1 (List.map nStr ((hd :: tl).map tx))),(5,I k),(6,AV.loc 6 2 0 0)],[(2,⟨31,zag,[nilOp],true⟩),(6,⟨2,zeC,[zcw ⟨tx (kw k),(((slotsC k).length+1:Nat):Int)⟩],true⟩)]⟩) (by kernel_rfl); refine wp_seq (wp_seq (pzStep pz_r6 (pz6 ((hd :: tl).map tx) k (tx (kw k)) (((slotsC k).length+1:Nat):Int)) hB (fun aC wC hC=>?_))); refine wp_cond (hC.bool (b:=(((List.map nStr ((hd :: tl).map tx)).length:Int) != (((slotsC k).length+1:Nat):Int))) rfl) ?_; by_cases hwl:tl.length=(slotsC k).length
 rotate_left
 · rw [show ((((List.map nStr ((hd :: tl).map tx)).length:Int) != (((slotsC k).length+1:Nat):Int)))=true from by rw [bne_iff_ne,List.length_map,List.length_map,List.length_cons]; omega,if_pos rfl]; have hP:parS l=none:=by rw [hpar,if_neg (fun q=>hwl q.2)]
   have hD:=hC.trim Stable.none [2] [] (st':=⟨[(2,AV.loc 2 31 0 0)],[(2,⟨31,zag,[nilOp],true⟩)]⟩) (by kernel_rfl); refine wp_seq (pzStep pz_r7 pz7 hD (fun aE wE hE=>wp_ret (fin aE wE ?_))); rw [hP]; exact hE
 rw [show ((((List.map nStr ((hd :: tl).map tx)).length:Int) != (((slotsC k).length+1:Nat):Int)))=false from by rw [bne_eq_false_iff_eq,List.length_map,List.length_map,List.length_cons]; omega,iNs]; refine wp_skip ?_; rw [if_pos ⟨hlt,hwl⟩] at hpar; have hD:=hC.trim Stable.none [2,4,5] [] (st':=⟨[(2,AV.loc 2 31 0 0),(4,AV.sl 1 (List.map nStr ((hd :: tl).map tx))),(5,I k)],[(2,⟨31,zag,[nilOp],true⟩)]⟩) (by kernel_rfl); have t8:=pz8 ((hd :: tl).map tx) k; rw [c_blank hlt,zdX] at t8; refine wp_seq (pzStep pz_r8 t8 hD (fun aE wE hE=>?_)); refine wp_seq (pz_mid _ _ k hlt hE (fun aF wF hF'=>?_)); refine pz_loop hd tl k hlt hwl (fun x hx=>hsum x (by simp [hx])) hF' (fun o ho aG wG hG=>?_) (fun hb aG wG hG=>?_)
 · refine wp_seq (pzStep pz_r15 (pz15 o) hG (fun aH wH hH=>wp_ret (fin aH wH ?_))); rw [hpar,ho]; exact hH
 · refine fin aG wG ?_; rw [hpar,hb]; exact hG
theorem par_ok:CallOK zP (single zbP zOrc):=by
 refine ora (o:=oPar) (fun args=>by unfold zOrc; simp (decide:=true) only [if_false,if_true]) pz_enters (fun args r ms' hr=>?_); unfold oPar at hr; split at hr
 case h_2=>cases hr
 rename_i s; split at hr
 case isFalse=>cases hr
 rename_i hs; injection hr with hr; injection hr with h1 h2; subst h1 h2; refine ⟨rfl,fun w S κ vals hvl hS hk hv=>?_⟩; have hf:zar.P.funcs[zbP]?=some zar.fn:=by kernel_rfl
 refine ziU (args:=[AV.v (.string s)]) (ms:=[]) (frz:=false) (ex:=.ret) (st:=stR (parS s.data.toList)) hf pz_hb (show 1≤zar.fn.ntmps by decide) hvl hS hk hv (fun b ent hb=>by simp [Ab.look] at hb) (fun b b' g c c' hd=>by simp [Dm,Ab.look] at hd) (fun id=>by simp) (fun a hg=>?_) ?_ ?_ ?_
 · obtain ⟨S,κ,hg⟩:=hg; have hl:s.data.toList.length < 4294967281:=hs; exact pz_body hl ⟨S,κ,hg,trivial⟩
 · unfold parR; cases parS s.data.toList <;> kernel_rfl
 · kernel_rfl
 · unfold parR; cases parS s.data.toList <;> kernel_rfl
theorem zlD {l:List UInt8} (hl:l.length < 4294967281):cw zbP [.v (.string (tx l))] []=some (zcQ (parR l)):=by refine zgI par_ok ?_; show (if (tx l).size < 4294967281 then some (AV.tup [AV.agg (nGOp (parR (tx l).data.toList).1),I (parR (tx l).data.toList).2],[]) else none)=_; rw [if_pos (by rw [zap]; exact hl),zcI]; rfl
end
set_option maxRecDepth 100000
def readP:List (List UInt8)→List GOp→Int→List GOp×Int×Int
 | [],_,_=>([],0,0)
 | [x],acc,n=>if x=[] then (if 300 < acc.length then ([],0,3) else (acc,0,0)) else ([],n,7)
 | x :: y :: r,acc,n=>match parS x with
   | none=>([],n,7)
   | some o=>readP (y :: r) (acc++[o]) (n+1)
def readS (l:List UInt8):List GOp×Int×Int:=readP (splitC 10 l) [] 1
theorem zq7 {x y:List UInt8} {r:List (List UInt8)} {acc:List GOp} {n:Int} (h:parS x=none):readP (x :: y :: r) acc n=([],n,7):=by rw [readP,h]
theorem zq8 {x y:List UInt8} {r:List (List UInt8)} {acc:List GOp} {n:Int} {o:GOp} (h:parS x=some o):readP (x :: y :: r) acc n=readP (y :: r) (acc++[o]) (n+1):=by rw [readP,h]
theorem c_Read1:∀ (m:Nat) (l:List UInt8) (acc:List GOp) (n:Int),l.length≤m→0≤n→n+l.length≤1000000000→acc.length+l.length≤1000000000→zfo (List.map nGOp acc) (tx l) n=some (zcG (readP (splitC 10 l) acc n)):=by
 intro m
 induction m with
 | zero =>
   intro l acc n hm hn h1 h2; obtain rfl:l=[]:=List.length_eq_zero_iff.1 (by omega); refine zkF _ _ _ ?_; rw [show (zgR:ByteArray)=tx [] from rfl,tx_beq,decide_eq_true rfl,Bool.not_true,zam,show splitC 10 []=[[]] from rfl,readP,if_pos rfl]; by_cases h3:300 < acc.length
   · rw [zax (by rw [List.length_map]; omega),cPQ,if_pos h3]; rfl
   · rw [zaz (by rw [List.length_map]; omega),cPQ,if_neg h3,List.take_length]; rfl
 | succ m ih =>
   intro l acc n hm hn h1 h2; by_cases he:l=[]
   · subst he; exact ih [] acc n (by simp) hn h1 h2
   refine zkF _ _ _ ?_; rw [show (zgR:ByteArray)=tx [] from rfl,tx_beq,decide_eq_false he,Bool.not_false,zas,show (zjv:ByteArray)=tx [10] from rfl,c_Cut (by omega),zoD]; rcases Int.lt_or_le (Lib.index l [10]) 0 with hx | hx
   · have hx1:Lib.index l [10]=-1:=by have:=Lib.index_ge l [10]; omega
     have e:Lib.cut l [10]=(l,[],false):=by unfold Lib.cut; rw [iNQ]
     rw [e,Bool.not_false,zas,cPQ,zlr 10 l hx1,readP,if_neg he]; rfl
   · obtain ⟨i,hi⟩:=Int.eq_ofNat_of_zero_le hx; have hs:=zmB 10 l i hi; have e:Lib.cut l [10]=(l.take i,l.drop (i+1),true):=by unfold Lib.cut; rw [if_pos hx,hi]; simp
     have hpos:0 < l.length:=List.length_pos_iff.2 he; rw [e,Bool.not_true,zam,zlD (by rw [List.length_take]; omega),zbL,hs]
     obtain ⟨y,r,hy⟩:∃ y r,splitC 10 (l.drop (i+1))=y :: r:=by
      cases h:splitC 10 (l.drop (i+1)) with
      | nil=>exact absurd h (zgq 10 _)
      | cons y r=>exact ⟨y,r,rfl⟩
     cases hp:parS (l.take i) with
     | none=>rw [show parR (l.take i)=(zOp,7) by unfold parR; rw [hp],show ((7:Int) != 0)=true from rfl,zas,cPQ,hy,zq7 hp]; rfl
     | some o=>rw [show parR (l.take i)=(o,0) by unfold parR; rw [hp],show ((0:Int) != 0)=false from rfl,zam,hy,zq8 hp,← hy]; have hnext:=ih (l.drop (i+1)) (acc++[o]) (n+1) (by rw [List.length_drop]; omega) (by omega) (by rw [List.length_drop]; omega) (by rw [List.length_drop]; simp; omega); rw [zai rfl,zai (by rw [List.length_map]; omega),zai rfl,w6Q]; rw [show List.map nGOp acc++[nGOp o]=List.map nGOp (acc++[o]) by simp]; exact hnext
theorem c_Read {l:List UInt8} (hl:l.length≤900000000):cw zgA [.v (.string (tx l))] []=some (zcG (readS l)):=
 zru (tx l) (c_Read1 l.length l [] 1 (Nat.le_refl _) (by omega) (by omega) (by simp; omega))
theorem c_rRead1 (L:List UInt8) (hL:L.length≤900000000):∀ (m:Nat) (l:List UInt8) (f:Nat) (acc:List GOp) (n:Nat),l.length≤m→L.drop f=l→f+l.length=L.length→acc.length+l.length≤1000000000→n+l.length≤1000000000→zgG (tx L) (List.map nGOp acc) (f:Nat) (n:Nat)=some (zcG (readP (splitC 10 l) acc ((n:Int)+1))):=by
 intro m
 induction m with
 | zero =>
   intro l f acc n hm hd hf h1 h2; obtain rfl:l=[]:=List.length_eq_zero_iff.1 (by omega); simp only [List.length_nil] at hf; refine zlS _ _ _ _ ?_; rw [zaz (by rw [zap]; omega),show splitC 10 []=[[]] from rfl,readP,if_pos rfl]; by_cases h3:300 < acc.length
   · rw [zax (by rw [List.length_map]; omega),if_pos h3]; rfl
   · rw [zaz (by rw [List.length_map]; omega),cPQ,if_neg h3,List.take_length]; rfl
 | succ m ih =>
   intro l f acc n hm hd hf h1 h2; by_cases he:l=[]
   · subst he; exact ih [] f acc n (by simp) hd hf h1 h2
   have hpos:0 < l.length:=List.length_pos_iff.2 he; refine zlS _ _ _ _ ?_; rw [zax (by rw [zap]; omega)]
   have fin:∀ (w r:List UInt8),l=w++r→10 ∉ w→(r=[]∨∃ t,r=10 :: t)→zeS (tx L) (List.map nGOp acc) (f:Nat) (n:Nat) ((f+w.length:Nat):Int)=some (zcG (readP (splitC 10 l) acc ((n:Int)+1))):=by
    intro w r hlr hw hr; have hlen:l.length=w.length+r.length:=by rw [hlr,List.length_append]
    refine zoM _ _ _ _ _ ?_; rw [cPQ,cPQ,cPQ,zai (by rw [zap]; omega),zre,show ((f+w.length:Nat):Int).toNat - ((f:Nat):Int).toNat=w.length by omega,show ((f:Nat):Int).toNat=f from rfl,hd,hlr,List.take_left,zpS (by omega),zbL]; rcases hr with rfl | ⟨t,rfl⟩
    · simp only [List.length_nil] at hlen; rw [List.append_nil,ziN 10 w hw,readP,if_neg (by intro e; rw [e] at hlen; simp only [List.length_nil] at hlen; omega),w6Q]
      cases hp:parS w with
      | none=>rw [show parR w=(zOp,7) by unfold parR; rw [hp],show ((7:Int) != 0)=true from rfl,zas]; rfl
      | some o=>rw [show parR w=(o,0) by unfold parR; rw [hp],show ((0:Int) != 0)=false from rfl,zam,show (((f+w.length:Nat):Int) == ((tx L).size:Int))=true from by rw [beq_iff_eq,zap]; omega,zas]; rfl
    · simp only [List.length_cons] at hlen; rw [zhj 10 w t hw]
      obtain ⟨y,s,hy⟩:∃ y s,splitC 10 t=y :: s:=by
       cases h:splitC 10 t with
       | nil=>exact absurd h (zgq 10 _)
       | cons y r=>exact ⟨y,r,rfl⟩
      cases hp:parS w with
      | none=>rw [show parR w=(zOp,7) by unfold parR; rw [hp],show ((7:Int) != 0)=true from rfl,zas,hy,zq7 hp,w6Q]; rfl
      | some o =>
        have hdt:L.drop (f+w.length+1)=t:=by rw [show f+w.length+1=f+(w.length+1) by omega,← List.drop_drop,hd,hlr]; simp
        have hnext:=ih t (f+w.length+1) (acc++[o]) (n+1) (by omega) hdt (by omega) (by simp; omega) (by omega); rw [show parR w=(o,0) by unfold parR; rw [hp],show ((0:Int) != 0)=false from rfl,zam,show (((f+w.length:Nat):Int) == ((tx L).size:Int))=false from by rw [beq_eq_false_iff_ne,zap]; omega,zam,hy,zq8 hp,← hy,zai rfl,zai (by rw [List.length_map]; omega),zai rfl,w6Q,w6Q,show ((f+w.length:Nat):Int)+1=((f+w.length+1:Nat):Int) by omega,show ((n:Nat):Int)+1=((n+1:Nat):Int) by omega,show List.map nGOp acc++[nGOp o]=List.map nGOp (acc++[o]) by simp]; exact hnext
   have scan:∀ (r w:List UInt8),l=w++r→10 ∉ w→zgH (tx L) (List.map nGOp acc) (f:Nat) (n:Nat) ((f+w.length:Nat):Int)=some (zcG (readP (splitC 10 l) acc ((n:Int)+1))):=by
    intro r
    induction r with
    | nil =>
      intro w hlr hw; have hlen:l.length=w.length:=by rw [hlr,List.append_nil]
      refine zlT _ _ _ _ _ ?_; rw [zaz (by rw [zap]; omega)]; exact fin w [] hlr hw (Or.inl rfl)
    | cons d r ihr =>
      intro w hlr hw; have hlen:l.length=w.length+r.length+1:=by rw [hlr,List.length_append,List.length_cons]; omega
      have hil:f+w.length < L.length:=by omega
      have hdl:L[f+w.length]=d:=by
       have h1:(L.drop f)[w.length]?=some d:=by rw [hd,hlr]; simp
       rw [List.getElem?_drop] at h1; exact (List.getElem?_eq_some_iff.1 h1).2
      have hst:=zfz hil; rw [hdl] at hst; refine zlT _ _ _ _ _ ?_; rw [zax (by rw [zap]; omega),cPQ,zai (by rw [zap]; omega),hst]; by_cases hc:d=10
      · subst hc; rw [show (((10:UInt8).toNat:Int) != 10)=false from rfl,zam]; exact fin w (10 :: r) hlr hw (Or.inr ⟨r,rfl⟩)
      · rw [show (((d.toNat:Nat):Int) != 10)=true from by
         rw [bne_iff_ne]; intro e
         exact hc (UInt8.toNat_inj.1 (by show d.toNat=10; omega)),zas,w6Q]
        have hnext:=ihr (w++[d]) (by rw [hlr]; simp) (by simp [hw]; exact fun e=>hc e.symm); rw [List.length_append,List.length_singleton] at hnext; rw [show ((f+w.length:Nat):Int)+1=((f+(w.length+1):Nat):Int) by omega]; exact hnext
   exact scan l [] rfl (by simp)
theorem c_rRead {l:List UInt8} (hl:l.length≤900000000):cw zkr [.v (.string (tx l))] []=some (zcG (readS l)):=
 zs7 (tx l) (c_rRead1 l hl l.length l 0 [] 0 (Nat.le_refl _) rfl (by omega) (by simp; omega) (by omega))
def SmO (o:GOp):Prop:=o.Bounds.length < 1000000000∧o.Script.Pages.length < 1000000000∧o.Script.Answers.length < 1000000000∧o.Event.Pages.length < 1000000000
theorem c_ops (a b:List GOp) (ha:∀ o∈a,SmO o) (hl:a.length < 1000000000):cw zlj [.sl 31 (List.map nGOp a),.sl 31 (List.map nGOp b)] []=some (zaR (decide (a=b))):=by
 refine ztG a b ?_; by_cases hlen:a.length=b.length
 rotate_left
 · rw [show (((List.map nGOp a).length:Int) != ((List.map nGOp b).length:Int))=true from by rw [bne_iff_ne,List.length_map,List.length_map]; omega,zas,decide_eq_false (fun e=>hlen (by rw [e]))]; rfl
 rw [show (((List.map nGOp a).length:Int) != ((List.map nGOp b).length:Int))=false from by rw [bne_eq_false_iff_eq,List.length_map,List.length_map]; omega,zam]
 have key:zfG a b (0:Nat)=some (zaR (decide (a.drop 0=b.drop 0))):=by
  refine zbR a (fun i r=>zfG a b (i:Nat)=some (zaR (decide (a.drop i=b.drop i)))) ?_ ?_
  · refine zmL a b _ ?_; rw [zaz (by rw [List.length_map]; omega),decide_eq_true (by rw [List.drop_length,hlen,List.drop_length])]; rfl
  · intro i x r hi hx hr ih; refine zmL a b _ ?_; have hib:i < b.length:=by omega
    obtain ⟨s1,s2,s3,s4⟩:=ha x (by rw [← hx]; exact List.getElem_mem hi); rw [zax (by rw [List.length_map]; omega),cPQ,zgc,show ((i:Nat):Int).toNat=i from rfl,List.getElem?_eq_getElem hi,Option.bind_some,cPQ,zgc,List.getElem?_eq_getElem hib,Option.bind_some,hx,c_rSame _ _ s1 s2 s3 s4,zaO]; rw [List.drop_eq_getElem_cons hi,List.drop_eq_getElem_cons hib,hx]; by_cases he:x=b[i]
    · rw [decide_eq_true he,Bool.not_true,zam,w6Q,show ((i:Nat):Int)+1=((i+1:Nat):Int) by omega,ih]; congr 2; exact decide_eq_decide.2 ⟨fun e=>by rw [e,he],fun e=>(List.cons.inj e).2⟩
    · rw [decide_eq_false he,Bool.not_false,zas,decide_eq_false (fun e=>he (List.cons.inj e).1)]; rfl
 exact key
theorem readL_len {w:List UInt8} {l:List Int} (h:readL w=some l):l.length≤300:=by
 unfold readL at h; split at h
 · injection h with h; subst h; simp
 · split at h
   · rename_i h1; have:=zk5 _ _ h; omega
   · cases h
def Sm3 (o:GOp):Prop:=o.Bounds.length≤300∧o.Script.Pages.length≤300∧o.Script.Answers.length≤300∧o.Event.Pages.length≤300
theorem putL_sm {o:GOp} {l:List Int} {k:Nat} (ho:Sm3 o) (hl:l.length≤300):Sm3 (putL l k o):=by obtain ⟨a,b,c,d⟩:=ho; unfold putL Sm3; split <;> exact ⟨by assumption,by assumption,by assumption,by assumption⟩
theorem putN_sm {o:GOp} {n:Int} {k:Nat} (ho:Sm3 o):Sm3 (putN n k o):=by obtain ⟨a,b,c,d⟩:=ho; unfold putN Sm3; split <;> exact ⟨by assumption,by assumption,by assumption,by assumption⟩
theorem zq6:∀ (ps:List (Bool×Nat)) (ws:List (List UInt8)) (c o:GOp),Sm3 c→zbH ps ws c=some o→Sm3 o
 | [],_,c,o,hc,h=>by simp only [zbH,Option.some.injEq] at h; exact h▸hc
 | p :: ps,[],c,o,hc,h=>by simp [zbH] at h
 | p :: ps,w :: ws,c,o,hc,h=>by
   unfold zbH at h; split at h
   · rename_i c' h1; refine zq6 ps ws c' o ?_ h; unfold read1 at h1; split at h1
     · cases hr:readL w with
       | none=>rw [hr] at h1; cases h1
       | some l=>rw [hr] at h1; injection h1 with h1; rw [← h1]; exact putL_sm hc (readL_len hr)
     · cases hr:numS w with
       | none=>rw [hr] at h1; cases h1
       | some l=>rw [hr] at h1; injection h1 with h1; rw [← h1]; exact putN_sm hc
   · cases h
theorem parS_sm {l:List UInt8} {o:GOp} (h:parS l=some o):Sm3 o:=by
 unfold parS at h; split at h
 · cases h
 · split at h
   · rename_i h1; refine zq6 _ _ _ _ ?_ h; rcases lt12' h1.1 with q | q | q | q | q | q | q | q | q | q | q | q <;> rw [q] <;> exact ⟨by decide,by decide,by decide,by decide⟩
   · cases h
theorem readP_sm:∀ (ws:List (List UInt8)) (acc:List GOp) (n:Int),(∀ o∈acc,Sm3 o)→(∀ o∈(readP ws acc n).1,Sm3 o)∧(readP ws acc n).1.length≤300
 | [],acc,n,h=>by simp [readP]
 | [x],acc,n,h=>by
   rw [readP]; split
   · split
     · simp
     · exact ⟨h,by simp only; omega⟩
   · simp
 | x :: y :: r,acc,n,h=>by
   rw [readP]; split
   · simp
   · rename_i o ho
     exact readP_sm (y :: r) _ _ (fun q hq=>by
      rcases List.mem_append.1 hq with hq | hq
      · exact h q hq
      · rw [List.mem_singleton.1 hq]; exact parS_sm ho)
theorem Sm3.smo {o:GOp} (h:Sm3 o):SmO o:=⟨by have:=h.1; omega,by have:=h.2.1; omega,by have:=h.2.2.1; omega,by have:=h.2.2.2; omega⟩
theorem parR_sm (l:List UInt8):SmO (parR l).1:=by
 unfold parR
 cases h:parS l with
 | none=>exact ⟨by decide,by decide,by decide,by decide⟩
 | some o=>exact (parS_sm h).smo
end Go.Proofs.YtdclabgakicjeaaGreatDoor
namespace Go.Proofs.YtdclabgakicjeaaGreatDoor
open Go.Ab
instance (p:GPart):Decidable (OkPart p):=by unfold OkPart; infer_instance
theorem zt0 (p:GPart) (l:List GPart):sumMax (p :: l)=p.Max+sumMax l:=by simp [sumMax]
theorem sumMax_bd {l:List GPart} (h:∀ p∈l,OkPart p):0≤sumMax l∧sumMax l≤40*l.length:=by
 induction l with
 | nil=>simp [sumMax]
 | cons p l ih=>have h1:=ih (fun q hq=>h q (by simp [hq])); have h2:=(h p (by simp)).1; rw [zt0,List.length_cons]; omega
theorem kind2 {x:GPart} (h:OkPart x):x.Kind=1∨x.Kind=2:=by unfold OkPart at h; omega
theorem paperIx_at {ps:List zay} {x:zav} {k:Nat} {p:zay} (hk:zgJ ps x=some (k,p)):ps[k]?=some p∧p.Code=x.Paper∧p.Variant=x.Variant:=by obtain ⟨h1,h2,_⟩:=fnd_at hk; simp only [Bool.and_eq_true,beq_iff_eq] at h2; exact ⟨h1,h2⟩
section
variable {s:zcp} (h:OkSetup s)
include h
end
def DOk (d:zaa):Prop:=0≤d.At∧d.L.length≤600
abbrev mD (d:zaa):Mem:=[(1000,⟨2,zab,[zac d],true⟩)]
theorem tmod_lt {a n:Int} (hn:0 < n):-n < a.tmod n∧a.tmod n < n:=by have h1:=Int.tmod_lt_of_pos a hn; refine ⟨?_,h1⟩; have h2:=Int.tmod_lt_of_pos (-a) hn; rw [Int.neg_tmod] at h2; omega
theorem c_Light (t:List Int):cw zkp [.sl 1 (List.map zad t)] []=some (zaR (decide ((t.length:Int)≤600))):=
 zs4 t (by rw [List.length_map]; rfl)
theorem c_Roll (t:List Int):cw zlk [.sl 1 (List.map zad t)] []=some (zln ⟨t,0⟩):=ztH t rfl
theorem zaT (d:zaa) (n:Int) (hd:DOk d) (hn:n≤4611686018427387904):∃ (r:Int) (d':zaa),cw zaj [.loc 1000 2 0 0,I n] (mD d)=some (zfs (r,d'))∧0≤r∧(r < n∨r=0)∧DOk d':=by
 by_cases h1:(d.L.length:Int)≤d.At
 · refine ⟨0,d,zfn d n ?_,by omega,.inr rfl,hd⟩; simp (disch:=omega) only [List.length_map,zax]; rfl
 by_cases h2:n < 1
 · refine ⟨0,d,zfn d n ?_,by omega,.inr rfl,hd⟩; simp (disch:=omega) only [List.length_map,zax,zaz]; rfl
 obtain ⟨ha,hl⟩:=hd; have hlt:d.At.toNat < d.L.length:=by omega
 have hb:=tmod_lt (a:=d.L[d.At.toNat]) (n:=n) (by omega); have hd':DOk ⟨d.L,d.At+1⟩:=⟨by show 0≤d.At+1; omega,hl⟩
 by_cases h3:(d.L[d.At.toNat]).tmod n < 0
 · refine ⟨(d.L[d.At.toNat]).tmod n+n,⟨d.L,d.At+1⟩,zfn d n ?_,by omega,.inl (by omega),hd'⟩; simp (disch:=omega) [zax,zaz,zai,hlt,w64_id]; rfl
 · refine ⟨(d.L[d.At.toNat]).tmod n,⟨d.L,d.At+1⟩,zfn d n ?_,by omega,.inl (by omega),hd'⟩; simp (disch:=omega) [zax,zaz,zai,hlt,w64_id]; rfl
theorem zfC (d:zaa) (n:Int) (hd:DOk d) (hn:n≤4611686018427387904):∃ (r:Bool) (d':zaa),cw za8 [.loc 1000 2 0 0,I n] (mD d)=some (zhx (r,d'))∧DOk d':=by obtain ⟨r,d',h,_,_,hd'⟩:=zaT d n hd hn; exact ⟨_,d',zpY d n (by simp only [h,zak]; rfl),hd'⟩
theorem zg2 (d:zaa) (l:List Int) (hd:DOk d) (hl:l≠[]) (hl2:l.length≤1000):∃ (r:Int) (d':zaa),cw zbp [.loc 1000 2 0 0,.sl 1 (List.map zad l)] (mD d)=some (zfs (r,d'))∧r∈l∧DOk d':=by
 obtain ⟨r,d',h,h0,h1,hd'⟩:=zaT d l.length hd (by omega); have hpos:0 < l.length:=List.length_pos_iff.2 hl; have hlt:r.toNat < l.length:=by omega
 refine ⟨l[r.toNat],d',zp0 d l ?_,List.getElem_mem hlt,hd'⟩; simp (disch:=omega) only [List.length_map,h,zak,zai,zcs,List.getElem?_eq_getElem hlt,Option.bind_some]; rfl
theorem c_Rule (d:zaa) (hd:DOk d):∃ (r:zbC) (d':zaa),cw zhu [.loc 1000 2 0 0] (mD d)=some (zhz (r,d'))∧0≤r.Tolerance∧r.Tolerance < 3∧DOk d':=by obtain ⟨b,d1,h1,hd1⟩:=zfC d 2 hd (by omega); obtain ⟨n,d2,h2,h0,h3,hd2⟩:=zaT d1 3 hd1 (by omega); refine ⟨⟨b,n⟩,d2,zp1 d ?_,h0,by show n < 3; omega,hd2⟩; simp only [h1,h2,zaQ,zak]; rfl
def DPaper (p:zay):Prop:=p.Parts.length≤3∧1≤p.Parts.length∧∀ x∈p.Parts,OkPart x∧x.Max≤6
theorem DPaper.ok {p:zay} (h:DPaper p) (h1:0≤p.Code∧p.Code≤31) (h2:0≤p.Variant∧p.Variant < 4):OkPaper p:=by obtain ⟨a,b,c⟩:=h; refine ⟨h1,h2,by omega,fun x hx=>(c x hx).1,?_⟩; have:=(sumMax_bd (fun x hx=>(c x hx).1)).2; omega
theorem zn3 (d:zaa) (a b:Int) (hd:DOk d):∃ (p:zay) (d':zaa),cw zb0 [.loc 1000 2 0 0,I a,I b] (mD d)=some (zgX (p,d'))∧p.Code=a∧p.Variant=b∧DPaper p∧DOk d':=by
 obtain ⟨n0,d0,e0,a0,b0,hd0⟩:=zaT d 4 hd (by omega); obtain ⟨n1,d1,e1,a1,b1,hd1⟩:=zaT d0 3 hd0 (by omega); by_cases h1:0 < n1
 · obtain ⟨n2,d2,e2,a2,b2,hd2⟩:=zaT d1 2 hd1 (by omega); obtain ⟨n3,d3,e3,a3,b3,hd3⟩:=zaT d2 4 hd2 (by omega); obtain ⟨n4,d4,e4,a4,b4,hd4⟩:=zaT d3 2 hd3 (by omega)
   have start:∀ y,zeI a b (n0,d0) (n2,d2) (n3,d3)=some y→cw zb0 [.loc 1000 2 0 0,I a,I b] (mD d)=some y:=by intro y hy; refine zjE d a b ?_; simp (disch:=omega) only [e0,e1,e2,e3,zak,zax,zai,zaU,hy]
   by_cases h4:0 < n4
   · obtain ⟨n5,d5,e5,a5,b5,hd5⟩:=zaT d4 4 hd4 (by omega); refine ⟨⟨a,b,[⟨1,3+n0,0,0,0,0⟩,⟨2,1+n2,0,0,4,n3⟩,⟨1,2+n5,0,0,0,0⟩]⟩,d5,start _ (zhc _ _ _ _ _ ?_),rfl,rfl,⟨by simp,by simp,?_⟩,hd5⟩
     · simp (disch:=omega) only [e4,e5,zak,zax,zai,zaU,w64_id]; rfl
     · intro x hx; simp only [List.mem_cons,List.not_mem_nil,or_false] at hx; rcases hx with rfl | rfl | rfl <;> exact ⟨by unfold OkPart; dsimp only; omega,by dsimp only; omega⟩
   · refine ⟨⟨a,b,[⟨1,3+n0,0,0,0,0⟩,⟨2,1+n2,0,0,4,n3⟩]⟩,d4,start _ (zhc _ _ _ _ _ ?_),rfl,rfl,⟨by simp,by simp,?_⟩,hd4⟩
     · simp (disch:=omega) only [e4,zak,zaz,zai,zaU,w64_id]; rfl
     · intro x hx; simp only [List.mem_cons,List.not_mem_nil,or_false] at hx; rcases hx with rfl | rfl <;> exact ⟨by unfold OkPart; dsimp only; omega,by dsimp only; omega⟩
 · obtain ⟨n4,d4,e4,a4,b4,hd4⟩:=zaT d1 2 hd1 (by omega)
   have start:∀ y,zdT a b (n0,d0) (n1,d1)=some y→cw zb0 [.loc 1000 2 0 0,I a,I b] (mD d)=some y:=by intro y hy; refine zjE d a b ?_; simp (disch:=omega) only [e0,e1,zak,zaz,hy]
   by_cases h4:0 < n4
   · obtain ⟨n5,d5,e5,a5,b5,hd5⟩:=zaT d4 4 hd4 (by omega); refine ⟨⟨a,b,[⟨1,3+n0,0,0,0,0⟩,⟨1,2+n5,0,0,0,0⟩]⟩,d5,start _ (zgs _ _ _ _ ?_),rfl,rfl,⟨by simp,by simp,?_⟩,hd5⟩
     · simp (disch:=omega) only [e4,e5,zak,zax,zai,zaU,w64_id]; rfl
     · intro x hx; simp only [List.mem_cons,List.not_mem_nil,or_false] at hx; rcases hx with rfl | rfl <;> exact ⟨by unfold OkPart; dsimp only; omega,by dsimp only; omega⟩
   · refine ⟨⟨a,b,[⟨1,3+n0,0,0,0,0⟩]⟩,d4,start _ (zgs _ _ _ _ ?_),rfl,rfl,⟨by simp,by simp,?_⟩,hd4⟩
     · simp (disch:=omega) only [e4,zak,zaz,zai,zaU,w64_id]; rfl
     · intro x hx; simp only [List.mem_cons,List.not_mem_nil,or_false] at hx; subst hx; exact ⟨by unfold OkPart; dsimp only; omega,by dsimp only; omega⟩
theorem c_Scheme (d:zaa) (p:zay) (hd:DOk d) (hp:DPaper p) (hok:OkPaper p):∃ (c:za9) (d':zaa),cw zge [.loc 1000 2 0 0,.agg (zaB p)] (mD d)=some (zgo (c,d'))∧zl1 p c∧Short c∧DOk d':=by
 have hl:=hp.1; have hl2:=hp.2.1; obtain ⟨b,d0,e0,hd0⟩:=zfC d 6 hd (by omega)
 have good:∀ W:List Int,W.length=p.Parts.length→(∀ k∈W,0≤k∧k≤2)→zl1 p ⟨List.replicate p.Parts.length [],W⟩∧Short ⟨List.replicate p.Parts.length [],W⟩:=by
  intro W hW hk; refine ⟨⟨hok,by simp,hW,fun j x ks k q1 q2 q3=>⟨?_,hk k (List.mem_of_getElem? q3)⟩⟩,?_⟩
  · have:=List.mem_of_getElem? q2; rw [List.mem_replicate] at this; rw [this.2]; exact ⟨by simp,fun j hj=>by simp at hj⟩
  · intro ks hks; rw [List.mem_replicate] at hks; rw [hks.2]; simp
 cases b with
 | true =>
   obtain ⟨n1,d1,e1,a1,b1,hd1⟩:=zaT d0 p.Parts.length hd0 (by omega); obtain ⟨n2,d2,e2,a2,b2,hd2⟩:=zaT d1 2 hd1 (by omega); have hlt:n1.toNat < p.Parts.length:=by omega
   obtain ⟨g1,g2⟩:=good ((List.replicate p.Parts.length 0).set n1.toNat (1+n2)) (by simp) (by
    intro k hk; rcases List.mem_or_eq_of_mem_set hk with h | h
    · rw [List.mem_replicate] at h; omega
    · omega)
   refine ⟨_,d2,ziW d p ?_,g1,g2,hd2⟩; have hlt':n1.toNat < (List.replicate p.Parts.length (0:Int)).length:=by simpa using hlt
   simp (disch:=omega) only [List.length_map,zai,zaU,e0,e1,e2,zaQ,zak,zas,Int.toNat_natCast,List.length_replicate,Nat.zero_add,map_rep zad,zcs,List.getElem?_eq_getElem hlt',Option.bind_some]; refine zkS _ _ _ _ _ ?_; simp (disch:=omega) only [List.length_map,zai,zaU,Int.toNat_natCast,List.length_replicate,Nat.zero_add,List.length_set,Nat.le_refl,w64_id]; rw [show List.take p.Parts.length (List.replicate p.Parts.length [AV.sl 1 []])=List.replicate p.Parts.length [AV.sl 1 []] from List.take_of_length_le (by simp),List.take_of_length_le (Nat.le_of_eq (by simp only [List.length_set,List.length_replicate]))]; rw [show List.replicate p.Parts.length [AV.sl 1 []]=List.map zaJ (List.replicate p.Parts.length []) by simp [zaJ],show List.replicate p.Parts.length [I 0]=List.map zad (List.replicate p.Parts.length 0) by simp [zad],show [I (1+n2)]=zad (1+n2) from rfl,map_set']; rfl
 | false =>
   obtain ⟨g1,g2⟩:=good (List.replicate p.Parts.length 0) (by simp) (by
    intro k hk
    rw [List.mem_replicate] at hk; omega)
   refine ⟨_,d0,ziW d p ?_,g1,g2,hd0⟩; simp (disch:=omega) only [List.length_map,zai,zaU,e0,zaQ,zam,Int.toNat_natCast]; refine zjW _ _ ?_; simp (disch:=omega) only [List.length_map,zai,zaU,Int.toNat_natCast,List.length_replicate,Nat.zero_add,Nat.le_refl]; rw [show List.take p.Parts.length (List.replicate p.Parts.length [AV.sl 1 []])=List.replicate p.Parts.length [AV.sl 1 []] from List.take_of_length_le (by simp),List.take_of_length_le (Nat.le_of_eq (by simp only [List.length_set,List.length_replicate]))]; rw [show List.replicate p.Parts.length [AV.sl 1 []]=List.map zaJ (List.replicate p.Parts.length []) by simp [zaJ],show List.replicate p.Parts.length [I 0]=List.map zad (List.replicate p.Parts.length 0) by simp [zad]]; rfl
def ze1 (ps:List zay):Prop:=1≤ps.length∧ps.length≤3∧(∀ p∈ps,DPaper p∧(0≤p.Code∧p.Code≤1)∧(0≤p.Variant∧p.Variant≤1))∧∀ p∈ps,∀ q∈ps,p.Code=q.Code→p.Variant=q.Variant→p=q
def zkT (ps:List zay) (cs:List za9):Prop:=∀ (j:Nat) (p:zay) (c:za9),ps[j]?=some p→cs[j]?=some c→zl1 p c∧Short c
theorem c_Papers (d:zaa) (hd:DOk d):∃ (ps:List zay) (cs:List za9) (d':zaa),cw zdj [.loc 1000 2 0 0] (mD d)=some (zdo ((ps,cs),d'))∧ze1 ps∧cs.length=ps.length∧zkT ps cs∧DOk d':=by
 have loop:∀ (ps:List zay),ze1 ps→∀ (d:zaa),DOk d→∃ (cs:List za9) (d':zaa),zbJ (List.map zaB ps) (List.map zce []) d 0=some (zdo ((ps,cs),d'))∧cs.length=ps.length∧zkT ps cs∧DOk d':=by
  intro ps hps d hd; have hpl:=hps.2.1; refine zhN ps (fun i r=>∀ (cs:List za9) (d:zaa),(cs.length:Int)=i→zkT ps cs→DOk d→∃ (cs':List za9) (d':zaa),zbJ (List.map zaB ps) (List.map zce cs) d i=some (zdo ((ps,cs'),d'))∧cs'.length=ps.length∧zkT ps cs'∧DOk d') ?_ ?_ [] d (by simp) (by intro j p c _ h; simp at h) hd
  · intro cs d hcs hok hd; refine ⟨cs,d,zie _ _ _ _ ?_,by omega,hok,hd⟩; simp (disch:=omega) only [List.length_map,zaz,Nat.zero_add,Nat.le_refl,zaU]; rw [List.take_of_length_le (by simp),List.take_of_length_le (by simp)]; rfl
  · intro i hi r hr ih cs d hcs hok hd; obtain ⟨g1,g2,g3⟩:=hps.2.2.1 _ (List.getElem_mem hi); obtain ⟨c,d1,e1,o1,o2,hd1⟩:=c_Scheme d ps[i] hd g1 (g1.ok (by omega) (by omega))
    obtain ⟨cs',d',e2,o3,o4,hd'⟩:=ih (cs++[c]) d1 (by simp; omega) (by
     intro j p c' hp hc; by_cases hj:j < cs.length
     · rw [List.getElem?_append_left hj] at hc; exact hok j p c' hp hc
     · have hjl:=(List.getElem?_eq_some_iff.1 hc).1; simp at hjl; have hji:j=cs.length:=by omega
       subst hji; simp at hc; subst hc; have:i=cs.length:=by omega
       subst this; rw [List.getElem?_eq_getElem hi] at hp; injection hp with hp; subst hp
       exact ⟨o1,o2⟩) hd1
    refine ⟨cs',d',zie _ _ _ _ ?_,o3,o4,hd'⟩; simp (disch:=omega) only [List.length_map,zax,zai,zaU,Nat.zero_add,Int.toNat_natCast,zdS,List.getElem?_eq_getElem hi,Option.bind_some,e1,zle,w64_id,zbz,e2]
 obtain ⟨p0,d0,e0,a0,b0,g0,hd0⟩:=zn3 d 0 0 hd; obtain ⟨b,d1,e1,hd1⟩:=zfC d0 2 hd0 (by omega)
 cases b with
 | true =>
   obtain ⟨p2,d2,e2,a2,b2,g2,hd2⟩:=zn3 d1 0 1 hd1; obtain ⟨b',d3,e3,hd3⟩:=zfC d2 2 hd2 (by omega)
   have start:∀ y,zea (p0,d0) (p2,d2)=some y→cw zdj [.loc 1000 2 0 0] (mD d)=some y:=by intro y hy; refine ziV d ?_; simp (disch:=omega) only [e0,e1,e2,zdr,zaQ,zas,zai,zaU,hy]
   cases b' with
   | true =>
     obtain ⟨p4,d4,e4,a4,b4,g4,hd4⟩:=zn3 d3 1 0 hd3
     obtain ⟨cs,d',e5,o3,o4,hd'⟩:=loop [p0,p2,p4] (by
      refine ⟨by simp,by simp,?_,?_⟩ <;> simp only [List.mem_cons,List.not_mem_nil,or_false]
      · rintro p (rfl | rfl | rfl)
        · exact ⟨g0,by omega,by omega⟩
        · exact ⟨g2,by omega,by omega⟩
        · exact ⟨g4,by omega,by omega⟩
      · rintro p (rfl | rfl | rfl) q (rfl | rfl | rfl) h1 h2 <;> first | rfl | omega) d4 hd4
     refine ⟨[p0,p2,p4],cs,d',start _ (zgP _ _ ?_),?_,o3,o4,hd'⟩
     · simp (disch:=omega) only [e3,e4,zdr,zaQ,zas,zai,zaU]; exact e5
     · refine ⟨by simp,by simp,?_,?_⟩ <;> simp only [List.mem_cons,List.not_mem_nil,or_false]
       · rintro p (rfl | rfl | rfl)
         · exact ⟨g0,by omega,by omega⟩
         · exact ⟨g2,by omega,by omega⟩
         · exact ⟨g4,by omega,by omega⟩
       · rintro p (rfl | rfl | rfl) q (rfl | rfl | rfl) h1 h2 <;> first | rfl | omega
   | false =>
     have hP:ze1 [p0,p2]:=by
      refine ⟨by simp,by simp,?_,?_⟩ <;> simp only [List.mem_cons,List.not_mem_nil,or_false]
      · rintro p (rfl | rfl)
        · exact ⟨g0,by omega,by omega⟩
        · exact ⟨g2,by omega,by omega⟩
      · rintro p (rfl | rfl) q (rfl | rfl) h1 h2 <;> first | rfl | omega
     obtain ⟨cs,d',e5,o3,o4,hd'⟩:=loop [p0,p2] hP d3 hd3; refine ⟨[p0,p2],cs,d',start _ (zgP _ _ ?_),hP,o3,o4,hd'⟩; simp (disch:=omega) only [e3,zaQ,zam]; exact e5
 | false =>
   obtain ⟨b',d3,e3,hd3⟩:=zfC d1 2 hd1 (by omega)
   have start:∀ y,zdH (p0,d0) (false,d1)=some y→cw zdj [.loc 1000 2 0 0] (mD d)=some y:=by intro y hy; refine ziV d ?_; simp (disch:=omega) only [e0,e1,zdr,zaQ,zam,zai,zaU,hy]
   cases b' with
   | true =>
     obtain ⟨p4,d4,e4,a4,b4,g4,hd4⟩:=zn3 d3 1 0 hd3
     have hP:ze1 [p0,p4]:=by
      refine ⟨by simp,by simp,?_,?_⟩ <;> simp only [List.mem_cons,List.not_mem_nil,or_false]
      · rintro p (rfl | rfl)
        · exact ⟨g0,by omega,by omega⟩
        · exact ⟨g4,by omega,by omega⟩
      · rintro p (rfl | rfl) q (rfl | rfl) h1 h2 <;> first | rfl | omega
     obtain ⟨cs,d',e5,o3,o4,hd'⟩:=loop [p0,p4] hP d4 hd4; refine ⟨[p0,p4],cs,d',start _ (zf1 _ _ ?_),hP,o3,o4,hd'⟩; simp (disch:=omega) only [e3,e4,zdr,zaQ,zas,zai,zaU]; exact e5
   | false =>
     have hP:ze1 [p0]:=by
      refine ⟨by simp,by simp,?_,?_⟩ <;> simp only [List.mem_cons,List.not_mem_nil,or_false]
      · rintro p rfl
        exact ⟨g0,by omega,by omega⟩
      · rintro p rfl q rfl h1 h2; rfl
     obtain ⟨cs,d',e5,o3,o4,hd'⟩:=loop [p0] hP d3 hd3; refine ⟨[p0],cs,d',start _ (zf1 _ _ ?_),hP,o3,o4,hd'⟩; simp (disch:=omega) only [e3,zaQ,zam]; exact e5
def zl0 (l:List za1):Prop:=2≤l.length∧l.length≤5∧zrG l∧(∀ m∈l,m.Papers.length≤2)∧∀ m∈l,m.ID≤15
theorem c_Markers (d:zaa) (hd:DOk d):∃ (l:List za1) (d':zaa),cw zfQ [.loc 1000 2 0 0] (mD d)=some (zd3 (l,d'))∧zl0 l∧DOk d':=by
 have asc1:∀ {l:List za1} {m:za1},AscBy za1.ID l→(∀ x∈l,x.ID < m.ID)→AscBy za1.ID (l++[m]):=by
  intro l m h1 h2 j hj; simp at hj; by_cases h:j+1 < l.length
  · rw [List.getElem_append_left (by omega),List.getElem_append_left h]; exact h1 j h
  · have hj':j+1=l.length:=by omega
    rw [List.getElem_append_left (by omega),List.getElem_append_right (by omega)]; simpa using h2 _ (List.getElem_mem (by omega))
 have loop:∀ (k:Nat) (l:List za1) (d:zaa) (id:Int),DOk d→0≤id→id≤3*l.length→l.length+k≤5→(∀ m∈l,zpm m∧AscBy _root_.id m.Papers)→AscBy za1.ID l→(∀ m∈l,m.ID≤id)→(∀ m∈l,m.Papers.length≤2)→∃ (l':List za1) (d':zaa),zdt (List.map zbc l) d id k=some (zd3 (l',d'))∧(l'.length=l.length+k∧(∀ m∈l',zpm m∧AscBy _root_.id m.Papers)∧AscBy za1.ID l'∧(∀ m∈l',m.Papers.length≤2)∧∀ m∈l',m.ID≤15)∧DOk d':=by
  intro k
  induction k with
  | zero=>intro l d id hd h0 h1 h2 h3 h4 h5 h6; refine ⟨l,d,zhO _ _ _ _ ?_,⟨rfl,h3,h4,h6,fun m hm=>by have:=h5 m hm; omega⟩,hd⟩; simp (disch:=omega) only [zaz,zaU]; rfl
  | succ k ih =>
    intro l d id hd h0 h1 h2 h3 h4 h5 h6; obtain ⟨n0,d0,e0,a0,b0,hd0⟩:=zaT d 3 hd (by omega); obtain ⟨n1,d1,e1,a1,hd1⟩:=zg2 d0 [-1,-1,1,2,3] hd0 (by simp) (by simp); obtain ⟨n2,d2,e2,a2,hd2⟩:=zg2 d1 [1,1,1,2,3] hd1 (by simp) (by simp); obtain ⟨n3,d3,e3,a3,hd3⟩:=zg2 d2 [3,2,6,0,1] hd2 (by simp) (by simp); obtain ⟨n4,d4,e4,a4,b4,hd4⟩:=zaT d3 4 hd3 (by omega); have hlt:n4.toNat < ([[0,1],[0],[1],[0,1]]:List (List Int)).length:=by simp; omega
    have hpapers:∀ q∈([[0,1],[0],[1],[0,1]]:List (List Int)),(∀ n∈q,0≤n∧n≤31)∧AscBy _root_.id q∧q.length≤2:=by
     intro q hq; simp only [List.mem_cons,List.not_mem_nil,or_false] at hq
     have A:AscBy _root_.id ([0,1]:List Int):=fun j hj=>by
      simp at hj; have:j=0:=by omega
      subst this; show (0:Int) < 1; omega
     rcases hq with rfl | rfl | rfl | rfl
     · exact ⟨by simp,A,by simp⟩
     · exact ⟨by simp,fun j hj=>by simp at hj,by simp⟩
     · exact ⟨by simp,fun j hj=>by simp at hj,by simp⟩
     · exact ⟨by simp,A,by simp⟩
    obtain ⟨q1,q2,q3⟩:=hpapers _ (List.getElem_mem hlt); simp only [List.mem_cons,List.not_mem_nil,or_false] at a1 a2 a3
    obtain ⟨l',d',e5,o1,hd'⟩:=ih (l++[⟨id+(1+n0),n1,n2,n3,([[0,1],[0],[1],[0,1]]:List (List Int))[n4.toNat]⟩]) d4 (id+(1+n0)) hd4 (by omega) (by simp; omega) (by simp; omega)
     (by
      intro m hm; rcases List.mem_append.1 hm with h | h
      · exact h3 m h
      · simp only [List.mem_singleton] at h; subst h
        refine ⟨⟨?_,?_,?_,?_,q1⟩,q2⟩ <;> dsimp only <;> omega)
     (asc1 h4 (fun x hx=>by have:=h5 x hx; dsimp only; omega))
     (by
      intro m hm; rcases List.mem_append.1 hm with h | h
      · have:=h5 m h; omega
      · simp only [List.mem_singleton] at h; subst h
        dsimp only; omega)
     (by
      intro m hm; rcases List.mem_append.1 hm with h | h
      · exact h6 m h
      · simp only [List.mem_singleton] at h; subst h
        exact q3)
    refine ⟨l',d',zhO _ _ _ _ ?_,⟨by have:=o1.1; simp at this; omega,o1.2⟩,hd'⟩; have e6:w64 (((k+1:Nat):Int) - 1)=(k:Int):=by rw [w6Q]; omega
    simp (disch:=omega) only [zax,e0,e1,e2,e3,e4,zak,zak,zai,zaU,List.length_map,w64_id,e6]; rw [show ([zaJ [0,1],zaJ [0],zaJ [1],zaJ [0,1]]:List (List AV))=List.map zaJ [[0,1],[0],[1],[0,1]] from rfl,zjh,List.getElem?_eq_getElem hlt,Option.bind_some]; simp (disch:=omega) only [zai,zaU,List.length_map,w64_id,zbz,e5]
 obtain ⟨n,d0,e0,a0,b0,hd0⟩:=zaT d 4 hd (by omega); obtain ⟨l',d',e1,⟨o1,o2,o3,o4,o5⟩,hd'⟩:=loop (2+n).toNat [] d0 0 hd0 (by omega) (by simp) (by simp; omega) (by simp) (fun j hj=>by simp at hj) (by simp) (by simp); simp at o1; refine ⟨l',d',zmX d ?_,⟨by omega,by omega,⟨by omega,o2,o3⟩,o4,o5⟩,hd'⟩; simp only [e0,zak]; rw [w6Q]; rw [Int.toNat_of_nonneg (by omega)] at e1; exact e1
theorem asc_snoc {α:Type} {f:α→Int} {l:List α} {m:α} (h1:AscBy f l) (h2:∀ x∈l,f x < f m):AscBy f (l++[m]):=by
 intro j hj; simp at hj; by_cases h:j+1 < l.length
 · rw [List.getElem_append_left (by omega),List.getElem_append_left h]; exact h1 j h
 · have hj':j+1=l.length:=by omega
   rw [List.getElem_append_left (by omega),List.getElem_append_right (by omega)]; simpa using h2 _ (List.getElem_mem (by omega))
def zf4 (n:Int) (p:zay) (x:zav):Prop:=
 x.Paper=p.Code∧x.Variant=p.Variant∧x.Number=p.Code*10000+x.Candidate∧(1≤x.Candidate∧x.Candidate≤n)∧(1≤x.Centre∧x.Centre≤3)∧x.Pages.length=2∧(∀ y∈x.Pages,0≤y∧y≤1000000)∧OkAns p x.Answers∧∀ v∈x.Answers,-2≤v∧v≤5
theorem c_DScript (d:zaa) (p:zay) (c n:Int) (hd:DOk d) (hp:DPaper p) (h1:0≤p.Code∧p.Code≤31) (hc:1≤c∧c≤n) (hn:n≤9):∃ (x:zav) (d':zaa),cw zgf [.loc 1000 2 0 0,.agg (zaB p),I c] (mD d)=some (zey (x,d'))∧zf4 n p x∧x.Candidate=c∧DOk d':=by
 have hl:=hp.1; obtain ⟨n0,d0,e0,a0,b0,hd0⟩:=zaT d 3 hd (by omega); obtain ⟨n1,d1,e1,a1,b1,hd1⟩:=zaT d0 3 hd0 (by omega); have loop:=zhN p.Parts (fun i r=>∀ (a:List Int) (d2:zaa),(a.length:Int)=i→DOk d2→(∀ (j:Nat) (x:GPart) (v:Int),p.Parts[j]?=some x→a[j]?=some v→x.Kind≠1→-2≤v∧v < x.Options)→(∀ v∈a,-2≤v∧v≤5)→∃ (x:zav) (d':zaa),zcO d p c (n0,d0) (n1,d1) (List.map zad a) d2 i=some (zey (x,d'))∧zf4 n p x∧x.Candidate=c∧DOk d') ?_ ?_ [] d1 (by simp) hd1 (by intro j x v _ h; simp at h) (by simp)
 · obtain ⟨x,d',e2,h⟩:=loop; refine ⟨x,d',znx d p c ?_,h⟩; simp only [e0,e1,zak]; exact e2
 · intro a d2 ha hd2 hok hva; refine ⟨⟨p.Code*10000+c,p.Code,c,1+n0,p.Variant,[100*c+p.Code,n1],a⟩,d2,zfA _ _ _ _ _ _ _ _ ?_,?_,rfl,hd2⟩
   · simp (disch:=omega) only [List.length_map,zaz,Nat.zero_add,Nat.le_refl,zaU,w64_id]; rw [List.take_of_length_le (by simp),List.take_of_length_le (by simp)]; rfl
   · refine ⟨rfl,rfl,rfl,hc,by dsimp only; omega,rfl,?_,⟨by dsimp only; omega,hok⟩,hva⟩; intro y hy; simp only [List.mem_cons,List.not_mem_nil,or_false] at hy; omega
 · intro i hi r hr ih a d2 ha hd2 hok hva; obtain ⟨hx,_⟩:=hp.2.2 _ (List.getElem_mem hi)
   have snoc:∀ v:Int,(p.Parts[i].Kind≠1→-2≤v∧v < p.Parts[i].Options)→∀ (j:Nat) (x:GPart) (w:Int),p.Parts[j]?=some x→(a++[v])[j]?=some w→x.Kind≠1→-2≤w∧w < x.Options:=by
    intro v hv j x w hj hw; by_cases hja:j < a.length
    · rw [List.getElem?_append_left hja] at hw; exact hok j x w hj hw
    · have:=(List.getElem?_eq_some_iff.1 hw).1; simp at this; have hji:j=a.length:=by omega
      subst hji; simp at hw; subst hw; have:i=a.length:=by omega
      subst this; rw [List.getElem?_eq_getElem hi] at hj; injection hj with hj; subst hj; exact hv
   have sn2:∀ v:Int,(-2≤v∧v≤5)→∀ w∈a++[v],-2≤w∧w≤5:=by
    intro v hv w hw; rcases List.mem_append.1 hw with hw | hw
    · exact hva w hw
    · simp only [List.mem_singleton] at hw; subst hw; exact hv
   rcases kind2 hx with hk | hk
   · obtain ⟨x,d',e2,h⟩:=ih (a++[-1]) d2 (by simp; omega) hd2 (snoc _ (fun h=>absurd hk h)) (sn2 _ (by omega)); refine ⟨x,d',zfA _ _ _ _ _ _ _ _ ?_,h⟩; simp (disch:=omega) only [List.length_map,zax,zai,zaU,Int.toNat_natCast,zdI,List.getElem?_eq_getElem hi,Option.bind_some,show (p.Parts[i].Kind == 2)=false by rw [hk]; rfl,zam,w64_id,zbz zad,e2]
   · obtain ⟨v,d3,e3,hv,hd3⟩:=zg2 d2 [p.Parts[i].Key,0,1,-1,-2] hd2 (by simp) (by simp)
     have hv':-2≤v∧v < p.Parts[i].Options:=by unfold OkPart at hx; simp only [List.mem_cons,List.not_mem_nil,or_false] at hv; omega
     obtain ⟨x,d',e2,h⟩:=ih (a++[v]) d3 (by simp; omega) hd3 (snoc _ (fun _=>hv')) (sn2 _ (by unfold OkPart at hx; omega)); refine ⟨x,d',zfA _ _ _ _ _ _ _ _ ?_,h⟩; simp (disch:=omega) only [List.length_map,zax,zai,zaU,Int.toNat_natCast,zdI,List.getElem?_eq_getElem hi,Option.bind_some,show (p.Parts[i].Kind == 2)=true by rw [hk]; rfl,zas,e3,zak,w64_id,zbz zad,e2]
def zhk (n:Int) (ps:List zay) (l:List zav):Prop:=(∀ x∈l,∃ p∈ps,zf4 n p x)∧AscBy zav.Number l∧(l.length:Int)≤2*n
theorem c_Scripts (d:zaa) (ps:List zay) (n:Int) (hd:DOk d) (hps:ze1 ps) (hn:0≤n∧n≤9):∃ (l:List zav) (d':zaa),cw zfS [.loc 1000 2 0 0,.sl 3 (List.map zaB ps),I n] (mD d)=some (zd4 (l,d'))∧zhk n ps l∧DOk d':=by
 have hpl:=hps.2.1
 let Inv:Int→List zav→Prop:=fun code l=>(∀ x∈l,(∃ p∈ps,zf4 n p x)∧x.Number < code*10000)∧AscBy zav.Number l∧(l.length:Int)≤code*n
 let Res:Option (AV×Mem)→Prop:=fun o=>∃ (l:List zav) (d':zaa),o=some (zd4 (l,d'))∧zhk n ps l∧DOk d'
 have stage2:∀ (out:List zav) (d:zaa),Inv 2 out→DOk d→Res (zbO ps n (List.map zat out) d 2):=by intro out d hi hd; refine ⟨out,d,zhP _ _ _ _ _ ?_,⟨fun x hx=>(hi.1 x hx).1,hi.2.1,hi.2.2⟩,hd⟩; simp (disch:=omega) only [zaz,zaU]; rfl
 have step:∀ (code:Int),0≤code→code≤1→(∀ (out:List zav) (d:zaa),Inv (code+1) out→DOk d→Res (zbO ps n (List.map zat out) d (code+1)))→∀ (out:List zav) (d:zaa),Inv code out→DOk d→Res (zbO ps n (List.map zat out) d code):=by
  intro code hc0 hc1 next out d hi hd
  have third:∀ (l:List zay),(∀ p∈l,p∈ps∧p.Code=code)→l.length≤3→∀ (m:Nat) (c:Int) (out:List zav) (d:zaa),c+m=n+1→1≤c→(∀ x∈out,(∃ p∈ps,zf4 n p x)∧x.Number < code*10000+c)→AscBy zav.Number out→(out.length:Int)≤code*n+(c - 1)→DOk d→Res (zcF ps n code (List.map zaB l) (List.map zat out) d c):=by
   intro l hl hll m
   induction m with
   | zero =>
     intro c out d hc h1 g1 g2 g3 hd; obtain ⟨l',d',e1,h⟩:=next out d ⟨fun x hx=>⟨(g1 x hx).1,by have:=(g1 x hx).2; rw [Int.add_mul]; omega⟩,g2,by rw [Int.add_mul]; omega⟩ hd
     refine ⟨l',d',zdA _ _ _ _ _ _ _ ?_,h⟩; simp (disch:=omega) only [zaz,w64_id,e1]
   | succ m ih =>
     intro c out d hc h1 g1 g2 g3 hd; have hcn:code*n≤9:=by rcases (by omega:code=0∨code=1) with h | h <;> rw [h] <;> omega
     have hol:out.length≤20:=by omega
     by_cases hlz:0 < l.length
     · obtain ⟨n0,d0,e0,a0,b0,hd0⟩:=zaT d 5 hd (by omega); by_cases h0:0 < n0
       · obtain ⟨n1,d1,e1,a1,b1,hd1⟩:=zaT d0 l.length hd0 (by omega); have hlt:n1.toNat < l.length:=by omega
         obtain ⟨hp1,hp2⟩:=hl _ (List.getElem_mem hlt); obtain ⟨q1,q2,q3⟩:=hps.2.2.1 _ hp1; obtain ⟨x,d2,e2,hx,hxc,hd2⟩:=c_DScript d1 l[n1.toNat] c n hd1 q1 (by omega) (by omega) hn.2; have hxn:=hx.2.2.1
         obtain ⟨l',d',e3,h⟩:=ih (c+1) (out++[x]) d2 (by omega) (by omega)
          (by
           intro y hy; rcases List.mem_append.1 hy with hy | hy
           · exact ⟨(g1 y hy).1,by have:=(g1 y hy).2; omega⟩
           · simp only [List.mem_singleton] at hy; subst hy
             exact ⟨⟨_,hp1,hx⟩,by rw [hxn,hp2,hxc]; omega⟩)
          (asc_snoc g2 (fun y hy=>by rw [hxn,hp2,hxc]; exact (g1 y hy).2))
          (by simp; omega) hd2
         refine ⟨l',d',zdA _ _ _ _ _ _ _ ?_,h⟩; simp (disch:=omega) only [List.length_map,zax,e0,zak,e1,zai,zaU,Nat.zero_add,zdS,List.getElem?_eq_getElem hlt,Option.bind_some,e2,zlf,w64_id,zbz zat,e3]
       · obtain ⟨l',d',e3,h⟩:=ih (c+1) out d0 (by omega) (by omega) (fun y hy=>⟨(g1 y hy).1,by have:=(g1 y hy).2; omega⟩) g2 (by omega) hd0; refine ⟨l',d',zdA _ _ _ _ _ _ _ ?_,h⟩; simp (disch:=omega) only [List.length_map,zax,zaz,e0,zak,w64_id,e3]
     · obtain ⟨l',d',e1,h⟩:=next out d ⟨fun x hx=>⟨(g1 x hx).1,by have:=(g1 x hx).2; rw [Int.add_mul]; omega⟩,g2,by rw [Int.add_mul]; omega⟩ hd
       refine ⟨l',d',zdA _ _ _ _ _ _ _ ?_,h⟩; simp (disch:=omega) only [List.length_map,zax,zaz,w64_id,e1]
  have second:=zhN ps (fun i r=>∀ l:List zay,(∀ p∈l,p∈ps∧p.Code=code)→(l.length:Int)≤i→Res (zcE ps n (List.map zat out) d code (List.map zaB l) i)) ?_ ?_ [] (by simp) (by simp)
  · obtain ⟨l',d',e1,h⟩:=second; refine ⟨l',d',zhP _ _ _ _ _ ?_,h⟩; simp (disch:=omega) only [zax]; exact e1
  · intro l hl hll; obtain ⟨l',d',e1,h⟩:=third l hl (by omega) n.toNat 1 out d (by omega) (by omega) (fun x hx=>⟨(hi.1 x hx).1,by have:=(hi.1 x hx).2; omega⟩) hi.2.1 (by have:=hi.2.2; omega) hd; refine ⟨l',d',zff _ _ _ _ _ _ _ ?_,h⟩; simp (disch:=omega) only [List.length_map,zaz,e1]
  · intro i hi' r hr ih l hl hll; by_cases hcode:ps[i].Code=code
    · obtain ⟨l',d',e1,h⟩:=ih (l++[ps[i]]) (by
       intro p hp; rcases List.mem_append.1 hp with hp | hp
       · exact hl p hp
       · simp only [List.mem_singleton] at hp; subst hp
         exact ⟨List.getElem_mem hi',hcode⟩) (by simp; omega)
      refine ⟨l',d',zff _ _ _ _ _ _ _ ?_,h⟩; simp (disch:=omega) only [List.length_map,zax,zai,zaU,Int.toNat_natCast,zdS,List.getElem?_eq_getElem hi',Option.bind_some,show (ps[i].Code == code)=true by simpa using hcode,zas,w64_id,zbz zaB,e1]
    · obtain ⟨l',d',e1,h⟩:=ih l hl (by omega); refine ⟨l',d',zff _ _ _ _ _ _ _ ?_,h⟩; simp (disch:=omega) only [List.length_map,zax,zai,zaU,Int.toNat_natCast,zdS,List.getElem?_eq_getElem hi',Option.bind_some,show (ps[i].Code == code)=false by simpa using hcode,zam,w64_id,e1]
 have stage1:=step 1 (by omega) (by omega) stage2; have stage0:=step 0 (by omega) (by omega) stage1; obtain ⟨l,d',e1,h⟩:=stage0 [] d ⟨by simp,fun j hj=>by simp at hj,by simp⟩ hd; exact ⟨l,d',zmZ d ps n e1,h⟩
def zl7:zay:=⟨0,0,[]⟩
theorem zl9 (ps:List zay) (x:zav) (hl:ps.length≤1000000):cw zgg [.sl 3 (List.map zaB ps),.agg (zat x)] []=some (zh6 (((zgJ ps x).map (·.2)).getD zl7)):=by
 refine zs5 ps x ?_; have key:=find_gen ps (fun p=>p.Code == x.Paper && p.Variant == x.Variant) (fun i=>ze7 ps x i) (fun o=>zh6 ((o.map (·.2)).getD zl7)) ?_ ?_ ?_
 · exact key
 · exact ziH _ _ _ (by simp (disch:=omega) [zaz] <;> rfl)
 · intro i hi h; refine ziH _ _ _ ?_; rw [Bool.and_eq_true] at h; simp (disch:=omega) [zax,zai,h.1,h.2]; rfl
 · intro i hi y h hk; refine ziH _ _ _ ?_
   cases h1:(ps[i].Code == x.Paper) with
   | false=>simp (disch:=omega) [zax,zai,w64_id,h1,hk]
   | true=>rw [h1,Bool.true_and] at h; simp (disch:=omega) [zax,zai,w64_id,h1,h,hk]
theorem c_Monitor (d:zaa) (hd:DOk d):∃ (r:za6) (d':zaa),cw zfR [.loc 1000 2 0 0] (mD d)=some (zfU (r,d'))∧OkMon r∧DOk d':=by obtain ⟨n0,d0,e0,a0,b0,hd0⟩:=zaT d 3 hd (by omega); obtain ⟨n1,d1,e1,a1,b1,hd1⟩:=zaT d0 2 hd0 (by omega); obtain ⟨n2,d2,e2,a2,b2,hd2⟩:=zaT d1 3 hd1 (by omega); obtain ⟨n3,d3,e3,a3,b3,hd3⟩:=zaT d2 (1+n0) hd2 (by omega); refine ⟨⟨n1,n2,1+n0,1+n3⟩,d3,zmY d ?_,by refine ⟨?_,?_,?_,?_⟩ <;> dsimp only <;> omega,hd3⟩; simp (disch:=omega) only [e0,e1,e2,zak,w64_id,e3]; rfl
structure DSetup (s:zcp):Prop where
 papers:ze1 s.Papers
 markers:zl0 s.Markers
 scripts:zhk 4 s.Papers s.Scripts
theorem paperIx_of {ps:List zay} (hps:ze1 ps) {n:Int} {p:zay} {x:zav} (hp:p∈ps) (hx:zf4 n p x):∃ k,zgJ ps x=some (k,p):=by
 unfold zgJ
 cases hf:fnd (fun p=>p.Code == x.Paper && p.Variant == x.Variant) 0 ps with
 | none=>have:=zmj.1 hf p hp; rw [hx.1,hx.2.1] at this; simp at this
 | some q=>obtain ⟨k,p'⟩:=q; obtain ⟨h1,h2,_⟩:=fnd_at hf; simp only [Bool.and_eq_true,beq_iff_eq] at h2; have:=hps.2.2.2 p' (List.mem_of_getElem? h1) p hp (by rw [h2.1,hx.1]) (by rw [h2.2,hx.2.1]); rw [this]; exact ⟨k,rfl⟩
theorem ztm {n m:Int} (h:n≤m) {ps:List zay} {l:List zav} (hl:zhk n ps l):zhk m ps l:=
 ⟨fun x hx=>by
  obtain ⟨p,hp,a,b,c,d,e⟩:=hl.1 x hx
  exact ⟨p,hp,a,b,c,⟨d.1,by omega⟩,e⟩,hl.2.1,by have:=hl.2.2; omega⟩
def Sat {β:Type} (Q:β→Prop) (o:Option β):Prop:=∃ y,o=some y∧Q y
theorem sat_of {β:Type} {Q:β→Prop} {a b:Option β} (h:∀ y,a=some y→b=some y) (ha:Sat Q a):Sat Q b:=by obtain ⟨y,e,hq⟩:=ha; exact ⟨y,h y e,hq⟩
theorem zmy {β:Type} {Q:β→Prop} {y:β} (h:Q y):Sat Q (some y):=⟨y,rfl,h⟩
theorem ofScript {s:zcp} (hs:DSetup s) {x:zav} (hx:x∈s.Scripts):∃ k p,zgJ s.Papers x=some (k,p)∧p∈s.Papers∧zf4 4 p x∧DPaper p:=by obtain ⟨p,hp,h⟩:=hs.scripts.1 x hx; obtain ⟨k,hk⟩:=paperIx_of hs.papers hp h; exact ⟨k,p,hk,hp,h,(hs.papers.2.2.1 p hp).1⟩
def Nf (n:Int):Prop:=-1000000000≤n∧n≤1000000000
structure EvF (e:zaH):Prop where
 kind:e.Kind=0
 marker:e.Marker=0
 time:Nf e.Stamp.Time
 source:Nf e.Stamp.Source
 seq:Nf e.Stamp.Seq
 script:Nf e.Script
 part:Nf e.Part
 value:Nf e.Value
 few:e.Pages.length≤12
 pages:∀ p∈e.Pages,Nf p
theorem znT {n:Int} (hn:n≤9) {ps:List zay} (hps:ze1 ps) {x:zav} {p:zay} (hp:p∈ps) (h:zf4 n p x):Nf x.Number∧Nf x.Paper∧Nf x.Candidate∧Nf x.Centre∧Nf x.Variant∧(∀ y∈x.Pages,Nf y)∧(∀ y∈x.Answers,Nf y)∧x.Pages.length=2∧x.Answers.length≤3:=by
 obtain ⟨a,b,c,d,e,f,g,i,j⟩:=h; obtain ⟨q1,q2,q3⟩:=hps.2.2.1 p hp; unfold Nf; refine ⟨by omega,by omega,by omega,by omega,by omega,fun y hy=>?_,fun y hy=>?_,f,by rw [i.1]; exact q1.1⟩
 · have:=g y hy; omega
 · have:=j y hy; omega
theorem c_Mark (d:zaa) (s:zcp) (a b:Int) (hd:DOk d) (hs:DSetup s) (ha:Nf a) (hb:Nf b):∃ (e:zaH) (d':zaa),cw zht [.loc 1000 2 0 0,.agg (zfc s),I a,I b] (mD d)=some (zhy (e,d'))∧EvF e∧DOk d':=by
 have hm:=hs.markers; have hsl:=hs.scripts.2.2; have hpl:=hs.papers.2.1; obtain ⟨n0,d0,e0,a0,b0,hd0⟩:=zaT d s.Markers.length hd (by have:=hm.2.1; omega); have hlt:n0.toNat < s.Markers.length:=by have:=hm.1; omega
 have hid:Nf s.Markers[n0.toNat].ID:=by have:=hm.2.2.2.2 _ (List.getElem_mem hlt); have:=(hm.2.2.1.2.1 _ (List.getElem_mem hlt)).1.1; unfold Nf; omega
 have z0:Nf 0:=⟨by decide,by decide⟩
 by_cases hz:s.Scripts.length=0
 · refine ⟨⟨⟨b,s.Markers[n0.toNat].ID,a⟩,0,0,0,0,0,[]⟩,d0,zhp _ _ _ _ ?_,⟨rfl,rfl,hb,hid,ha,z0,z0,z0,by simp,by simp⟩,hd0⟩; simp (disch:=omega) only [List.length_map,e0,zak,zai,zec,List.getElem?_eq_getElem hlt,Option.bind_some,hz,Int.ofNat_zero,Int.natCast_zero,beq_self_eq_true,zas,Nat.zero_add,Nat.le_refl,zaU]; rfl
 · obtain ⟨n1,d1,e1,a1,b1,hd1⟩:=zaT d0 s.Scripts.length hd0 (by omega); have hl1:n1.toNat < s.Scripts.length:=by omega
   obtain ⟨k,p,hk,hp,hx,hdp⟩:=ofScript hs (List.getElem_mem hl1); have hpp:=hdp.1; have hpq:=hdp.2.1; have hpg:=hx.2.2.2.2.2.1; obtain ⟨n2,d2,e2,a2,b2,hd2⟩:=zaT d1 p.Parts.length hd1 (by omega); have hl2:n2.toNat < p.Parts.length:=by omega
   have hx2:=(hdp.2.2 _ (List.getElem_mem hl2)).1.1; obtain ⟨f1,f2,f3,f4,f5,f6,f7,f8,f9⟩:=znT (by decide) hs.papers hp hx; have hn2:Nf n2:=by unfold Nf; omega
   obtain ⟨n3,d3,e3,a3,b3,hd3⟩:=zaT d2 (p.Parts[n2.toNat].Max+2) hd2 (by omega); obtain ⟨v,d4,e4,hd4⟩:=zfC d3 12 hd3 (by omega); have hz':((s.Scripts.length:Int) == 0)=false:=by simp; intro h; exact hz (by simpa using h)
   cases v with
   | true=>refine ⟨⟨⟨b,s.Markers[n0.toNat].ID,a⟩,0,s.Scripts[n1.toNat].Number,n2,n3 - 1,0,[]⟩,d4,zhp _ _ _ _ ?_,⟨rfl,rfl,hb,hid,ha,f1,hn2,by unfold Nf; dsimp only; omega,by simp,by simp⟩,hd4⟩; simp (disch:=omega) only [List.length_map,e0,zak,zai,zec,List.getElem?_eq_getElem hlt,Option.bind_some,hz',zam,e1,zdC,List.getElem?_eq_getElem hl1,zl9 s.Papers _ (show s.Papers.length≤1000000 by omega),hk,Option.map_some,Option.getD_some,zfm,e2,zdI,List.getElem?_eq_getElem hl2,w64_id,e3,e4,zaQ,zas]; exact zlR _ _ _ _ _ _ _ (by simp (disch:=omega) only [Nat.zero_add,Nat.le_refl,zaU,w64_id]; rfl)
   | false =>
     refine ⟨⟨⟨b,s.Markers[n0.toNat].ID,a⟩,0,s.Scripts[n1.toNat].Number,n2,n3 - 1,0,s.Scripts[n1.toNat].Pages⟩,d4,zhp _ _ _ _ ?_,⟨rfl,rfl,hb,hid,ha,f1,hn2,by unfold Nf; dsimp only; omega,by dsimp only; omega,f6⟩,hd4⟩; simp (disch:=omega) only [List.length_map,e0,zak,zai,zec,List.getElem?_eq_getElem hlt,Option.bind_some,hz',zam,e1,zdC,List.getElem?_eq_getElem hl1,zl9 s.Papers _ (show s.Papers.length≤1000000 by omega),hk,Option.map_some,Option.getD_some,zfm,e2,zdI,List.getElem?_eq_getElem hl2,w64_id,e3,e4,zaQ,zam]
     exact zkR _ _ _ _ _ _ _ (by
      simp (disch:=omega) only [Nat.zero_add,List.length_map,Nat.le_refl,zaU,w64_id]; rw [List.take_of_length_le (by simp)]
      rfl)
theorem c_Full (d:zaa) (s:zcp) (n:Int) (hd:DOk d) (hs:DSetup s) (hn:0≤n∧n≤1000):∃ (l:List zaH) (d':zaa),cw zhs [.loc 1000 2 0 0,.agg (zfc s),I n] (mD d)=some (zfr (l,d'))∧l.length≤120∧(∀ e∈l,EvF e)∧DOk d':=by
 have hm2:=hs.markers.2.1; have hsl:=hs.scripts.2.2; have hpl:=hs.papers.2.1
 let Q:AV×Mem→Prop:=fun y=>∃ (l:List zaH) (d':zaa),y=zfr (l,d')∧l.length≤120∧(∀ e∈l,EvF e)∧DOk d'
 have loop:=zhN s.Scripts (fun i _=>∀ (out:List zaH) (d:zaa),(out.length:Int)≤15*i→(∀ e∈out,EvF e)→DOk d→Sat Q (zer s n (List.map za3 out) d i)) ?_ ?_ [] d (by simp) (by simp) hd
 · obtain ⟨y,e1,l,d',rfl,h⟩:=loop; exact ⟨l,d',zpZ _ _ _ e1,h⟩
 · intro out d hl hp hd; refine sat_of (fun y=>zi7 _ _ _ _ _) ?_; simp (disch:=omega) only [List.length_map,zaz,zaU]; exact zmy ⟨out,d,rfl,by omega,hp,hd⟩
 · intro i hi r _ ih out d hl hp hd; obtain ⟨k,p,hk,hpm,hx,hdp⟩:=ofScript hs (List.getElem_mem hi); have hpp:=hdp.1; have hpg:=hx.2.2.2.2.2.1; obtain ⟨f1,f2,f3,f4,f5,f6,f7,f8,f9⟩:=znT (by decide) hs.papers hpm hx; refine sat_of (fun y=>zi7 _ _ _ _ _) ?_; simp (disch:=omega) only [List.length_map,zax,zai,Int.toNat_natCast,zdC,List.getElem?_eq_getElem hi,Option.bind_some,zl9 s.Papers _ (show s.Papers.length≤1000000 by omega),hk,Option.map_some,Option.getD_some,zfm]; refine zhN s.Markers (fun j _=>∀ (out:List zaH) (d:zaa),(out.length:Int)≤15*i+3*j→(∀ e∈out,EvF e)→DOk d→Sat Q (zes s n i p (List.map za3 out) d j)) ?_ ?_ out d (by omega) hp hd
   · intro out d hl hp hd; refine sat_of (fun y=>zi8 _ _ _ _ _ _ _) ?_; simp (disch:=omega) only [List.length_map,zaz,w64_id]; exact ih out d (by omega) hp hd
   · intro j hj r _ ih2 out d hl hp hd; refine sat_of (fun y=>zi8 _ _ _ _ _ _ _) ?_; simp (disch:=omega) only [List.length_map,zax]
     have hid:Nf s.Markers[j].ID:=by have:=hs.markers.2.2.2.2 _ (List.getElem_mem hj); have:=(hs.markers.2.2.1.2.1 _ (List.getElem_mem hj)).1.1; unfold Nf; omega
     refine zhN p.Parts (fun q _=>∀ (out:List zaH) (d:zaa),(out.length:Int)≤15*i+3*j+q→(∀ e∈out,EvF e)→DOk d→Sat Q (zcD s n i p j (List.map za3 out) d q)) ?_ ?_ out d (by omega) hp hd
     · intro out d hl hp hd; refine sat_of (fun y=>zi9 _ _ _ _ _ _ _ _) ?_; simp (disch:=omega) only [List.length_map,zaz,w64_id]; exact ih2 out d (by omega) hp hd
     · intro q hq r _ ih3 out d hl hp hd; have hmx:=(hdp.2.2 _ (List.getElem_mem hq)).1.1; refine sat_of (fun y=>zi9 _ _ _ _ _ _ _ _) ?_; by_cases hkd:p.Parts[q].Kind=1
       · obtain ⟨n0,d0,e0,a0,b0,hd0⟩:=zaT d 4 hd (by omega); by_cases hz:0 < n0
         · obtain ⟨n1,d1,e1,a1,b1,hd1⟩:=zaT d0 (p.Parts[q].Max+1) hd0 (by omega); simp (disch:=omega) only [List.length_map,zax,zai,Int.toNat_natCast,zdI,List.getElem?_eq_getElem hq,Option.bind_some,show (p.Parts[q].Kind == 1)=true by simpa using hkd,zas,e0,zak,zec,List.getElem?_eq_getElem hj,zdC,List.getElem?_eq_getElem hi,w64_id,e1,zaU,zbz za3]; refine ih3 (out++[_]) d1 (by simp; omega) ?_ hd1; intro x hx'; rcases List.mem_append.1 hx' with hx' | hx'
           · exact hp x hx'
           · simp only [List.mem_singleton] at hx'; subst hx'; exact ⟨rfl,rfl,by unfold Nf; dsimp only; omega,hid,by unfold Nf; dsimp only; omega,f1,by unfold Nf; dsimp only; omega,by unfold Nf; dsimp only; omega,by dsimp only; omega,f6⟩
         · simp (disch:=omega) only [List.length_map,zax,zaz,zai,Int.toNat_natCast,zdI,List.getElem?_eq_getElem hq,Option.bind_some,show (p.Parts[q].Kind == 1)=true by simpa using hkd,zas,e0,zak,w64_id]; exact ih3 out d0 (by omega) hp hd0
       · simp (disch:=omega) only [List.length_map,zax,zaz,zai,Int.toNat_natCast,zdI,List.getElem?_eq_getElem hq,Option.bind_some,show (p.Parts[q].Kind == 1)=false by simpa using hkd,zam,w64_id]; exact ih3 out d (by omega) hp hd
end Go.Proofs.YtdclabgakicjeaaGreatDoor
namespace Go.Proofs.YtdclabgakicjeaaGreatDoor
open Go.Ab Go.Str
set_option maxRecDepth 100000
def OkO (o:GOp):Prop:=fmtS o≠none∧OpW o
theorem fits_w {n:Int} (h:fits n):W64 n:=by unfold fits at h; unfold W64; omega
theorem nf_fits {n:Int} (h:Nf n):fits n:=by unfold Nf at h; unfold fits; omega
theorem blank_w {W:Nat} (hW:W < 12):OpW (blankS W):=by
 rcases lt12' hW with rfl | rfl | rfl | rfl | rfl | rfl | rfl | rfl | rfl | rfl | rfl | rfl
 all_goals
  refine ⟨fun k=>?_,fun k=>?_⟩
  · unfold getN W64; split <;> exact ⟨by decide,by decide⟩
  · unfold getL; split <;> exact ⟨by decide,by intro n hn; cases hn⟩
theorem zrS (k j:Nat) (v:Int) (o:GOp):getN k (putN v j o)=v∨getN k (putN v j o)=getN k o:=by unfold putN; split <;> (unfold getN; split <;> first | exact Or.inl rfl | exact Or.inr rfl)
theorem getN_putL (k j:Nat) (v:List Int) (o:GOp):getN k (putL v j o)=getN k o:=by unfold putL; split <;> (unfold getN; split <;> rfl)
theorem zrR (k j:Nat) (v:Int) (o:GOp):getL k (putN v j o)=getL k o:=by unfold putN; split <;> (unfold getL; split <;> rfl)
theorem getL_putL (k j:Nat) (v:List Int) (o:GOp):getL k (putL v j o)=v∨getL k (putL v j o)=getL k o:=by unfold putL; split <;> (unfold getL; split <;> first | exact Or.inl rfl | exact Or.inr rfl)
theorem copy_w (o:GOp):∀ (ps:List (Bool×Nat)) (c:GOp),(∀ p∈ps,okW o p)→OpW c→OpW (ps.foldl (copy1 o) c)
 | [],c,_,hc=>hc
 | p :: ps,c,h,hc=>by
   refine copy_w o ps _ (fun q hq=>h q (by simp [hq])) ?_; have hp:=h p (by simp); unfold okW at hp; unfold copy1; split
   · rename_i hb; rw [if_pos hb] at hp; refine ⟨fun k=>by rw [getN_putL]; exact hc.num k,fun k=>?_⟩; rcases getL_putL k p.2 (getL p.2 o) c with e | e
     · rw [e]; exact ⟨by omega,fun n hn=>fits_w (hp.2 n hn)⟩
     · rw [e]; exact hc.list k
   · rename_i hb; rw [if_neg hb] at hp; refine ⟨fun k=>?_,fun k=>by rw [zrR]; exact hc.list k⟩; rcases zrS k p.2 (getN p.2 o) c with e | e
     · rw [e]; exact fits_w hp
     · rw [e]; exact hc.num k
theorem ok_of {o:GOp} {W:Nat} (hW:W < 12) (hok:∀ p∈slotsC W,okW o p) (hc:copyS W o=o):OkO o:=by
 have hf:=znI hW hc; refine ⟨?_,?_⟩
 · unfold fmtS; rw [hf,if_pos ⟨hW,hok,hc⟩]; exact fun e=>by cases e
 · rw [← hc]; exact copy_w o _ _ hok (blank_w hW)
theorem okN {o:GOp} {k:Nat} (h:Nf (getN k o)):okW o (false,k):=by unfold okW; rw [iNs]; exact nf_fits h
theorem okL {o:GOp} {k:Nat} (h:(getL k o).length≤300) (h2:∀ n∈getL k o,Nf n):okW o (true,k):=by unfold okW; rw [if_pos rfl]; exact ⟨h,fun n hn=>nf_fits (h2 n hn)⟩
theorem zkz {a b c:Int} (ha:Nf a) (hb:Nf b) (hc:Nf c):OkO ⟨0,⟨a,b,c⟩,⟨0,0,0,0,0,[],[]⟩,⟨⟨0,0,0⟩,0,0,0,0,0,[]⟩,⟨0,0⟩,⟨⟨0,0,0⟩,0,0,0⟩,[],0,0⟩:=
 ok_of (W:=0) (by decide) (fun p hp=>by
  simp only [slotsC,List.mem_cons,List.not_mem_nil,or_false] at hp; rcases hp with rfl | rfl | rfl
  · exact okN ha
  · exact okN hb
  · exact okN hc) rfl
theorem zsb {x:zav} (h1:Nf x.Number) (h2:Nf x.Paper) (h3:Nf x.Candidate) (h4:Nf x.Centre) (h5:Nf x.Variant) (h6:∀ y∈x.Pages,Nf y) (h7:∀ y∈x.Answers,Nf y) (h8:x.Pages.length=2) (h9:x.Answers.length≤3):OkO ⟨1,⟨0,0,0⟩,⟨x.Number,x.Paper,x.Candidate,x.Centre,x.Variant,x.Pages,x.Answers⟩,⟨⟨0,0,0⟩,0,0,0,0,0,[]⟩,⟨0,0⟩,⟨⟨0,0,0⟩,0,0,0⟩,[],0,0⟩:=
 ok_of (W:=1) (by decide) (fun p hp=>by
  simp only [slotsC,List.mem_cons,List.not_mem_nil,or_false] at hp; rcases hp with rfl | rfl | rfl | rfl | rfl | rfl | rfl
  · exact okN h1
  · exact okN h2
  · exact okN h3
  · exact okN h4
  · exact okN h5
  · exact okL (by show x.Pages.length≤300; omega) h6
  · exact okL (by show x.Answers.length≤300; omega) h7) (by simp only [copyS,slotsC,blankS,zOp,List.foldl_cons,List.foldl_nil,copy1,putN,putL,getN,getL,if_true,Bool.false_eq_true,if_false])
theorem ok_mark {e:zaH} (h:EvF e):OkO ⟨2,⟨0,0,0⟩,⟨0,0,0,0,0,[],[]⟩,⟨⟨e.Stamp.Time,e.Stamp.Source,e.Stamp.Seq⟩,e.Kind,e.Script,e.Part,e.Value,e.Marker,e.Pages⟩,⟨0,0⟩,⟨⟨0,0,0⟩,0,0,0⟩,[],0,0⟩:=by
 have hk:=h.kind; have hm:=h.marker; have hf:=h.few; rw [hk,hm]
 exact ok_of (W:=2) (by decide) (fun p hp=>by
  simp only [slotsC,List.mem_cons,List.not_mem_nil,or_false] at hp; rcases hp with rfl | rfl | rfl | rfl | rfl | rfl | rfl
  · exact okN h.time
  · exact okN h.source
  · exact okN h.seq
  · exact okN h.script
  · exact okN h.part
  · exact okN h.value
  · exact okL (by show e.Pages.length≤300; omega) h.pages) rfl
theorem ztf {a b c m:Int} (ha:Nf a) (hb:Nf b) (hc:Nf c) (hm:Nf m):OkO ⟨2,⟨0,0,0⟩,⟨0,0,0,0,0,[],[]⟩,⟨⟨a,b,c⟩,1,0,0,0,m,[]⟩,⟨0,0⟩,⟨⟨0,0,0⟩,0,0,0⟩,[],0,0⟩:=
 ok_of (W:=3) (by decide) (fun p hp=>by
  simp only [slotsC,List.mem_cons,List.not_mem_nil,or_false] at hp; rcases hp with rfl | rfl | rfl | rfl
  · exact okN ha
  · exact okN hb
  · exact okN hc
  · exact okN hm) rfl
theorem ok_special {a b:Int} (ha:Nf a) (hb:Nf b):OkO ⟨3,⟨0,0,0⟩,⟨0,0,0,0,0,[],[]⟩,⟨⟨0,0,0⟩,0,0,0,0,0,[]⟩,⟨a,b⟩,⟨⟨0,0,0⟩,0,0,0⟩,[],0,0⟩:=
 ok_of (W:=5) (by decide) (fun p hp=>by
  simp only [slotsC,List.mem_cons,List.not_mem_nil,or_false] at hp; rcases hp with rfl | rfl
  · exact okN ha
  · exact okN hb) rfl
theorem ok_review {a b c m:Int} (ha:Nf a) (hb:Nf b) (hc:Nf c) (hm:Nf m):OkO ⟨4,⟨0,0,0⟩,⟨0,0,0,0,0,[],[]⟩,⟨⟨0,0,0⟩,0,0,0,0,0,[]⟩,⟨0,0⟩,⟨⟨a,b,c⟩,0,m,0⟩,[],0,0⟩:=
 ok_of (W:=6) (by decide) (fun p hp=>by
  simp only [slotsC,List.mem_cons,List.not_mem_nil,or_false] at hp; rcases hp with rfl | rfl | rfl | rfl
  · exact okN ha
  · exact okN hb
  · exact okN hc
  · exact okN hm) rfl
theorem ok_remark {a b c m:Int} (ha:Nf a) (hb:Nf b) (hc:Nf c) (hm:Nf m):OkO ⟨4,⟨0,0,0⟩,⟨0,0,0,0,0,[],[]⟩,⟨⟨0,0,0⟩,0,0,0,0,0,[]⟩,⟨0,0⟩,⟨⟨a,b,c⟩,1,0,m⟩,[],0,0⟩:=
 ok_of (W:=7) (by decide) (fun p hp=>by
  simp only [slotsC,List.mem_cons,List.not_mem_nil,or_false] at hp; rcases hp with rfl | rfl | rfl | rfl
  · exact okN ha
  · exact okN hb
  · exact okN hc
  · exact okN hm) rfl
theorem ok_bounds {l:List Int} {t:Int} (hl:l.length≤300) (h:∀ n∈l,Nf n) (ht:Nf t):OkO ⟨5,⟨0,0,0⟩,⟨0,0,0,0,0,[],[]⟩,⟨⟨0,0,0⟩,0,0,0,0,0,[]⟩,⟨0,0⟩,⟨⟨0,0,0⟩,0,0,0⟩,l,t,0⟩:=
 ok_of (W:=8) (by decide) (fun p hp=>by
  simp only [slotsC,List.mem_cons,List.not_mem_nil,or_false] at hp; rcases hp with rfl | rfl
  · exact okN ht
  · exact okL hl h) rfl
theorem ok_time {k t:Int} (hk:k=6∨k=7) (ht:Nf t):OkO ⟨k,⟨0,0,0⟩,⟨0,0,0,0,0,[],[]⟩,⟨⟨0,0,0⟩,0,0,0,0,0,[]⟩,⟨0,0⟩,⟨⟨0,0,0⟩,0,0,0⟩,[],t,0⟩:=by
 rcases hk with rfl | rfl
 · exact ok_of (W:=9) (by decide) (fun p hp=>by
    simp only [slotsC,List.mem_cons,List.not_mem_nil,or_false] at hp; subst hp
    exact okN ht) rfl
 · exact ok_of (W:=10) (by decide) (fun p hp=>by
    simp only [slotsC,List.mem_cons,List.not_mem_nil,or_false] at hp; subst hp
    exact okN ht) rfl
theorem ok_revoke {t n:Int} (ht:Nf t) (hn:Nf n):OkO ⟨8,⟨0,0,0⟩,⟨0,0,0,0,0,[],[]⟩,⟨⟨0,0,0⟩,0,0,0,0,0,[]⟩,⟨0,0⟩,⟨⟨0,0,0⟩,0,0,0⟩,[],t,n⟩:=
 ok_of (W:=11) (by decide) (fun p hp=>by
  simp only [slotsC,List.mem_cons,List.not_mem_nil,or_false] at hp; rcases hp with rfl | rfl
  · exact okN ht
  · exact okN hn) rfl
theorem zs0 (d:zaa) (hd:DOk d):∃ (r:zbi) (d':zaa),cw zeF [.loc 1000 2 0 0] (mD d)=some (zeN (r,d'))∧DOk d':=by obtain ⟨n0,d0,e0,_,hd0⟩:=zg2 d [1000,100,0] hd (by simp) (by simp); obtain ⟨n1,d1,e1,_,_,hd1⟩:=zaT d0 2 hd0 (by omega); obtain ⟨n2,d2,e2,_,_,hd2⟩:=zaT d1 3 hd1 (by omega); refine ⟨⟨n0,w64 (1+n1),n2⟩,d2,zlh d ?_,hd2⟩; simp only [e0,e1,e2,zak,zak]; rfl
theorem c_Curve (d:zaa) (hd:DOk d):∃ (c:zc0) (d':zaa),cw zgV [.loc 1000 2 0 0] (mD d)=some (zeX (c,d'))∧DOk d':=by
 have loop:∀ (n:Nat) (pts:List zgY) (d:zaa) (a b:Int),n≤5→pts.length+n≤10→DOk d→∃ (c:zc0) (d':zaa),zd2 (List.map zjZ pts) d a b (n:Nat)=some (zeX (c,d'))∧DOk d':=by
  intro n
  induction n with
  | zero=>intro pts d a b _ h hd; refine ⟨⟨pts⟩,d,zio _ _ _ _ _ ?_,hd⟩; rw [zaz (by omega),cPQ,List.take_length]; rfl
  | succ n ih=>intro pts d a b hn h hd; obtain ⟨n1,d1,e1,_,_,hd1⟩:=zaT d 3 hd (by omega); obtain ⟨n2,d2,e2,_,_,hd2⟩:=zaT d1 4 hd1 (by omega); obtain ⟨c,d',e3,hd'⟩:=ih (pts++[⟨⟨w64 (w64 (a+1)+n1),1⟩,⟨w64 (w64 (b+1)+n2),1⟩⟩]) d2 (w64 (w64 (a+1)+n1)) (w64 (w64 (b+1)+n2)) (by omega) (by simp; omega) hd2; refine ⟨c,d',zio _ _ _ _ _ ?_,hd'⟩; rw [zax (by omega),e1,zak]; simp only; rw [e2,zak,zaU,zai (by rw [List.length_map]; omega),w6Q (n:=((n+1:Nat):Int) - 1),show ((n+1:Nat):Int) - 1=(n:Nat) by omega,zbz zjZ]; exact e3
 obtain ⟨n0,d0,e0,_,_,hd0⟩:=zaT d 9 hd (by omega); obtain ⟨n1,d1,e1,_,_,hd1⟩:=zaT d0 9 hd0 (by omega); obtain ⟨n2,d2,e2,a2,b2,hd2⟩:=zaT d1 4 hd1 (by omega); obtain ⟨c,d',e3,hd'⟩:=loop (n2.toNat+1) [⟨⟨w64 (n0 - 4),1⟩,⟨w64 (n1 - 4),1⟩⟩] d2 (w64 (n0 - 4)) (w64 (n1 - 4)) (by omega) (by simp; omega) hd2; refine ⟨c,d',zoJ d ?_,hd'⟩; simp only [e0,e1,e2,zak]; rw [w6Q (n:=1+n2),show (1+n2:Int)=((n2.toNat+1:Nat):Int) by omega]; exact e3
theorem c_Bounds (d:zaa) (m:Int) (hd:DOk d) (hm:0≤m∧m≤1000):∃ (l:List Int) (d':zaa),cw zem [.loc 1000 2 0 0,I m] (mD d)=some (zex (l,d'))∧l.length≤10∧(∀ n∈l,Nf n)∧DOk d':=by
 have loop:∀ (n:Nat) (l:List Int) (d:zaa) (b:Int),n≤5→l.length+n≤10→0≤b∧b≤1001→(∀ n∈l,Nf n)→DOk d→∃ (l':List Int) (d':zaa),zdG (List.map zad l) d b (n:Nat)=some (zex (l',d'))∧l'.length≤10∧(∀ n∈l',Nf n)∧DOk d':=by
  intro n
  induction n with
  | zero=>intro l d b _ h hb hl hd; refine ⟨l,d,zic _ _ _ _ ?_,by omega,hl,hd⟩; rw [zaz (by omega),zai rfl]; rfl
  | succ n ih =>
    intro l d b hn h hb hl hd; have ht:b.tdiv 2=b / 2:=Int.tdiv_eq_ediv_of_nonneg hb.1; obtain ⟨n1,d1,e1,a1,b1,hd1⟩:=zaT d (b / 2+1) hd (by omega)
    obtain ⟨l',d',e3,g1,g2,hd'⟩:=ih (l++[b - n1]) d1 (b - n1) (by omega) (by simp; omega) (by omega) (fun x hx=>by
     rcases List.mem_append.1 hx with hx | hx
     · exact hl x hx
     · rw [List.mem_singleton.1 hx]; unfold Nf; omega) hd1
    refine ⟨l',d',zic _ _ _ _ ?_,g1,g2,hd'⟩; rw [zax (by omega),zai (by decide),ht,w6Q (n:=b / 2),w6Q (n:=b / 2+1),e1,zak]; simp only; rw [zaU,zai (by rw [List.length_map]; omega),zaU,w6Q (n:=((n+1:Nat):Int) - 1),show ((n+1:Nat):Int) - 1=(n:Nat) by omega,w6Q (n:=b - n1),zbz zad]; exact e3
 obtain ⟨n0,d0,e0,a0,b0,hd0⟩:=zaT d 4 hd (by omega); obtain ⟨l,d',e3,g1,g2,hd'⟩:=loop (n0.toNat+1) [] d0 (m+1) (by omega) (by simp; omega) (by omega) (by simp) hd0; refine ⟨l,d',znw d m ?_,g1,g2,hd'⟩; simp only [e0,zak]; rw [w6Q (n:=m+1),w6Q (n:=1+n0),show (1+n0:Int)=((n0.toNat+1:Nat):Int) by omega]; exact e3
theorem c_Award (d:zaa) (n:Nat) (hd:DOk d) (hn:n≤10):∃ (a:zcK) (d':zaa),cw zgU [.loc 1000 2 0 0,I (n:Nat)] (mD d)=some (zeW (a,d'))∧(0≤a.Max∧a.Max≤100)∧DOk d':=by
 obtain ⟨n0,d0,e0,a0,hd0⟩:=zg2 d [100,20,60] hd (by simp) (by simp)
 have hm:0≤n0∧n0≤100:=by simp only [List.mem_cons,List.not_mem_nil,or_false] at a0; omega
 have loop:∀ (m i:Nat) (us:List GUnit) (d:zaa),i+m=n→us.length=i→DOk d→∃ (a:zcK) (d':zaa),zd1 (n:Nat) (n0,d0) (List.map zh4 us) d (i:Nat)=some (zeW (a,d'))∧(0≤a.Max∧a.Max≤100)∧DOk d':=by
  intro m
  induction m with
  | zero=>intro i us d hi hu hd; obtain ⟨l,d1,e1,g1,g2,hd1⟩:=c_Bounds d n0 hd (by omega); refine ⟨⟨us,l,n0⟩,d1,zin _ _ _ _ _ ?_,hm,hd1⟩; rw [zaz (by omega)]; simp only; rw [e1,zg3,cPQ,cPQ,List.take_length]; simp only [List.take_length]; rfl
  | succ m ih=>intro i us d hi hu hd; obtain ⟨n1,d1,e1,_,hd1⟩:=zg2 d [1,2,60,40] hd (by simp) (by simp); obtain ⟨n2,d2,e2,_,hd2⟩:=zg2 d1 [10,12,50] hd1 (by simp) (by simp); obtain ⟨a,d',e3,g1,hd'⟩:=ih (i+1) (us++[⟨(i:Nat),n1,n2⟩]) d2 (by omega) (by simp; omega) hd2; refine ⟨a,d',zin _ _ _ _ _ ?_,g1,hd'⟩; rw [zax (by omega),e1,zak]; simp only; rw [e2,zak,zaU,zai (by rw [List.length_map]; omega),w6Q,show ((i:Nat):Int)+1=((i+1:Nat):Int) by omega,zbz zh4]; exact e3
 obtain ⟨a,d',e3,g1,hd'⟩:=loop n 0 [] d0 (by omega) rfl hd0; refine ⟨a,d',zoI d _ ?_,g1,hd'⟩; simp only [e0,zak]; exact e3
theorem c_SeedP (d:zaa) (ps:List zay) (x:zav) (hd:DOk d) (hps:ze1 ps):∃ (y:GSeed) (d':zaa),cw zhv [.loc 1000 2 0 0,.sl 3 (List.map zaB ps),.agg (zat x)] (mD d)=some (zft (y,d'))∧DOk d':=by
 have hl:=hps.2.1
 obtain ⟨q,hq,hql,hqm⟩:∃ q,((zgJ ps x).map (·.2)).getD zl7=q∧q.Parts.length≤3∧∀ y∈q.Parts,0≤y.Max∧y.Max≤100:=by
  refine ⟨_,rfl,?_⟩
  cases hx:zgJ ps x with
  | none=>exact ⟨by decide,by intro y hy; cases hy⟩
  | some k=>obtain ⟨k,p⟩:=k; have hp:=(hps.2.2.1 p (List.mem_of_getElem? (paperIx_at hx).1)).1; exact ⟨hp.1,fun y hy=>by have:=hp.2.2 y hy; have:=this.1.1; omega⟩
 have loop:∀ (m i:Nat) (a:List Int) (d:zaa),i+m=q.Parts.length→a.length=i→DOk d→∃ (y:GSeed) (d':zaa),zet x q (List.map zad a) d (i:Nat)=some (zft (y,d'))∧DOk d':=by
  intro m
  induction m with
  | zero=>intro i a d hi ha hd; refine ⟨⟨x.Number,a⟩,d,zja _ _ _ _ _ ?_,hd⟩; rw [zaz (by rw [List.length_map]; omega),cPQ,List.take_length]; rfl
  | succ m ih =>
    intro i a d hi ha hd; have hlt:i < q.Parts.length:=by omega
    have hmx:=hqm _ (List.getElem_mem hlt); obtain ⟨n1,d1,e1,_,_,hd1⟩:=zaT d (q.Parts[i].Max+1) hd (by omega); obtain ⟨y,d',e3,hd'⟩:=ih (i+1) (a++[n1]) d1 (by omega) (by simp; omega) hd1; refine ⟨y,d',zja _ _ _ _ _ ?_,hd'⟩; rw [zax (by rw [List.length_map]; omega),cPQ,zdI,show ((i:Nat):Int).toNat=i from rfl,List.getElem?_eq_getElem hlt,Option.bind_some,w6Q (n:=q.Parts[i].Max+1),e1,zak,zai rfl,zai (by rw [List.length_map]; omega),w6Q,show ((i:Nat):Int)+1=((i+1:Nat):Int) by omega,zbz zad]; exact e3
 obtain ⟨y,d',e3,hd'⟩:=loop q.Parts.length 0 [] d (by omega) rfl hd; refine ⟨y,d',zp2 d ps x ?_,hd'⟩; rw [zl9 ps x (by omega),zfm,hq]; exact e3
structure DRules (r:zbf):Prop where
 papers:ze1 r.Papers
 markers:zl0 r.Markers
 max:0≤r.Award.Max∧r.Award.Max≤100
theorem c_Rules (d:zaa) (hd:DOk d):∃ (r:zbf) (d':zaa),cw zgW [.loc 1000 2 0 0] (mD d)=some (zdF (r,d'))∧DRules r∧DOk d':=by
 obtain ⟨ps,cs,d0,e0,hps,_,_,hd0⟩:=c_Papers d hd; obtain ⟨ms,d1,e1,hms,hd1⟩:=c_Markers d0 hd0; obtain ⟨mo,d2,e2,_,hd2⟩:=c_Monitor d1 hd1; obtain ⟨ru,d3,e3,_,_,hd3⟩:=c_Rule d2 hd2; obtain ⟨ar,d4,e4,hd4⟩:=zs0 d3 hd3; obtain ⟨n5,d5,e5,_,_,hd5⟩:=zaT d4 1000000 hd4 (by omega); have hpl:=hps.2.1
 have last:∀ (cv:List zc0) (d:zaa) (n i:Nat),n≤10→i=ps.length→DOk d→∃ (r:zbf) (d':zaa),zco ((ps,cs),d0) (ms,d1) (mo,d2) (ru,d3) (ar,d4) (n5,d5) (List.map zhK cv) d (n:Nat) (i:Nat)=some (zdF (r,d'))∧DRules r∧DOk d':=by
  intro cv d n i hn hi hd; obtain ⟨aw,d6,e6,g6,hd6⟩:=c_Award d n hd hn; obtain ⟨b,d7,e7,hd7⟩:=zfC d6 2 hd6 (by omega)
  cases b with
  | true=>obtain ⟨sd,d8,e8,hd8⟩:=c_SeedP d7 ps ⟨1,0,1,0,0,[],[]⟩ hd7 hps; refine ⟨⟨ms,ps,[sd],mo,ru,cs,cv,aw,ar,w64 (1+n5)⟩,d8,zd8 _ _ _ _ _ _ _ _ _ _ ?_,⟨hps,hms,g6⟩,hd8⟩; rw [zaz (by rw [List.length_map]; dsimp only; omega),e6,zhD]; simp only; rw [e7,zaQ,zas]; simp only; rw [e8,zmf]; refine zlv _ _ _ _ _ _ _ _ _ ?_; rw [cPQ,cPQ]; simp only [List.take_length]; rfl
  | false=>refine ⟨⟨ms,ps,[],mo,ru,cs,cv,aw,ar,w64 (1+n5)⟩,d7,zd8 _ _ _ _ _ _ _ _ _ _ ?_,⟨hps,hms,g6⟩,hd7⟩; rw [zaz (by rw [List.length_map]; dsimp only; omega),e6,zhD]; simp only; rw [e7,zaQ,zam]; refine zkG _ _ _ _ _ _ _ _ _ ?_; rw [cPQ,cPQ]; simp only [List.take_length]; rfl
 have loop:∀ (m i:Nat) (cv:List zc0) (d:zaa) (n:Nat),i+m=ps.length→cv.length=i→n≤10→DOk d→∃ (r:zbf) (d':zaa),zco ((ps,cs),d0) (ms,d1) (mo,d2) (ru,d3) (ar,d4) (n5,d5) (List.map zhK cv) d (n:Nat) (i:Nat)=some (zdF (r,d'))∧DRules r∧DOk d':=by
  intro m
  induction m with
  | zero=>intro i cv d n hi hc hn hd; exact last cv d n i hn (by omega) hd
  | succ m ih =>
    intro i cv d n hi hc hn hd; have hlt:i < ps.length:=by omega
    have hcode:=(hps.2.2.1 _ (List.getElem_mem hlt)).2.1
    obtain ⟨n',hn',en⟩:∃ n':Nat,n'≤10∧(if w64 (ps[i].Code+1) > (n:Int) then w64 (ps[i].Code+1) else (n:Int))=(n':Nat):=by
     rw [w6Q]; split
     · exact ⟨(ps[i].Code+1).toNat,by omega,by omega⟩
     · exact ⟨n,hn,rfl⟩
    obtain ⟨b,d6,e6,hd6⟩:=zfC d 4 hd (by omega)
    cases b with
    | true=>obtain ⟨c,d7,e7,hd7⟩:=c_Curve d6 hd6; obtain ⟨r,d',e8,h8,hd'⟩:=ih (i+1) (cv++[c]) d7 n' (by omega) (by simp; omega) hn' hd7; refine ⟨r,d',zd8 _ _ _ _ _ _ _ _ _ _ ?_,h8,hd'⟩; rw [zax (by rw [List.length_map]; dsimp only; omega),cPQ,zdS,show ((i:Nat):Int).toNat=i from rfl]; simp only; rw [List.getElem?_eq_getElem hlt,Option.bind_some,e6,zaQ,zas]; simp only; rw [e7,zlE,zaU,zai (by rw [List.length_map]; omega),en,w6Q (n:=((i:Nat):Int)+1),show ((i:Nat):Int)+1=((i+1:Nat):Int) by omega,zbz zhK]; exact e8
    | false=>obtain ⟨r,d',e8,h8,hd'⟩:=ih (i+1) (cv++[⟨[]⟩]) d6 n' (by omega) (by simp; omega) hn' hd6; refine ⟨r,d',zd8 _ _ _ _ _ _ _ _ _ _ ?_,h8,hd'⟩; rw [zax (by rw [List.length_map]; dsimp only; omega),cPQ,zdS,show ((i:Nat):Int).toNat=i from rfl]; simp only; rw [List.getElem?_eq_getElem hlt,Option.bind_some,e6,zaQ,zam,zaU,zai (by rw [List.length_map]; omega),en,w6Q (n:=((i:Nat):Int)+1),show ((i:Nat):Int)+1=((i+1:Nat):Int) by omega,zbz zhK]; exact e8
 obtain ⟨r,d',e8,h8,hd'⟩:=loop ps.length 0 [] d5 1 (by omega) rfl (by decide) hd5; refine ⟨r,d',zoK d ?_,h8,hd'⟩; rw [e0,zld]; simp only; rw [e1,zkO]; simp only; rw [e2,zkP]; simp only; rw [e3,zme]; simp only; rw [e4,zjf]; simp only; rw [e5,zak]; exact e8
set_option maxRecDepth 100000
theorem zr0 {ms:List za1} (h:zl0 ms) {i:Nat} (hi:i < ms.length):Nf ms[i].ID:=by have:=h.2.2.2.2 _ (List.getElem_mem hi); have:=(h.2.2.1.2.1 _ (List.getElem_mem hi)).1.1; unfold Nf; omega
theorem c_one (d:zaa) (r:zbf) (sc:List zav) (i:Int) (hd:DOk d) (hr:DRules r) (hs:zhk 4 r.Papers sc) (hi:0≤i∧i≤100):∃ (o:GOp) (d':zaa),cw zds [.loc 1000 2 0 0,.agg (zbU r),.sl 7 (List.map zat sc),I i] (mD d)=some (zcR (o,d'))∧OkO o∧DOk d':=by
 obtain ⟨n0,d0,e0,a0,b0,hd0⟩:=zaT d 16 hd (by omega); have hpl:=hr.papers.2.1; have hp1:=hr.papers.1; have hml:=hr.markers.2.1; have hm1:=hr.markers.1; have z0:Nf 0:=⟨by decide,by decide⟩
 have hi0:Nf i:=by unfold Nf; omega
 have fin:∀ {y:AV×Mem} {o:GOp} {d':zaa},y=zcR (o,d')→OkO o→DOk d'→Sat (fun y=>∃ (o:GOp) (d':zaa),y=zcR (o,d')∧OkO o∧DOk d') (some y):=fun h1 h2 h3=>zmy ⟨_,_,h1,h2,h3⟩
 suffices h:Sat (fun y=>∃ (o:GOp) (d':zaa),y=zcR (o,d')∧OkO o∧DOk d') (cw zds [.loc 1000 2 0 0,.agg (zbU r),.sl 7 (List.map zat sc),I i] (mD d)) by obtain ⟨y,e,o,d',rfl,h⟩:=h; exact ⟨o,d',e,h⟩
 refine sat_of (fun y=>zqK d r sc i) ?_; rw [e0,zak]; simp only; by_cases k0:n0=0
 · rw [show (n0 == 0)=true from beq_iff_eq.2 k0,zas]; obtain ⟨n1,d1,e1,a1,b1,hd1⟩:=zaT d0 4 hd0 (by omega); obtain ⟨n2,d2,e2,a2,hd2⟩:=zg2 d1 [0,20,50] hd1 (by simp) (by simp); rw [e1,zak]; simp only; rw [e2,zak,w6Q]; refine fin (o:=⟨3,⟨0,0,0⟩,⟨0,0,0,0,0,[],[]⟩,⟨⟨0,0,0⟩,0,0,0,0,0,[]⟩,⟨1+n1,n2⟩,⟨⟨0,0,0⟩,0,0,0⟩,[],0,0⟩) (d':=d2) rfl (ok_special (by unfold Nf; omega) ?_) hd2; simp only [List.mem_cons,List.not_mem_nil,or_false] at a2; unfold Nf; omega
 rw [show (n0 == 0)=false from beq_eq_false_iff_ne.2 k0,zam]; by_cases k1:n0=1
 · rw [show (n0 == 1)=true from beq_iff_eq.2 k1,zas]; obtain ⟨n1,d1,e1,a1,b1,hd1⟩:=zaT d0 5 hd0 (by omega); obtain ⟨l,d2,e2,g1,g2,hd2⟩:=c_Bounds d1 r.Award.Max hd1 (by have:=hr.max; omega); rw [e1,zak]; simp only; rw [e2,zg3,cPQ]; simp only [List.take_length]; exact fin (o:=⟨5,⟨0,0,0⟩,⟨0,0,0,0,0,[],[]⟩,⟨⟨0,0,0⟩,0,0,0,0,0,[]⟩,⟨0,0⟩,⟨⟨0,0,0⟩,0,0,0⟩,l,n1,0⟩) (d':=d2) rfl (ok_bounds (by omega) g2 (by unfold Nf; omega)) hd2
 rw [show (n0 == 1)=false from beq_eq_false_iff_ne.2 k1,zam]; by_cases k2:n0=2
 · rw [show (n0 == 2)=true from beq_iff_eq.2 k2,zas]; obtain ⟨n1,d1,e1,a1,b1,hd1⟩:=zaT d0 150 hd0 (by omega); obtain ⟨n2,d2,e2,a2,b2,hd2⟩:=zaT d1 3 hd1 (by omega); obtain ⟨n3,d3,e3,a3,b3,hd3⟩:=zaT d2 4 hd2 (by omega); obtain ⟨b,d4,e4,hd4⟩:=zfC d3 4 hd3 (by omega); rw [e1,zak]; simp only; rw [e2,zak]; simp only; rw [e3,zak]; simp only; rw [e4,zaQ,w6Q (n:=20+n1),w6Q (n:=1+n2),w6Q (n:=1+n3)]
   cases b with
   | true =>
     obtain ⟨n5,d5,e5,a5,b5,hd5⟩:=zaT d4 r.Markers.length hd4 (by omega); have hlt:n5.toNat < r.Markers.length:=by omega
     rw [zas,List.length_map]; simp only; rw [e5,zak,zai a5]; simp only; rw [zec,List.getElem?_eq_getElem hlt,Option.bind_some]; exact fin (o:=⟨4,⟨0,0,0⟩,⟨0,0,0,0,0,[],[]⟩,⟨⟨0,0,0⟩,0,0,0,0,0,[]⟩,⟨0,0⟩,⟨⟨20+n1,1+n2,i⟩,1,0,r.Markers[n5.toNat].ID⟩,[],0,0⟩) (d':=d5) rfl (ok_remark (by unfold Nf; omega) (by unfold Nf; omega) hi0 (zr0 hr.markers hlt)) hd5
   | false=>rw [zam]; exact fin (o:=⟨4,⟨0,0,0⟩,⟨0,0,0,0,0,[],[]⟩,⟨⟨0,0,0⟩,0,0,0,0,0,[]⟩,⟨0,0⟩,⟨⟨20+n1,1+n2,i⟩,0,1+n3,0⟩,[],0,0⟩) (d':=d4) rfl (ok_review (by unfold Nf; omega) (by unfold Nf; omega) hi0 (by unfold Nf; omega)) hd4
 rw [show (n0 == 2)=false from beq_eq_false_iff_ne.2 k2,zam]; by_cases k3:n0=3
 · rw [show (n0 == 3)=true from beq_iff_eq.2 k3,zas]; obtain ⟨n5,d5,e5,a5,b5,hd5⟩:=zaT d0 r.Markers.length hd0 (by omega); have hlt:n5.toNat < r.Markers.length:=by omega
   rw [List.length_map,e5,zak,zai a5]; simp only; rw [zec,List.getElem?_eq_getElem hlt,Option.bind_some,w6Q]; exact fin (o:=⟨2,⟨0,0,0⟩,⟨0,0,0,0,0,[],[]⟩,⟨⟨4*i,0,i⟩,1,0,0,0,r.Markers[n5.toNat].ID,[]⟩,⟨0,0⟩,⟨⟨0,0,0⟩,0,0,0⟩,[],0,0⟩) (d':=d5) rfl (ztf (by unfold Nf; omega) z0 hi0 (zr0 hr.markers hlt)) hd5
 rw [show (n0 == 3)=false from beq_eq_false_iff_ne.2 k3,zam]
 have ent:Sat (fun y=>∃ (o:GOp) (d':zaa),y=zcR (o,d')∧OkO o∧DOk d') (callD zah (cw zaj [.loc 1000 2 0 0,I 5] (mD d0)) fun r15 =>
   callD zah (cw zaj [.loc 1000 2 0 0,I 3] (mD r15.snd)) fun r16 =>
   callD zah (cw zaj [.loc 1000 2 0 0,I ((List.map zaB r.Papers).length:Int)] (mD r16.snd)) fun r17 =>
   chk (0≤r17.fst)<|
   elemD zbj (List.map zaB r.Papers) (Int.toNat r17.fst) fun c18 =>
   some (.agg (nGOp (⟨0,⟨w64 (1+r15.fst),w64 (1+r16.fst),c18.Code⟩,⟨0,0,0,0,0,[],[]⟩,⟨⟨0,0,0⟩,0,0,0,0,0,[]⟩,⟨0,0⟩,⟨⟨0,0,0⟩,0,0,0⟩,[],0,0⟩)),mD r17.snd)):=by
  obtain ⟨n1,d1,e1,a1,b1,hd1⟩:=zaT d0 5 hd0 (by omega); obtain ⟨n2,d2,e2,a2,b2,hd2⟩:=zaT d1 3 hd1 (by omega); obtain ⟨n3,d3,e3,a3,b3,hd3⟩:=zaT d2 r.Papers.length hd2 (by omega); have hlt:n3.toNat < r.Papers.length:=by omega
  have hcode:=(hr.papers.2.2.1 _ (List.getElem_mem hlt)).2.1; rw [e1,zak,List.length_map]; simp only; rw [e2,zak]; simp only; rw [e3,zak,zai a3]; simp only; rw [zdS,List.getElem?_eq_getElem hlt,Option.bind_some,w6Q (n:=1+n1),w6Q (n:=1+n2)]; exact fin (o:=⟨0,⟨1+n1,1+n2,r.Papers[n3.toNat].Code⟩,⟨0,0,0,0,0,[],[]⟩,⟨⟨0,0,0⟩,0,0,0,0,0,[]⟩,⟨0,0⟩,⟨⟨0,0,0⟩,0,0,0⟩,[],0,0⟩) (d':=d3) rfl (zkz (by unfold Nf; omega) (by unfold Nf; omega) (by unfold Nf; omega)) hd3
 by_cases k4:n0=4
 · rw [show (n0 == 4)=true from beq_iff_eq.2 k4,zas]; exact sat_of (fun y=>zmD _ _ _ _) ent
 rw [show (n0 == 4)=false from beq_eq_false_iff_ne.2 k4,zam]; by_cases k5:n0=5
 · rw [show (n0 == 5)=true from beq_iff_eq.2 k5,zas]; exact sat_of (fun y=>zlw _ _ _ _) ent
 rw [show (n0 == 5)=false from beq_eq_false_iff_ne.2 k5,zam]; by_cases hz:sc.length=0
 · rw [show (((List.map zat sc).length:Int) == 0)=true from by rw [beq_iff_eq,List.length_map]; omega,zas]; exact fin (o:=⟨0,⟨9,1,0⟩,⟨0,0,0,0,0,[],[]⟩,⟨⟨0,0,0⟩,0,0,0,0,0,[]⟩,⟨0,0⟩,⟨⟨0,0,0⟩,0,0,0⟩,[],0,0⟩) (d':=d0) rfl (zkz ⟨by decide,by decide⟩ ⟨by decide,by decide⟩ z0) hd0
 rw [show (((List.map zat sc).length:Int) == 0)=false from by rw [beq_eq_false_iff_ne,List.length_map]; omega,zam]; obtain ⟨n1,d1,e1,a1,b1,hd1⟩:=zaT d0 9 hd0 (by omega); rw [e1,zak,w6Q (n:=4*i)]; simp only; rw [w6Q (n:=4*i+n1)]; obtain ⟨e,d2,e2,he,hd2⟩:=c_Mark d1 ⟨r.Markers,sc,r.Papers,r.Schemes,[],⟨0,0,0,0⟩⟩ i (4*i+n1) hd1 ⟨hr.papers,hr.markers,hs⟩ hi0 (by unfold Nf; omega); rw [e2,zmd]; exact fin (o:=⟨2,⟨0,0,0⟩,⟨0,0,0,0,0,[],[]⟩,⟨⟨e.Stamp.Time,e.Stamp.Source,e.Stamp.Seq⟩,e.Kind,e.Script,e.Part,e.Value,e.Marker,e.Pages⟩,⟨0,0⟩,⟨⟨0,0,0⟩,0,0,0⟩,[],0,0⟩) (d':=d2) rfl (ok_mark he) hd2
def OkOps (l:List GOp):Prop:=∀ o∈l,OkO o
theorem OkOps.snoc {l:List GOp} {o:GOp} (h:OkOps l) (ho:OkO o):OkOps (l++[o]):=fun x hx=>by
 rcases List.mem_append.1 hx with hx | hx
 · exact h x hx
 · rw [List.mem_singleton.1 hx]; exact ho
theorem c_Ops (d:zaa) (r:zbf) (n:Nat) (hd:DOk d) (hr:DRules r) (hn:n≤20):∃ (l:List GOp) (d':zaa),cw zfV [.loc 1000 2 0 0,.agg (zbU r),I (n:Nat)] (mD d)=some (zfZ (l,d'))∧OkOps l∧l.length≤100∧DOk d':=by
 let Q:AV×Mem→Prop:=fun y=>∃ (l:List GOp) (d':zaa),y=zfZ (l,d')∧OkOps l∧l.length≤100∧DOk d'
 suffices h:Sat Q (cw zfV [.loc 1000 2 0 0,.agg (zbU r),I (n:Nat)] (mD d)) by obtain ⟨y,e,o,d',rfl,h⟩:=h; exact ⟨o,d',e,h⟩
 obtain ⟨sc,ds,es,hsc,hds⟩:=c_Scripts d r.Papers 3 hd hr.papers (by omega); have hsc4:zhk 4 r.Papers sc:=ztm (by omega) hsc; have hsl:=hsc.2.2
 have hsnf:∀ x∈sc,Nf x.Number∧Nf x.Paper∧Nf x.Candidate∧Nf x.Centre∧Nf x.Variant∧(∀ y∈x.Pages,Nf y)∧(∀ y∈x.Answers,Nf y)∧x.Pages.length=2∧x.Answers.length≤3:=fun x hx=>by obtain ⟨p,hp,h⟩:=hsc.1 x hx; exact znT (by omega) hr.papers hp h
 have body:∀ (i:Nat) (out:List GOp) (d:zaa) (next next2:List (List AV)→zaa→Int→Option (AV×Mem)),i < n→OkOps out→out.length≤40+i→DOk d→(∀ (out:List GOp) (d:zaa),OkOps out→out.length≤40+(i+1)→DOk d→Sat Q (next (List.map nGOp out) d ((i+1:Nat):Int)))→(∀ (out:List GOp) (d:zaa),OkOps out→out.length≤40+(i+1)→DOk d→Sat Q (next2 (List.map nGOp out) d ((i+1:Nat):Int)))→Sat Q (callD zah (cw zaj [.loc 1000 2 0 0,I 9] (mD d)) fun r27 =>
    brn (r27.fst == 0) (next (List.map nGOp out++[nGOp ⟨6,⟨0,0,0⟩,⟨0,0,0,0,0,[],[]⟩,⟨⟨0,0,0⟩,0,0,0,0,0,[]⟩,⟨0,0⟩,⟨⟨0,0,0⟩,0,0,0⟩,[],w64 (20+w64 (2*(i:Nat))),0⟩]) r27.snd (w64 ((i:Nat)+1)))
    (brn (r27.fst == 1) (next (List.map nGOp out++[nGOp ⟨7,⟨0,0,0⟩,⟨0,0,0,0,0,[],[]⟩,⟨⟨0,0,0⟩,0,0,0,0,0,[]⟩,⟨0,0⟩,⟨⟨0,0,0⟩,0,0,0⟩,[],w64 (20+w64 (2*(i:Nat))),0⟩]) r27.snd (w64 ((i:Nat)+1)))
    (brn (r27.fst == 2) (callD za7 (cw za8 [.loc 1000 2 0 0,I 3] (mD r27.snd)) fun r28 =>
     brn r28.fst (callD zah (cw zaj [.loc 1000 2 0 0,I 4] (mD r28.snd)) fun r29=>next (List.map nGOp out++[nGOp ⟨8,⟨0,0,0⟩,⟨0,0,0,0,0,[],[]⟩,⟨⟨0,0,0⟩,0,0,0,0,0,[]⟩,⟨0,0⟩,⟨⟨0,0,0⟩,0,0,0⟩,[],w64 (20+w64 (2*(i:Nat))),w64 (1+r29.fst)⟩]) r29.snd (w64 ((i:Nat)+1)))
     (next (List.map nGOp out) r28.snd (w64 ((i:Nat)+1))))
    (callD zdz (cw zds [.loc 1000 2 0 0,.agg (zbU r),.sl 7 (List.map zat sc),I (i:Nat)] (mD r27.snd)) fun r34=>next2 (List.map nGOp out++[nGOp r34.fst]) r34.snd (w64 ((i:Nat)+1)))))):=by
  intro i out d next next2 hi ho hl hd h h'
  obtain ⟨n0,d0,e0,a0,b0,hd0⟩:=zaT d 9 hd (by omega); have et:w64 (20+w64 (2*((i:Nat):Int)))=20+2*((i:Nat):Int):=by rw [w6Q (n:=2*((i:Nat):Int)),w6Q]
  have ht:Nf (20+2*((i:Nat):Int)):=by unfold Nf; omega
  rw [e0,zak]; simp only; rw [et,w6Q (n:=((i:Nat):Int)+1),show ((i:Nat):Int)+1=((i+1:Nat):Int) by omega,zbz nGOp,zbz nGOp]; by_cases k0:n0=0
  · rw [show (n0 == 0)=true from beq_iff_eq.2 k0,zas]; exact h _ d0 (ho.snoc (ok_time (Or.inl rfl) ht)) (by simp; omega) hd0
  rw [show (n0 == 0)=false from beq_eq_false_iff_ne.2 k0,zam]; by_cases k1:n0=1
  · rw [show (n0 == 1)=true from beq_iff_eq.2 k1,zas]; exact h _ d0 (ho.snoc (ok_time (Or.inr rfl) ht)) (by simp; omega) hd0
  rw [show (n0 == 1)=false from beq_eq_false_iff_ne.2 k1,zam]; by_cases k2:n0=2
  · rw [show (n0 == 2)=true from beq_iff_eq.2 k2,zas]; obtain ⟨b,d1,e1,hd1⟩:=zfC d0 3 hd0 (by omega); rw [e1,zaQ]
    cases b with
    | true=>obtain ⟨n2,d2,e2,a2,b2,hd2⟩:=zaT d1 4 hd1 (by omega); rw [zas]; simp only; rw [e2,zak,w6Q (n:=1+n2),zbz nGOp]; exact h _ d2 (ho.snoc (ok_revoke ht (by unfold Nf; omega))) (by simp; omega) hd2
    | false=>rw [zam]; exact h _ d1 ho (by omega) hd1
  rw [show (n0 == 2)=false from beq_eq_false_iff_ne.2 k2,zam]; obtain ⟨o,d1,e1,ho1,hd1⟩:=c_one d0 r sc (i:Nat) hd0 hr hsc4 (by omega); rw [e1,zmV,zbz nGOp]; exact h' _ d1 (ho.snoc ho1) (by simp; omega) hd1
 have threeV:∀ (m i:Nat) (out:List GOp) (d:zaa),i+m=n→OkOps out→out.length≤40+i→DOk d→Sat Q (zba r (n:Nat) (sc,ds) (List.map nGOp out) d (i:Nat)):=by
  intro m
  induction m with
  | zero=>intro i out d hi ho hl hd; refine sat_of (fun y=>ziq _ _ _ _ _ _) ?_; rw [zaz (by omega),zai rfl]; exact zmy ⟨out,d,rfl,ho,by omega,hd⟩
  | succ m ih=>intro i out d hi ho hl hd; refine sat_of (fun y=>ziq _ _ _ _ _ _) ?_; rw [zax (by omega)]; simp only [List.take_length]; simp (disch:=omega) only [zai,zaU,List.length_map,List.take_length]; exact body i out d (zba r (n:Nat) (sc,ds)) (zba r (n:Nat) (sc,ds)) (by omega) ho hl hd (fun out d h1 h2 h3=>ih (i+1) out d (by omega) h1 h2 h3) (fun out d h1 h2 h3=>ih (i+1) out d (by omega) h1 h2 h3)
 have three:∀ (m i:Nat) (out:List GOp) (d:zaa),i+m=n→OkOps out→out.length≤40+i→DOk d→Sat Q (zb1 r (n:Nat) (sc,ds) (List.map nGOp out) d (i:Nat)):=by
  intro m
  induction m with
  | zero=>intro i out d hi ho hl hd; refine sat_of (fun y=>zjH _ _ _ _ _ _) ?_; rw [zaz (by omega),zai rfl]; exact zmy ⟨out,d,rfl,ho,by omega,hd⟩
  | succ m ih=>intro i out d hi ho hl hd; refine sat_of (fun y=>zjH _ _ _ _ _ _) ?_; rw [zax (by omega)]; simp only [List.take_length]; simp (disch:=omega) only [zai,zaU,List.length_map,List.take_length,Nat.zero_add,Nat.le_refl]; exact body i out d (zb1 r (n:Nat) (sc,ds)) (zba r (n:Nat) (sc,ds)) (by omega) ho hl hd (fun out d h1 h2 h3=>ih (i+1) out d (by omega) h1 h2 h3) (fun out d h1 h2 h3=>threeV m (i+1) out d (by omega) h1 h2 h3)
 have two:∀ (es:List zaH) (df:zaa),(∀ e∈es,EvF e)→es.length≤120→DOk df→∀ (m i:Nat) (out:List GOp),i+m=24→OkOps out→out.length≤12+i→Sat Q (zeR r (n:Nat) (sc,ds) (es,df) (List.map nGOp out) (i:Nat)):=by
  intro es df hes hel hdf m
  induction m with
  | zero =>
    intro i out hi ho hl; refine sat_of (fun y=>zjG _ _ _ _ _ _) ?_; have hv:=threeV n 0 out df (by omega) ho (by omega) hdf; by_cases h1:i < es.length
    · rw [zax (by rw [List.length_map]; dsimp only; omega),zaz (by omega)]; exact hv
    · rw [zaz (by rw [List.length_map]; dsimp only; omega)]; exact hv
  | succ m ih =>
    intro i out hi ho hl; refine sat_of (fun y=>zjG _ _ _ _ _ _) ?_; have hv:=threeV n 0 out df (by omega) ho (by omega) hdf; by_cases h1:i < es.length
    · rw [zax (by rw [List.length_map]; dsimp only; omega),zax (by omega)]; have he:=hes _ (List.getElem_mem h1); simp (disch:=omega) only [zai,zaU,List.length_map,zp4,Int.toNat_natCast,List.getElem?_eq_getElem h1,Option.bind_some,w64_id,Nat.zero_add,zbz nGOp]; exact ih (i+1) _ (by omega) (ho.snoc (ok_mark he)) (by simp; omega)
    · rw [zaz (by rw [List.length_map]; dsimp only; omega)]; exact hv
 have one:∀ (m i:Nat) (out:List GOp) (d:zaa),i+m=sc.length→OkOps out→out.length≤2*i→DOk d→Sat Q (zcU r (n:Nat) (sc,ds) (List.map nGOp out) d (i:Nat)):=by
  intro m
  induction m with
  | zero =>
    intro i out d hi ho hl hd; refine sat_of (fun y=>zjF _ _ _ _ _ _) ?_; obtain ⟨b,d1,e1,hd1⟩:=zfC d 2 hd (by omega); rw [zaz (by rw [List.length_map]; dsimp only; omega),e1,zaQ]
    cases b with
    | true=>obtain ⟨es,df,e2,g1,g2,hdf⟩:=c_Full d1 ⟨r.Markers,sc,r.Papers,r.Schemes,[],⟨0,0,0,0⟩⟩ 10 hd1 ⟨hr.papers,hr.markers,hsc4⟩ (by omega); rw [zas]; simp only [List.take_length]; simp (disch:=omega) only [zai,zaU,List.length_map,List.take_length,Nat.zero_add,Nat.le_refl]; rw [show ([AV.loc 1000 2 0 0,AV.agg [AV.sl 5 (List.map zbc r.Markers),AV.sl 7 (List.map zat sc),AV.sl 3 (List.map zaB r.Papers),AV.sl 2 (List.map zce r.Schemes),AV.sl 2 [],I 0,I 0,I 0,I 0],I 10]:List AV)=[AV.loc 1000 2 0 0,AV.agg (zfc ⟨r.Markers,sc,r.Papers,r.Schemes,[],⟨0,0,0,0⟩⟩),I 10] from rfl,e2,zmc]; exact two es df g2 g1 hdf 24 0 out (by omega) ho (by omega)
    | false=>rw [zam]; exact three n 0 out d1 (by omega) ho (by omega) hd1
  | succ m ih =>
    intro i out d hi ho hl hd; have hlt:i < sc.length:=by omega
    obtain ⟨f1,f2,f3,f4,f5,f6,f7,f8,f9⟩:=hsnf _ (List.getElem_mem hlt); obtain ⟨n0,d0,e0,a0,b0,hd0⟩:=zaT d 8 hd (by omega); obtain ⟨n1,d1,e1,a1,b1,hd1⟩:=zaT d0 8 hd0 (by omega)
    have back:∀ (out:List GOp) (d:zaa),OkOps out→out.length≤2*(i+1)→DOk d→Sat Q (zcU r (n:Nat) (sc,ds) (List.map nGOp out) d (w64 ((i:Nat)+1))):=fun out d h1 h2 h3=>by rw [w6Q,show ((i:Nat):Int)+1=((i+1:Nat):Int) by omega]; exact ih (i+1) out d (by omega) h1 h2 h3
    refine sat_of (fun y=>zjF _ _ _ _ _ _) ?_; rw [zax (by rw [List.length_map]; dsimp only; omega),e0,zak]; by_cases k0:0 < n0
    · rw [zax k0]; simp (disch:=omega) only [zai,zaU,List.length_map,zdC,Int.toNat_natCast,Nat.zero_add,List.getElem?_eq_getElem hlt,Option.bind_some]; refine sat_of (fun y=>zmC _ _ _ _ _ _ _ _ _) ?_; have h1:OkOps (out++[⟨0,⟨sc[i].Candidate,sc[i].Centre,sc[i].Paper⟩,⟨0,0,0,0,0,[],[]⟩,⟨⟨0,0,0⟩,0,0,0,0,0,[]⟩,⟨0,0⟩,⟨⟨0,0,0⟩,0,0,0⟩,[],0,0⟩]):=ho.snoc (zkz f3 f4 f2); rw [e1,zak]; by_cases k1:0 < n1
      · rw [zax k1]; simp (disch:=omega) only [zai,zaU,List.length_map,List.length_append,List.length_cons,List.length_nil,zdC,Int.toNat_natCast,Nat.zero_add,List.getElem?_eq_getElem hlt,Option.bind_some,zbz nGOp]; refine sat_of (fun y=>zid _ _ _ _ _ _) ?_; exact back _ d1 (h1.snoc (zsb f1 f2 f3 f4 f5 f6 f7 f8 f9)) (by simp; omega) hd1
      · rw [zaz k1,zbz nGOp]; refine sat_of (fun y=>zhb _ _ _ _ _ _) ?_; exact back _ d1 h1 (by simp; omega) hd1
    · rw [zaz k0]; refine sat_of (fun y=>zlu _ _ _ _ _ _) ?_; simp only; rw [e1,zak]; by_cases k1:0 < n1
      · rw [zax k1]; simp (disch:=omega) only [zai,zaU,List.length_map,List.length_append,List.length_cons,List.length_nil,zdC,Int.toNat_natCast,Nat.zero_add,List.getElem?_eq_getElem hlt,Option.bind_some,zbz nGOp]; refine sat_of (fun y=>zid _ _ _ _ _ _) ?_; exact back _ d1 (ho.snoc (zsb f1 f2 f3 f4 f5 f6 f7 f8 f9)) (by simp; omega) hd1
      · rw [zaz k1]; refine sat_of (fun y=>zhb _ _ _ _ _ _) ?_; exact back _ d1 ho (by omega) hd1
 refine sat_of (fun y=>zqJ d r (n:Nat)) ?_; rw [es,zkQ]; exact one sc.length 0 [] ds (by omega) (by intro o h; cases h) (by simp) hds
end Go.Proofs.YtdclabgakicjeaaGreatDoor
namespace Go.Proofs.YtdclabgakicjeaaGreatDoor
open Go.Ab
abbrev tyB:Nat:=131
set_option maxRecDepth 100000
abbrev nl:ByteArray:={ data:={ toList:=[10] } }
abbrev fnV (g:Nat):AV:=.v (.func (.func 62) #[] #[.pointer (some ⟨g,0,none⟩)])
theorem sc0 (l:List GOp):tReg zaE zT 0 ⟨[(0,AV.sl 31 (List.map nGOp l))],[]⟩=(some ⟨[(0,AV.sl 31 (List.map nGOp l))],[]⟩):=by kernel_rfl
theorem sc1 (l:List GOp):tReg zaE zT 1 ⟨[(0,AV.sl 31 (List.map nGOp l))],[]⟩=(some ⟨[(0,AV.sl 31 (List.map nGOp l)),(11,B (decide (300 < (↑(List.map nGOp l).length:Int))))],[]⟩):=by kernel_rfl
theorem sc10 (l:List GOp) (g:Nat) (n:Int) (i:Int) (s:ByteArray):tSeg zaE zT 10 0 2 ⟨[(4,AV.v (.pointer (some ⟨g,0,none⟩))),(7,AV.v (.string s)),(12,AV.sl 31 (List.map nGOp l)),(13,I n),(14,I i)],[]⟩=(chk (s.size+nl.size≤9223372036854775807)<|
 some ⟨[(27,AV.v (.string (s++nl))),(26,AV.v (.string s)),(4,AV.v (.pointer (some ⟨g,0,none⟩))),(7,AV.v (.string s)),(12,AV.sl 31 (List.map nGOp l)),(13,I n),(14,I i)],[]⟩):=by kernel_rfl
theorem sc11 (l:List GOp) (g:Nat) (n:Int) (i:Int):tReg zaE zT 11 ⟨[(4,AV.v (.pointer (some ⟨g,0,none⟩))),(12,AV.sl 31 (List.map nGOp l)),(13,I n),(14,I i)],[]⟩=(some ⟨[(4,AV.v (.pointer (some ⟨g,0,none⟩))),(12,AV.sl 31 (List.map nGOp l)),(13,I n),(14,I (w64 (i+1)))],[]⟩):=by kernel_rfl
theorem sc12 (s:ByteArray):tSeg zaE zT 12 1 2 ⟨[(30,AV.v (.string s))],[]⟩=(some ⟨[(3,I 0),(2,AV.v (.string s)),(30,AV.v (.string s))],[]⟩):=by kernel_rfl
theorem sc2 (u:Unit):tReg zaE zT 2 ⟨[],[]⟩=(some ⟨[(2,AV.v (.string ({ data:={ toList:=[] } }))),(3,I 3)],[]⟩):=by kernel_rfl
theorem sc4 (l:List GOp) (g:Nat):tReg zaE zT 4 ⟨[(0,AV.sl 31 (List.map nGOp l)),(4,AV.v (.pointer (some ⟨g,0,none⟩)))],[]⟩=(some ⟨[(4,AV.v (.pointer (some ⟨g,0,none⟩))),(12,AV.sl 31 (List.map nGOp l)),(13,I ((↑(List.map nGOp l).length:Int))),(14,I 0)],[]⟩):=by kernel_rfl
theorem sc5 (l:List GOp) (g:Nat) (n:Int) (i:Int):tReg zaE zT 5 ⟨[(4,AV.v (.pointer (some ⟨g,0,none⟩))),(12,AV.sl 31 (List.map nGOp l)),(13,I n),(14,I i)],[]⟩=(some ⟨[(4,AV.v (.pointer (some ⟨g,0,none⟩))),(12,AV.sl 31 (List.map nGOp l)),(13,I n),(14,I i),(15,B (decide (i < n)))],[]⟩):=by kernel_rfl
theorem sc6 (l:List GOp) (g:Nat) (n:Int) (i:Int):tReg zaE zT 6 ⟨[(4,AV.v (.pointer (some ⟨g,0,none⟩))),(12,AV.sl 31 (List.map nGOp l)),(13,I n),(14,I i)],[]⟩=(chk ((0:Int)≤i)<|
 elemD dGOp (List.map nGOp l) i.toNat fun (c0:GOp) =>
 some ⟨[(4,AV.v (.pointer (some ⟨g,0,none⟩))),(6,AV.loc 6 31 0 0),(12,AV.sl 31 (List.map nGOp l)),(13,I n),(14,I i)],[(6,⟨31,zag,[nGOp c0],true⟩)]⟩):=by kernel_rfl
theorem sc7 (l:List GOp) (g:Nat) (n:Int) (i:Int) (o:GOp):tReg zaE zT 7 ⟨[(4,AV.v (.pointer (some ⟨g,0,none⟩))),(6,AV.loc 6 31 0 0),(12,AV.sl 31 (List.map nGOp l)),(13,I n),(14,I i)],[(6,⟨31,zag,[nGOp o],true⟩)]⟩=(callD zbd (cw zb5 [AV.agg (nGOp o)] []) fun (r0:ByteArray×Int)=>some ⟨[(4,AV.v (.pointer (some ⟨g,0,none⟩))),(7,AV.v (.string r0.fst)),(8,I r0.snd),(12,AV.sl 31 (List.map nGOp l)),(13,I n),(14,I i)],[]⟩):=by kernel_rfl
theorem sc8 (l:List GOp) (g:Nat) (n:Int) (i:Int) (s:ByteArray) (e:Int):tReg zaE zT 8 ⟨[(4,AV.v (.pointer (some ⟨g,0,none⟩))),(7,AV.v (.string s)),(8,I e),(12,AV.sl 31 (List.map nGOp l)),(13,I n),(14,I i)],[]⟩=(some ⟨[(4,AV.v (.pointer (some ⟨g,0,none⟩))),(7,AV.v (.string s)),(8,I e),(12,AV.sl 31 (List.map nGOp l)),(13,I n),(14,I i),(24,B (e != 0))],[]⟩):=by kernel_rfl
theorem rc0 (l:List zaG) (g:Nat):tReg zaN zT 0 ⟨[(0,AV.sl 5 (List.map zaF l)),(1,AV.v (.pointer (some ⟨g,0,none⟩)))],[]⟩=(some ⟨[(1,AV.v (.pointer (some ⟨g,0,none⟩))),(5,AV.sl 5 (List.map zaF l)),(6,I ((↑(List.map zaF l).length:Int))),(7,I 0)],[]⟩):=by kernel_rfl
theorem rc1 (l:List zaG) (g:Nat) (n:Int) (i:Int):tReg zaN zT 1 ⟨[(1,AV.v (.pointer (some ⟨g,0,none⟩))),(5,AV.sl 5 (List.map zaF l)),(6,I n),(7,I i)],[]⟩=(some ⟨[(1,AV.v (.pointer (some ⟨g,0,none⟩))),(5,AV.sl 5 (List.map zaF l)),(6,I n),(7,I i),(8,B (decide (i < n)))],[]⟩):=by kernel_rfl
theorem rc2 (l:List zaG) (g:Nat) (n:Int) (i:Int):tReg zaN zT 2 ⟨[(1,AV.v (.pointer (some ⟨g,0,none⟩))),(5,AV.sl 5 (List.map zaF l)),(6,I n),(7,I i)],[]⟩=(chk ((0:Int)≤i)<|
 elemD zcV (List.map zaF l) i.toNat fun (c0:zaG) =>
 some ⟨[(1,AV.v (.pointer (some ⟨g,0,none⟩))),(4,AV.loc 4 5 0 0),(5,AV.sl 5 (List.map zaF l)),(6,I n),(7,I i)],[(4,⟨5,zcJ,[zaF c0],true⟩)]⟩):=by kernel_rfl
theorem rc3 (l:List zaG) (g:Nat) (n:Int) (i:Int) (o:zaG):tSeg zaN zT 3 0 3 ⟨[(1,AV.v (.pointer (some ⟨g,0,none⟩))),(4,AV.loc 4 5 0 0),(5,AV.sl 5 (List.map zaF l)),(6,I n),(7,I i)],[(4,⟨5,zcJ,[zaF o],true⟩)]⟩=(callD zal (cw zdD [AV.agg (zaF o)] []) fun (r0:ByteArray) =>
 chk (r0.size+nl.size≤9223372036854775807)<|
 some ⟨[(13,AV.v (.string (r0++nl))),(12,AV.v (.string r0)),(11,AV.agg [I o.Candidate,I o.Kind,I o.Grade,I o.Total,I o.Reason]),(1,AV.v (.pointer (some ⟨g,0,none⟩))),(4,AV.loc 4 5 0 0),(5,AV.sl 5 (List.map zaF l)),(6,I n),(7,I i)],[(4,⟨5,zcJ,[zaF o],true⟩)]⟩):=by kernel_rfl
theorem rc4 (l:List zaG) (g:Nat) (n:Int) (i:Int):tReg zaN zT 4 ⟨[(1,AV.v (.pointer (some ⟨g,0,none⟩))),(5,AV.sl 5 (List.map zaF l)),(6,I n),(7,I i)],[]⟩=(some ⟨[(1,AV.v (.pointer (some ⟨g,0,none⟩))),(5,AV.sl 5 (List.map zaF l)),(6,I n),(7,I (w64 (i+1)))],[]⟩):=by kernel_rfl
theorem rp0 (x:zaL):tReg zau zT 0 ⟨[(0,AV.agg (zaC x))],[]⟩=(some ⟨[(1,AV.loc 1 4 0 0)],[(1,⟨4,zcb,[zaC x],true⟩)]⟩):=by kernel_rfl
theorem rp10 (x:zaL) (g:Nat) (l:List za5) (n:Int) (i:Int):tReg zau zT 10 ⟨[(1,AV.fp (zaC x)),(3,AV.v (.pointer (some ⟨g,0,none⟩))),(4,fnV g),(32,AV.sl 6 (List.map za0 l)),(33,I n),(34,I i)],[]⟩=(some ⟨[(1,AV.fp (zaC x)),(3,AV.v (.pointer (some ⟨g,0,none⟩))),(4,fnV g),(32,AV.sl 6 (List.map za0 l)),(33,I n),(34,I i),(35,B (decide (i < n)))],[]⟩):=by kernel_rfl
theorem rp11 (x:zaL) (g:Nat) (l:List za5) (n:Int) (i:Int):tReg zau zT 11 ⟨[(1,AV.fp (zaC x)),(3,AV.v (.pointer (some ⟨g,0,none⟩))),(4,fnV g),(32,AV.sl 6 (List.map za0 l)),(33,I n),(34,I i)],[]⟩=(chk ((0:Int)≤i)<|
 elemD zdf (List.map za0 l) i.toNat fun (c0:za5) =>
 some ⟨[(1,AV.fp (zaC x)),(3,AV.v (.pointer (some ⟨g,0,none⟩))),(4,fnV g),(8,AV.loc 8 6 0 0),(32,AV.sl 6 (List.map za0 l)),(33,I n),(34,I i)],[(8,⟨6,zf2,[za0 c0],true⟩)]⟩):=by kernel_rfl
theorem rp12 (x:zaL) (g:Nat) (l:List za5) (n:Int) (i:Int) (e:za5):tReg zau zT 12 ⟨[(1,AV.fp (zaC x)),(3,AV.v (.pointer (some ⟨g,0,none⟩))),(4,fnV g),(8,AV.loc 8 6 0 0),(32,AV.sl 6 (List.map za0 l)),(33,I n),(34,I i)],[(8,⟨6,zf2,[za0 e],true⟩)]⟩=(some ⟨[(1,AV.fp (zaC x)),(3,AV.v (.pointer (some ⟨g,0,none⟩))),(4,fnV g),(8,AV.loc 8 6 0 0),(9,AV.loc 9 5 0 0),(32,AV.sl 6 (List.map za0 l)),(33,I n),(34,I i)],[(8,⟨6,zf2,[za0 e],true⟩),(9,⟨5,zbS,[zbX e.Certificate],true⟩)]⟩):=by kernel_rfl
theorem rp13 (x:zaL) (g:Nat) (l:List za5) (n:Int) (i:Int) (e:za5) (c:zbI):tReg zau zT 13 ⟨[(1,AV.fp (zaC x)),(3,AV.v (.pointer (some ⟨g,0,none⟩))),(4,fnV g),(8,AV.loc 8 6 0 0),(9,AV.loc 9 5 0 0),(32,AV.sl 6 (List.map za0 l)),(33,I n),(34,I i)],[(8,⟨6,zf2,[za0 e],true⟩),(9,⟨5,zbS,[zbX c],true⟩)]⟩=(some ⟨[(1,AV.fp (zaC x)),(3,AV.v (.pointer (some ⟨g,0,none⟩))),(4,fnV g),(9,AV.loc 9 5 0 0),(32,AV.sl 6 (List.map za0 l)),(33,I n),(34,I i),(42,B (e.Kind == 0))],[(9,⟨5,zbS,[zbX c],true⟩)]⟩):=by kernel_rfl
theorem rp14 (x:zaL) (g:Nat) (l:List za5) (n:Int) (i:Int) (c:zbI):tSeg zau zT 14 0 13 ⟨[(1,AV.fp (zaC x)),(3,AV.v (.pointer (some ⟨g,0,none⟩))),(4,fnV g),(9,AV.loc 9 5 0 0),(32,AV.sl 6 (List.map za0 l)),(33,I n),(34,I i)],[(9,⟨5,zbS,[zbX c],true⟩)]⟩=(callD zal (cw zcA [AV.v (.string ({ data:={ toList:=[105,115,115,117,101] } })),AV.sl 1 (List.map zad ([c.ID,c.Candidate,c.Grade,c.Time,c.Replaces]))] []) fun (r0:ByteArray) =>
 chk (r0.size+nl.size≤9223372036854775807)<|
 some ⟨[(55,AV.v (.string (r0++nl))),(54,AV.v (.string r0)),(53,AV.sl 1 ([[I c.ID],[I c.Candidate],[I c.Grade],[I c.Time],[I c.Replaces]])),(52,I c.Replaces),(51,AV.loc 9 5 0 (0+4)),(50,I c.Time),(49,AV.loc 9 5 0 (0+3)),(48,I c.Grade),(47,AV.loc 9 5 0 (0+2)),(46,I c.Candidate),(45,AV.loc 9 5 0 (0+1)),(44,I c.ID),(43,AV.loc 9 5 0 (0+0)),(1,AV.fp (zaC x)),(3,AV.v (.pointer (some ⟨g,0,none⟩))),(4,fnV g),(9,AV.loc 9 5 0 0),(32,AV.sl 6 (List.map za0 l)),(33,I n),(34,I i)],[(9,⟨5,zbS,[zbX c],true⟩)]⟩):=by kernel_rfl
theorem rp15 (x:zaL) (g:Nat) (l:List za5) (n:Int) (i:Int) (c:zbI):tSeg zau zT 15 0 7 ⟨[(1,AV.fp (zaC x)),(3,AV.v (.pointer (some ⟨g,0,none⟩))),(4,fnV g),(9,AV.loc 9 5 0 0),(32,AV.sl 6 (List.map za0 l)),(33,I n),(34,I i)],[(9,⟨5,zbS,[zbX c],true⟩)]⟩=(callD zal (cw zcA [AV.v (.string ({ data:={ toList:=[114,101,118,111,107,101] } })),AV.sl 1 (List.map zad ([c.ID,c.Time]))] []) fun (r0:ByteArray) =>
 chk (r0.size+nl.size≤9223372036854775807)<|
 some ⟨[(63,AV.v (.string (r0++nl))),(62,AV.v (.string r0)),(61,AV.sl 1 ([[I c.ID],[I c.Time]])),(60,I c.Time),(59,AV.loc 9 5 0 (0+3)),(58,I c.ID),(57,AV.loc 9 5 0 (0+0)),(1,AV.fp (zaC x)),(3,AV.v (.pointer (some ⟨g,0,none⟩))),(4,fnV g),(9,AV.loc 9 5 0 0),(32,AV.sl 6 (List.map za0 l)),(33,I n),(34,I i)],[(9,⟨5,zbS,[zbX c],true⟩)]⟩):=by kernel_rfl
theorem rp16 (x:zaL) (g:Nat) (l:List za5) (n:Int) (i:Int):tReg zau zT 16 ⟨[(1,AV.fp (zaC x)),(3,AV.v (.pointer (some ⟨g,0,none⟩))),(4,fnV g),(32,AV.sl 6 (List.map za0 l)),(33,I n),(34,I i)],[]⟩=(some ⟨[(1,AV.fp (zaC x)),(3,AV.v (.pointer (some ⟨g,0,none⟩))),(4,fnV g),(32,AV.sl 6 (List.map za0 l)),(33,I n),(34,I (w64 (i+1)))],[]⟩):=by kernel_rfl
theorem rp18 (x:zaL) (g:Nat):tSeg zau zT 18 0 3 ⟨[(1,AV.fp (zaC x)),(3,AV.v (.pointer (some ⟨g,0,none⟩))),(4,fnV g)],[]⟩=(some ⟨[(69,AV.sl 5 (List.map zaF x.Outcomes)),(68,AV.fp [AV.sl 5 (List.map zaF x.Outcomes),AV.sl 6 (List.map za0 x.Log),AV.sl 9 (List.map za3 x.Reopened)]),(67,fnV g),(1,AV.fp (zaC x)),(3,AV.v (.pointer (some ⟨g,0,none⟩))),(4,fnV g)],[]⟩):=by kernel_rfl
theorem rp19 (s:ByteArray):tSeg zau zT 19 1 1 ⟨[(71,AV.v (.string s))],[]⟩=(some ⟨[(2,AV.v (.string s)),(71,AV.v (.string s))],[]⟩):=by kernel_rfl
theorem rp2 (x:zaL) (g:Nat):tReg zau zT 2 ⟨[(1,AV.fp (zaC x)),(3,AV.v (.pointer (some ⟨g,0,none⟩)))],[]⟩=(some ⟨[(1,AV.fp (zaC x)),(3,AV.v (.pointer (some ⟨g,0,none⟩))),(4,AV.fn zej [AV.v (.pointer (some ⟨g,0,none⟩))])],[]⟩):=by kernel_rfl
theorem rp3 (x:zaL) (g:Nat):tReg zau zT 3 ⟨[(1,AV.fp (zaC x)),(3,AV.v (.pointer (some ⟨g,0,none⟩))),(4,fnV g)],[]⟩=(some ⟨[(1,AV.fp (zaC x)),(3,AV.v (.pointer (some ⟨g,0,none⟩))),(4,fnV g),(12,AV.sl 3 (List.map zaP x.Published)),(13,I ((↑(List.map zaP x.Published).length:Int))),(14,I 0)],[]⟩):=by kernel_rfl
theorem rp4 (x:zaL) (g:Nat) (l:List zaS) (n:Int) (i:Int):tReg zau zT 4 ⟨[(1,AV.fp (zaC x)),(3,AV.v (.pointer (some ⟨g,0,none⟩))),(4,fnV g),(12,AV.sl 3 (List.map zaP l)),(13,I n),(14,I i)],[]⟩=(some ⟨[(1,AV.fp (zaC x)),(3,AV.v (.pointer (some ⟨g,0,none⟩))),(4,fnV g),(12,AV.sl 3 (List.map zaP l)),(13,I n),(14,I i),(15,B (decide (i < n)))],[]⟩):=by kernel_rfl
theorem rp5 (x:zaL) (g:Nat) (l:List zaS) (n:Int) (i:Int):tReg zau zT 5 ⟨[(1,AV.fp (zaC x)),(3,AV.v (.pointer (some ⟨g,0,none⟩))),(4,fnV g),(12,AV.sl 3 (List.map zaP l)),(13,I n),(14,I i)],[]⟩=(chk ((0:Int)≤i)<|
 elemD zcv (List.map zaP l) i.toNat fun (c0:zaS) =>
 some ⟨[(1,AV.fp (zaC x)),(3,AV.v (.pointer (some ⟨g,0,none⟩))),(4,fnV g),(6,AV.loc 6 3 0 0),(12,AV.sl 3 (List.map zaP l)),(13,I n),(14,I i)],[(6,⟨3,zca,[zaP c0],true⟩)]⟩):=by kernel_rfl
theorem rp6 (x:zaL) (g:Nat) (l:List zaS) (n:Int) (i:Int) (p:zaS):tSeg zau zT 6 0 7 ⟨[(1,AV.fp (zaC x)),(3,AV.v (.pointer (some ⟨g,0,none⟩))),(4,fnV g),(6,AV.loc 6 3 0 0),(12,AV.sl 3 (List.map zaP l)),(13,I n),(14,I i)],[(6,⟨3,zca,[zaP p],true⟩)]⟩=(callD zal (cw zcA [AV.v (.string ({ data:={ toList:=[112,117,98,108,105,115,104,101,100] } })),AV.sl 1 (List.map zad ([p.At,p.Time]))] []) fun (r0:ByteArray) =>
 chk (r0.size+nl.size≤9223372036854775807)<|
 some ⟨[(24,AV.v (.string (r0++nl))),(23,AV.v (.string r0)),(22,AV.sl 1 ([[I p.At],[I p.Time]])),(21,I p.Time),(20,AV.loc 6 3 0 (0+1)),(19,I p.At),(18,AV.loc 6 3 0 (0+0)),(1,AV.fp (zaC x)),(3,AV.v (.pointer (some ⟨g,0,none⟩))),(4,fnV g),(6,AV.loc 6 3 0 0),(12,AV.sl 3 (List.map zaP l)),(13,I n),(14,I i)],[(6,⟨3,zca,[zaP p],true⟩)]⟩):=by kernel_rfl
theorem rp7 (x:zaL) (g:Nat) (l:List zaS) (n:Int) (i:Int) (p:zaS):tSeg zau zT 7 0 3 ⟨[(1,AV.fp (zaC x)),(3,AV.v (.pointer (some ⟨g,0,none⟩))),(4,fnV g),(6,AV.loc 6 3 0 0),(12,AV.sl 3 (List.map zaP l)),(13,I n),(14,I i)],[(6,⟨3,zca,[zaP p],true⟩)]⟩=(some ⟨[(28,AV.sl 5 (List.map zaF p.Outcomes)),(27,AV.loc 6 3 0 (0+2)),(26,fnV g),(1,AV.fp (zaC x)),(3,AV.v (.pointer (some ⟨g,0,none⟩))),(4,fnV g),(6,AV.loc 6 3 0 0),(12,AV.sl 3 (List.map zaP l)),(13,I n),(14,I i)],[(6,⟨3,zca,[zaP p],true⟩)]⟩):=by kernel_rfl
theorem rp8 (x:zaL) (g:Nat) (l:List zaS) (n:Int) (i:Int):tReg zau zT 8 ⟨[(1,AV.fp (zaC x)),(3,AV.v (.pointer (some ⟨g,0,none⟩))),(4,fnV g),(12,AV.sl 3 (List.map zaP l)),(13,I n),(14,I i)],[]⟩=(some ⟨[(1,AV.fp (zaC x)),(3,AV.v (.pointer (some ⟨g,0,none⟩))),(4,fnV g),(12,AV.sl 3 (List.map zaP l)),(13,I n),(14,I (w64 (i+1)))],[]⟩):=by kernel_rfl
theorem rp9 (x:zaL) (g:Nat):tReg zau zT 9 ⟨[(1,AV.fp (zaC x)),(3,AV.v (.pointer (some ⟨g,0,none⟩))),(4,fnV g)],[]⟩=(some ⟨[(1,AV.fp (zaC x)),(3,AV.v (.pointer (some ⟨g,0,none⟩))),(4,fnV g),(32,AV.sl 6 (List.map za0 x.Log)),(33,I ((↑(List.map za0 x.Log).length:Int))),(34,I 0)],[]⟩):=by kernel_rfl
end Go.Proofs.YtdclabgakicjeaaGreatDoor
namespace Go.Proofs.YtdclabgakicjeaaGreatDoor
open Go.Shelf Go.RowKit Go.Lib
section
variable {P:Program} {ρ:Ren}
theorem own_append (w:World) (base:Nat) (t u ty e:TypeId) (i:TypeInfo) (ht:P.underlying t=some (.slice e)) (hu:P.underlying u=some .string) (hi:P.info? e=some i) (hz:i.zero=some (.int .u8 0))
  (hsize:i.size=1) (hby:i.bytes=1) (v:Value) (n:Nat) (xs:List Value) (hown:w.ownsRowF base e 1 v n xs) (s:ByteArray)
  (h63:n+s.size≤maxLen) (hbytes:n+s.size≤140737488355328) (hbase:base≤w.heap.size):∃ v' w',(Builtin.append_ #[t,u] ty #[v,.string s]).run P w=.ok v' w'∧w'.ownsRowF base e 1 v' (n+s.size) (xs++strCells s)∧w.grownBy w' v.ownBlock∧∀ k,v'.ownBlock=some k→v.ownBlock=some k∨w.heap.size≤k:=by
 rcases hown.2 with ⟨rfl,rfl⟩ | ⟨g,cap,cur,fz,rfl,hbg,hg,hfz,hnc,hcm,hcs,htake⟩
 · obtain ⟨v',w',h1,h2,h3,h4⟩:=run_append_own_string (P:=P) w w.heap.size t u ty e i ht hu hi hz hsize hby (.slice none 0 0) 0 xs ⟨hown.1,.inl ⟨rfl,rfl⟩⟩ s h63 hbytes (Nat.le_refl _); have h5:=World.ownsRowF_of h2; refine ⟨v',w',h1,⟨h5.1,h5.2.imp id (fun ⟨g,c,cur,fz,e1,e2,r⟩=>⟨g,c,cur,fz,e1,Nat.le_trans hbase e2,r⟩)⟩,h3,fun k hk=>.inr (h5.lt k hk).1⟩
 · have hsmall:n+s.size≤9223372036854775807:=by simp only [maxLen] at h63; omega
   have hxl:xs.length=n:=by simpa using hown.1
   have hlen:(xs++strCells s).length=(n+s.size)*1:=by rw [List.length_append,hxl,strCells_length,Nat.mul_one]
   by_cases hroom:n+s.size≤cap
   · have hcs':cur.size=cap:=by simpa using hcs
     have hr:=run_append_room_stringF (P:=P) w t u ty e i ht hu hi hsize g n cap cur fz hg (by simpa using hfz) s hroom (by omega); refine ⟨_,_,hr,⟨hlen,.inr ⟨g,cap,_,fz,rfl,hbg,setRow_heap w g cur _ e _ hg,by omega,hroom,hcm,?_,?_⟩⟩,⟨rfl,rfl,rfl,by simp,fun k _ hk=>setRow_other w g k _ (fun e=>hk (by simp [Value.ownBlock,e]))⟩,fun k hk=>.inl hk⟩
     · simp only [List.size_toArray,List.length_append,List.length_take,List.length_drop,Array.length_toList,strCells_length]; omega
     · have ht':cur.toList.take n=xs:=by simpa using htake
       rw [ht',← hlen]; exact List.take_left
   · have holds:∀ j u,xs[j]?=some u→w.cell? ((⟨g,0,none⟩:Addr).add j)=some u:=hown.cells (g:=g) rfl; have hr:=run_append_grow_string (P:=P) w t u ty e i (.int .u8 0) ht hu hi hz ⟨g,0,none⟩ n cap xs (by rw [hsize]; simpa using hxl) holds s (by omega) (by omega) (by rw [hby]; exact growslice_fits (by omega) (by omega)); have hge:=grownCap_ge w (n+s.size) cap e; have hcm2:grownCap w (n+s.size) cap e≤maxLen:=grownCap_le_maxLen w (n+s.size) cap e h63; refine ⟨_,_,hr,⟨hlen,.inr ⟨w.heap.size,_,_,(0,0),rfl,hbase,heap_alloc_new w.drew _,Nat.zero_le _,hge,hcm2,?_,?_⟩⟩,⟨rfl,rfl,rfl,by simp,fun k hk _=>heap_alloc_old w.drew _ hk⟩,fun k hk=>.inr (by simp [Value.ownBlock] at hk; omega)⟩
     · have hz1:(Value.int IntKind.u8 0).cells.size=1:=rfl; simp only [Array.size_append,List.size_toArray,size_zeroCells,hz1,hxl,strCells_length]; omega
     · simp only [Array.toList_append,List.append_assoc]; rw [← List.append_assoc,← hlen]; exact List.take_left
theorem zsF (w:World) {ops:Array Oper} {rest:List Oper} {o:Oper} {a:Act} {Q:Exit→Act→World→Prop} (hgd:o.guard=none) (sl x:Operand) (t u:TypeId)
  (ho:o.op=.call { callee:=.builtin .append,args:=#[sl,x],argTypes:=#[t,u] })
  (base:Nat) (e:TypeId) (i:TypeInfo) (ht:P.underlying t=some (.slice e)) (hu:P.underlying u=some .string) (hi:P.info? e=some i) (hz:i.zero=some (.int .u8 0))
  (hsize:i.size=1) (hby:i.bytes=1)
  (v:Value) (n:Nat) (xs:List Value) (hs:a.eval sl=v) (hown:w.ownsRowF base e 1 v n xs) (s:ByteArray) (hx:a.eval x=.string s)
  (h63:n+s.size≤maxLen) (hbytes:n+s.size≤140737488355328) (hbase:base≤w.heap.size)
  (h:∀ v' w',w'.ownsRowF base e 1 v' (n+s.size) (xs++strCells s)→w.grownBy w' v.ownBlock→(∀ k,v'.ownBlock=some k→v.ownBlock=some k∨w.heap.size≤k)→wpList P ops Q rest (a.put o.dst v') w'):wpList P ops Q (o :: rest) a w:=by
 refine wpList_plain hgd fun K hK=>?_
 obtain ⟨v',w',hr,h2,h3,h4⟩:=own_append (P:=P) w base t u o.type e i ht hu hi hz hsize hby v n xs hown s h63 hbytes hbase; unfold Oper.wp execOp; simp only [ho,resolve,invoke,builtin,Sem.run_bind,Sem.run_pure,Result.andThen_ok,List.map_toArray,List.map_cons,List.map_nil,hs,hx,hr]; exact hK _ _ (h v' w' h2 h3 h4)
structure Bld (T e:TypeId) (w:World) (g:Nat) (l:List UInt8) (v:Value):Prop where
 at_:∃ p,(p=.pointer none∨p=.pointer (some ⟨g,0,none⟩))∧w.heap[g]?=some (.cells #[p,v] T (0,0))
 own:w.ownsRowF 0 e 1 v l.length (byteCells l)
 ne:v.ownBlock≠some g
theorem Bld.isF {T e:TypeId} {w:World} {g:Nat} {l:List UInt8} {v:Value} (h:Bld T e w g l v):IsBuilderF T e 0 g (byteCells l) w:=by
 obtain ⟨p,hp,hg⟩:=h.at_; have:BuilderAtF T e 0 g p (byteCells l) w:=⟨Nat.zero_le _,v,hg,by rw [byteCells_length]; exact h.own,h.ne⟩
 rcases hp with rfl | rfl
 · exact .inl this
 · exact .inr this
theorem check_call (L:Lays.n240 P ρ) (X:Builder.X72 P ρ) {w:World} {g:Nat} {l:List UInt8} {v:Value} (h:Bld (ρ.t 72) (ρ.t 5) w g l v):Calls P (ρ.f 240) #[.pointer (some ⟨g,0,none⟩)] w fun e w'=>e=.returned (.tuple #[])∧Bld (ρ.t 72) (ρ.t 5) w' g l v∧w.grownBy w' (some g)∧w'.heap[g]?=some (.cells #[.pointer (some ⟨g,0,none⟩),v] (ρ.t 72) (0,0))∧w'.heap.size=w.heap.size:=by
 have hF:=h.isF; obtain ⟨p,hp,hg⟩:=h.at_; rcases hF with hf | hf
 · refine (Any.Builder_copyCheck_fresh L X g w hf.cell0 hf.shape hf.frozen0).mono ?_
   rintro e w' ⟨rfl,rfl⟩
   have hh:(w.setCell ⟨g,0,none⟩ (.pointer (some ⟨g,0,none⟩))).heap[g]?=some (.cells #[.pointer (some ⟨g,0,none⟩),v] (ρ.t 72) (0,0)):=by simp [World.setCell,Array.getElem?_modify,hg]
   have hgr:w.grownBy (w.setCell ⟨g,0,none⟩ (.pointer (some ⟨g,0,none⟩))) (some g):=grownBy_setCell w g 0 _; exact ⟨rfl,⟨⟨_,.inr rfl,hh⟩,h.own.kept hgr (.inr h.ne),h.ne⟩,hgr,hh,by simp [World.setCell]⟩
 · refine (Any.Builder_copyCheck_used L X g w hf.cell0).mono ?_
   rintro e w' ⟨rfl,rfl⟩
   have e0:=hf.cell0; rw [Lib.cell_of_heap hg] at e0; have e1:p=.pointer (some ⟨g,0,none⟩):=by simpa using e0
   exact ⟨rfl,h,⟨rfl,rfl,rfl,Nat.le_refl _,fun _ _ _=>rfl⟩,by rw [hg,e1],rfl⟩
structure Wrote (T e:TypeId) (w w':World) (g:Nat) (l s:List UInt8) (v v':Value):Prop where
 bld:Bld T e w' g (l++s) v'
 own:∀ k,v'.ownBlock=some k→v.ownBlock=some k∨w.heap.size≤k
 os:w'.os=w.os
 tape:w'.tape=w.tape
 output:w'.output=w.output
 size:w.heap.size≤w'.heap.size
 block:∀ k,k < w.heap.size→k≠g→v.ownBlock≠some k→w'.heap[k]?=w.heap[k]?
set_option maxHeartbeats 2000000 in
set_option maxRecDepth 100000 in
theorem write_call (L:Lays.n166 P ρ) (X:Builder.Extra P ρ) {w:World} {g:Nat} {l:List UInt8} {v:Value} (h:Bld (ρ.t 72) (ρ.t 5) w g l v) (s:ByteArray) (hlen:l.length+s.size≤140737488355328):Calls P (ρ.f 166) #[.pointer (some ⟨g,0,none⟩),.string s] w fun e w'=>e=.returned (.tuple #[.int .i64 s.size,.nilIface])∧∃ v',Wrote (ρ.t 72) (ρ.t 5) w w' g l s.data.toList v v':=by
 obtain ⟨i0,hi,hz0,hz1,hz2⟩:=info_parts X.infoByte; have mixed:=L.mixed; have t72:=L.t72; have a72:=L.a72; have z72:=L.z72; have v72:=L.v72; have u72:=run_underlying L.t72; have t70:=L.t70; have a70:=L.a70; have z70:=L.z70; have v70:=L.v70; have u70:=run_underlying L.t70; have t37:=L.t37; have a37:=L.a37; have z37:=L.z37; have v37:=L.v37; have u37:=run_underlying L.t37; have t3:=L.t3; have a3:=L.a3; have z3:=L.z3; have v3:=L.v3; have u3:=run_underlying L.t3; have t9:=L.t9; have a9:=L.a9; have z9:=L.z9; have v9:=L.v9; have u9:=run_underlying L.t9; have t4:=L.t4; have a4:=L.a4; have z4:=L.z4; have v4:=L.v4; have u4:=run_underlying L.t4; have t164:=L.t164; have a164:=L.a164; have z164:=L.z164; have v164:=L.v164; have u164:=run_underlying L.t164; have t5:=X.t5; have a5:=X.a5; have z5:=X.z5; have v5:=X.v5; have u5:=run_underlying X.t5; have e240:∀ args w,(callFunc (ρ.f 240) args).run P w=.ok (.enter (ρ.f 240) args) w:=enters_of L.f240 (by kernel_rfl) rfl
 go_enter L.f166,Body.n166_ntmps ρ
 go_wp2_with (go_at_fn (ρ.f 240); refine (check_call { L with } X.toX72 h).mono ?_)
 rintro e w1 ⟨rfl,h1,hb1,hbk,hsz1⟩
 have hown:=h1.own; have hne:=h1.ne; have c0:w1.cell? ⟨g,0,none⟩=some (.pointer (some ⟨g,0,none⟩)):=by rw [Lib.cell_of_heap hbk]; rfl
 have c1:w1.cell? ⟨g,1,none⟩=some v:=by rw [Lib.cell_of_heap hbk]; rfl
 go_wp2_with (at_builtin; refine zsF _ rfl _ _ (ρ.t 37) (ρ.t 9) rfl 0 (ρ.t 5) i0 L.t37 L.t9 hi hz0 hz1 hz2 _ _ _ rfl hown s rfl ?c3 ?c4 ?c5 ?_)
 case c3=>unfold maxLen; omega
 case c4=>omega
 case c5=>omega
 intro v' w2 hown' hgrow hnew
 have hlt:g < w1.heap.size:=by
  rcases Nat.lt_or_ge g w1.heap.size with h' | h'
  · exact h'
  · simp [Array.getElem?_eq_none h'] at hbk
 have hb2:w2.heap[g]?=some (.cells #[.pointer (some ⟨g,0,none⟩),v] (ρ.t 72) (0,0)):=by rw [hgrow.block g hlt (fun e=>hne e.symm)]; exact hbk
 have d0:w2.cell? ⟨g,0,none⟩=some (.pointer (some ⟨g,0,none⟩)):=by rw [Lib.cell_of_heap hb2]; rfl
 have d1:w2.cell? ⟨g,1,none⟩=some v:=by rw [Lib.cell_of_heap hb2]; rfl
 have f1:w2.frozen? ⟨g,1,none⟩=false:=Lib.frozen_of_heap hb2 1
 obtain ⟨ao,n',cap,rfl⟩:∃ ao n' cap,v'=.slice ao n' cap:=by
  rcases hown'.2 with ⟨hv,_⟩ | ⟨g,cap,cur,fz,hv,_⟩
  · exact ⟨_,_,_,hv⟩
  · exact ⟨_,_,_,hv⟩
 go_wp2
 go_ret2
 have hput:=Lib.BuilderAtF.put (T:=(ρ.t 72)) (e:=(ρ.t 5)) (B:=0) (b:=g) (Nat.zero_le _) hb2 (bs':=byteCells l++strCells s) (by simpa [byteCells_length,strCells_length] using hown') X.neB5; refine ⟨rfl,.slice ao n' cap,?_⟩; obtain ⟨_,v2,q1,q2,q3⟩:=hput; have hset:=grownBy_setCell w2 g 1 (Value.slice ao n' cap)
 have hv2:v2=.slice ao n' cap:=by
  have:(w2.setCell ⟨g,1,none⟩ (.slice ao n' cap)).heap[g]?=some (.cells #[.pointer (some ⟨g,0,none⟩),.slice ao n' cap] (ρ.t 72) (0,0)):=by simp [World.setCell,Array.getElem?_modify,hb2]
  rw [this] at q1; injection q1 with q1; injection q1 with q1; simpa using q1.symm
 subst hv2; refine ⟨⟨⟨_,.inr rfl,q1⟩,?_,q3⟩,fun k hk=>(hnew k hk).imp id (fun q=>by omega),?_,?_,?_,?_,fun k hk hkg hkv=>?_⟩
 · have e1:byteCells (l++s.data.toList)=byteCells l++strCells s:=by simp [byteCells,strCells]
   rw [e1]; have e2:(byteCells l++strCells s).length=(l++s.data.toList).length:=by simp [byteCells,strCells]
   rw [← e2]; exact q2
 · exact hset.os.trans (hgrow.os.trans hb1.os)
 · exact hset.tape.trans (hgrow.tape.trans hb1.tape)
 · exact hset.output.trans (hgrow.output.trans hb1.output)
 · exact Nat.le_trans (by omega) (Nat.le_trans hgrow.size hset.size)
 · rw [hset.block k (Nat.lt_of_lt_of_le (by omega) hgrow.size) (fun e=>hkg (by injection e)),hgrow.block k (by omega) (fun e=>hkv e.symm),hb1.block k hk (fun e=>hkg (by injection e))]
end
theorem bxW:Builder.Extra zP zbx where
 sizeBuilder:=by kernel_rfl
 liesBuilder:=by kernel_rfl
 t5:=Tryz.underlying5
 a5:=Tryz.isAgg5
 z5:=Tryz.sizeOf5
 v5:=Tryz.zeroValue5
 infoByte:=by kernel_rfl
 cellsByte:=by kernel_rfl
 sizeByte:=by kernel_rfl
 neB5:=by decide
theorem bxS:Builder.Extra zP zqU where
 sizeBuilder:=by kernel_rfl
 liesBuilder:=by kernel_rfl
 t5:=Tryz.underlying5
 a5:=Tryz.isAgg5
 z5:=Tryz.sizeOf5
 v5:=Tryz.zeroValue5
 infoByte:=by kernel_rfl
 cellsByte:=by kernel_rfl
 sizeByte:=by kernel_rfl
 neB5:=by decide
section
variable {P:Program} {ρ:Ren}
structure Same1 (w w':World) (v:Value):Prop where
 os:w'.os=w.os
 tape:w'.tape=w.tape
 output:w'.output=w.output
 size:w'.heap.size=w.heap.size
 block:∀ k,v.ownBlock≠some k→w'.heap[k]?=w.heap[k]?
theorem Same1.freeze (w:World) (g n:Nat) {v:Value} (hv:v.ownBlock=some g):Same1 w (w.drew.freeze ⟨g,0,none⟩ n) v:=by
 unfold World.freeze; split
 · exact ⟨rfl,rfl,rfl,rfl,fun _ _=>rfl⟩
 · refine ⟨rfl,rfl,rfl,by simp,fun k hk=>?_⟩; simp only [Array.getElem?_modify]; rw [if_neg (fun e=>hk (by rw [hv]; exact congrArg some e))]; rfl
set_option maxHeartbeats 2000000 in
set_option maxRecDepth 100000 in
theorem str_call (L:Lays.n169 P ρ) (X:Builder.Extra P ρ) {w:World} {b:Nat} {l:List UInt8} {v:Value} (h:Bld (ρ.t 72) (ρ.t 5) w b l v) (hnil:l=[]→v=.slice none 0 0):Calls P (ρ.f 169) #[.pointer (some ⟨b,0,none⟩)] w fun e w'=>e=.returned (.string ⟨l.toArray⟩)∧Same1 w w' v:=by
 obtain ⟨p,hp,hbk⟩:=h.at_; have mixed:=L.mixed; have t72:=L.t72; have a72:=L.a72; have z72:=L.z72; have v72:=L.v72; have u72:=run_underlying L.t72; have t70:=L.t70; have a70:=L.a70; have z70:=L.z70; have v70:=L.v70; have u70:=run_underlying L.t70; have t37:=L.t37; have a37:=L.a37; have z37:=L.z37; have v37:=L.v37; have u37:=run_underlying L.t37; have t127:=L.t127; have a127:=L.a127; have z127:=L.z127; have v127:=L.v127; have u127:=run_underlying L.t127; have t3:=L.t3; have a3:=L.a3; have z3:=L.z3; have v3:=L.v3; have u3:=run_underlying L.t3; have t9:=L.t9; have a9:=L.a9; have z9:=L.z9; have v9:=L.v9; have u9:=run_underlying L.t9; have t5:=X.t5; have a5:=X.a5; have z5:=X.z5; have v5:=X.v5; have u5:=run_underlying X.t5; by_cases h0:l=[]
 · have hv:=hnil h0; subst h0; subst hv; have hUS:=Any.unsafeString_none L X
   have c1:w.drew.cell? ⟨b,1,none⟩=some (.slice none 0 0):=by have:w.drew.heap[b]?=some (.cells #[p,.slice none 0 0] (ρ.t 72) (0,0)):=hbk; rw [Lib.cell_of_heap this]; rfl
   have hSD:(Builtin.unsafeSliceData_ #[(ρ.t 37)] (ρ.t 127) #[.slice none 0 0]).run P w.drew=.ok (.pointer none) w.drew:=rfl
   go_enter L.f169,Body.n169_ntmps ρ
   go_wp2
   go_region_o
   all_goals (go_wp2; go_ret; exact ⟨rfl,rfl,rfl,rfl,rfl,fun _ _=>rfl⟩)
 · have hl0:l.length≠0:=by simpa using h0
   obtain ⟨g,cap,cur,fz,rfl,hbg,hg,hfz,hnc,hcm,hcs,htake⟩:∃ g cap cur fz,v=.slice (some ⟨g,0,none⟩) l.length cap∧0≤g∧w.heap[g]?=some (.cells cur (ρ.t 5) fz)∧fz.2≤l.length*1∧l.length≤cap∧cap≤maxLen∧cur.size=cap*1∧cur.toList.take (l.length*1)=Lib.byteCells l:=by
    rcases h.own.2 with ⟨_,hz⟩ | ⟨g,cap,cur,fz,hv,r⟩
    · exact absurd hz hl0
    · exact ⟨g,cap,cur,fz,hv,r⟩
   have c1:w.drew.cell? ⟨b,1,none⟩=some (.slice (some ⟨g,0,none⟩) l.length cap):=by have:w.drew.heap[b]?=some (.cells #[p,.slice (some ⟨g,0,none⟩) l.length cap] (ρ.t 72) (0,0)):=hbk; rw [Lib.cell_of_heap this]; rfl
   have hSD:(Builtin.unsafeSliceData_ #[(ρ.t 37)] (ρ.t 127) #[.slice (some ⟨g,0,none⟩) l.length cap]).run P w.drew=.ok (.pointer (some ⟨g,0,none⟩)) w.drew:=
    Lib.run_unsafeSliceData_row _ _ _ _ _ _ (by omega)
   have hUS:(Builtin.unsafeString_ #[(ρ.t 127),(ρ.t 3)] (ρ.t 9) #[.pointer (some ⟨g,0,none⟩),.int .i64 l.length]).run P w.drew=.ok (.string ⟨l.toArray⟩) (w.drew.freeze ⟨g,0,none⟩ l.length):=by refine Lib.run_unsafeString_row w.drew (ρ.t 127) (ρ.t 3) (ρ.t 9) (ρ.t 5) L.t127 X.cellsByte g cur.size (by have hg':w.drew.heap[g]?=some (.cells cur (ρ.t 5) fz):=hg; simp [World.shape?,hg']) l h0 (by omega) (by unfold maxLen at hcm; omega) ?_; intro j x hx; have:=h.own.cells (g:=g) rfl j (.int .u8 x.toNat) (by simp [Lib.byteCells,hx]); exact this
   have hsame:Same1 w (w.drew.freeze ⟨g,0,none⟩ l.length) (.slice (some ⟨g,0,none⟩) l.length cap):=Same1.freeze w g _ rfl
   go_enter L.f169,Body.n169_ntmps ρ
   go_wp2
   go_region_o
   all_goals (go_wp2; go_ret; exact ⟨rfl,hsame⟩)
end
end Go.Proofs.YtdclabgakicjeaaGreatDoor
namespace Go.Ab
open Go.Proofs.YtdclabgakicjeaaGreatDoor
theorem NowP.val [Dr] {w0:World} {S0:Nat→Prop} {κ0:Kap} {K:Nat→Prop} {N:Nat} {a:Act} {w:World} {st:St} {X:Sat2} (h:NowP w0 S0 κ0 K N X st a w) {k:Nat} {x:Value} (hk:get st.t k=.v x):a.eval (.tmp k)=x:=by obtain ⟨S,κ,h1,_⟩:=h; have:=h1.slots k; rw [hk] at this; exact this.v_inv
end Go.Ab
namespace Go.Proofs.YtdclabgakicjeaaGreatDoor
open Go.Ab Go.Shelf Go.RowKit Go.Lib
theorem Bld.keep {T e:TypeId} {w w':World} {g:Nat} {l:List UInt8} {v:Value} (h:Bld T e w g l v) (h1:w'.heap[g]?=w.heap[g]?) (h2:∀ k,v.ownBlock=some k→w'.heap[k]?=w.heap[k]?):Bld T e w' g l v:=by
 obtain ⟨p,hp,hg⟩:=h.at_; refine ⟨⟨p,hp,h1.trans hg⟩,⟨h.own.1,?_⟩,h.ne⟩; rcases h.own.2 with hn | ⟨k,cap,cur,fz,rfl,hb,hgg,rest⟩
 · exact .inl hn
 · exact .inr ⟨k,cap,cur,fz,rfl,hb,(h2 k rfl).trans hgg,rest⟩
def Bd (w0:World) (κ0:Kap) (K:Nat→Prop) (g:Nat) (l:List UInt8):Sat2:=fun S κ L w=>∃ v,Bld (zbx.t 72) (zbx.t 5) w g l v∧(l=[]→v=.slice none 0 0)∧(Far S κ L w g∧Mine w0 κ0 K g)∧∀ k,v.ownBlock=some k→Far S κ L w k∧Mine w0 κ0 K k
theorem Bd.stable {w0:World} {κ0:Kap} {K:Nat→Prop} {g:Nat} {l:List UInt8}:Stable (Bd w0 κ0 K g l):=by
 have far:∀ {S:Nat→Prop} {κ κ':Kap} {L L':Nat→Option Ent} {w:World} {g:Nat},(∀ b g c,(L' b).isSome=true→κ' b=some (g,c)→∃ b0 c0,(L b0).isSome=true∧κ b0=some (g,c0))→Far S κ L w g→Far S κ' L' w g:=fun h1 hf=>⟨hf.1,hf.2.1,fun b c hl hb=>by
  obtain ⟨b0,c0,e1,e2⟩:=h1 b _ c hl hb
  exact hf.2.2 b0 c0 e1 e2⟩
 refine ⟨fun h h1 h2 h3=>?_,fun h h1=>?_⟩
 · obtain ⟨v,hb,hn,hg,ho⟩:=h; exact ⟨v,hb.keep (h2 g hg.1).1 (fun k hk=>(h2 k (ho k hk).1).1),hn,⟨(h2 g hg.1).2,hg.2⟩,fun k hk=>⟨(h2 k (ho k hk).1).2,(ho k hk).2⟩⟩
 · obtain ⟨v,hb,hn,hg,ho⟩:=h; exact ⟨v,hb,hn,⟨far h1 hg.1,hg.2⟩,fun k hk=>⟨far h1 (ho k hk).1,(ho k hk).2⟩⟩
section
variable {w0:World} {S0:Nat→Prop} {κ0:Kap} {K:Nat→Prop} {N:Nat} {a:Act} {w:World} {st:St}
theorem znY {P:Program} {ops:Array Oper} {Q:Exit→Act→World→Prop} {i:Nat} {o:Oper} {K':Act→World→Prop} {f:FuncId} {fo:Operand} {args:Array Operand} {ts:Array TypeId} {caps:Array Value} {Q':Ending→World→Prop}
  (hi:ops[i]?=some o) (hg:o.guard=none) (ho:o.op=.call { callee:=.value fo,args:=args,argTypes:=ts }) (hf:a.eval fo=.func (.func f) #[] caps) (he:enters P f=true)
  (hc:Calls P f (args.map a.eval++caps) w Q') (hQ:∀ e w',Q' e w'→∃ x,e=.returned x∧K' (a.put o.dst x) w'):wpOp P ops Q i K' a w:=by
 unfold enters at he; split at he
 case h_2=>cases he
 rename_i fn hfn; simp only [Bool.and_eq_true,Bool.not_eq_true'] at he; have hbody:¬ fn.body=none:=by cases hq:fn.body <;> simp_all
 have hname:¬ fn.name = "runtime.NumGoroutine":=by simpa using he.2
 have hrun:(execOp a.eval o).run P w=.ok (.enter f (args.map a.eval++caps)) w:=by simp [execOp,ho,resolve,hf,Deferred.ofValue,invoke,callFunc,hfn,hbody,hname]
 unfold wpOp; simp only [hi]; rw [if_pos (by unfold Region.wanted; rw [hg])]; left; unfold Oper.wp; rw [hrun]; simp only [Oper.upon]; refine hc.mono ?_; intro e w' hq; obtain ⟨x,rfl,hk⟩:=hQ e w' hq; exact hk
theorem ws_op {ops:Array Oper} {Q:Exit→Act→World→Prop} {i d x:Nat} {y:Operand} {ts:Array TypeId} {g:Nat} {l:List UInt8} {s:ByteArray} {K':Act→World→Prop}
  (ho:opIs ops i d (.call { callee:=.value (.func zeO),args:=#[.tmp x,y],argTypes:=ts })) (hd:d < N) (h:NowP w0 S0 κ0 K N (Bd w0 κ0 K g l) st a w)
  (hx:get st.t x=.v (.pointer (some ⟨g,0,none⟩))) (hy:a.eval y=.string s) (hl:l.length+s.size≤140737488355328) (hs:s.size≠0)
  (hK:∀ a' w',NowP w0 S0 κ0 K N (Bd w0 κ0 K g (l++s.data.toList)) { st with t:=(d,.tup [I s.size,.v .nilIface]) :: st.t } a' w'→K' a' w'):wpOp zP ops Q i K' a w:=by
 obtain ⟨o,o1,o2,o3,o4⟩:=ho.get; have ex:=h.val hx; obtain ⟨S,κ,h1,v,hb,hn,hg,hown⟩:=h; have hc:=write_call (P:=zP) layWs bxW hb s hl
 refine znY (f:=zeO) (caps:=#[]) (Q':=fun e w'=>e=.returned (.tuple #[.int .i64 s.size,.nilIface])∧∃ v',Wrote (zbx.t 72) (zbx.t 5) w w' g l s.data.toList v v') o1 o4 o3 rfl (by kernel_rfl) (by
  rw [show (#[.tmp x,y]:Array Operand).map a.eval++#[]=#[.pointer (some ⟨g,0,none⟩),.string s] by simp [ex,hy]]
  exact hc) ?_
 rintro e w' ⟨rfl,v',hw⟩
 refine ⟨_,rfl,?_⟩; rw [o2]; have hgood:GoodS w0 S0 κ0 K N S κ st a w':=h1.world hw.os hw.tape ⟨hw.output,fun q=>q.elim⟩ hw.size (fun k hk hq=>hw.block k hk (fun e=>hq (e▸hg)) (fun e=>hq (hown k e))); refine hK _ _ ⟨S,κ,hgood.put hd _ _ (.c (.tup _ _ rfl (fun j c u hj hu=>?_))),v',hw.bld,fun e=>?_,⟨⟨Nat.lt_of_lt_of_le hg.1.1 hw.size,hg.1.2⟩,hg.2⟩,fun k hk=>?_⟩
 · match j with
   | 0=>simp at hj hu; subst hj; subst hu; exact .v _
   | 1=>simp at hj hu; subst hj; subst hu; exact .v _
   | j+2=>simp at hj
 · have:s.data.toList=[]:=(List.append_eq_nil_iff.1 e).2; exact absurd (by rw [← Array.length_toList,this]; rfl:s.data.size=0) hs
 · rcases hw.own k hk with q | q
   · exact ⟨⟨Nat.lt_of_lt_of_le (hown k q).1.1 hw.size,(hown k q).1.2⟩,(hown k q).2⟩
   · refine ⟨⟨(hw.bld.own.lt k hk).2,fun hS=>?_,fun b c hl hkb=>?_⟩,.inl (Nat.le_trans h1.grow q)⟩
     · exact absurd (h1.slt k hS) (Nat.not_lt.2 q)
     · obtain ⟨ent,he⟩:=Option.isSome_iff_exists.1 hl; have hE:=h1.ents b ent he; rw [hkb] at hE; exact absurd hE.lt (Nat.not_lt.2 q)
theorem str_op {ops:Array Oper} {Q:Exit→Act→World→Prop} {i d x:Nat} {ts:Array TypeId} {g:Nat} {l:List UInt8} {K':Act→World→Prop}
  (ho:opIs ops i d (.call { callee:=.value (.func zgj),args:=#[.tmp x],argTypes:=ts })) (hd:d < N) (h:NowP w0 S0 κ0 K N (Bd w0 κ0 K g l) st a w)
  (hx:get st.t x=.v (.pointer (some ⟨g,0,none⟩)))
  (hK:∀ a' w',NowP w0 S0 κ0 K N (fun _ _ _ _=>True) { st with t:=(d,.v (.string (tx l))) :: st.t } a' w'→K' a' w'):wpOp zP ops Q i K' a w:=by
 obtain ⟨o,o1,o2,o3,o4⟩:=ho.get; have ex:=h.val hx; obtain ⟨S,κ,h1,v,hb,hn,hg,hown⟩:=h; have hc:=str_call (P:=zP) layStr bxS hb hn
 refine znY (f:=zgj) (caps:=#[]) (Q':=fun e w'=>e=.returned (.string ⟨l.toArray⟩)∧Same1 w w' v) o1 o4 o3 rfl (by kernel_rfl) (by
  rw [show (#[.tmp x]:Array Operand).map a.eval++#[]=#[.pointer (some ⟨g,0,none⟩)] by simp [ex]]
  exact hc) ?_
 rintro e w' ⟨rfl,hw⟩
 refine ⟨_,rfl,?_⟩; rw [o2]; have hgood:GoodS w0 S0 κ0 K N S κ st a w':=h1.world hw.os hw.tape ⟨hw.output,fun q=>q.elim⟩ (by rw [hw.size]; exact Nat.le_refl _) (fun k hk hq=>hw.block k (fun e=>hq (hown k e))); exact hK _ _ ⟨S,κ,hgood.put hd _ _ (.c (.v _)),trivial⟩
end
section
variable {w0:World} {S0:Nat→Prop} {κ0:Kap} {K:Nat→Prop} {N:Nat} {a:Act} {w:World} {st:St}
theorem zero131:(zP.info? (zbx.t 72)).bind (·.zero)=some (.agg #[.pointer none,.slice none 0 0]):=by kernel_rfl
theorem new_op {ops:Array Oper} {Q:Exit→Act→World→Prop} {i d:Nat} {K':Act→World→Prop} (ho:opIs ops i d (.alloc (zbx.t 72))) (hd:d < N) (h:NowP w0 S0 κ0 K N (fun _ _ _ _=>True) st a w)
  (hK:∀ g a' w',NowP w0 S0 κ0 K N (Bd w0 κ0 K g []) { st with t:=(d,.v (.pointer (some ⟨g,0,none⟩))) :: st.t } a' w'→K' a' w'):wpOp zP ops Q i K' a w:=by
 obtain ⟨o,o1,o2,o3,o4⟩:=ho.get; obtain ⟨S,κ,h1,_⟩:=h
 obtain ⟨i0,hi,hz⟩:∃ i0,zP.info? (zbx.t 72)=some i0∧i0.zero=some (.agg #[.pointer none,.slice none 0 0]):=by
  have:=zero131
  cases hi:zP.info? (zbx.t 72) with
  | none=>rw [hi] at this; cases this
  | some i0=>rw [hi] at this; exact ⟨i0,rfl,this⟩
 have hrun:(execOp a.eval o).run zP w=.ok (.value (.pointer (some ⟨w.heap.size,0,none⟩))) (w.alloc (.cells #[.pointer none,.slice none 0 0] (zbx.t 72) (0,0))):=by simp only [execOp,o3,Instr.alloc,Sem.run_bind,zcX hi hz,Result.andThen_ok]; simp [newVar,newRow,Value.cells]
 refine zjX o1 o4 hrun ?_; rw [o2]; have hold:∀ k,k < w.heap.size→(w.alloc (.cells #[.pointer none,.slice none 0 0] (zbx.t 72) (0,0))).heap[k]?=w.heap[k]?:=fun k hk=>heap_alloc_old w _ hk
 have hgood:GoodS w0 S0 κ0 K N S κ st a (w.alloc (.cells #[.pointer none,.slice none 0 0] (zbx.t 72) (0,0))):=h1.world rfl rfl .of (by simp) (fun k hk _=>hold k hk)
 have hat:(w.alloc (.cells #[.pointer none,.slice none 0 0] (zbx.t 72) (0,0))).heap[w.heap.size]?=some (.cells #[.pointer none,.slice none 0 0] (zbx.t 72) (0,0)):=by show (w.heap.push _)[w.heap.size]?=_; rw [Array.getElem?_push,if_pos rfl]
 refine hK w.heap.size _ _ ⟨S,κ,hgood.put hd _ _ (.c (.v _)),.slice none 0 0,⟨⟨_,.inl rfl,hat⟩,World.ownsRowF_nil _ _ _ _,by simp [Value.ownBlock]⟩,fun _=>rfl,⟨⟨by simp,fun hS=>?_,fun b c hl hkb=>?_⟩,.inl h1.grow⟩,fun k hk=>by simp [Value.ownBlock] at hk⟩
 · exact absurd (h1.slt _ hS) (Nat.lt_irrefl _)
 · obtain ⟨ent,he⟩:=Option.isSome_iff_exists.1 hl; have hE:=h1.ents b ent he; rw [hkb] at hE; exact absurd hE.lt (Nat.lt_irrefl _)
end
end Go.Proofs.YtdclabgakicjeaaGreatDoor
namespace Go.Proofs.YtdclabgakicjeaaGreatDoor
open Go.Ab Go.Str
set_option maxRecDepth 100000
def scC:Code:=(zaE.fn.body).getD .skip
def scO (j:Nat):Array Oper:=opsAt j scC
def scD (j:Nat):Bool:=zlJ j scC
theorem sc_hb:zaE.fn.body=some scC:=by kernel_rfl
theorem sc_shape:scC=(.seq (.region 0 (scO 0) (scD 0)) (.seq (.seq (.region 1 (scO 1) (scD 1)) (.cond (.tmp 11) (.seq (.region 2 (scO 2) (scD 2)) .ret) .skip)) (.seq (.region 3 (scO 3) false) (.seq (.seq (.region 4 (scO 4) (scD 4)) (.block 0 (.loop (.seq (.region 5 (scO 5) (scD 5)) (.seq (.cond (.tmp 15) .skip (.exit 0)) (.seq (.block 1 (.seq (.region 6 (scO 6) (scD 6)) (.seq (.region 7 (scO 7) (scD 7)) (.seq (.seq (.region 8 (scO 8) (scD 8)) (.cond (.tmp 24) (.seq (.region 9 (scO 9) (scD 9)) .ret) .skip)) (.region 10 (scO 10) false))))) (.region 11 (scO 11) (scD 11)))))))) (.seq (.region 12 (scO 12) false) .ret))))):=by kernel_rfl
theorem sc_r0:regOf 0 scC=some (.region 0 (scO 0) (scD 0)):=by kernel_rfl
theorem sc_r1:regOf 1 scC=some (.region 1 (scO 1) (scD 1)):=by kernel_rfl
theorem sc_r2:regOf 2 scC=some (.region 2 (scO 2) (scD 2)):=by kernel_rfl
theorem sc_r4:regOf 4 scC=some (.region 4 (scO 4) (scD 4)):=by kernel_rfl
theorem sc_r5:regOf 5 scC=some (.region 5 (scO 5) (scD 5)):=by kernel_rfl
theorem sc_r6:regOf 6 scC=some (.region 6 (scO 6) (scD 6)):=by kernel_rfl
theorem sc_r7:regOf 7 scC=some (.region 7 (scO 7) (scD 7)):=by kernel_rfl
theorem sc_r8:regOf 8 scC=some (.region 8 (scO 8) (scD 8)):=by kernel_rfl
theorem sc_r9:regOf 9 scC=some (.region 9 (scO 9) (scD 9)):=by kernel_rfl
theorem sc_r10:regOf 10 scC=some (.region 10 (scO 10) false):=by kernel_rfl
theorem sc_r11:regOf 11 scC=some (.region 11 (scO 11) (scD 11)):=by kernel_rfl
theorem sc_r12:regOf 12 scC=some (.region 12 (scO 12) false):=by kernel_rfl
theorem sc_n:zaE.fn.ntmps≤1000:=by decide
theorem sc_enters:enters zaE.P zcz=true:=by kernel_rfl
theorem zqV (o:GOp) (r:List GOp):linesS (o :: r)=match fmtS o,linesS r with
  | some l,some t=>some (l++10 :: t)
  | _,_=>none:=rfl
theorem znJ:∀ (a b:List GOp),linesS (a++b)=(linesS a).bind fun s=>(linesS b).map fun t=>s++t
 | [],b=>by rw [List.nil_append,show linesS []=some [] from rfl]; cases linesS b <;> rfl
 | o :: a,b=>by
   rw [List.cons_append,zqV,zqV,znJ a b]
   cases fmtS o with
   | none=>rfl
   | some l =>
     cases linesS a with
     | none=>rfl
     | some s =>
       simp only [Option.bind_some]
       cases linesS b with
       | none=>rfl
       | some t=>simp
theorem mapO_enc (D:TyD) {es:List (List AV)} {l:List D.α} (h:mapO D.dec es=some l):es=List.map D.enc l:=by
 have:=zqa (f:=id) (t:=D.enc) h (fun a c _ hc=>D.ok a c hc)
 rwa [List.map_id] at this
theorem mapO_dec (D:TyD):∀ l:List D.α,mapO D.dec (List.map D.enc l)=some l
 | []=>rfl
 | x :: r=>by rw [List.map_cons]; unfold mapO; rw [D.de,mapO_dec D r]
theorem fmt_len {o:GOp} (ho:OpW o) {l:List UInt8} (h:fmtS o=some l):l.length≤200000:=by
 unfold fmtS at h; split at h
 case isFalse=>cases h
 rename_i hc; injection h with h; subst h; obtain ⟨hW,hok,_⟩:=hc; generalize zbT o=W at hW hok; have hlen:=zi2 W
 have hj:=ziA (k:=21000) 32 (kw W :: (slotsC W).map (wordC o)) (fun w hw=>by
  rcases List.mem_cons.1 hw with rfl | hw
  · have:=kw_len W; omega
  · obtain ⟨p,hp,rfl⟩:=List.mem_map.1 hw
    exact word_len ho p (hok p hp))
 unfold lineS; simp only [List.length_cons,List.length_map] at hj; omega
section
variable {w0:World} {S0:Nat→Prop} {κ0:Kap} {K:Nat→Prop} {a:Act} {w:World}
theorem scStep {X:Sat2} (hX:Stable X) {j:Nat} {st st':St} (hr:regOf j scC=some (.region j (scO j) (scD j))) (ht:tReg zaE zT j st=some st')
  (h:NowP w0 S0 κ0 K zaE.fn.ntmps X st a w) {Q:Exit→Act→World→Prop} (hQ:∀ a' w',NowP w0 S0 κ0 K zaE.fn.ntmps X st' a' w'→Q .normal a' w'):(Code.region j (scO j) (scD j)).wp zaE.P Q a w:=stepP hX sc_hb sc_n hr ht h hQ
abbrev stS (l:List GOp) (g:Nat) (i:Int):St:=⟨[(4,AV.v (.pointer (some ⟨g,0,none⟩))),(12,AV.sl 31 (List.map nGOp l)),(13,I l.length),(14,I i)],[]⟩
theorem sc9b:tReg zaE zT 9 ⟨[(8,I 1)],[]⟩=some ⟨[(2,AV.v (.string (tx []))),(3,I 1)],[]⟩:=by kernel_rfl
theorem sc_body {l:List GOp} (hl:∀ o∈l,OpW o) (h:NowP w0 S0 κ0 K zaE.fn.ntmps X0 ⟨[(0,AV.sl 31 (List.map nGOp l))],[]⟩ a w):scC.wp zaE.P (PostC w0 S0 κ0 K zaE.fn.ntmps .ret (stOut (scrR l))) a w:=by
 have fin:∀ {X:Sat2} a' w',NowP w0 S0 κ0 K zaE.fn.ntmps X (stOut (scrR l)) a' w'→PostC w0 S0 κ0 K zaE.fn.ntmps .ret (stOut (scrR l)) .ret a' w':=fun a' w' hn=>by obtain ⟨S,κ,hg,_⟩:=hn; exact ⟨rfl,S,κ,hg⟩
 rw [sc_shape]; refine wp_seq (scStep Stable.none sc_r0 (sc0 l) h (fun a1 w1 h1=>?_)); refine wp_seq (wp_seq (scStep Stable.none sc_r1 (sc1 l) h1 (fun a2 w2 h2=>?_))); refine wp_cond (h2.bool (b:=decide (300 < ((List.map nGOp l).length:Int))) rfl) ?_; by_cases h3:300 < l.length
 · rw [decide_eq_true (by rw [List.length_map]; omega),if_pos rfl]; have h4:=h2.trim Stable.none [] [] (st':=⟨[],[]⟩) (by kernel_rfl); refine wp_seq (scStep Stable.none sc_r2 (sc2 ()) h4 (fun a5 w5 h5=>wp_ret (fin (X:=X0) a5 w5 ?_))); unfold scrR; rw [if_pos h3]; exact h5
 rw [decide_eq_false (by rw [List.length_map]; omega),iNs]; refine wp_skip ?_; have h4:=h2.trim Stable.none [0] [] (st':=⟨[(0,AV.sl 31 (List.map nGOp l))],[]⟩) (by kernel_rfl); have z3:(scO 3).size=1:=by kernel_rfl
 refine wp_seq (wp_region ?_); rw [z3,show List.range 1=[0] from rfl,wpOps_cons]; refine new_op (d:=4) (by unfold opIs; kernel_rfl) (by decide) h4 (fun g a5 w5 h5=>?_); show (Code.wp _ _ _ a5 w5); have h6:=h5.trim Bd.stable [0,4] [] (st':=⟨[(0,AV.sl 31 (List.map nGOp l)),(4,AV.v (.pointer (some ⟨g,0,none⟩)))],[]⟩) (by kernel_rfl); refine wp_seq (wp_seq (scStep Bd.stable sc_r4 (sc4 l g) h6 (fun a7 w7 h7=>?_))); rw [List.length_map] at h7; refine wp_block (wp_loop (fun a w=>∃ k:Nat,k≤l.length∧∃ t,linesS (l.take k)=some t∧t.length≤200001*k∧NowP w0 S0 κ0 K zaE.fn.ntmps (Bd w0 κ0 K g t) (stS l g k) a w) (fun a _=>l.length - cnt a 14) ⟨0,Nat.zero_le _,[],rfl,Nat.zero_le _,h7⟩ ?_)
 rintro a w ⟨k,hk,t,ht,htl,hn⟩
 have hc0:cnt a 14=k:=by rw [hn.cnt (n:=(k:Int)) rfl]; simp
 refine wp_seq (scStep Bd.stable sc_r5 (sc5 l g l.length k) hn (fun a8 w8 h8=>?_)); refine wp_seq (wp_cond (h8.bool (b:=decide ((k:Int) < l.length)) rfl) ?_); by_cases hlt:k < l.length
 rotate_left
 · rw [decide_eq_false (by omega),iNs]; have hkl:k=l.length:=by omega
   rw [hkl,List.take_length] at ht; refine wp_exit (wp_seq (wp_region ?_)); have z12:(scO 12).size=3:=by kernel_rfl
   rw [z12,show List.range 3=0 :: (List.range' 1 2++[]) from rfl,wpOps_cons]; refine str_op (ts:=#[tyB]) (d:=30) (x:=4) (by unfold opIs; kernel_rfl) (by decide) h8 rfl (fun a9 w9 h9=>?_); have hA:=h9.trim Stable.none [30] [] (st':=⟨[(30,AV.v (.string (tx t)))],[]⟩) (by kernel_rfl); refine segP Stable.none sc_hb sc_n sc_r12 (sc12 (tx t)) (by rw [z12]; decide) hA (fun aB wB hB=>?_); refine wp_ret (fin (X:=X0) aB wB ?_); have e:scrR l=(t,0):=by unfold scrR; rw [if_neg h3,ht]
   rw [e]; exact hB.trim Stable.none [2,3] [] (by kernel_rfl)
 rw [decide_eq_true (by omega),if_pos rfl]; refine wp_skip ?_; have h9:=h8.trim Bd.stable [4,12,13,14] [] (st':=stS l g k) (by kernel_rfl); have t6:=sc6 l g l.length k; rw [cPQ,zgc,show ((k:Nat):Int).toNat=k from rfl,List.getElem?_eq_getElem hlt,Option.bind_some] at t6; refine wp_seq (wp_block (wp_seq (scStep Bd.stable sc_r6 t6 h9 (fun aA wA hA=>?_)))); have hoW:OpW l[k]:=hl _ (List.getElem_mem hlt); have t7:=sc7 l g l.length k l[k]; rw [zpR hoW,zbs] at t7; refine wp_seq (scStep Bd.stable sc_r7 t7 hA (fun aB wB hB=>?_)); refine wp_seq (wp_seq (scStep Bd.stable sc_r8 (sc8 l g l.length k _ _) hB (fun aC wC hC=>?_))); refine wp_cond (hC.bool (b:=((fmtR l[k]).2 != 0)) rfl) ?_
 have htk:linesS (l.take (k+1))=(fmtS l[k]).map fun s=>t++(s++[10]):=by rw [List.take_add_one,znJ,ht,Option.bind_some,List.getElem?_eq_getElem hlt]; show (match fmtS l[k],linesS [] with | some l,some t=>some (l++10 :: t) | _,_=>none).map _=_; rw [show linesS []=some [] from rfl]; cases fmtS l[k] <;> rfl
 cases hf:fmtS l[k] with
 | none =>
   have e1:fmtR l[k]=([],1):=by unfold fmtR; rw [hf]
   rw [e1,show ((1:Int) != 0)=true from rfl,if_pos rfl]; rw [e1] at hC; have hD:=hC.trim Bd.stable [8] [] (st':=⟨[(8,I 1)],[]⟩) (by kernel_rfl); refine wp_seq (scStep Bd.stable sc_r9 sc9b hD (fun aE wE hE=>wp_ret (fin (X:=Bd w0 κ0 K g t) aE wE ?_)))
   have e:scrR l=([],1):=by
    have hnone:linesS l=none:=by rw [← List.take_append_drop (k+1) l,znJ,htk,hf]; rfl
    unfold scrR; rw [if_neg h3,hnone]
   rw [e]; exact hE
 | some s =>
   have e1:fmtR l[k]=(s,0):=by unfold fmtR; rw [hf]
   rw [e1,show ((0:Int) != 0)=false from rfl,iNs]; rw [e1] at hC; refine wp_skip ?_; have hsl:=fmt_len hoW hf; have hD:=hC.trim Bd.stable [4,7,12,13,14] [] (st':=⟨[(4,AV.v (.pointer (some ⟨g,0,none⟩))),(7,AV.v (.string (tx s))),(12,AV.sl 31 (List.map nGOp l)),(13,I l.length),(14,I k)],[]⟩) (by kernel_rfl); have z10:(scO 10).size=3:=by kernel_rfl
   refine wp_region ?_; rw [z10,show List.range 3=List.range' 0 2++[2] from rfl]; have t10:=sc10 l g l.length k (tx s); rw [zai (by rw [zap]; show s.length+1≤_; omega),show tx s++nl=tx (s++[10]) from zaY s [10]] at t10; refine segP Bd.stable sc_hb sc_n sc_r10 t10 (by rw [z10]; decide) hD (fun aE wE hE=>?_); rw [wpOps_cons]; refine ws_op (ts:=#[tyB,9]) (d:=28) (x:=4) (y:=.tmp 27) (s:=tx (s++[10])) (by unfold opIs; kernel_rfl) (by decide) hE rfl (hE.val rfl) (by rw [zap,List.length_append]; simp only [List.length_cons,List.length_nil]; omega) (by rw [zap,List.length_append]; simp) (fun aF wF hF=>?_); rw [zcI] at hF; have hG:=hF.trim Bd.stable [4,12,13,14] [] (st':=stS l g k) (by kernel_rfl); show Exit.inBlock 1 _ .normal aF wF; refine scStep Bd.stable sc_r11 (sc11 l g l.length k) hG (fun aH wH hH=>?_); rw [w6Q] at hH; refine ⟨⟨k+1,hlt,t++(s++[10]),by rw [htk,hf]; rfl,by simp only [List.length_append,List.length_cons,List.length_nil]; omega,by exact_mod_cast hH⟩,?_⟩; have:cnt aH 14=k+1:=by rw [hH.cnt (n:=(k:Int)+1) rfl]; omega
   show l.length - cnt aH 14 < l.length - cnt a 14; omega
theorem scr_ok:CallOK zP (single zcz zOrc):=by
 refine ora (o:=oScr) (fun args=>by unfold zOrc; simp (decide:=true) only [if_false,if_true]) sc_enters (fun args r ms' hr=>?_); unfold oScr at hr; split at hr
 case h_2=>cases hr
 rename_i es; split at hr
 case h_2=>cases hr
 rename_i l hd; split at hr
 case isFalse=>cases hr
 rename_i ho; injection hr with hr; injection hr with h1 h2; subst h1 h2; have he:es=List.map nGOp l:=mapO_enc dGOp hd; subst he; refine ⟨rfl,fun w S κ vals hvl hS hk hv=>?_⟩; have hf:zaE.P.funcs[zcz]?=some zaE.fn:=by kernel_rfl
 refine ziU (args:=[AV.sl 31 (List.map nGOp l)]) (ms:=[]) (frz:=false) (ex:=.ret) (st:=stOut (scrR l)) hf sc_hb (show 1≤zaE.fn.ntmps by decide) hvl hS hk hv (fun b ent hb=>by simp [Ab.look] at hb) (fun b b' g c c' hd=>by simp [Dm,Ab.look] at hd) (fun id=>by simp) (fun a hg=>?_) ?_ ?_ ?_
 · obtain ⟨S,κ,hg⟩:=hg; exact sc_body ho ⟨S,κ,hg,trivial⟩
 · kernel_rfl
 · kernel_rfl
 · kernel_rfl
theorem c_Script {l:List GOp} (hl:∀ o∈l,OpW o):cw zcz [.sl 31 (List.map nGOp l)] []=some (zbW (tx (scrR l).1,(scrR l).2)):=by refine zgI scr_ok ?_; have hd:mapO dGOp.dec (List.map nGOp l)=some l:=mapO_dec dGOp l; show oScr [.sl 31 (List.map nGOp l)]=_; simp only [oScr,hd]; rw [if_pos hl]; rfl
end
set_option maxRecDepth 100000
def rcC:Code:=(zaN.fn.body).getD .skip
def rcO (j:Nat):Array Oper:=opsAt j rcC
def rcD (j:Nat):Bool:=zlJ j rcC
theorem rc_hb:zaN.fn.body=some rcC:=by kernel_rfl
theorem rc_shape:rcC=(.seq (.region 0 (rcO 0) (rcD 0)) (.block 0 (.loop (.seq (.region 1 (rcO 1) (rcD 1)) (.seq (.cond (.tmp 8) .skip (.exit 0)) (.seq (.block 1 (.seq (.region 2 (rcO 2) (rcD 2)) (.region 3 (rcO 3) false))) (.region 4 (rcO 4) (rcD 4)))))))):=by kernel_rfl
theorem rc_r0:regOf 0 rcC=some (.region 0 (rcO 0) (rcD 0)):=by kernel_rfl
theorem rc_r1:regOf 1 rcC=some (.region 1 (rcO 1) (rcD 1)):=by kernel_rfl
theorem rc_r2:regOf 2 rcC=some (.region 2 (rcO 2) (rcD 2)):=by kernel_rfl
theorem rc_r3:regOf 3 rcC=some (.region 3 (rcO 3) false):=by kernel_rfl
theorem rc_r4:regOf 4 rcC=some (.region 4 (rcO 4) (rcD 4)):=by kernel_rfl
theorem rc_n:zaN.fn.ntmps≤1000:=by decide
section
variable {w0:World} {S0:Nat→Prop} {κ0:Kap} {K:Nat→Prop} {a:Act} {w:World}
theorem rcStep {X:Sat2} (hX:Stable X) {j:Nat} {st st':St} (hr:regOf j rcC=some (.region j (rcO j) (rcD j))) (ht:tReg zaN zT j st=some st')
  (h:NowP w0 S0 κ0 K zaN.fn.ntmps X st a w) {Q:Exit→Act→World→Prop} (hQ:∀ a' w',NowP w0 S0 κ0 K zaN.fn.ntmps X st' a' w'→Q .normal a' w'):(Code.region j (rcO j) (rcD j)).wp zaN.P Q a w:=stepP hX rc_hb rc_n hr ht h hQ
abbrev stC (l:List zaG) (g:Nat) (i:Int):St:=⟨[(1,AV.v (.pointer (some ⟨g,0,none⟩))),(5,AV.sl 5 (List.map zaF l)),(6,I l.length),(7,I i)],[]⟩
theorem outs_succ {l:List zaG} {k:Nat} (h:k < l.length):outsS (l.take (k+1))=outsS (l.take k)++(outS l[k]++[10]):=by unfold outsS; rw [List.take_add_one,List.flatMap_append,List.getElem?_eq_getElem h]; simp
theorem outs_len:∀ {l:List zaG},(∀ o∈l,OutW o)→(outsS l).length≤201*l.length
 | [],_=>by simp [outsS]
 | o :: r,h=>by have h1:=zkA (h o (by simp)); have h2:=outs_len (l:=r) (fun q hq=>h q (by simp [hq])); unfold outsS at h2 ⊢; rw [List.flatMap_cons]; simp only [List.length_append,List.length_cons,List.length_nil] at h2 ⊢; omega
theorem rc_body {l:List zaG} {g:Nat} {t:List UInt8} (hl:∀ o∈l,OutW o) (hc:l.length≤1000000000) (ht:t.length+201*l.length≤140737488355328)
  (h:NowP w0 S0 κ0 K zaN.fn.ntmps (Bd w0 κ0 K g t) ⟨[(0,AV.sl 5 (List.map zaF l)),(1,AV.v (.pointer (some ⟨g,0,none⟩)))],[]⟩ a w) {Q:Exit→Act→World→Prop}
  (hQ:∀ st' a' w',NowP w0 S0 κ0 K zaN.fn.ntmps (Bd w0 κ0 K g (t++outsS l)) st' a' w'→Q .normal a' w'):rcC.wp zaN.P Q a w:=by
 rw [rc_shape]; refine wp_seq (rcStep Bd.stable rc_r0 (rc0 l g) h (fun a1 w1 h1=>?_)); rw [List.length_map] at h1; refine wp_block (wp_loop (fun a w=>∃ k:Nat,k≤l.length∧NowP w0 S0 κ0 K zaN.fn.ntmps (Bd w0 κ0 K g (t++outsS (l.take k))) (stC l g k) a w) (fun a _=>l.length - cnt a 7) ⟨0,Nat.zero_le _,by simpa [outsS] using h1⟩ ?_)
 rintro a w ⟨k,hk,hn⟩
 have hc0:cnt a 7=k:=by rw [hn.cnt (n:=(k:Int)) rfl]; simp
 refine wp_seq (rcStep Bd.stable rc_r1 (rc1 l g l.length k) hn (fun a8 w8 h8=>?_)); refine wp_seq (wp_cond (h8.bool (b:=decide ((k:Int) < l.length)) rfl) ?_); by_cases hlt:k < l.length
 rotate_left
 · rw [decide_eq_false (by omega),iNs]; have hkl:k=l.length:=by omega
   rw [hkl,List.take_length] at h8; exact wp_exit (hQ _ _ _ h8)
 rw [decide_eq_true (by omega),if_pos rfl]; refine wp_skip ?_; have h9:=h8.trim Bd.stable [1,5,6,7] [] (st':=stC l g k) (by kernel_rfl); have t2:=rc2 l g l.length k; rw [cPQ,ziv,show ((k:Nat):Int).toNat=k from rfl,List.getElem?_eq_getElem hlt,Option.bind_some] at t2; refine wp_seq (wp_block (wp_seq (rcStep Bd.stable rc_r2 t2 h9 (fun aA wA hA=>?_)))); have hoW:OutW l[k]:=hl _ (List.getElem_mem hlt); have hol:=zkA hoW; have htk:=outs_len (l:=l.take k) (fun q hq=>hl q (List.mem_of_mem_take hq)); rw [List.length_take,Nat.min_eq_left (by omega)] at htk; have t3:=rc3 l g l.length k l[k]; rw [znq hoW,zaw,zai (by rw [zap]; show (outS l[k]).length+1≤_; omega),show tx (outS l[k])++nl=tx (outS l[k]++[10]) from zaY _ [10]] at t3; have z3:(rcO 3).size=4:=by kernel_rfl
 refine wp_region ?_; rw [z3,show List.range 4=List.range' 0 3++[3] from rfl]; refine segP Bd.stable rc_hb rc_n rc_r3 t3 (by rw [z3]; decide) hA (fun aE wE hE=>?_); rw [wpOps_cons]; refine ws_op (ts:=#[tyB,9]) (d:=14) (x:=1) (y:=.tmp 13) (s:=tx (outS l[k]++[10])) (by unfold opIs; kernel_rfl) (by decide) hE rfl (hE.val rfl) (by rw [zap]; simp only [List.length_append,List.length_cons,List.length_nil]; omega) (by rw [zap,List.length_append]; simp) (fun aF wF hF=>?_); rw [zcI,List.append_assoc,← outs_succ hlt] at hF; have hG:=hF.trim Bd.stable [1,5,6,7] [4] (st':=stC l g k) (by kernel_rfl); show Exit.inBlock 1 _ .normal aF wF; refine rcStep Bd.stable rc_r4 (rc4 l g l.length k) hG (fun aH wH hH=>?_); rw [w6Q] at hH; refine ⟨⟨k+1,hlt,by exact_mod_cast hH⟩,?_⟩; have:cnt aH 7=k+1:=by rw [hH.cnt (n:=(k:Int)+1) rfl]; omega
 show l.length - cnt aH 7 < l.length - cnt a 7; omega
def bdK (g:Nat) (v:Value):Kap:=fun b=>if b=1 then some (g,0) else if b=2 then v.ownBlock.map fun k=>(k,0) else none
def bdN:Nat→Prop:=fun b=>b=1∨b=2
theorem bdK_at {g:Nat} {v:Value} {b k c:Nat} (hb:bdN b) (h:bdK g v b=some (k,c)):k=g∨v.ownBlock=some k:=by
 unfold bdK at h; rcases hb with rfl | rfl
 · simp at h; exact .inl h.1.symm
 · rw [if_neg (by decide),if_pos rfl] at h; obtain ⟨q,h1,h2⟩:=Option.map_eq_some_iff.1 h; injection h2 with h2; subst h2; exact .inr h1
theorem out_call {S:Nat→Prop} {g:Nat} {t:List UInt8} {v x:Value} {l:List zaG} (hb:Bld (zbx.t 72) (zbx.t 5) w g t v) (hn:t=[]→v=.slice none 0 0)
  (hS:∀ k,S k→k < w.heap.size) (hk:varsOk S w) (hg:¬ S g) (ho:∀ k,v.ownBlock=some k→¬ S k) (hx:CRel S w (.sl 5 (List.map zaF l)) x) (hl:∀ o∈l,OutW o) (hc:l.length≤1000000000) (ht:t.length+201*l.length≤140737488355328):Calls zP zej #[x,.pointer (some ⟨g,0,none⟩)] w fun e w'=>e=.returned (.tuple #[])∧∃ v',Wrote (zbx.t 72) (zbx.t 5) w w' g t (outsS l) v v'∧(t++outsS l=[]→v'=.slice none 0 0):=by
 have hf:zaN.P.funcs[zej]?=some zaN.fn:=by kernel_rfl
 refine calls_of_wp hf rc_hb ?_
 have hgt:g < w.heap.size:=by obtain ⟨p,_,h1⟩:=hb.at_; exact (Array.getElem?_eq_some_iff.1 h1).1
 have hfar:∀ k,k < w.heap.size→¬ S k→Far S (bdK g v) (Ab.look []) w k:=fun k h1 h2=>⟨h1,h2,fun b c hl=>by simp [Ab.look] at hl⟩
 have hstart:NowP w S (bdK g v) bdN zaN.fn.ntmps (Bd w (bdK g v) bdN g t) ⟨[(0,AV.sl 5 (List.map zaF l)),(1,AV.v (.pointer (some ⟨g,0,none⟩)))],[]⟩
   { tmps:=#[x,.pointer (some ⟨g,0,none⟩)]++Array.replicate (zaN.fn.ntmps - (#[x,.pointer (some ⟨g,0,none⟩)]:Array Value).size) undef,defers:=[] } w:=by
  refine ⟨S,bdK g v,?_,v,hb,hn,⟨hfar g hgt hg,.inr ⟨1,0,by decide,.inl rfl,rfl⟩⟩,fun k hk'=>⟨hfar k (hb.own.lt k hk').2 (ho k hk'),.inr ⟨2,0,by decide,.inr rfl,by simp [bdK,hk']⟩⟩⟩
  have hs:=GoodS.start (w:=w) (S:=S) (κ:=bdK g v) (args:=[AV.sl 5 (List.map zaF l),AV.v (.pointer (some ⟨g,0,none⟩))]) (vals:=#[x,.pointer (some ⟨g,0,none⟩)]) (ms:=[]) (N:=zaN.fn.ntmps) rfl (show 2≤zaN.fn.ntmps by decide) hS hk (fun k a u ha hu=>by
   match k,ha,hu with
   | 0,ha,hu=>injection ha with ha; injection hu with hu; subst ha; subst hu; exact .c hx
   | 1,ha,hu=>injection ha with ha; injection hu with hu; subst ha; subst hu; exact .c (.v _)
   | k+2,ha,hu=>simp at ha) (fun b e h=>by simp [Ab.look] at h) (fun b b' k c c' h=>by simp [Dm,Ab.look] at h)
  exact { hs with
   base:=⟨hk,fun k hSk=>⟨hS k hSk,fun b c hbn hbk=>by
    rcases bdK_at hbn hbk with rfl | q
    · exact hg hSk
    · exact ho k q hSk⟩⟩
   old:=fun _ _ _=>rfl
   snew:=fun _ h=>.inl h
   parK:=fun b _ h=>by simp [Ab.look] at h
   own:=fun b k c _ h=>by simp [Ab.look] at h }
 refine rc_body hl hc ht hstart (fun st' a' w' hn'=>?_); obtain ⟨S',κ',hg',v',hb',hn2,hgf,hof⟩:=hn'; refine ⟨hg'.defers,.tuple #[],by kernel_rfl,rfl,v',⟨hb',fun k hk'=>?_,hg'.os,hg'.tape,hg'.output.1,hg'.grow,fun k hk1 hk2 hk3=>hg'.old k hk1 (fun b c hbn hbk=>?_)⟩,hn2⟩
 · rcases (hof k hk').2 with q | ⟨b,c,_,hbn,hbk⟩
   · exact .inr q
   · rcases bdK_at hbn hbk with rfl | q
     · exact absurd hk' hb'.ne
     · exact .inl q
 · rcases bdK_at hbn hbk with rfl | q
   · exact hk2 rfl
   · exact hk3 q
end
end Go.Proofs.YtdclabgakicjeaaGreatDoor
namespace Go.Proofs.YtdclabgakicjeaaGreatDoor
open Go.Ab Go.Str Go.RowKit
set_option maxRecDepth 100000
def rpC:Code:=(zau.fn.body).getD .skip
def rpO (j:Nat):Array Oper:=opsAt j rpC
def rpD (j:Nat):Bool:=zlJ j rpC
theorem rp_hb:zau.fn.body=some rpC:=by kernel_rfl
theorem rp_shape:rpC=(.seq (.region 0 (rpO 0) (rpD 0)) (.seq (.region 1 (rpO 1) false) (.seq (.region 2 (rpO 2) (rpD 2)) (.seq (.seq (.region 3 (rpO 3) (rpD 3)) (.block 0 (.loop (.seq (.region 4 (rpO 4) (rpD 4)) (.seq (.cond (.tmp 15) .skip (.exit 0)) (.seq (.block 1 (.seq (.region 5 (rpO 5) (rpD 5)) (.seq (.region 6 (rpO 6) false) (.region 7 (rpO 7) false)))) (.region 8 (rpO 8) (rpD 8)))))))) (.seq (.seq (.region 9 (rpO 9) (rpD 9)) (.block 2 (.loop (.seq (.region 10 (rpO 10) (rpD 10)) (.seq (.cond (.tmp 35) .skip (.exit 2)) (.seq (.block 3 (.seq (.region 11 (rpO 11) (rpD 11)) (.seq (.region 12 (rpO 12) (rpD 12)) (.seq (.region 13 (rpO 13) (rpD 13)) (.cond (.tmp 42) (.region 14 (rpO 14) false) (.region 15 (rpO 15) false)))))) (.region 16 (rpO 16) (rpD 16)))))))) (.seq (.region 17 (rpO 17) false) (.seq (.region 18 (rpO 18) false) (.seq (.region 19 (rpO 19) false) .ret)))))))):=by kernel_rfl
theorem rp_r0:regOf 0 rpC=some (.region 0 (rpO 0) (rpD 0)):=by kernel_rfl
theorem rp_r2:regOf 2 rpC=some (.region 2 (rpO 2) (rpD 2)):=by kernel_rfl
theorem rp_r3:regOf 3 rpC=some (.region 3 (rpO 3) (rpD 3)):=by kernel_rfl
theorem rp_r4:regOf 4 rpC=some (.region 4 (rpO 4) (rpD 4)):=by kernel_rfl
theorem rp_r5:regOf 5 rpC=some (.region 5 (rpO 5) (rpD 5)):=by kernel_rfl
theorem rp_r6:regOf 6 rpC=some (.region 6 (rpO 6) false):=by kernel_rfl
theorem rp_r7:regOf 7 rpC=some (.region 7 (rpO 7) false):=by kernel_rfl
theorem rp_r8:regOf 8 rpC=some (.region 8 (rpO 8) (rpD 8)):=by kernel_rfl
theorem rp_r9:regOf 9 rpC=some (.region 9 (rpO 9) (rpD 9)):=by kernel_rfl
theorem rp_r10:regOf 10 rpC=some (.region 10 (rpO 10) (rpD 10)):=by kernel_rfl
theorem rp_r11:regOf 11 rpC=some (.region 11 (rpO 11) (rpD 11)):=by kernel_rfl
theorem rp_r12:regOf 12 rpC=some (.region 12 (rpO 12) (rpD 12)):=by kernel_rfl
theorem rp_r13:regOf 13 rpC=some (.region 13 (rpO 13) (rpD 13)):=by kernel_rfl
theorem rp_r14:regOf 14 rpC=some (.region 14 (rpO 14) false):=by kernel_rfl
theorem rp_r15:regOf 15 rpC=some (.region 15 (rpO 15) false):=by kernel_rfl
theorem rp_r16:regOf 16 rpC=some (.region 16 (rpO 16) (rpD 16)):=by kernel_rfl
theorem rp_r18:regOf 18 rpC=some (.region 18 (rpO 18) false):=by kernel_rfl
theorem rp_r19:regOf 19 rpC=some (.region 19 (rpO 19) false):=by kernel_rfl
theorem rp_n:zau.fn.ntmps≤1000:=by decide
theorem rp_enters:enters zau.P zc8=true:=by kernel_rfl
theorem zsl {α:Type} (f:α→List UInt8) (l:List α) (k:Nat):((l.take k).flatMap f).length≤(l.flatMap f).length:=by
 have:l.flatMap f=(l.take k).flatMap f++(l.drop k).flatMap f:=by rw [← List.flatMap_append,List.take_append_drop]
 rw [this,List.length_append]; omega
theorem zrM {α:Type} (f:α→List UInt8) {l:List α} {k:Nat} (h:k < l.length):(l.take (k+1)).flatMap f=(l.take k).flatMap f++f l[k]:=by rw [List.take_add_one,List.flatMap_append,List.getElem?_eq_getElem h]; simp
section
variable {w0:World} {S0:Nat→Prop} {κ0:Kap} {K:Nat→Prop} {a:Act} {w:World}
theorem rpStep {X:Sat2} (hX:Stable X) {j:Nat} {st st':St} (hr:regOf j rpC=some (.region j (rpO j) (rpD j))) (ht:tReg zau zT j st=some st')
  (h:NowP w0 S0 κ0 K zau.fn.ntmps X st a w) {Q:Exit→Act→World→Prop} (hQ:∀ a' w',NowP w0 S0 κ0 K zau.fn.ntmps X st' a' w'→Q .normal a' w'):(Code.region j (rpO j) (rpD j)).wp zau.P Q a w:=stepP hX rp_hb rp_n hr ht h hQ
theorem clo_op {N:Nat} {st:St} {ops:Array Oper} {Q:Exit→Act→World→Prop} {i d f y:Nat} {ts:Array TypeId} {g:Nat} {t:List UInt8} {l:List zaG} {K':Act→World→Prop}
  (ho:opIs ops i d (.call { callee:=.value (.tmp f),args:=#[.tmp y],argTypes:=ts })) (hd:d < N) (h:NowP w0 S0 κ0 K N (Bd w0 κ0 K g t) st a w)
  (hf:get st.t f=fnV g) (hy:get st.t y=.sl 5 (List.map zaF l)) (hl:∀ o∈l,OutW o) (hc:l.length≤1000000000) (ht:t.length+201*l.length≤140737488355328)
  (hK:∀ a' w',NowP w0 S0 κ0 K N (Bd w0 κ0 K g (t++outsS l)) { st with t:=(d,.tup []) :: st.t } a' w'→K' a' w'):wpOp zP ops Q i K' a w:=by
 obtain ⟨o,o1,o2,o3,o4⟩:=ho.get; have ef:=h.val hf; obtain ⟨S,κ,h1,v,hb,hn,hg,hown⟩:=h; have hvy:VRel S κ (fun b=>(Ab.look st.m b).isSome=true) w (get st.t y) (a.eval (.tmp y)):=h1.slots y; rw [hy] at hvy; have hc:=out_call hb hn h1.slt (Good.okw h1) hg.1.2.1 (fun k hk=>(hown k hk).1.2.1) hvy.sl_inv hl hc ht
 refine znY (f:=zej) (caps:=#[.pointer (some ⟨g,0,none⟩)]) (Q':=fun e w'=>e=.returned (.tuple #[])∧∃ v',Wrote (zbx.t 72) (zbx.t 5) w w' g t (outsS l) v v'∧(t++outsS l=[]→v'=.slice none 0 0)) o1 o4 o3 ef (by kernel_rfl) (by
  rw [show (#[.tmp y]:Array Operand).map a.eval++#[.pointer (some ⟨g,0,none⟩)]=#[a.eval (.tmp y),.pointer (some ⟨g,0,none⟩)] by simp]
  exact hc) ?_
 rintro e w' ⟨rfl,v',hw,hn'⟩
 refine ⟨_,rfl,?_⟩; rw [o2]; have hgood:GoodS w0 S0 κ0 K N S κ st a w':=h1.world hw.os hw.tape ⟨hw.output,fun q=>q.elim⟩ hw.size (fun k hk hq=>hw.block k hk (fun e=>hq (e▸hg)) (fun e=>hq (hown k e))); refine hK _ _ ⟨S,κ,hgood.put hd _ _ (.c (.tup _ _ rfl (fun j c u hj hu=>by simp at hj))),v',hw.bld,hn',⟨⟨Nat.lt_of_lt_of_le hg.1.1 hw.size,hg.1.2⟩,hg.2⟩,fun k hk=>?_⟩; rcases hw.own k hk with q | q
 · exact ⟨⟨Nat.lt_of_lt_of_le (hown k q).1.1 hw.size,(hown k q).1.2⟩,(hown k q).2⟩
 · refine ⟨⟨(hw.bld.own.lt k hk).2,fun hS=>?_,fun b c hl hkb=>?_⟩,.inl (Nat.le_trans h1.grow q)⟩
   · exact absurd (h1.slt k hS) (Nat.not_lt.2 q)
   · obtain ⟨ent,he⟩:=Option.isSome_iff_exists.1 hl; have hE:=h1.ents b ent he; rw [hkb] at hE; exact absurd hE.lt (Nat.not_lt.2 q)
abbrev stB (x:zaL) (g:Nat):St:=⟨[(1,AV.fp (zaC x)),(3,AV.v (.pointer (some ⟨g,0,none⟩))),(4,fnV g)],[]⟩
abbrev stP (x:zaL) (g:Nat) (i:Int):St:=⟨[(1,AV.fp (zaC x)),(3,AV.v (.pointer (some ⟨g,0,none⟩))),(4,fnV g),(12,AV.sl 3 (List.map zaP x.Published)),(13,I x.Published.length),(14,I i)],[]⟩
abbrev stG (x:zaL) (g:Nat) (i:Int):St:=⟨[(1,AV.fp (zaC x)),(3,AV.v (.pointer (some ⟨g,0,none⟩))),(4,fnV g),(32,AV.sl 6 (List.map za0 x.Log)),(33,I x.Log.length),(34,I i)],[]⟩
theorem rep_len {x:zaL} (h:RepW x):(x.Published.flatMap pubS).length+(x.Log.flatMap logS).length≤1000000000000:=by have:=h.size; unfold repS at this; simp only [List.length_append] at this; omega
theorem rp_pubs {x:zaL} (hx:RepW x) {g:Nat} (h:NowP w0 S0 κ0 K zau.fn.ntmps (Bd w0 κ0 K g []) (stB x g) a w) {Q:Exit→Act→World→Prop}
  (hQ:∀ a' w',NowP w0 S0 κ0 K zau.fn.ntmps (Bd w0 κ0 K g (x.Published.flatMap pubS)) (stB x g) a' w'→Q .normal a' w'):(Code.seq (.region 3 (rpO 3) (rpD 3)) (.block 0 (.loop (.seq (.region 4 (rpO 4) (rpD 4)) (.seq (.cond (.tmp 15) .skip (.exit 0)) (.seq (.block 1 (.seq (.region 5 (rpO 5) (rpD 5)) (.seq (.region 6 (rpO 6) false) (.region 7 (rpO 7) false)))) (.region 8 (rpO 8) (rpD 8)))))))).wp zau.P Q a w:=by
 have hfew:=hx.few.1; have hsz:=rep_len hx; refine wp_seq (rpStep Bd.stable rp_r3 (rp3 x g) h (fun a1 w1 h1=>?_)); rw [List.length_map] at h1; refine wp_block (wp_loop (fun a w=>∃ k:Nat,k≤x.Published.length∧NowP w0 S0 κ0 K zau.fn.ntmps (Bd w0 κ0 K g ((x.Published.take k).flatMap pubS)) (stP x g k) a w) (fun a _=>x.Published.length - cnt a 14) ⟨0,Nat.zero_le _,by simpa using h1⟩ ?_)
 rintro a w ⟨k,hk,hn⟩
 have hc0:cnt a 14=k:=by rw [hn.cnt (n:=(k:Int)) rfl]; simp
 refine wp_seq (rpStep Bd.stable rp_r4 (rp4 x g x.Published x.Published.length k) hn (fun a8 w8 h8=>?_)); refine wp_seq (wp_cond (h8.bool (b:=decide ((k:Int) < x.Published.length)) rfl) ?_); by_cases hlt:k < x.Published.length
 rotate_left
 · rw [decide_eq_false (by omega),iNs]; have hkl:k=x.Published.length:=by omega
   rw [hkl,List.take_length] at h8; exact wp_exit (hQ _ _ (h8.trim Bd.stable [1,3,4] [] (by kernel_rfl)))
 rw [decide_eq_true (by omega),if_pos rfl]; refine wp_skip ?_; have h9:=h8.trim Bd.stable [1,3,4,12,13,14] [] (st':=stP x g k) (by kernel_rfl); have t5:=rp5 x g x.Published x.Published.length k; rw [cPQ,ziX,show ((k:Nat):Int).toNat=k from rfl,List.getElem?_eq_getElem hlt,Option.bind_some] at t5; refine wp_seq (wp_block (wp_seq (rpStep Bd.stable rp_r5 t5 h9 (fun aA wA hA=>?_)))); have hp:=hx.pub _ (List.getElem_mem hlt); have hpo:=hx.few.2.2.2 _ (List.getElem_mem hlt); have htk:=zsl pubS x.Published k; have hsucc:=zrM pubS hlt; generalize x.Published[k]=p at hA hp hpo hsucc
 have hns:∀ n∈[p.At,p.Time],W64 n:=fun n hn=>by
  simp only [List.mem_cons,List.mem_nil_iff,or_false] at hn; rcases hn with rfl | rfl
  · exact hp.1
  · exact hp.2.1
 have hjl:=zbQ [p.At,p.Time] [112,117,98,108,105,115,104,101,100] hns; simp only [List.length_cons,List.length_nil] at hjl; have t6:=rp6 x g x.Published x.Published.length k p; rw [show (({ data:={ toList:=[112,117,98,108,105,115,104,101,100] } }:ByteArray))=tx [112,117,98,108,105,115,104,101,100] from rfl,zkm (by simp) (by simp) hns,zaw,zai (by rw [zap]; show _+1≤_; omega)] at t6; have z6:(rpO 6).size=8:=by kernel_rfl
 refine wp_seq (wp_region ?_); rw [z6,show List.range 8=List.range' 0 7++[7] from rfl]; refine segP Bd.stable rp_hb rp_n rp_r6 t6 (by rw [z6]; decide) hA (fun aE wE hE=>?_); rw [wpOps_cons]; refine ws_op (ts:=#[tyB,9]) (d:=25) (x:=3) (y:=.tmp 24) (s:=tx (zbo [112,117,98,108,105,115,104,101,100] [p.At,p.Time]++[10])) (by unfold opIs; kernel_rfl) (by decide) hE rfl (hE.val rfl) (by rw [zap]; simp only [List.length_append,List.length_cons,List.length_nil]; omega) (by rw [zap,List.length_append]; simp) (fun aF wF hF=>?_); rw [zcI] at hF; have hG:=hF.trim Bd.stable [1,3,4,6,12,13,14] [] (st':=⟨[(1,AV.fp (zaC x)),(3,AV.v (.pointer (some ⟨g,0,none⟩))),(4,fnV g),(6,AV.loc 6 3 0 0),(12,AV.sl 3 (List.map zaP x.Published)),(13,I x.Published.length),(14,I k)],[(6,⟨3,zca,[zaP p],true⟩)]⟩) (by kernel_rfl); show Code.wp _ _ _ aF wF; have z7:(rpO 7).size=4:=by kernel_rfl
 refine wp_region ?_; rw [z7,show List.range 4=List.range' 0 3++[3] from rfl]; refine segP Bd.stable rp_hb rp_n rp_r7 (rp7 x g x.Published x.Published.length k p) (by rw [z7]; decide) hG (fun aH wH hH=>?_); rw [wpOps_cons]; refine clo_op (ts:=#[40]) (d:=29) (f:=26) (y:=28) (by unfold opIs; kernel_rfl) (by decide) hH rfl rfl hp.2.2 hpo (by simp only [List.length_append,List.length_cons,List.length_nil]; omega) (fun aI wI hI=>?_); have hJ:=hI.trim Bd.stable [1,3,4,12,13,14] [6] (st':=stP x g k) (by kernel_rfl); show Exit.inBlock 1 _ .normal aI wI; refine rpStep Bd.stable rp_r8 (rp8 x g x.Published x.Published.length k) hJ (fun aL wL hL=>?_); rw [w6Q,List.append_assoc] at hL; refine ⟨⟨k+1,hlt,?_⟩,?_⟩
 · rw [hsucc]
   exact_mod_cast hL
 have:cnt aL 14=k+1:=by rw [hL.cnt (n:=(k:Int)+1) rfl]; omega
 show x.Published.length - cnt aL 14 < x.Published.length - cnt a 14; omega
theorem rp_logs {x:zaL} (hx:RepW x) {g:Nat} {t:List UInt8} (ht:t=x.Published.flatMap pubS) (h:NowP w0 S0 κ0 K zau.fn.ntmps (Bd w0 κ0 K g t) (stB x g) a w) {Q:Exit→Act→World→Prop}
  (hQ:∀ a' w',NowP w0 S0 κ0 K zau.fn.ntmps (Bd w0 κ0 K g (t++x.Log.flatMap logS)) (stB x g) a' w'→Q .normal a' w'):(Code.seq (.region 9 (rpO 9) (rpD 9)) (.block 2 (.loop (.seq (.region 10 (rpO 10) (rpD 10)) (.seq (.cond (.tmp 35) .skip (.exit 2)) (.seq (.block 3 (.seq (.region 11 (rpO 11) (rpD 11)) (.seq (.region 12 (rpO 12) (rpD 12)) (.seq (.region 13 (rpO 13) (rpD 13)) (.cond (.tmp 42) (.region 14 (rpO 14) false) (.region 15 (rpO 15) false)))))) (.region 16 (rpO 16) (rpD 16)))))))).wp zau.P Q a w:=by
 have hfew:=hx.few.2.1; have hsz:=rep_len hx; rw [← ht] at hsz; refine wp_seq (rpStep Bd.stable rp_r9 (rp9 x g) h (fun a1 w1 h1=>?_)); rw [List.length_map] at h1; refine wp_block (wp_loop (fun a w=>∃ k:Nat,k≤x.Log.length∧NowP w0 S0 κ0 K zau.fn.ntmps (Bd w0 κ0 K g (t++(x.Log.take k).flatMap logS)) (stG x g k) a w) (fun a _=>x.Log.length - cnt a 34) ⟨0,Nat.zero_le _,by simpa using h1⟩ ?_)
 rintro a w ⟨k,hk,hn⟩
 have hc0:cnt a 34=k:=by rw [hn.cnt (n:=(k:Int)) rfl]; simp
 refine wp_seq (rpStep Bd.stable rp_r10 (rp10 x g x.Log x.Log.length k) hn (fun a8 w8 h8=>?_)); refine wp_seq (wp_cond (h8.bool (b:=decide ((k:Int) < x.Log.length)) rfl) ?_); by_cases hlt:k < x.Log.length
 rotate_left
 · rw [decide_eq_false (by omega),iNs]; have hkl:k=x.Log.length:=by omega
   rw [hkl,List.take_length] at h8; exact wp_exit (hQ _ _ (h8.trim Bd.stable [1,3,4] [] (by kernel_rfl)))
 rw [decide_eq_true (by omega),if_pos rfl]; refine wp_skip ?_; have h9:=h8.trim Bd.stable [1,3,4,32,33,34] [] (st':=stG x g k) (by kernel_rfl); have t11:=rp11 x g x.Log x.Log.length k; rw [cPQ,zhW,show ((k:Nat):Int).toNat=k from rfl,List.getElem?_eq_getElem hlt,Option.bind_some] at t11; refine wp_seq (wp_block (wp_seq (rpStep Bd.stable rp_r11 t11 h9 (fun aA wA hA=>?_)))); have he:=hx.log _ (List.getElem_mem hlt); have htk:=zsl logS x.Log k; have hsucc:=zrM logS hlt; generalize x.Log[k]=e at hA he hsucc
 have next:∀ a' w',NowP w0 S0 κ0 K zau.fn.ntmps (Bd w0 κ0 K g (t++(x.Log.take (k+1)).flatMap logS)) (stG x g k) a' w'→(Code.region 16 (rpO 16) (rpD 16)).wp zau.P (Exit.then (fun a' w'=>(∃ k:Nat,k≤x.Log.length∧NowP w0 S0 κ0 K zau.fn.ntmps (Bd w0 κ0 K g (t++(x.Log.take k).flatMap logS)) (stG x g k) a' w')∧x.Log.length - cnt a' 34 < x.Log.length - cnt a 34) (Exit.inBlock 2 Q)) a' w':=fun a' w' hJ=>by
  refine rpStep Bd.stable rp_r16 (rp16 x g x.Log x.Log.length k) hJ (fun aL wL hL=>?_); rw [w6Q] at hL; refine ⟨⟨k+1,hlt,by exact_mod_cast hL⟩,?_⟩; have:cnt aL 34=k+1:=by rw [hL.cnt (n:=(k:Int)+1) rfl]; omega
  omega
 refine wp_seq (rpStep Bd.stable rp_r12 (rp12 x g x.Log x.Log.length k e) hA (fun aB wB hB=>?_)); refine wp_seq (rpStep Bd.stable rp_r13 (rp13 x g x.Log x.Log.length k e e.Certificate) hB (fun aC wC hC=>?_)); refine wp_cond (hC.bool (b:=(e.Kind == 0)) rfl) ?_; have hD:=hC.trim Bd.stable [1,3,4,9,32,33,34] [] (st':=⟨[(1,AV.fp (zaC x)),(3,AV.v (.pointer (some ⟨g,0,none⟩))),(4,fnV g),(9,AV.loc 9 5 0 0),(32,AV.sl 6 (List.map za0 x.Log)),(33,I x.Log.length),(34,I k)],[(9,⟨5,zbS,[zbX e.Certificate],true⟩)]⟩) (by kernel_rfl); by_cases hk0:e.Kind=0
 · rw [show (e.Kind == 0)=true from beq_iff_eq.2 hk0,if_pos rfl]
   have hns:∀ n∈[e.Certificate.ID,e.Certificate.Candidate,e.Certificate.Grade,e.Certificate.Time,e.Certificate.Replaces],W64 n:=fun n hn=>by
    simp only [List.mem_cons,List.mem_nil_iff,or_false] at hn; rcases hn with rfl | rfl | rfl | rfl | rfl
    · exact he.1
    · exact he.2.1
    · exact he.2.2.1
    · exact he.2.2.2.1
    · exact he.2.2.2.2
   have hjl:=zbQ _ [105,115,115,117,101] hns; simp only [List.length_cons,List.length_nil] at hjl; have hlog:logS e=zbo [105,115,115,117,101] [e.Certificate.ID,e.Certificate.Candidate,e.Certificate.Grade,e.Certificate.Time,e.Certificate.Replaces]++[10]:=by unfold logS; rw [if_pos hk0]
   have t14:=rp14 x g x.Log x.Log.length k e.Certificate; rw [show (({ data:={ toList:=[105,115,115,117,101] } }:ByteArray))=tx [105,115,115,117,101] from rfl,zkm (by simp) (by simp) hns,zaw,zai (by rw [zap]; show _+1≤_; omega)] at t14; have z14:(rpO 14).size=14:=by kernel_rfl
   refine wp_region ?_; rw [z14,show List.range 14=List.range' 0 13++[13] from rfl]; refine segP Bd.stable rp_hb rp_n rp_r14 t14 (by rw [z14]; decide) hD (fun aE wE hE=>?_); rw [wpOps_cons]; refine ws_op (ts:=#[tyB,9]) (d:=56) (x:=3) (y:=.tmp 55) (s:=tx (zbo [105,115,115,117,101] [e.Certificate.ID,e.Certificate.Candidate,e.Certificate.Grade,e.Certificate.Time,e.Certificate.Replaces]++[10])) (by unfold opIs; kernel_rfl) (by decide) hE rfl (hE.val rfl) (by rw [zap]; simp only [List.length_append,List.length_cons,List.length_nil]; omega) (by rw [zap,List.length_append]; simp) (fun aF wF hF=>?_); rw [zcI,← hlog,List.append_assoc,← hsucc] at hF; exact next aF wF (hF.trim Bd.stable [1,3,4,32,33,34] [9] (by kernel_rfl))
 · rw [show (e.Kind == 0)=false from beq_eq_false_iff_ne.2 hk0,iNs]
   have hns:∀ n∈[e.Certificate.ID,e.Certificate.Time],W64 n:=fun n hn=>by
    simp only [List.mem_cons,List.mem_nil_iff,or_false] at hn; rcases hn with rfl | rfl
    · exact he.1
    · exact he.2.2.2.1
   have hjl:=zbQ _ [114,101,118,111,107,101] hns; simp only [List.length_cons,List.length_nil] at hjl; have hlog:logS e=zbo [114,101,118,111,107,101] [e.Certificate.ID,e.Certificate.Time]++[10]:=by unfold logS; rw [if_neg hk0]
   have t15:=rp15 x g x.Log x.Log.length k e.Certificate; rw [show (({ data:={ toList:=[114,101,118,111,107,101] } }:ByteArray))=tx [114,101,118,111,107,101] from rfl,zkm (by simp) (by simp) hns,zaw,zai (by rw [zap]; show _+1≤_; omega)] at t15; have z15:(rpO 15).size=8:=by kernel_rfl
   refine wp_region ?_; rw [z15,show List.range 8=List.range' 0 7++[7] from rfl]; refine segP Bd.stable rp_hb rp_n rp_r15 t15 (by rw [z15]; decide) hD (fun aE wE hE=>?_); rw [wpOps_cons]; refine ws_op (ts:=#[tyB,9]) (d:=64) (x:=3) (y:=.tmp 63) (s:=tx (zbo [114,101,118,111,107,101] [e.Certificate.ID,e.Certificate.Time]++[10])) (by unfold opIs; kernel_rfl) (by decide) hE rfl (hE.val rfl) (by rw [zap]; simp only [List.length_append,List.length_cons,List.length_nil]; omega) (by rw [zap,List.length_append]; simp) (fun aF wF hF=>?_); rw [zcI,← hlog,List.append_assoc,← hsucc] at hF; exact next aF wF (hF.trim Bd.stable [1,3,4,32,33,34] [9] (by kernel_rfl))
abbrev stT (t:List UInt8):St:=⟨[(2,AV.v (.string (tx t)))],[]⟩
theorem rp_body {x:zaL} (hx:RepW x) (h:NowP w0 S0 κ0 K zau.fn.ntmps X0 ⟨[(0,AV.agg (zaC x))],[]⟩ a w):rpC.wp zau.P (PostC w0 S0 κ0 K zau.fn.ntmps .ret (stT (repS x))) a w:=by
 have hsz:=rep_len hx; rw [rp_shape]; refine wp_seq (rpStep Stable.none rp_r0 (rp0 x) h (fun a1 w1 h1=>?_)); have h2:=h1.freeze Stable.none rp_n [1] rfl (st':=⟨[(1,AV.fp (zaC x))],[]⟩) (by kernel_rfl); have z1:(rpO 1).size=1:=by kernel_rfl
 refine wp_seq (wp_region ?_); rw [z1,show List.range 1=[0] from rfl,wpOps_cons]; refine new_op (d:=3) (by unfold opIs; kernel_rfl) (by decide) h2 (fun g a3 w3 h3=>?_); show Code.wp _ _ _ a3 w3; have h4:=h3.trim Bd.stable [1,3] [] (st':=⟨[(1,AV.fp (zaC x)),(3,AV.v (.pointer (some ⟨g,0,none⟩)))],[]⟩) (by kernel_rfl); refine wp_seq (rpStep Bd.stable rp_r2 (rp2 x g) h4 (fun a5 w5 h5=>?_))
 have h6:NowP w0 S0 κ0 K zau.fn.ntmps (Bd w0 κ0 K g []) (stB x g) a5 w5:=by
  obtain ⟨S,κ,hg,hb⟩:=h5; obtain ⟨vs,e1,e2,e3⟩:=(hg.slots 4).fn_inv
  have ev:vs=#[.pointer (some ⟨g,0,none⟩)]:=by
   rcases vs with ⟨l⟩
   match l,e2 with
   | [u],_=>have:=(e3 0 _ u rfl rfl).v_inv; rw [this]
  subst ev; have q:=GoodS.set hg 4 (fnV g) (by rw [show a5.tmps.getD 4 undef=_ from e1]; exact .c (.v _)); exact NowP.trim Bd.stable ⟨S,κ,q,hb⟩ [1,3,4] [] (by kernel_rfl)
 refine wp_seq (rp_pubs hx h6 (fun a7 w7 h7=>?_)); refine wp_seq (rp_logs hx rfl h7 (fun a8 w8 h8=>?_)); have z17:(rpO 17).size=1:=by kernel_rfl
 refine wp_seq (wp_region ?_); rw [z17,show List.range 1=[0] from rfl,wpOps_cons]; refine ws_op (ts:=#[tyB,9]) (d:=66) (x:=3) (y:=.const (.string ⟨⟨[110,111,119,10]⟩⟩)) (s:=tx [110,111,119,10]) (by unfold opIs; kernel_rfl) (by decide) h8 rfl rfl (by rw [zap]; simp only [List.length_append,List.length_cons,List.length_nil]; omega) (by rw [zap]; simp) (fun a9 w9 h9=>?_); rw [zcI] at h9; show Code.wp _ _ _ a9 w9; have hA:=h9.trim Bd.stable [1,3,4] [] (st':=stB x g) (by kernel_rfl); have z18:(rpO 18).size=4:=by kernel_rfl
 refine wp_seq (wp_region ?_); rw [z18,show List.range 4=List.range' 0 3++[3] from rfl]; refine segP Bd.stable rp_hb rp_n rp_r18 (rp18 x g) (by rw [z18]; decide) hA (fun aH wH hH=>?_); rw [wpOps_cons]; have hfew:=hx.few.2.2.1; refine clo_op (ts:=#[40]) (d:=70) (f:=67) (y:=69) (by unfold opIs; kernel_rfl) (by decide) hH rfl rfl hx.out hfew (by simp only [List.length_append,List.length_cons,List.length_nil]; omega) (fun aI wI hI=>?_); show Code.wp _ _ _ aI wI; have z19:(rpO 19).size=2:=by kernel_rfl
 refine wp_seq (wp_region ?_); rw [z19,show List.range 2=0 :: (List.range' 1 1++[]) from rfl,wpOps_cons]; refine str_op (ts:=#[tyB]) (d:=71) (x:=3) (by unfold opIs; kernel_rfl) (by decide) hI rfl (fun aJ wJ hJ=>?_); have hL:=hJ.trim Stable.none [71] [] (st':=⟨[(71,AV.v (.string (tx (repS x))))],[]⟩) (by unfold repS; kernel_rfl); refine segP Stable.none rp_hb rp_n rp_r19 (rp19 (tx (repS x))) (by rw [z19]; decide) hL (fun aM wM hM=>?_); obtain ⟨S,κ,hg,_⟩:=hM.trim Stable.none [2] [] (st':=stT (repS x)) (by kernel_rfl); exact wp_ret ⟨rfl,S,κ,hg⟩
theorem rep_ok:CallOK zP (single zc8 zOrc):=by
 refine ora (o:=oRep) (fun args=>by unfold zOrc; simp (decide:=true) only [if_false,if_true]) rp_enters (fun args r ms' hr=>?_); unfold oRep at hr; split at hr
 case h_2=>cases hr
 rename_i cs; split at hr
 case h_2=>cases hr
 rename_i x hd; split at hr
 case isFalse=>cases hr
 rename_i ho; injection hr with hr; injection hr with h1 h2; subst h1 h2; have he:=ziu.ok cs x hd; subst he; refine ⟨rfl,fun w S κ vals hvl hS hk hv=>?_⟩; have hf:zau.P.funcs[zc8]?=some zau.fn:=by kernel_rfl
 refine ziU (args:=[AV.agg (zaC x)]) (ms:=[]) (frz:=false) (ex:=.ret) (st:=stT (repS x)) hf rp_hb (show 1≤zau.fn.ntmps by decide) hvl hS hk hv (fun b ent hb=>by simp [Ab.look] at hb) (fun b b' g c c' hd=>by simp [Dm,Ab.look] at hd) (fun id=>by simp) (fun a hg=>?_) ?_ ?_ ?_
 · obtain ⟨S,κ,hg⟩:=hg; exact rp_body ho ⟨S,κ,hg,trivial⟩
 · kernel_rfl
 · kernel_rfl
 · kernel_rfl
theorem c_Report {x:zaL} (hx:RepW x):cw zc8 [.agg (zaC x)] []=some (zaA (tx (repS x))):=by
 refine zgI rep_ok ?_; have hd:ziu.dec (zaC x)=some x:=ziu.de x
 have e:oRep [.agg (zaC x)]=(match ziu.dec (zaC x) with
  | some x=>@ite _ (RepW x) (Classical.propDecidable _) (some (.v (.string (tx (repS x))),[])) none
  | none=>none):=rfl
 show oRep [.agg (zaC x)]=_; rw [e,hd]; simp only; rw [if_pos hx]; rfl
end
end Go.Proofs.YtdclabgakicjeaaGreatDoor
namespace Go.Proofs.YtdclabgakicjeaaGreatDoor
open Go.Ab Go.Str
set_option maxRecDepth 100000
def opA:GOp:=⟨0,⟨7,3,0⟩,⟨0,0,0,0,0,[],[]⟩,⟨⟨0,0,0⟩,0,0,0,0,0,[]⟩,⟨0,0⟩,⟨⟨0,0,0⟩,0,0,0⟩,[],0,0⟩
def opB:GOp:=⟨5,⟨0,0,0⟩,⟨0,0,0,0,0,[],[]⟩,⟨⟨0,0,0⟩,0,0,0,0,0,[]⟩,⟨0,0⟩,⟨⟨0,0,0⟩,0,0,0⟩,[70,60,50],5,0⟩
def opC:GOp:=⟨6,⟨0,0,0⟩,⟨0,0,0,0,0,[],[]⟩,⟨⟨0,0,0⟩,0,0,0,0,0,[]⟩,⟨0,0⟩,⟨⟨0,0,0⟩,0,0,0⟩,[],4,0⟩
def opD:GOp:=⟨7,⟨0,0,0⟩,⟨0,0,0,0,0,[],[]⟩,⟨⟨0,0,0⟩,0,0,0,0,0,[]⟩,⟨0,0⟩,⟨⟨0,0,0⟩,0,0,0⟩,[],5,0⟩
theorem s_A:parR [101,110,116,114,121,32,55,32,51,32,48]=(opA,0):=by kernel_rfl
theorem s_B:parR [98,111,117,110,100,115,32,53,32,55,48,44,54,48,44,53,48]=(opB,0):=by kernel_rfl
theorem s_E:parR [101,110,116,114,121,32,55,32,51]=(zOp,7):=by kernel_rfl
theorem s_R:readS [112,117,98,108,105,115,104,32,52,10,99,101,114,116,105,102,121,32,53,10]=([opC,opD],0,0):=by kernel_rfl
theorem itoa1 {n:Nat} (h:n < 10):Lib.itoa (n:Int)=[UInt8.ofNat (48+n)]:=by unfold Lib.itoa; rw [iNQ,Lib.decDigits,Int.toNat_natCast,dif_pos h]
theorem s_F:fmtR opA=([101,110,116,114,121,32,55,32,51,32,48],0):=by
 have h:OkO opA:=zkz ⟨by decide,by decide⟩ ⟨by decide,by decide⟩ ⟨by decide,by decide⟩
 have e:fmtS opA=some (lineS 0 opA):=by
  have hf:zbT opA=0:=znI (by decide) rfl; unfold fmtS
  rw [hf,if_pos ⟨by decide,fun p hp=>by
   simp only [slotsC,List.mem_cons,List.not_mem_nil,or_false] at hp
   rcases hp with rfl | rfl | rfl <;> exact okN ⟨by decide,by decide⟩,rfl⟩]
 unfold fmtR; rw [e]; have l:lineS 0 opA=Lib.join [kw 0,Lib.itoa (7:Nat),Lib.itoa (3:Nat),Lib.itoa (0:Nat)] [32]:=rfl; rw [l,itoa1 (by decide),itoa1 (by decide),itoa1 (by decide)]; rfl
theorem s_O:outS ⟨3,0,1,6,0⟩=[51,32,103,114,97,100,101,32,49,32,54]:=by have l:outS ⟨3,0,1,6,0⟩=(Lib.itoa (3:Nat)++[32,103,114,97,100,101])++32 :: Lib.itoa (1:Nat)++32 :: Lib.itoa (6:Nat):=rfl; rw [l,itoa1 (by decide),itoa1 (by decide),itoa1 (by decide)]; rfl
theorem c_sane:cw zb6 [] []=some (zaR true):=by
 refine zs3 ?_; have hA:OpW opA:=(zkz (a:=7) (b:=3) (c:=0) ⟨by decide,by decide⟩ ⟨by decide,by decide⟩ ⟨by decide,by decide⟩).2; have w:∀ {n:Int},(-1000≤n∧n≤1000)→W64 n:=fun h=>by unfold W64; omega
 rw [show (zhU:ByteArray)=tx [101,110,116,114,121,32,55,32,51,32,48] from rfl,show (zkU:ByteArray)=tx [98,111,117,110,100,115,32,53,32,55,48,44,54,48,44,53,48] from rfl,show (zkV:ByteArray)=tx [101,110,116,114,121,32,55,32,51] from rfl,show (zkW:ByteArray)=tx [112,117,98,108,105,115,104,32,52,10,99,101,114,116,105,102,121,32,53,10] from rfl,show (zkX:ByteArray)=tx [51,32,103,114,97,100,101,32,49,32,54] from rfl,zlD (by decide),zbL,zlD (by decide),zbL,s_A,s_B]; simp only; rw [zpR hA,zbs,zlD (by decide),zbL,s_E,s_F,c_Read (by decide),zf8,s_R,znq ⟨w (by decide),w (by decide),w (by decide),w (by decide)⟩,zaw,s_O]; rfl
theorem c_pieces:∃ l:List ByteArray,cw zix [] []=some (ziF l)∧l.length=20∧∀ x∈l,x.size≤30:=by refine ⟨_,zrx rfl,rfl,?_⟩; decide
theorem zrW:∀ (l:List GOp) (t:List UInt8),(∀ o∈l,OpW o)→linesS l=some t→t.length≤200001*l.length
 | [],t,_,h=>by rw [show linesS []=some [] from rfl] at h; injection h with h; subst h; simp
 | o :: r,t,hw,h=>by
   rw [zo7] at h; split at h
   · rename_i a b ha hb; injection h with h; subst h; have h1:=fmt_len2 (hw o (by simp)) ha; have h2:=zrW r b (fun x hx=>hw x (by simp [hx])) hb; simp only [List.length_append,List.length_cons]; omega
   · cases h
theorem scr_len {l:List GOp} (hl:∀ o∈l,OpW o) (hn:l.length≤1000):(scrR l).1.length≤300000000:=by
 unfold scrR; split
 · simp
 · split
   · rename_i t ht; have:=zrW l t hl ht; simp only; omega
   · simp
set_option maxRecDepth 100000
def OpN (o:GOp):Prop:=(∀ k,W64 (getN k o))∧∀ k,∀ n∈getL k o,W64 n
def Yes (o:Option (AV×Mem)):Prop:=o=some (zaR true)
theorem yes_of {a b:Option (AV×Mem)} (h:∀ y,a=some y→b=some y) (ha:Yes a):Yes b:=h _ ha
theorem elemD_at {β:Type} (D:TyD) {es:List (List AV)} {i:Nat} {x:D.α} (h:es[i]?=some (D.enc x)) (k:D.α→Option β):elemD D es i k=k x:=by unfold elemD; rw [h]; simp only; rw [D.de]
theorem ev_w {q:GOp} (h:OpW q) (v:Int):OpW { q with Event:={ q.Event with Kind:=v } }:=by
 refine ⟨fun j=>?_,fun j=>?_⟩
 · rw [show getN j { q with Event:={ q.Event with Kind:=v } }=getN j q by unfold getN; split <;> rfl]; exact h.num j
 · rw [show getL j { q with Event:={ q.Event with Kind:=v } }=getL j q by unfold getL; split <;> rfl]; exact h.list j
section
variable {o:zaG} {x:zaL} (ho:OutW o) (hx:RepW x)
include ho hx
theorem x_three (text line y:List UInt8) (yi:Int) (ht:text.length≤500000000) (hl:line.length≤1000) (hy:y.length≤300000000):∀ (m i:Nat),i+m=5→Yes (zdg (tx text) o x (tx y,yi) (tx line) (i:Nat)):=by
 intro m
 induction m with
 | zero=>intro i hi; refine yes_of (fun y=>zha _ _ _ _ _ _) ?_; rw [zaz (by omega),znq ho,zaw,zma ho,zaw,tx_beq,decide_eq_true rfl,zas,c_Report hx,zaw,c_rReport hx,zaw,tx_beq,decide_eq_true rfl,zas,c_sane,zaO]; rfl
 | succ m ih =>
   intro i hi; refine yes_of (fun y=>zha _ _ _ _ _ _) ?_
   obtain ⟨s,hs,he⟩:∃ s:List UInt8,s.length≤800000000∧([nStr (tx text),nStr (tx line),nStr (tx y),nStr (tx y++tx line),nStr (tx y++tx line++tx [10])]:List (List AV))[i]?=some (nStr (tx s)):=by
    rcases (by omega:i=0∨i=1∨i=2∨i=3∨i=4) with rfl | rfl | rfl | rfl | rfl
    · exact ⟨text,by omega,rfl⟩
    · exact ⟨line,by omega,rfl⟩
    · exact ⟨y,by omega,rfl⟩
    · exact ⟨y++line,by simp; omega,by rw [zaY]; rfl⟩
    · exact ⟨y++line++[10],by simp; omega,by rw [zaY,zaY]; rfl⟩
   rw [zax (by omega),cPQ,cPQ]
   have e1:∀ {β:Type} (k:ByteArray→Option β),elemD dStr ([nStr (tx text),nStr (tx line),nStr (tx y,yi).fst,nStr ((tx y,yi).fst++tx line),nStr ((tx y,yi).fst++tx line++tx [10])]) (Int.toNat (i:Nat)) k=k (tx s):=by intro β k; refine elemD_at dStr ?_ k; exact he
   refine Eq.trans (e1 _) ?_; rw [zlD (by omega),zbL,zpS (by omega),zbL,c_Read (by omega),zf8,c_rRead (by omega),zf8]; obtain ⟨s1,s2,s3,s4⟩:=parR_sm s; obtain ⟨r1,r2⟩:(∀ o∈(readS s).1,Sm3 o)∧(readS s).1.length≤300:=readP_sm (splitC 10 s) [] 1 (by simp); rw [c_rSame _ _ s1 s2 s3 s4,zaO,decide_eq_true rfl,Bool.not_true,zam,bne_self_eq_false,zam,c_ops _ _ (fun q hq=>(r1 q hq).smo) (by omega),zaO,decide_eq_true rfl,Bool.not_true,zam,bne_self_eq_false,zam,bne_self_eq_false,zam,w6Q,show ((i:Nat):Int)+1=((i+1:Nat):Int) by omega]; exact ih (i+1) (by omega)
theorem x_two (text y:List UInt8) (yi:Int) (ht:text.length≤500000000) (hy:y.length≤300000000):∀ (m:Nat) (line:List UInt8) (d:zaa) (k:Int),k+1=m→line.length+40*m≤900→DOk d→Yes (zcu (tx text) o x (tx y,yi) d (tx line) k):=by
 intro m
 induction m with
 | zero=>intro line d k hk hl hd; refine yes_of (fun y=>zg9 _ _ _ _ _ _ _) ?_; rw [zaz (by omega),zai (by simp only [zap]; omega),zai (by simp only [zap]; omega),show (zcY:ByteArray)=tx [10] from rfl,zai (by show (tx y++tx line).size+_≤_; rw [zaY,zap,zap]; simp; omega)]; exact x_three ho hx text line y yi ht (by omega) hy 5 0 (by omega)
 | succ m ih =>
   intro line d k hk hl hd; refine yes_of (fun y=>zg9 _ _ _ _ _ _ _) ?_; obtain ⟨p,ep,hp,hps⟩:=c_pieces; obtain ⟨n0,d0,e0,a0,b0,hd0⟩:=zaT d p.length hd (by omega); have hlt:n0.toNat < p.length:=by omega
   have hsz:=hps _ (List.getElem_mem hlt); obtain ⟨c,hc⟩:=tx_ex p[n0.toNat]; rw [hc,zap] at hsz; rw [zax (by omega),ep,znt,List.length_map,e0,zak,zai a0]; simp only; rw [zdJ,List.getElem?_eq_getElem hlt,Option.bind_some,hc,zap,zap,cPQ,zaY]; by_cases h0:0 < k
   · rw [zax h0,show (zd9:ByteArray)=tx [32] from rfl,zap,zap,zai (by simp; omega),zaY,w6Q]; exact ih (line++c++[32]) d0 (k - 1) (by omega) (by simp; omega) hd0
   · rw [zaz h0,w6Q]; exact ih (line++c) d0 (k - 1) (by omega) (by simp; omega) hd0
theorem x_one (text:List UInt8) (l:List GOp) (hl:∀ q∈l,OpW q) (h0:0 < l.length) (hn:l.length≤200) (ht:text.length≤500000000) (d:zaa) (hd:DOk d):∀ (m i:Nat),i+m=l.length→Yes (zct (tx text) o x (List.map nGOp l) d (l.length:Nat) (i:Nat)):=by
 intro m
 induction m with
 | zero =>
   intro i hi; refine yes_of (fun y=>zg8 _ _ _ _ _ _ _) ?_; obtain ⟨n0,d0,e0,a0,b0,hd0⟩:=zaT d 7 hd (by omega); have hl1:∀ q∈l.take (l.length - 1),OpW q:=fun q hq=>hl q (List.mem_of_mem_take hq)
   have hlen:=scr_len hl1 (by rw [List.length_take]; omega); have e1:w64 ((l.length:Int) - 1)=((l.length - 1:Nat):Int):=by rw [w6Q]; omega
   rw [zaz (by omega),List.take_length,List.length_map,e1,Int.toNat_natCast,Nat.sub_zero,← List.map_take,cPQ,c_Script hl,zbs,cPQ,zrL hl,zbs,cPQ,cPQ,cPQ,cPQ,c_Script hl1,zbs,cPQ,cPQ,cPQ,cPQ,zrL hl1,zbs]; simp only; rw [tx_beq,decide_eq_true rfl,Bool.not_true,zam,bne_self_eq_false,zam,tx_beq,decide_eq_true rfl,Bool.not_true,zam,bne_self_eq_false,zam,e0,zak]; exact x_two ho hx text _ _ ht hlen (n0.toNat+1) [] d0 n0 (by omega) (by simp; omega) hd0
 | succ m ih =>
   intro i hi; have hlt:i < l.length:=by omega
   have hw:=hl _ (List.getElem_mem hlt); refine yes_of (fun y=>zg8 _ _ _ _ _ _ _) ?_; rw [zax (by omega),List.length_map,cPQ,cPQ,zgc,Nat.zero_add,Int.toNat_natCast,List.getElem?_eq_getElem hlt,Option.bind_some,zpR hw,zbs,cPQ,cPQ,zgc,List.getElem?_eq_getElem hlt,Option.bind_some,zrK hw,zbs]; simp only; rw [tx_beq,decide_eq_true rfl,Bool.not_true,zam,bne_self_eq_false,zam,w6Q,show ((i:Nat):Int)+1=((i+1:Nat):Int) by omega]; exact ih (i+1) (by omega)
theorem x_raw (text:List UInt8) (l:List GOp) (raw:GOp) (r10:List GOp×zaa) (hr:r10.1.length=l.length) (hl:∀ q∈l,OpW q) (hraw:OpW raw) (hn:l.length≤100) (ht:text.length≤500000000) (d:zaa) (hd:DOk d):Yes (zbv raw (tx text) o x r10 (List.map nGOp l) d):=by
 refine yes_of (fun y=>zjV _ _ _ _ _ _ _) ?_; simp (disch:=omega) only [zai,zaU,List.length_map,List.length_append,List.length_cons,List.length_nil,zbz nGOp]
 have:=x_one ho hx text (l++[raw]) (fun q hq=>by
  rcases List.mem_append.1 hq with hq | hq
  · exact hl q hq
  · rw [List.mem_singleton.1 hq]; exact hraw) (by simp) (by simp; omega) ht d hd (l++[raw]).length 0 (by omega)
 simp only [List.length_append,List.length_cons,List.length_nil] at this; exact this
theorem x_raw1 (text:List UInt8) (l:List GOp) (raw:GOp) (d':zaa) (hl:∀ q∈l,OpW q) (hraw:OpW raw) (hn:l.length≤100) (ht:text.length≤500000000) (d:zaa) (hd:DOk d):Yes (zcj raw (tx text) o x (l,d') d):=by
 refine yes_of (fun y=>zi6 _ _ _ _ _ _) ?_; simp (disch:=omega) only [zai,zaU,List.length_map,List.length_append,List.length_cons,List.length_nil,zbz nGOp]
 have:=x_one ho hx text (l++[raw]) (fun q hq=>by
  rcases List.mem_append.1 hq with hq | hq
  · exact hl q hq
  · rw [List.mem_singleton.1 hq]; exact hraw) (by simp) (by simp; omega) ht d hd (l++[raw]).length 0 (by omega)
 simp only [List.length_append,List.length_cons,List.length_nil] at this; exact this
theorem law_Exact (t:List Int) (raw:GOp) (text:List UInt8) (hraw:OpN raw):cw zhY [.sl 1 (List.map zad t),.agg (nGOp raw),.v (.string (tx text)),.agg (zaF o),.agg (zaC x)] []=some (zaR true):=by
 have sane:Yes (callD zaq (cw zb6 [] []) fun r=>some (B r,[])):=by rw [c_sane,zaO]; rfl
 refine yes_of (fun y=>zmh t raw (tx text) o x) ?_; rw [c_Light,zaO]; by_cases h0:(t.length:Int)≤600
 rotate_left
 · rw [decide_eq_false h0,Bool.not_false,zas]; exact sane
 rw [decide_eq_true h0,Bool.not_true,zam]; by_cases h1:400 < ((tx text).size:Int)
 · rw [zax h1]; exact sane
 rw [zaz h1]; simp only [List.length_map]; by_cases h2:20 < (raw.Script.Pages.length:Int)
 · rw [zax h2]; exact sane
 rw [zaz h2]; by_cases h3:20 < (raw.Script.Answers.length:Int)
 · rw [zax h3]; exact sane
 rw [zaz h3]; by_cases h4:20 < (raw.Event.Pages.length:Int)
 · rw [zax h4]; exact sane
 rw [zaz h4]; by_cases h5:20 < (raw.Bounds.length:Int)
 · rw [zax h5]; exact sane
 rw [zaz h5]; generalize w64 (w64 ((x.Published.length:Int)+(x.Log.length:Int))+(x.Outcomes.length:Int))=z; by_cases h6:40 < z
 · rw [zax h6]; exact sane
 rw [zaz h6,c_Roll,zqB]
 have hraww:OpW raw:=by refine ⟨hraw.1,fun k=>⟨?_,hraw.2 k⟩⟩; unfold getL; split <;> omega
 have hd:DOk ⟨t,0⟩:=⟨Int.le_refl 0,by show t.length≤600; omega⟩
 obtain ⟨r,d0,e0,hr,hd0⟩:=c_Rules ⟨t,0⟩ hd; obtain ⟨l,d1,e1,ho1,hl1,hd1⟩:=c_Ops d0 r 8 hd0 hr (by decide); have hlw:∀ q∈l,OpW q:=fun q hq=>(ho1 q hq).2
 have htx2:text.length≤500000000:=by rw [zap] at h1; omega
 rw [e0,zlF]; simp only; rw [show (8:Int)=((8:Nat):Int) from rfl,e1,zmU,zaU]; simp only [List.length_map]; by_cases hpos:0 < (l.length:Int)
 rotate_left
 · rw [zaz hpos]; exact x_raw1 ho hx text l raw d1 hlw hraww hl1 htx2 d1 hd1
 rw [zax hpos]; obtain ⟨b,d2,e2,hd2⟩:=zfC d1 2 hd1 (by omega); rw [e2,zaQ]
 cases b with
 | false=>rw [zam]; exact x_raw1 ho hx text l raw d1 hlw hraww hl1 htx2 d2 hd2
 | true =>
   obtain ⟨n3,d3,e3,a3,b3,hd3⟩:=zaT d2 l.length hd2 (by omega); obtain ⟨n4,d4,e4,a4,b4,hd4⟩:=zaT d3 4 hd3 (by omega); have hlt:n3.toNat < l.length:=by omega
   have hq:=hlw _ (List.getElem_mem hlt)
   have set:∀ (q:GOp) (d:zaa),OpW q→DOk d→Yes (zbv raw (tx text) o x (l,d1) (List.set (List.map nGOp l) n3.toNat (nGOp q)) d):=fun q d hq hd=>by
    rw [map_set']; refine x_raw ho hx text (l.set n3.toNat q) raw (l,d1) (by rw [List.length_set]) (fun y hy=>?_) hraww (by rw [List.length_set]; omega) htx2 d hd; rcases List.mem_or_eq_of_mem_set hy with hy | hy
    · exact hlw y hy
    · rw [hy]; exact hq
   have wN:∀ n:Int,W64 (w64 n):=fun n=>by unfold W64; simp only [w64,IntKind.wrap,IntKind.bits,IntKind.signed,show ((2:Int) ^ 64)=18446744073709551616 from rfl,show ((2:Int) ^ (64 - 1))=9223372036854775808 from rfl,Bool.true_and,decide_eq_true_eq]; split <;> omega
   rw [zas]; simp only; rw [e3,zak,zai a3,cPQ]; simp only; rw [e4,zak]; simp only [Nat.zero_add,zgc,List.getElem?_eq_getElem hlt,Option.bind_some]
   have put:∀ (k:Nat) (v:Int),W64 v→OpW (putN v k l[n3.toNat]):=fun k v hv =>
    ⟨fun j=>by
     rcases zrS j k v l[n3.toNat] with e | e
     · rw [e]; exact hv
     · rw [e]; exact hq.num j,fun j=>by rw [zrR]; exact hq.list j⟩
   by_cases k0:n4=0
   · obtain ⟨n5,d5,e5,a5,b5,hd5⟩:=zaT d4 10 hd4 (by omega); rw [show (n4 == 0)=true from beq_iff_eq.2 k0,zas,e5,zak]; exact set _ d5 (put 0 _ (wN _)) hd5
   rw [show (n4 == 0)=false from beq_eq_false_iff_ne.2 k0,zam]; by_cases k1:n4=1
   · rw [show (n4 == 1)=true from beq_iff_eq.2 k1,zas]; exact set _ d4 (put 30 _ (wN _)) hd4
   rw [show (n4 == 1)=false from beq_eq_false_iff_ne.2 k1,zam]; by_cases k2:n4=2
   · obtain ⟨n5,d5,e5,a5,hd5⟩:=zg2 d4 [-1,1152921504606846976,-9223372036854775808,999999999999999999] hd4 (by simp) (by simp); rw [show (n4 == 2)=true from beq_iff_eq.2 k2,zas,e5,zak]; refine set _ d5 (put 29 n5 ?_) hd5; simp only [List.mem_cons,List.not_mem_nil,or_false] at a5; unfold W64; omega
   rw [show (n4 == 2)=false from beq_eq_false_iff_ne.2 k2,zam]; obtain ⟨n5,d5,e5,a5,b5,hd5⟩:=zaT d4 5 hd4 (by omega); rw [e5,zak]; exact set _ d5 (ev_w hq _) hd5
end
set_option maxRecDepth 100000
abbrev Q3:Int→Prop:=W64
abbrev S3:Int→Nat:=fun _=>1
theorem rq3 (w:World):RdQ Tryz.prog w 3 1 zad Q3 S3:=rq_int (by kernel_rfl) Tryz.underlying3
def Q24 (x:ze2):Prop:=Q3 x.Candidate∧(Q3 x.Centre∧(Q3 x.Paper∧True))
def S24 (x:ze2):Nat:=S3 x.Candidate+(S3 x.Centre+(S3 x.Paper+0))
theorem rq24 (w:World):RdQ Tryz.prog w 24 3 nGEntry Q24 S24:=by have h:=zcW (w:=w) (t:=24) (by kernel_rfl) Tryz.underlying24 (zaK (rq3 w) rfl (zaK (rq3 w) rfl (zaK (rq3 w) rfl zed))); exact rq_map h (fun v=>(⟨v.1,v.2.1,v.2.2.1⟩:ze2)) (fun _=>rfl) (fun _=>rfl) (fun _ h=>h) (fun _=>Nat.le_refl _)
abbrev Q22:List Int→Prop:=fun l=>∀ v∈l,Q3 v
abbrev S22:List Int→Nat:=fun l=>(l.map S3).sum
theorem rq22 (w:World):RdQ Tryz.prog w 22 1 (fun l:List Int=>[AV.sl 1 (l.map zad)]) Q22 S22:=zkE (by kernel_rfl) Tryz.underlying22 (by decide) (rq3 w)
def Q26 (x:zav):Prop:=Q3 x.Number∧(Q3 x.Paper∧(Q3 x.Candidate∧(Q3 x.Centre∧(Q3 x.Variant∧(Q22 x.Pages∧(Q22 x.Answers∧True))))))
def S26 (x:zav):Nat:=S3 x.Number+(S3 x.Paper+(S3 x.Candidate+(S3 x.Centre+(S3 x.Variant+(S22 x.Pages+(S22 x.Answers+0))))))
theorem rq26 (w:World):RdQ Tryz.prog w 26 7 zat Q26 S26:=by have h:=zcW (w:=w) (t:=26) (by kernel_rfl) Tryz.underlying26 (zaK (rq3 w) rfl (zaK (rq3 w) rfl (zaK (rq3 w) rfl (zaK (rq3 w) rfl (zaK (rq3 w) rfl (zaK (rq22 w) rfl (zaK (rq22 w) rfl zed))))))); exact rq_map h (fun v=>(⟨v.1,v.2.1,v.2.2.1,v.2.2.2.1,v.2.2.2.2.1,v.2.2.2.2.2.1,v.2.2.2.2.2.2.1⟩:zav)) (fun _=>rfl) (fun _=>rfl) (fun _ h=>h) (fun _=>Nat.le_refl _)
def Q28 (x:zc1):Prop:=Q3 x.Time∧(Q3 x.Source∧(Q3 x.Seq∧True))
def S28 (x:zc1):Nat:=S3 x.Time+(S3 x.Source+(S3 x.Seq+0))
theorem rq28 (w:World):RdQ Tryz.prog w 28 3 nGStamp Q28 S28:=by have h:=zcW (w:=w) (t:=28) (by kernel_rfl) Tryz.underlying28 (zaK (rq3 w) rfl (zaK (rq3 w) rfl (zaK (rq3 w) rfl zed))); exact rq_map h (fun v=>(⟨v.1,v.2.1,v.2.2.1⟩:zc1)) (fun _=>rfl) (fun _=>rfl) (fun _ h=>h) (fun _=>Nat.le_refl _)
def Q30 (x:zaH):Prop:=Q28 x.Stamp∧(Q3 x.Kind∧(Q3 x.Script∧(Q3 x.Part∧(Q3 x.Value∧(Q3 x.Marker∧(Q22 x.Pages∧True))))))
def S30 (x:zaH):Nat:=S28 x.Stamp+(S3 x.Kind+(S3 x.Script+(S3 x.Part+(S3 x.Value+(S3 x.Marker+(S22 x.Pages+0))))))
theorem rq30 (w:World):RdQ Tryz.prog w 30 9 za3 Q30 S30:=by have h:=zcW (w:=w) (t:=30) (by kernel_rfl) Tryz.underlying30 (zaK (rq28 w) rfl (zaK (rq3 w) rfl (zaK (rq3 w) rfl (zaK (rq3 w) rfl (zaK (rq3 w) rfl (zaK (rq3 w) rfl (zaK (rq22 w) rfl zed))))))); exact rq_map h (fun v=>(⟨v.1,v.2.1,v.2.2.1,v.2.2.2.1,v.2.2.2.2.1,v.2.2.2.2.2.1,v.2.2.2.2.2.2.1⟩:zaH)) (fun _=>rfl) (fun _=>rfl) (fun _ h=>h) (fun _=>Nat.le_refl _)
def Q32 (x:zc5):Prop:=Q3 x.Candidate∧(Q3 x.Thousandths∧True)
def S32 (x:zc5):Nat:=S3 x.Candidate+(S3 x.Thousandths+0)
theorem rq32 (w:World):RdQ Tryz.prog w 32 2 znL Q32 S32:=by have h:=zcW (w:=w) (t:=32) (by kernel_rfl) Tryz.underlying32 (zaK (rq3 w) rfl (zaK (rq3 w) rfl zed)); exact rq_map h (fun v=>(⟨v.1,v.2.1⟩:zc5)) (fun _=>rfl) (fun _=>rfl) (fun _ h=>h) (fun _=>Nat.le_refl _)
def Q34 (x:zdM):Prop:=Q28 x.Stamp∧(Q3 x.Kind∧(Q3 x.Candidate∧(Q3 x.Marker∧True)))
def S34 (x:zdM):Nat:=S28 x.Stamp+(S3 x.Kind+(S3 x.Candidate+(S3 x.Marker+0)))
theorem rq34 (w:World):RdQ Tryz.prog w 34 6 ziB Q34 S34:=by have h:=zcW (w:=w) (t:=34) (by kernel_rfl) Tryz.underlying34 (zaK (rq28 w) rfl (zaK (rq3 w) rfl (zaK (rq3 w) rfl (zaK (rq3 w) rfl zed)))); exact rq_map h (fun v=>(⟨v.1,v.2.1,v.2.2.1,v.2.2.2.1⟩:zdM)) (fun _=>rfl) (fun _=>rfl) (fun _ h=>h) (fun _=>Nat.le_refl _)
def Q36 (x:GOp):Prop:=Q3 x.Kind∧(Q24 x.Entry∧(Q26 x.Script∧(Q30 x.Event∧(Q32 x.Special∧(Q34 x.Appeal∧(Q22 x.Bounds∧(Q3 x.Time∧(Q3 x.Number∧True))))))))
def S36 (x:GOp):Nat:=S3 x.Kind+(S24 x.Entry+(S26 x.Script+(S30 x.Event+(S32 x.Special+(S34 x.Appeal+(S22 x.Bounds+(S3 x.Time+(S3 x.Number+0))))))))
theorem rq36 (w:World):RdQ Tryz.prog w 36 31 nGOp Q36 S36:=by have h:=zcW (w:=w) (t:=36) (by kernel_rfl) Tryz.underlying36 (zaK (rq3 w) rfl (zaK (rq24 w) rfl (zaK (rq26 w) rfl (zaK (rq30 w) rfl (zaK (rq32 w) rfl (zaK (rq34 w) rfl (zaK (rq22 w) rfl (zaK (rq3 w) rfl (zaK (rq3 w) rfl zed))))))))); exact rq_map h (fun v=>(⟨v.1,v.2.1,v.2.2.1,v.2.2.2.1,v.2.2.2.2.1,v.2.2.2.2.2.1,v.2.2.2.2.2.2.1,v.2.2.2.2.2.2.2.1,v.2.2.2.2.2.2.2.2.1⟩:GOp)) (fun _=>rfl) (fun _=>rfl) (fun _ h=>h) (fun _=>Nat.le_refl _)
def Q38 (x:zaG):Prop:=Q3 x.Candidate∧(Q3 x.Kind∧(Q3 x.Grade∧(Q3 x.Total∧(Q3 x.Reason∧True))))
def S38 (x:zaG):Nat:=S3 x.Candidate+(S3 x.Kind+(S3 x.Grade+(S3 x.Total+(S3 x.Reason+0))))
theorem rq38 (w:World):RdQ Tryz.prog w 38 5 zaF Q38 S38:=by have h:=zcW (w:=w) (t:=38) (by kernel_rfl) Tryz.underlying38 (zaK (rq3 w) rfl (zaK (rq3 w) rfl (zaK (rq3 w) rfl (zaK (rq3 w) rfl (zaK (rq3 w) rfl zed))))); exact rq_map h (fun v=>(⟨v.1,v.2.1,v.2.2.1,v.2.2.2.1,v.2.2.2.2.1⟩:zaG)) (fun _=>rfl) (fun _=>rfl) (fun _ h=>h) (fun _=>Nat.le_refl _)
abbrev Q40:List zaG→Prop:=fun l=>∀ v∈l,Q38 v
abbrev S40:List zaG→Nat:=fun l=>(l.map S38).sum
theorem rq40 (w:World):RdQ Tryz.prog w 40 1 (fun l:List zaG=>[AV.sl 5 (l.map zaF)]) Q40 S40:=zkE (by kernel_rfl) Tryz.underlying40 (by decide) (rq38 w)
def Q159 (x:zaS):Prop:=Q3 x.At∧(Q3 x.Time∧(Q40 x.Outcomes∧True))
def S159 (x:zaS):Nat:=S3 x.At+(S3 x.Time+(S40 x.Outcomes+0))
theorem rq159 (w:World):RdQ Tryz.prog w 159 3 zaP Q159 S159:=by have h:=zcW (w:=w) (t:=159) (by kernel_rfl) Tryz.underlying159 (zaK (rq3 w) rfl (zaK (rq3 w) rfl (zaK (rq40 w) rfl zed))); exact rq_map h (fun v=>(⟨v.1,v.2.1,v.2.2.1⟩:zaS)) (fun _=>rfl) (fun _=>rfl) (fun _ h=>h) (fun _=>Nat.le_refl _)
abbrev Q39:List zaS→Prop:=fun l=>∀ v∈l,Q159 v
abbrev S39:List zaS→Nat:=fun l=>(l.map S159).sum
theorem rq39 (w:World):RdQ Tryz.prog w 39 1 (fun l:List zaS=>[AV.sl 3 (l.map zaP)]) Q39 S39:=zkE (by kernel_rfl) Tryz.underlying39 (by decide) (rq159 w)
def Q161 (x:zbI):Prop:=Q3 x.ID∧(Q3 x.Candidate∧(Q3 x.Grade∧(Q3 x.Time∧(Q3 x.Replaces∧True))))
def S161 (x:zbI):Nat:=S3 x.ID+(S3 x.Candidate+(S3 x.Grade+(S3 x.Time+(S3 x.Replaces+0))))
theorem rq161 (w:World):RdQ Tryz.prog w 161 5 zbX Q161 S161:=by have h:=zcW (w:=w) (t:=161) (by kernel_rfl) Tryz.underlying161 (zaK (rq3 w) rfl (zaK (rq3 w) rfl (zaK (rq3 w) rfl (zaK (rq3 w) rfl (zaK (rq3 w) rfl zed))))); exact rq_map h (fun v=>(⟨v.1,v.2.1,v.2.2.1,v.2.2.2.1,v.2.2.2.2.1⟩:zbI)) (fun _=>rfl) (fun _=>rfl) (fun _ h=>h) (fun _=>Nat.le_refl _)
def Q163 (x:za5):Prop:=Q3 x.Kind∧(Q161 x.Certificate∧True)
def S163 (x:za5):Nat:=S3 x.Kind+(S161 x.Certificate+0)
theorem rq163 (w:World):RdQ Tryz.prog w 163 6 za0 Q163 S163:=by have h:=zcW (w:=w) (t:=163) (by kernel_rfl) Tryz.underlying163 (zaK (rq3 w) rfl (zaK (rq161 w) rfl zed)); exact rq_map h (fun v=>(⟨v.1,v.2.1⟩:za5)) (fun _=>rfl) (fun _=>rfl) (fun _ h=>h) (fun _=>Nat.le_refl _)
abbrev Q41:List za5→Prop:=fun l=>∀ v∈l,Q163 v
abbrev S41:List za5→Nat:=fun l=>(l.map S163).sum
theorem rq41 (w:World):RdQ Tryz.prog w 41 1 (fun l:List za5=>[AV.sl 6 (l.map za0)]) Q41 S41:=zkE (by kernel_rfl) Tryz.underlying41 (by decide) (rq163 w)
abbrev Q42:List zaH→Prop:=fun l=>∀ v∈l,Q30 v
abbrev S42:List zaH→Nat:=fun l=>(l.map S30).sum
theorem rq42 (w:World):RdQ Tryz.prog w 42 1 (fun l:List zaH=>[AV.sl 9 (l.map za3)]) Q42 S42:=zkE (by kernel_rfl) Tryz.underlying42 (by decide) (rq30 w)
def Q44 (x:zaL):Prop:=Q39 x.Published∧(Q40 x.Outcomes∧(Q41 x.Log∧(Q42 x.Reopened∧True)))
def S44 (x:zaL):Nat:=S39 x.Published+(S40 x.Outcomes+(S41 x.Log+(S42 x.Reopened+0)))
theorem rq44 (w:World):RdQ Tryz.prog w 44 4 zaC Q44 S44:=by have h:=zcW (w:=w) (t:=44) (by kernel_rfl) Tryz.underlying44 (zaK (rq39 w) rfl (zaK (rq40 w) rfl (zaK (rq41 w) rfl (zaK (rq42 w) rfl zed)))); exact rq_map h (fun v=>(⟨v.1,v.2.1,v.2.2.1,v.2.2.2.1⟩:zaL)) (fun _=>rfl) (fun _=>rfl) (fun _ h=>h) (fun _=>Nat.le_refl _)
theorem rd3 (w:World):Rd Tryz.prog w 3 1 zad:=rd_int (by kernel_rfl) Tryz.underlying3
theorem rd22 (w:World):Rd Tryz.prog w 22 1 (fun l:List Int=>[AV.sl 1 (l.map zad)]):=rd_slice (by kernel_rfl) Tryz.underlying22 (by decide) (rd3 w)
theorem opN_of {o:GOp} (h:Q36 o):OpN o:=by
 obtain ⟨h1,⟨h2,h3,h4,_⟩,⟨h5,h6,h7,h8,h9,h10,h11,_⟩,⟨⟨h12,h13,h14,_⟩,h15,h16,h17,h18,h19,h20,_⟩,⟨h21,h22,_⟩,⟨⟨h23,h24,h25,_⟩,h26,h27,h28,_⟩,h29,h30,h31,_⟩:=h; refine ⟨fun k=>?_,fun k=>?_⟩
 · unfold getN; split <;> assumption
 · unfold getL; split <;> assumption
theorem outW_of {o:zaG} (h:Q38 o):OutW o:=⟨h.1,h.2.2.1,h.2.2.2.1,h.2.2.2.2.1⟩
theorem zk7 {T:Type} (S:T→Nat) (c:Nat) (hS:∀ x,S x=c):∀ l:List T,(l.map S).sum=c*l.length
 | []=>rfl
 | x :: l=>by rw [List.map_cons,List.sum_cons,zk7 S c hS l,hS x,List.length_cons,Nat.mul_succ]; omega
theorem zk0 {T:Type} (f:T→List UInt8) (S:T→Nat) (k:Nat):∀ l:List T,(∀ x∈l,(f x).length≤k*S x)→(l.flatMap f).length≤k*(l.map S).sum
 | [],_=>by simp
 | x :: l,h=>by have h0:=h x (by simp); have ih:=zk0 f S k l (fun y hy=>h y (by simp [hy])); rw [List.flatMap_cons,List.length_append,List.map_cons,List.sum_cons,Nat.mul_add]; omega
theorem zsd {l:List zaG} (h:∀ o∈l,OutW o):(outsS l).length≤50*S40 l:=by refine zk0 _ S38 50 l (fun o ho=>?_); have:=zkA (h o ho); have e:S38 o=5:=rfl; simp only [List.length_append,List.length_cons,List.length_nil]; omega
theorem repW_of {x:zaL} (h:Q44 x) (hs:S44 x≤1048576):RepW x:=by
 obtain ⟨h1,h2,h3,_⟩:=h; have ho:∀ o∈x.Outcomes,OutW o:=fun o ho=>outW_of (h2 o ho)
 have hp:∀ p∈x.Published,W64 p.At∧W64 p.Time∧∀ o∈p.Outcomes,OutW o:=fun p hp=>⟨(h1 p hp).1,(h1 p hp).2.1,fun o ho=>outW_of ((h1 p hp).2.2.1 o ho)⟩
 have hl:∀ e∈x.Log,W64 e.Certificate.ID∧W64 e.Certificate.Candidate∧W64 e.Certificate.Grade∧W64 e.Certificate.Time∧W64 e.Certificate.Replaces:=fun e he=>by obtain ⟨_,⟨a,b,c,d,e,_⟩,_⟩:=h3 e he; exact ⟨a,b,c,d,e⟩
 have s1:S39 x.Published≤1048576:=by unfold S44 at hs; omega
 have s2:S40 x.Outcomes≤1048576:=by unfold S44 at hs; omega
 have s3:S41 x.Log≤1048576:=by unfold S44 at hs; omega
 have e2:S40 x.Outcomes=5*x.Outcomes.length:=zk7 _ 5 (fun _=>rfl) _; have e3:S41 x.Log=6*x.Log.length:=zk7 _ 6 (fun _=>rfl) _
 have hpub:∀ l:List zaS,l.length≤S39 l∧∀ p∈l,S159 p≤S39 l:=by
  intro l
  induction l with
  | nil=>simp
  | cons p l ih =>
    have hp1:1≤S159 p:=by show 1≤1+(1+(S40 p.Outcomes+0)); omega
    have e:S39 (p :: l)=S159 p+S39 l:=by simp [S39]
    rw [e]; refine ⟨by have:=ih.1; simp only [List.length_cons]; omega,fun q hq=>?_⟩; rcases List.mem_cons.1 hq with rfl | hq
    · omega
    · have:=ih.2 q hq; omega
 have e1:=hpub x.Published
 have lp:(x.Published.flatMap pubS).length≤1000*S39 x.Published:=by
  refine zk0 _ S159 1000 _ (fun p hp'=>?_); have a:=zsd (hp p hp').2.2
  have b:=zbQ [p.At,p.Time] [112,117,98,108,105,115,104,101,100] (fun n hn=>by
   simp only [List.mem_cons,List.not_mem_nil,or_false] at hn; rcases hn with rfl | rfl
   · exact (hp p hp').1
   · exact (hp p hp').2.1)
  unfold pubS; show _≤1000*(1+(1+(S40 p.Outcomes+0))); simp only [List.length_append,List.length_cons,List.length_nil] at b ⊢; omega
 have ll:(x.Log.flatMap logS).length≤1000*S41 x.Log:=by
  refine zk0 _ S163 1000 _ (fun e he=>?_); obtain ⟨a1,a2,a3,a4,a5⟩:=hl e he; have e6:S163 e=6:=rfl; unfold logS
  have b:=zbQ [e.Certificate.ID,e.Certificate.Candidate,e.Certificate.Grade,e.Certificate.Time,e.Certificate.Replaces] [105,115,115,117,101] (fun n hn=>by
   simp only [List.mem_cons,List.not_mem_nil,or_false] at hn
   rcases hn with rfl | rfl | rfl | rfl | rfl <;> assumption)
  have c:=zbQ [e.Certificate.ID,e.Certificate.Time] [114,101,118,111,107,101] (fun n hn=>by
   simp only [List.mem_cons,List.not_mem_nil,or_false] at hn
   rcases hn with rfl | rfl <;> assumption)
  rw [e6]; split <;> simp only [List.length_append,List.length_cons,List.length_nil] at b c ⊢ <;> omega
 have lo:=zsd ho; refine ⟨hp,hl,ho,?_,by omega,by omega,by omega,fun p hp'=>?_⟩
 · unfold repS; simp only [List.length_append,List.length_cons,List.length_nil]; omega
 · have:=e1.2 p hp'; have e4:S40 p.Outcomes=5*p.Outcomes.length:=zk7 _ 5 (fun _=>rfl) _; unfold S159 at this; omega
end Go.Proofs.YtdclabgakicjeaaGreatDoor
namespace Go.Proofs.YtdclabgakicjeaaGreatDoor
open Go.Ab Go.RowKit
def VarRd (P:Program) (w:World) (n:String) (d:DataW Unit):Prop:=
 ∃ g t cs fuel p,P.globalNamed n=some g∧(P.globals[g]?).map (·.type)=some t∧w.var? P n=some cs∧DataW.trod (fun _=>()) P w 0 (fun _=>true) false fuel t cs.toList=some (d,p)
theorem laid_rd {P:Program} {w:World}:∀ {l:List (String×DataW Unit)} {ps:List MemPlace},DataW.LaidVars P w l ps→∀ n d,(n,d)∈l→VarRd P w n d
 | [],_,_,_,_,hm=>by cases hm
 | (n',d') :: r,ps,h,n,d,hm=>by
   obtain ⟨g,t,cs,fuel,p,q,h1,h2,h3,h4,h5,_⟩:=h; rcases List.mem_cons.1 hm with e | e
   · cases e; exact ⟨g,t,cs,fuel,p,h1,h2,h3,h4⟩
   · exact laid_rd h5 n d e
theorem pairs_of {α β:Type} (f:α→List β) (hf:∀ x,(f x).length=2):∀ (l:List α) (cs:List β),cs.length=2*l.length→(∀ i x,l[i]?=some x→(cs.drop (i*2)).take 2=f x)→cs=l.flatMap f
 | [],cs,h,_=>by have:cs=[]:=List.length_eq_zero_iff.1 (by simpa using h); rw [this]; rfl
 | x :: l,cs,h,hi=>by
   have h0:=hi 0 x rfl; rw [Nat.zero_mul,List.drop_zero] at h0
   have ih:=pairs_of f hf l (cs.drop 2) (by rw [List.length_drop,h]; simp; omega) (fun i y hy=>by
    rw [List.drop_drop,show 2+i*2=(i+1)*2 by omega]
    exact hi (i+1) y (by simpa using hy))
   rw [List.flatMap_cons,← h0,← ih,List.take_append_drop]
theorem ztS {P:Program} {w:World} {base:Nat} {sp:Nat→Bool} {held:Bool} {fuel:Nat} {t e:TypeId} {f0 f1:Field} {l:List (List UInt8×Int)} {cs:List Value} {p:List MemPlace}
  (ht:P.underlying t=some (.array l.length e)) (he:P.underlying e=some (.struct #[f0,f1])) (hc:P.cellsOf e=2) (hct:P.cellsOf t=2*l.length)
  (h0:P.underlying f0.type=some .string∧f0.offset=0∧P.cellsOf f0.type=1) (h1:P.underlying f1.type=some (.int .i64)∧f1.offset=1∧P.cellsOf f1.type=1)
  (h:DataW.trod (fun _=>()) P w base sp held fuel t cs=some (.agg (l.map fun q=>.agg [.lit (.string q.1),.lit (.int .i64 q.2)]),p)):cs=l.flatMap fun q=>[.string (tx q.1),.int .i64 q.2]:=by
 obtain ⟨xs,m,rfl,hx,hl,hxl,hall⟩:=DataW.trod_array ht h; refine pairs_of _ (fun _=>rfl) l cs (by rw [hl,hct]) (fun i q hq=>?_); have hlt:i < l.length:=(List.getElem?_eq_some_iff.1 hq).1
 have hmap:l.map (fun q=>(DataW.agg [.lit (.string q.1),.lit (.int .i64 q.2)]:DataW Unit))=xs.map (·.1):=by have:=congrArg Prod.fst hx; simpa using this
 have hi:=hall i hlt; obtain ⟨b,hb⟩:∃ b,xs[i]?=some b:=⟨xs[i]'(by omega),List.getElem?_eq_getElem (by omega)⟩
 have hb1:b.1=.agg [.lit (.string q.1),.lit (.int .i64 q.2)]:=by have:=congrArg (·[i]?) hmap; simp only [List.getElem?_map,hq,hb,Option.map_some,Option.some.injEq] at this; exact this.symm
 rw [hb,hc] at hi; obtain ⟨b1,b2⟩:=b; simp only at hb1; subst hb1; generalize (cs.drop (i*2)).take 2=c2 at hi; obtain ⟨ys,n,rfl,hy,hl2,hyl,hf⟩:=DataW.trod_struct he hi; rw [hc] at hl2
 have hy2:[(DataW.lit (.string q.1):DataW Unit),.lit (.int .i64 q.2)]=ys.map (·.1):=by have:=congrArg Prod.fst hy; simpa using this
 have e0:=hf 0 f0 rfl; have e1:=hf 1 f1 rfl
 match ys,hy2,hyl with
 | [y0,y1],hy2,_ =>
   simp only [List.map_cons,List.map_nil,List.cons.injEq,and_true] at hy2; rw [h0.2.1,h0.2.2,List.getElem?_cons_zero] at e0; rw [h1.2.1,h1.2.2,List.getElem?_cons_succ,List.getElem?_cons_zero] at e1; obtain ⟨s,k1,rfl,_⟩:=DataW.trod_string h0.1 e0; obtain ⟨z,k2,rfl,_⟩:=DataW.trod_int h1.1 e1; simp only [DataW.lit.injEq,Lit.string.injEq,Lit.int.injEq,true_and] at hy2
   match c2,hl2 with
   | [v0,v1],_=>simp only [List.drop_zero,List.take_succ_cons,List.take_zero,List.cons.injEq,and_true] at k1; simp only [List.drop_succ_cons,List.drop_zero,List.take_succ_cons,List.take_zero,List.cons.injEq,and_true] at k2; rw [k1,k2,hy2.1,hy2.2]; rfl
theorem g_type0:(Tryz.prog.globals[0]?).map (·.type)=some zbN:=by kernel_rfl
theorem forms_of {w:World} {d:DataW Unit} (hd:d=.agg (formsT.map fun q=>.agg [.lit (.string q.1),.lit (.int .i64 q.2)])) (h:VarRd Tryz.prog w "awardingbody/console.forms" d):w.var? Tryz.prog "awardingbody/console.forms"=some zbl.toArray:=by obtain ⟨g,t,cs,fuel,p,hg,ht,hv,hr⟩:=h; obtain rfl:=Option.some.inj (g0.symm.trans hg); obtain rfl:=Option.some.inj (g_type0.symm.trans ht); rw [hd] at hr; have e:=ztS (l:=formsT) (by kernel_rfl) Tryz.underlying118 (by kernel_rfl) (by kernel_rfl) ⟨by kernel_rfl,rfl,by kernel_rfl⟩ ⟨by kernel_rfl,rfl,by kernel_rfl⟩ hr; rw [hv]; unfold zbl; rw [← e]
theorem pow_of {w:World} {n:Nat} {t e:TypeId} (hty:(Tryz.prog.globals[2]?).map (·.type)=some t) (ht:Tryz.prog.underlying t=some (.array n e)) (he:Tryz.prog.underlying e=some (.int .u64)) (hce:Tryz.prog.cellsOf e=1) (hct:Tryz.prog.cellsOf t=n)
  (h:VarRd Tryz.prog w "internal/strconv.uint64pow10" (Lib.tabData .u64 Lib.pow10Tab)):Lib.TabIs Tryz.prog w "internal/strconv.uint64pow10" .u64 Lib.pow10Tab:=by
 obtain ⟨g,t',cs,fuel,p,hg,ht',hv,hr⟩:=h; obtain rfl:=Option.some.inj (g2.symm.trans hg); obtain rfl:=Option.some.inj (hty.symm.trans ht'); unfold Lib.TabIs; rw [hv,← Lib.cells_of_tab ht he hce hct hr]
theorem var_lt {w:World} {n:String} {g:Nat} {cs:Array Value} (hg:Tryz.prog.globalNamed n=some g) (h:w.var? Tryz.prog n=some cs):g < w.heap.size:=by
 by_cases hb:g < w.heap.size
 · exact hb
 · have e:w.heap[g]?=none:=Array.getElem?_eq_none (by omega); unfold World.var? at h; rw [hg] at h; simp [e] at h
theorem vars_of {w:World} {laid:List (String×DataW Unit)} {dF:DataW Unit} (hF:dF=.agg (formsT.map fun q=>.agg [.lit (.string q.1),.lit (.int .i64 q.2)])) (h1:("awardingbody/console.forms",dF)∈laid) (h2:("internal/strconv.uint64pow10",(Lib.tabData .u64 Lib.pow10Tab:DataW Unit))∈laid)
  (hn:(laid.all fun x=>x.2.handleName?.isNone)=true) (hL:laidMetH Tryz.prog laid w) (hS:w.ShapedOpen Tryz.prog)
  {n:Nat} {t e:TypeId} (hty:(Tryz.prog.globals[2]?).map (·.type)=some t) (ht:Tryz.prog.underlying t=some (.array n e)) (he:Tryz.prog.underlying e=some (.int .u64)) (hce:Tryz.prog.cellsOf e=1) (hct:Tryz.prog.cellsOf t=n):Dr.ok (fun g=>g < w.heap.size) w:=by
 rw [Go.MakeChecks.laidMetH_plain _ _ _ hn] at hL; obtain ⟨ps,hl,_⟩:=hL; have a:=forms_of hF (laid_rd hl _ _ h1); have c:=pow_of hty ht he hce hct (laid_rd hl _ _ h2); obtain ⟨m,hm⟩:=zp7.s1_3 w hS; exact ⟨⟨var_lt g0 a,a⟩,⟨block_lt hm,m,hm⟩,var_lt g2 c,c⟩
end Go.Proofs.YtdclabgakicjeaaGreatDoor
end
