/- appeal.Reopened by hand: a range over a map, in whatever order. -/
import Derived.Test.YtlecnobdfhlmnaaGreatJ6
import Derived.Test.YtlecnobdfhlmnaaGreatJ5
import Derived.Control
import Derived.Test.YtlecnobdfhlmnaaGreatJ0
import Derived.Test.YtlecnobdfhlmnaaGreatJ4
import Derived.Test.YtlecnobdfhlmnaaGreatAb9
import Derived.OpenShut
import Derived.DataElems
import Derived.ChangeArms
set_option linter.unusedSimpArgs false
set_option linter.unusedVariables false
noncomputable section
namespace Go.Proofs.YtlecnobdfhlmnaaGreat
open Go.Ab
set_option maxRecDepth 100000
def rpC:Code:=(zKB.fn.body).getD .skip
def rpO(j:Nat):Array Oper:=opsAt j rpC
def rpD(j:Nat):Bool:=zur j rpC
theorem rp_hb:zKB.fn.body=some rpC:=by kernel_rfl
theorem rp_shape:rpC=(.seq (.region 0 (rpO 0) (rpD 0)) (.seq (.region 1 (rpO 1) (rpD 1)) (.seq (.seq (.region 2 (rpO 2) (rpD 2)) (.cond (.tmp 39) (.seq (.region 3 (rpO 3) (rpD 3)) .ret) .skip)) (.seq (.region 4 (rpO 4) (rpD 4)) (.seq (.seq (.region 5 (rpO 5) (rpD 5)) (.cond (.tmp 47) (.seq (.region 6 (rpO 6) (rpD 6)) .ret) .skip)) (.seq (.region 7 (rpO 7) (rpD 7)) (.seq (.seq (.region 8 (rpO 8) (rpD 8)) (.cond (.tmp 56) (.seq (.region 9 (rpO 9) (rpD 9)) .ret) .skip)) (.seq (.region 10 (rpO 10) (rpD 10)) (.seq (.region 11 (rpO 11) (rpD 11)) (.seq (.seq (.region 12 (rpO 12) (rpD 12)) (.block 0 (.loop (.seq (.region 13 (rpO 13) (rpD 13)) (.seq (.cond (.tmp 62) .skip (.exit 0)) (.seq (.block 1 (.seq (.region 14 (rpO 14) (rpD 14)) (.seq (.region 15 (rpO 15) (rpD 15)) (.seq (.region 16 (rpO 16) (rpD 16)) (.block 2 (.loop (.seq (.region 17 (rpO 17) (rpD 17)) (.seq (.cond (.tmp 76) .skip (.exit 2)) (.seq (.block 3 (.seq (.region 18 (rpO 18) (rpD 18)) (.region 19 (rpO 19) (rpD 19)))) (.region 20 (rpO 20) (rpD 20))))))))))) (.region 21 (rpO 21) (rpD 21)))))))) (.seq (.region 22 (rpO 22) (rpD 22)) (.seq (.seq (.region 23 (rpO 23) (rpD 23)) (.block 4 (.loop (.seq (.region 24 (rpO 24) (rpD 24)) (.seq (.cond (.tmp 96) .skip (.exit 4)) (.seq (.block 5 (.seq (.region 25 (rpO 25) (rpD 25)) (.seq (.region 26 (rpO 26) false) (.block 6 (.loop (.seq (.region 27 (rpO 27) false) (.seq (.cond (.tmp 104) .skip (.exit 6)) (.block 7 (.seq (.region 28 (rpO 28) false) (.seq (.region 29 (rpO 29) (rpD 29)) (.cond (.tmp 110) (.region 30 (rpO 30) (rpD 30)) .skip))))))))))) (.region 31 (rpO 31) (rpD 31)))))))) (.seq (.region 32 (rpO 32) (rpD 32)) (.seq (.seq (.region 33 (rpO 33) (rpD 33)) (.seq (.region 34 (rpO 34) (rpD 34)) (.cond (.tmp 126) (.seq (.region 35 (rpO 35) (rpD 35)) .ret) .skip))) (.seq (.region 36 (rpO 36) (rpD 36)) .ret))))))))))))))):=by kernel_rfl
theorem rp_r0:regOf 0 rpC=some (.region 0 (rpO 0) (rpD 0)):=by kernel_rfl
theorem rp_r1:regOf 1 rpC=some (.region 1 (rpO 1) (rpD 1)):=by kernel_rfl
theorem rp_r2:regOf 2 rpC=some (.region 2 (rpO 2) (rpD 2)):=by kernel_rfl
theorem rp_r3:regOf 3 rpC=some (.region 3 (rpO 3) (rpD 3)):=by kernel_rfl
theorem rp_r4:regOf 4 rpC=some (.region 4 (rpO 4) (rpD 4)):=by kernel_rfl
theorem rp_r5:regOf 5 rpC=some (.region 5 (rpO 5) (rpD 5)):=by kernel_rfl
theorem rp_r7:regOf 7 rpC=some (.region 7 (rpO 7) (rpD 7)):=by kernel_rfl
theorem rp_r8:regOf 8 rpC=some (.region 8 (rpO 8) (rpD 8)):=by kernel_rfl
theorem rp_r10:regOf 10 rpC=some (.region 10 (rpO 10) (rpD 10)):=by kernel_rfl
theorem rp_r11:regOf 11 rpC=some (.region 11 (rpO 11) (rpD 11)):=by kernel_rfl
theorem rp_r12:regOf 12 rpC=some (.region 12 (rpO 12) (rpD 12)):=by kernel_rfl
theorem rp_r13:regOf 13 rpC=some (.region 13 (rpO 13) (rpD 13)):=by kernel_rfl
theorem rp_r14:regOf 14 rpC=some (.region 14 (rpO 14) (rpD 14)):=by kernel_rfl
theorem rp_r15:regOf 15 rpC=some (.region 15 (rpO 15) (rpD 15)):=by kernel_rfl
theorem rp_r16:regOf 16 rpC=some (.region 16 (rpO 16) (rpD 16)):=by kernel_rfl
theorem rp_r17:regOf 17 rpC=some (.region 17 (rpO 17) (rpD 17)):=by kernel_rfl
theorem rp_r18:regOf 18 rpC=some (.region 18 (rpO 18) (rpD 18)):=by kernel_rfl
theorem rp_r19:regOf 19 rpC=some (.region 19 (rpO 19) (rpD 19)):=by kernel_rfl
theorem rp_r20:regOf 20 rpC=some (.region 20 (rpO 20) (rpD 20)):=by kernel_rfl
theorem rp_r21:regOf 21 rpC=some (.region 21 (rpO 21) (rpD 21)):=by kernel_rfl
theorem rp_r22:regOf 22 rpC=some (.region 22 (rpO 22) (rpD 22)):=by kernel_rfl
theorem rp_r23:regOf 23 rpC=some (.region 23 (rpO 23) (rpD 23)):=by kernel_rfl
theorem rp_r24:regOf 24 rpC=some (.region 24 (rpO 24) (rpD 24)):=by kernel_rfl
theorem rp_r25:regOf 25 rpC=some (.region 25 (rpO 25) (rpD 25)):=by kernel_rfl
theorem rp_r26:regOf 26 rpC=some (.region 26 (rpO 26) false):=by kernel_rfl
theorem rp_r28:regOf 28 rpC=some (.region 28 (rpO 28) false):=by kernel_rfl
theorem rp_r29:regOf 29 rpC=some (.region 29 (rpO 29) (rpD 29)):=by kernel_rfl
theorem rp_r30:regOf 30 rpC=some (.region 30 (rpO 30) (rpD 30)):=by kernel_rfl
theorem rp_r31:regOf 31 rpC=some (.region 31 (rpO 31) (rpD 31)):=by kernel_rfl
theorem rp_r32:regOf 32 rpC=some (.region 32 (rpO 32) (rpD 32)):=by kernel_rfl
theorem rp_r33:regOf 33 rpC=some (.region 33 (rpO 33) (rpD 33)):=by kernel_rfl
theorem rp_r34:regOf 34 rpC=some (.region 34 (rpO 34) (rpD 34)):=by kernel_rfl
theorem rp_r36:regOf 36 rpC=some (.region 36 (rpO 36) (rpD 36)):=by kernel_rfl
theorem rp_n:zKB.fn.ntmps<=1000:=by decide
theorem rp_enters:enters zKB.P zB7=true:=by kernel_rfl
noncomputable section
abbrev NR:Nat:=zKB.fn.ntmps
abbrev PR:Program:=zKB.P
abbrev e58(M:List (Int×Int)):Nat×Ent:=(58,gO (mR M))
abbrev e15(m:za9):Nat×Ent:=(15,pR m)
abbrev s39(ev:List zac):Nat×AV:=(3,.sl 9 (mA ev))
abbrev stP(r:zbp)(s:zan)(ev:List zac)(ch:List Int)(m:za9)(M:List (Int×Int))(g:Int)(lt:List (Nat×AV)):St:=
 ⟨[s39 ev,(5,.loc 5 3 0 0),(7,.loc 7 9 0 0),(12,.sl 1 (List.map zai ch)),(15,.loc 15 2 0 0),(16,.map 58),(17,I g)]++lt,[(5,pQ r),(7,pJ s),e15 m,e58 M]⟩
abbrev ltC(c:List zaA)(i:Int):List (Nat×AV):=[(59,.sl 6 (mE c)),(60,I (mE c).length),(61,I i)]
abbrev stX(r:zbp)(s:zan)(ev:List zac)(ch:List Int)(m:za9)(M:List (Int×Int))(g:Int)(x:zaA)(lt:List (Nat×AV)):St:=
 ⟨[s39 ev,(5,.loc 5 3 0 0),(7,.loc 7 9 0 0),(12,.sl 1 (List.map zai ch)),(15,.loc 15 2 0 0),(16,.map 58),(17,I g),(19,.loc 19 6 0 0)]++lt,[(5,pQ r),(7,pJ s),e15 m,(19,pL x),e58 M]⟩
abbrev ltS(sc:List Int)(j:Int):List (Nat×AV):=[(73,.sl 1 (List.map zai sc)),(74,I (List.map zai sc).length),(75,I j)]
abbrev stQ(ev:List zac)(m:za9)(M:List (Int×Int))(g:Int)(sd:List (Int×Bool))(bl:List Int)(i:Int)(lt:List (Nat×AV)):St:=
 ⟨[s39 ev,(15,.loc 15 2 0 0),(16,.map 58),(17,I g),(22,.map 88),(93,.row 93 1 0 (List.map zai bl).length),(94,I (List.map zai bl).length),(95,I i)]++lt,[e15 m,e58 M,(88,gN (mO sd)),(93,⟨1,zcO,List.map zai bl,false⟩)]⟩
def at25(k:Int)(st:St):St:=⟨st.t.take 5++(25,I k)::st.t.drop 5,st.m⟩
theorem Times.congr{s:zan}{f f':zaT->Option Int}{M:List (Int×Int)}(h:Times s f M)(e:∀x∈s.Scripts,f x=f' x):Times s f' M:=⟨h.nd,h.num,λx hx=>(h.val x hx).trans (e x hx)⟩
def keysV(kv sd:List (Int×Bool))(done:List Nat):List Int:=(done.filterMap λj=>(kv[j]?).map (·.1)).filter λk=>!(mfind k sd).getD false
theorem keysV_snoc(kv sd:List (Int×Bool))(done:List Nat){j:Nat}{p:Int×Bool}(h:kv[j]?=some p):keysV kv sd (done++[j])=keysV kv sd done++(if(mfind p.1 sd).getD false then[]else[p.1]):=by
 unfold keysV
 grind
theorem mem_keysV{kv sd:List (Int×Bool)}{done:List Nat}(h1:∀i∈done,i<kv.length)(h2:∀i,i<kv.length->i∈done)(k:Int):k∈keysV kv sd done↔k∈kv.map (·.1)/\(mfind k sd).getD false=false:=by
 unfold keysV;rw[zcc,zel]
 have e:(∃a,a∈done/\Option.map (λx=>x.1) kv[a]?=some k)↔k∈kv.map (·.1):=by
  rw[zbs];constructor
  ·grind
  · rintro⟨p,hp,rfl⟩
    obtain⟨i,hi,rfl⟩:=zbz.1 hp
    grind
 rw[e];simp
theorem zLa(l:List Int)(k t:Int)(M:List (Int×Int)):addL (l++[k]) t M=addT k t (addL l t M):=by
 unfold addL
 simp_all
section
variable{w0:World}{S0:Nat->Prop}{κ0:Kap}{K:Nat->Prop}{a:Act}{w:World}
theorem rpStep{j:Nat}{st st':St}{X:Sat2}(hX:Stable X)(hr:regOf j rpC=some (.region j (rpO j) (rpD j)))(ht:tReg zKB zT j st=some st')
  (h:NowP w0 S0 κ0 K NR X st a w) {Q:Exit->Act->World->Prop} (hQ:∀a' w',NowP w0 S0 κ0 K NR X st' a' w'->Q .normal a' w'):(Code.region j (rpO j) (rpD j)).wp PR Q a w:=stepP hX rp_hb rp_n hr ht h hQ
theorem rp_scope{r:zbp}{s:zan}{ev:List zac}{ch:List Int}{m:za9}{M:List (Int×Int)}{g:Int}{c:List zaA}{i:Int}{x:zaA}{sc:List Int}(hsc:sc.length<=1000)
  (h:NowP w0 S0 κ0 K NR X0 (stX r s ev ch m M g x (ltC c i++ltS sc 0)) a w) {Q:Exit->Act->World->Prop}
  (hQ:∀a' w',NowP w0 S0 κ0 K NR X0 (stP r s ev ch m (addL sc x.Stamp.Time M) g (ltC c i)) a' w'->Q .normal a' w'):(Code.block 2 (.loop (.seq (.region 17 (rpO 17) (rpD 17)) (.seq (.cond (.tmp 76) .skip (.exit 2)) (.seq (.block 3 (.seq (.region 18 (rpO 18) (rpD 18)) (.region 19 (rpO 19) (rpD 19)))) (.region 20 (rpO 20) (rpD 20))))))).wp PR Q a w:=by
 refine wp_block (wp_loop (λa w=>∃k:Nat,k<=sc.length/\NowP w0 S0 κ0 K NR X0 (stX r s ev ch m (addL (sc.take k) x.Stamp.Time M) g x (ltC c i++ltS sc k)) a w) (λa _=>sc.length-cnt a 75) ⟨0,zdh _,h⟩ ?_)
 rintro a w ⟨k,hk,hn⟩
 have hc0:cnt a 75=k:=by rw[hn.cnt (n:=(k:Int)) rfl];simp
 generalize hM:addL (sc.take k) x.Stamp.Time M=Mk at hn;refine wp_seq (rpStep Stable.none rp_r17 (re17 r s ev ch c m Mk g _ i x sc _ k) hn (λa2 w2 h2=>?_));refine wp_seq (wp_cond (h2.bool (b:=decide ((k:Int)<(List.map zai sc).length)) rfl) ?_);by_cases hlt:k<sc.length
 case neg=>rw[decide_eq_false (by simp;omega),iNs];rw[zaJ (by omega)]at hM;exact wp_exit (hQ _ _ (by rw[hM];exact h2.trim Stable.none [3,5,7,12,15,16,17,59,60,61] [19] (by kernel_rfl)))
 rw[decide_eq_true (by simp;omega),if_pos rfl];refine wp_skip ?_;have h3:=h2.trim Stable.none [3,5,7,12,15,16,17,19,59,60,61,73,74,75] [] (st':=stX r s ev ch m Mk g x (ltC c i++ltS sc k)) (by kernel_rfl);have t18:=re18 r s ev ch c m Mk g (mE c).length i x sc (List.map zai sc).length k;rw[cPQ,zce,show((k:Int)).toNat=k from rfl,zaa hlt,zae]at t18;refine wp_seq (wp_block (wp_seq (rpStep Stable.none rp_r18 t18 h3 (λa4 w4 h4=>?_))));have t19:=re19 r s ev ch c m Mk g (mE c).length i x sc (List.map zai sc).length k sc[k];rw[c_add,zt4]at t19;refine rpStep Stable.none rp_r19 t19 h4 (λa5 w5 h5=>?_);have t20:=re20 r s ev ch c m (addT sc[k] x.Stamp.Time Mk) g (mE c).length i x sc (List.map zai sc).length k;rw[w6Q]at t20;refine rpStep Stable.none rp_r20 t20 h5 (λa6 w6 h6=>⟨⟨k+1,hlt,?_⟩,?_⟩)
 ·rw[zco hlt,zLa,hM];exact h6
 · have:cnt a6 75=k+1:=by rw[h6.cnt (n:=(k:Int)+1) rfl];omega
   omega
theorem rp_appeals{r:zbp}{s:zan}(hs:zb3 s){ev:List zac}{ch:List Int}{m:za9}(hm:m.Given.length<=1000000){c:List zaA}(hc:c.length<=24)
  (h:NowP w0 S0 κ0 K NR X0 (stP r s ev ch m [] 0 (ltC c 0)) a w) {Q:Exit->Act->World->Prop}
  (hQ:∀a' w',NowP w0 S0 κ0 K NR X0 (stP r s ev ch m (schedM s m c []) (lastT c) []) a' w'->Q .normal a' w'):(Code.block 0 (.loop (.seq (.region 13 (rpO 13) (rpD 13)) (.seq (.cond (.tmp 62) .skip (.exit 0)) (.seq (.block 1 (.seq (.region 14 (rpO 14) (rpD 14)) (.seq (.region 15 (rpO 15) (rpD 15)) (.seq (.region 16 (rpO 16) (rpD 16)) (.block 2 (.loop (.seq (.region 17 (rpO 17) (rpD 17)) (.seq (.cond (.tmp 76) .skip (.exit 2)) (.seq (.block 3 (.seq (.region 18 (rpO 18) (rpD 18)) (.region 19 (rpO 19) (rpD 19)))) (.region 20 (rpO 20) (rpD 20))))))))))) (.region 21 (rpO 21) (rpD 21))))))).wp PR Q a w:=by
 refine wp_block (wp_loop (λa w=>∃k:Nat,k<=c.length/\NowP w0 S0 κ0 K NR X0 (stP r s ev ch m (schedM s m (c.take k) []) (lastT (c.take k)) (ltC c k)) a w) (λa _=>c.length-cnt a 61) ⟨0,zdh _,h⟩ ?_)
 rintro a w ⟨k,hk,hn⟩
 have hc0:cnt a 61=k:=by rw[hn.cnt (n:=(k:Int)) rfl];simp
 generalize hM:schedM s m (c.take k) []=Mk at hn;generalize hg:lastT (c.take k)=g at hn;refine wp_seq (rpStep Stable.none rp_r13 (re13 r s ev ch c m Mk g _ k) hn (λa2 w2 h2=>?_));refine wp_seq (wp_cond (h2.bool (b:=decide ((k:Int)<(mE c).length)) rfl) ?_);by_cases hlt:k<c.length
 case neg=>rw[decide_eq_false (by simp;omega),iNs];rw[zaJ (by omega)]at hM hg;exact wp_exit (hQ _ _ (by rw[hM,hg];exact h2.trim Stable.none [3,5,7,12,15,16,17] [] (by kernel_rfl)))
 rw[decide_eq_true (by simp;omega),if_pos rfl];refine wp_skip ?_;have h3:=h2.trim Stable.none [3,5,7,12,15,16,17,59,60,61] [] (st':=stP r s ev ch m Mk g (ltC c k)) (by kernel_rfl)
 have hnM:schedM s m (c.take (k+1)) []=addL (scopeL s m c[k]) c[k].Stamp.Time Mk:=by rw[zco hlt,<-hM];unfold schedM;rw[zKM];rfl
 have hng:lastT (c.take (k+1))=if g<c[k].Stamp.Time then c[k].Stamp.Time else g:=by rw[zco hlt,<-hg];unfold lastT;rw[zKM];rfl
 have t14:=re14 r s ev ch c m Mk g (mE c).length k;rw[cPQ,zjE,show((k:Int)).toNat=k from rfl,zaa hlt,zae]at t14;generalize c[k]=x at hnM hng t14;refine wp_seq (wp_block (wp_seq (rpStep Stable.none rp_r14 t14 h3 (λa4 w4 h4=>?_))));refine wp_seq (rpStep Stable.none rp_r15 (re15 r s ev ch c m Mk g _ k x) h4 (λa5 w5 h5=>?_));have t16:=re16 r s ev ch c m Mk (if x.Stamp.Time > g then x.Stamp.Time else g) (mE c).length k x;rw[zBn hs.scripts (by have:=hs.seeds;omega) m hm x,zgz]at t16;refine wp_seq (rpStep Stable.none rp_r16 t16 h5 (λa6 w6 h6=>?_))
 have hsl:(scopeL s m x).length<=1000:=by unfold scopeL;rw[zad];have:=zee (scopeB s m x) s.Scripts;have:=hs.scripts.1;omega
 refine rp_scope (c:=c) (i:=(k:Int)) (x:=x) (sc:=scopeL s m x) hsl h6 (λa7 w7 h7=>?_);have t21:=re21 r s ev ch c m (addL (scopeL s m x) x.Stamp.Time Mk) (if x.Stamp.Time > g then x.Stamp.Time else g) (mE c).length k;rw[w6Q]at t21;refine rpStep Stable.none rp_r21 t21 h7 (λa8 w8 h8=>⟨⟨k+1,hlt,?_⟩,?_⟩)
 ·grind
 · have:cnt a8 61=k+1:=by rw[h8.cnt (n:=(k:Int)+1) rfl];omega
   omega
theorem rp_marks{s:zan}{ev:List zac}{m:za9}(hm:m.Given.length<=1000000){M:List (Int×Int)}{g:Int}{sd:List (Int×Bool)}{bl:List Int}{i id:Int}
  (h:NowP w0 S0 κ0 K NR X0 ⟨[s39 ev,(15,.loc 15 2 0 0),(16,.map 58),(17,I g),(22,.map 88),(24,I id),(93,.row 93 1 0 (List.map zai bl).length),(94,I (List.map zai bl).length),(95,I i)],(stQ ev m M g sd bl i []).m⟩ a w) {Q:Exit->Act->World->Prop}
  (hQ:∀ks a' w',(∀k,k∈ks↔marksB m id k=true/\(mfind k sd).getD false=false)->NowP w0 S0 κ0 K NR X0 (stQ ev m (addL ks g M) g sd bl i []) a' w'->Q .normal a' w'):(Code.seq (.region 26 (rpO 26) false) (.block 6 (.loop (.seq (.region 27 (rpO 27) false) (.seq (.cond (.tmp 104) .skip (.exit 6)) (.block 7 (.seq (.region 28 (rpO 28) false) (.seq (.region 29 (rpO 29) (rpD 29)) (.cond (.tmp 110) (.region 30 (rpO 30) (rpD 30)) .skip))))))))).wp PR Q a w:=by
 refine wp_seq (wp_region ?_);have z26:(rpO 26).size=4:=by kernel_rfl
 rw[z26,show List.range 4=List.range' 0 3++[3]from rfl];have t26:=re26 ev m M g sd bl (List.map zai bl).length i id;rw[zEF m id hm,zof]at t26;generalize hkv:setM (markL m id) []=kv at t26;refine segP Stable.none rp_hb rp_n rp_r26 t26 (by rw[z26];decide) h (λa1 w1 h1=>?_);have h2:=(h1.trim Stable.none [101,3,15,16,17,22,93,94,95] [] (st':=⟨(101,.map 101)::(stQ ev m M g sd bl i []).t,(stQ ev m M g sd bl i []).m++[(101,gN (mO kv))]⟩) (by kernel_rfl)).freeze Stable.none rp_n [101] (by kernel_rfl) (st':=⟨(101,.mp (mO kv))::(stQ ev m M g sd bl i []).t,(stQ ev m M g sd bl i []).m⟩) (by kernel_rfl);rw[wpOps_cons];refine zDU (t:=68) (k:=3) (e:=4) (by unfold opIs;kernel_rfl) (by kernel_rfl) (by decide) h2 (m:=101) (d:=102) rfl (λa3 w3 r q en clock h3=>?_);have h4:=h3.trim Rng.stable [3,15,16,17,22,93,94,95,102] [] (st':=stQ ev m (addL (keysV kv sd []) g M) g sd bl i [(102,.v (.pointer (some ⟨r,0,none⟩)))]) (by kernel_rfl);refine zDW (it:=102) (d1:=103) (d2:=104) (r:=r) (stf:=λdone=>stQ ev m (addL (keysV kv sd done) g M) g sd bl i [(102,.v (.pointer (some ⟨r,0,none⟩)))]) [3,15,16,17,22,93,94,95,102] (by kernel_rfl) (by unfold opIs;kernel_rfl) (by unfold opIs;kernel_rfl) (by decide) (by decide) (λ_=>rfl) (λ_ _ _=>by kernel_rfl) ?_ h4 ?_
 · intro done j k v hd hdl hjd hk a w hn
   have hj:j<kv.length:=by have:=(zam.1 hk).1;simpa using this
   have hkj:=zaa hj;rw[zbC,hkj]at hk;simp only[keysV_snoc kv sd done hkj];generalize kv[j]=p at hk hkj ⊢;obtain⟨ky,b⟩:=p;simp only[zbg,zaf,zbX,zax,and_true]at hk;obtain⟨rfl,rfl⟩:=hk;generalize keysV kv sd done=ks at hn ⊢;refine wp_block (wp_seq (wp_region ?_));have z28:(rpO 28).size=3:=by kernel_rfl
   rw[z28,show List.range 3=0::(List.range' 1 2++[])from rfl,wpOps_cons];refine zDD (by unfold opIs;kernel_rfl) (by decide) hn (it:=102) (d:=105) rfl (by rw[zbC,hkj];rfl) (λa1 w1 h1=>?_);have h2:=h1.trim Rng.stable [3,15,16,17,22,93,94,95,102,105] [] (st':=stQ ev m (addL ks g M) g sd bl i [(102,.v (.pointer (some ⟨r,0,none⟩))),(105,.tup [I ky,B b])]) (by kernel_rfl);refine segP Rng.stable rp_hb rp_n rp_r28 (re28 ev m (addL ks g M) g sd bl _ i ⟨r,0,none⟩ ky b) (by rw[z28];decide) h2 (λa3 w3 h3=>?_);have h4:=h3.trim Rng.stable [3,15,16,17,22,25,93,94,95,102] [] (st':=stQ ev m (addL ks g M) g sd bl i [(102,.v (.pointer (some ⟨r,0,none⟩)))]|> at25 ky) (by kernel_rfl);have t29:=re29 ev m (addL ks g M) g sd bl (List.map zai bl).length i ⟨r,0,none⟩ ky;rw[znm]at t29;refine wp_seq (rpStep Rng.stable rp_r29 t29 h4 (λa5 w5 h5=>?_));refine wp_cond (h5.bool (b:=!(mfind ky sd).getD false) rfl) ?_
   cases hsd:(mfind ky sd).getD false with
   |true=>rw[iNs];rw[hsd]at h5;refine wp_skip ⟨rfl,?_⟩;rw[if_pos rfl,zdx];exact h5.trim Rng.stable [3,15,16,17,22,93,94,95,102] [] (by kernel_rfl)
   |false=>rw[if_pos (by simp)];rw[hsd]at h5;have h6:=h5.trim Rng.stable [3,15,16,17,22,25,93,94,95,102] [] (st':=stQ ev m (addL ks g M) g sd bl i [(102,.v (.pointer (some ⟨r,0,none⟩)))]|> at25 ky) (by kernel_rfl);have t30:=re30 ev m (addL ks g M) g sd bl (List.map zai bl).length i ⟨r,0,none⟩ ky;rw[c_add,zt4]at t30;refine rpStep Rng.stable rp_r30 t30 h6 (λa7 w7 h7=>⟨rfl,?_⟩);rw[iNs,zLa];exact h7
 · intro done hd hdl hall a' w' hn;refine hQ (keysV kv sd done) a' w' (λk=>?_) (hn.trim Rng.stable [3,15,16,17,22,93,94,95] [] (by kernel_rfl)).drop;rw[mem_keysV (λi hi=>by simpa using hdl i hi) (λi hi=>hall i (by simpa using hi)),<-hkv,<-zK6];refine and_congr_left' ?_;constructor
   · intro hk
     cases hf:mfind k (setM (markL m id) [])with
     |none=>exact absurd hk (zuc.1 hf)
     |some b =>
       rw[zA7]at hf;simp only[mfind]at hf
       simp_all
   ·intro hk;apply zhw;intro hn;rw[zuc.2 hn]at hk;cases hk
theorem rp_blamed{s:zan}{ev:List zac}{m:za9}(hm:m.Given.length<=1000000)(hg:∀n id,marksB m id n=true->∃x∈s.Scripts,x.Number=n){f:zaT->Option Int}{M:List (Int×Int)}(hM:Times s f M){g:Int}(hf:∀x∈s.Scripts,∀a,f x=some a->a<=g){sd:List (Int×Bool)}{bl:List Int}(hb:bl.length<=1000)
  (h:NowP w0 S0 κ0 K NR X0 (stQ ev m M g sd bl 0 []) a w) {Q:Exit->Act->World->Prop}
  (hQ:∀M' a' w',Times s (λx=>(f x).or (if bl.any (λid=>marksB m id x.Number)=true/\(mfind x.Number sd).getD false=false then some g else none)) M'->NowP w0 S0 κ0 K NR X0 ⟨[s39 ev,(16,.map 58)],[e58 M']⟩ a' w'->Q .normal a' w'):(Code.block 4 (.loop (.seq (.region 24 (rpO 24) (rpD 24)) (.seq (.cond (.tmp 96) .skip (.exit 4)) (.seq (.block 5 (.seq (.region 25 (rpO 25) (rpD 25)) (.seq (.region 26 (rpO 26) false) (.block 6 (.loop (.seq (.region 27 (rpO 27) false) (.seq (.cond (.tmp 104) .skip (.exit 6)) (.block 7 (.seq (.region 28 (rpO 28) false) (.seq (.region 29 (rpO 29) (rpD 29)) (.cond (.tmp 110) (.region 30 (rpO 30) (rpD 30)) .skip))))))))))) (.region 31 (rpO 31) (rpD 31))))))).wp PR Q a w:=by
 refine wp_block (wp_loop (λa w=>∃(k:Nat) (M':List (Int×Int)),k<=bl.length/\Times s (λx=>(f x).or (if(bl.take k).any (λid=>marksB m id x.Number)=true/\(mfind x.Number sd).getD false=false then some g else none)) M'/\NowP w0 S0 κ0 K NR X0 (stQ ev m M' g sd bl k []) a w) (λa _=>bl.length-cnt a 95) ⟨0,M,zdh _,hM.congr (λx hx=>by simp),h⟩ ?_)
 rintro a w ⟨k,M',hk,hT,hn⟩
 have hc0:cnt a 95=k:=by rw[hn.cnt (n:=(k:Int)) rfl];simp
 refine wp_seq (rpStep Stable.none rp_r24 (re24 ev m M' g sd bl _ k) hn (λa2 w2 h2=>?_));refine wp_seq (wp_cond (h2.bool (b:=decide ((k:Int)<(List.map zai bl).length)) rfl) ?_);by_cases hlt:k<bl.length
 case neg=>rw[decide_eq_false (by simp;omega),iNs];rw[zaJ (by omega)]at hT;exact wp_exit (hQ M' _ _ hT (h2.trim Stable.none [3,16] [15,88,93] (by kernel_rfl)))
 rw[decide_eq_true (by simp;omega),if_pos rfl];refine wp_skip ?_;have h3:=h2.trim Stable.none [3,15,16,17,22,93,94,95] [] (st':=stQ ev m M' g sd bl k []) (by kernel_rfl);have t25:=re25 ev m M' g sd bl (List.map zai bl).length k;rw[cPQ,zao (by simp;omega),zce,zaY,show((k:Int)).toNat=k from rfl,zaa hlt,zae]at t25;refine wp_seq (wp_block (wp_seq (rpStep Stable.none rp_r25 t25 h3 (λa4 w4 h4=>?_))));refine rp_marks (s:=s) hm h4 (λks a5 w5 hks h5=>?_);have t31:=re31 ev m (addL ks g M') g sd bl (List.map zai bl).length k;rw[w6Q]at t31;refine rpStep Stable.none rp_r31 t31 h5 (λa6 w6 h6=>⟨⟨k+1,addL ks g M',hlt,?_,h6⟩,?_⟩)
 · refine(hT.addL (l:=ks) (t:=g) (λn hn=>hg n bl[k] ((hks n).1 hn).1) (λx hx b hb=>?_)).congr (λx hx=>?_)
   · cases hfx:f x with
     |some c=>grind
     |none=>simp_all
   · have hkx:=hks x.Number;rw[zco hlt,List.any_append]
     grind
 · have:cnt a6 95=k+1:=by rw[h6.cnt (n:=(k:Int)+1) rfl];omega
   omega
theorem reopR_err{r:zbp}{q:zbG}{s:zan}{ev:List zac}{l:List zaA}(h:(zyf r q s ev l).2≠0):reopR r q s ev l=([],(zyf r q s ev l).2):=by
 unfold reopR zyf at *
 grind
theorem reopR_ok{r:zbp}{q:zbG}{s:zan}{ev:List zac}{l:List zaA}(h:(zyf r q s ev l).2=0):reopR r q s ev l=(reopS r q s ev (appS l).1,0)/\(appS l).2=0/\(zyf r q s ev l).1=zgA r q s ev (appS l).1:=by
 unfold reopR zyf at *
 grind
theorem appS_bd{l:List zaA}{a:zaA}(h:a∈(appS l).1):0<=a.Stamp.Time:=by
 have:=(apKeep_mem.1 (appS_mem h)).2.1;unfold ziG at this;simp only[zaO]at this;obtain⟨⟨h1,_⟩,_⟩:=this;unfold stampB at h1
 simp_all
theorem rp_body{r:zbp}{q:zbG}{s:zan}{ev:List zac}{l:List zaA}(hO:OkApp s ev l)(h:NowP w0 S0 κ0 K NR X0 ⟨[(0,.agg (zck r)),(1,.agg (zcp q)),(2,.agg (zas s)),s39 ev,(4,.sl 6 (mE l))],[]⟩ a w):rpC.wp PR (PostC w0 S0 κ0 K NR .ret (if(zyf r q s ev l).2≠0 then⟨[(10,.v (.slice none 0 0)),(11,I (zyf r q s ev l).2)],[]⟩else⟨[(10,.sl 9 (mA (reopS r q s ev (appS l).1))),(11,I 0)],[]⟩)) a w:=by
 have hs:=hO.1;rw[rp_shape];refine wp_seq (rpStep Stable.none rp_r0 (re0 r q s ev l) h (λa1 w1 h1=>?_));have t1:=re1 r q s ev l;rw[zLb hO,zmy]at t1;refine wp_seq (rpStep Stable.none rp_r1 t1 h1 (λa2 w2 h2=>?_));refine wp_seq (wp_seq (rpStep Stable.none rp_r2 (re2 r s ev l _ _) h2 (λa3 w3 h3=>?_)));refine wp_cond (h3.bool (b:=(zyf r q s ev l).2 !=0) rfl) ?_;by_cases hE:(zyf r q s ev l).2=0
 case neg=>rw[if_pos (show((zyf r q s ev l).2 !=0)=true by simpa using hE),if_pos hE];have h4:=h3.trim Stable.none [13] [5,7] (st':=⟨[(13,I (zyf r q s ev l).2)],[]⟩) (by kernel_rfl);refine wp_seq (rpStep Stable.none rp_r3 (re3 _) h4 (λa5 w5 h5=>?_));refine wp_ret ⟨rfl,?_⟩;obtain⟨S,κ,hg,_⟩:=h5;exact⟨S,κ,hg⟩
 rw[if_neg (show¬((zyf r q s ev l).2 !=0)=true by simpa using hE),if_neg (by simpa using hE)];refine wp_skip ?_;obtain⟨_,hA,hch⟩:=reopR_ok hE;have h4:=h3.trim Stable.none [3,4,5,7,12] [] (st':=⟨[s39 ev,(4,.sl 6 (mE l)),(5,.loc 5 3 0 0),(7,.loc 7 9 0 0),(12,.sl 1 (List.map zai (zyf r q s ev l).1))],[(5,pQ r),(7,pJ s)]⟩) (by kernel_rfl);rw[hch]at h4;have hcas:=zLf (r:=r) (q:=q) hs ev (appS l).1;have hcfew:=zLg (r:=r) (q:=q) hs ev (appS l).1;have hc24:=zK2 l;have hasc:=zK1 l;have hpos:=λa (ha:a∈(appS l).1)=>appS_bd ha
 unfold reopS;generalize zgA r q s ev (appS l).1=ch at h4 hcas hcfew;have t4:=re4 r s ev l ch;rw[zAi hO.2.2.2,zlr]at t4;refine wp_seq (rpStep Stable.none rp_r4 t4 h4 (λa5 w5 h5=>?_));generalize appS l=ap at h5 hA hc24 hasc hpos;obtain⟨c,e0⟩:=ap;simp only at hA hc24 hasc hpos;subst hA;refine wp_seq (wp_seq (rpStep Stable.none rp_r5 (re5 r s ev ch c 0) h5 (λa6 w6 h6=>?_)));refine wp_cond (h6.bool (b:=false) rfl) ?_;rw[iNs];refine wp_skip ?_;have h7:=h6.trim Stable.none [3,5,7,12,14] [] (st':=⟨[s39 ev,(5,.loc 5 3 0 0),(7,.loc 7 9 0 0),(12,.sl 1 (List.map zai ch)),(14,.sl 6 (mE c))],[(5,pQ r),(7,pJ s)]⟩) (by kernel_rfl);have t7:=re7 r s ev ch c;rw[zK3 hs (few_ev hO),zp6]at t7;refine wp_seq (rpStep Stable.none rp_r7 t7 h7 (λa8 w8 h8=>?_));have hsm:=zys hs (few_ev hO)
 have hgv:∀n id,marksB (foldS s ev) id n=true->∃x∈s.Scripts,x.Number=n:=λn id hb=>by obtain⟨y,hy,e⟩:=zfN.1 hb;simp only[zaO,beq_iff_eq]at e;rw[<-e.2];exact zLe (zyr hs hy).1
 generalize foldS s ev=m at h8 hsm hgv;refine wp_seq (wp_seq (rpStep Stable.none rp_r8 (re8 r s ev ch c m 0) h8 (λa9 w9 h9=>?_)));refine wp_cond (h9.bool (b:=false) rfl) ?_;rw[iNs];refine wp_skip ?_;have h10:=h9.trim Stable.none [3,5,7,12,14,15] [] (st':=⟨[s39 ev,(5,.loc 5 3 0 0),(7,.loc 7 9 0 0),(12,.sl 1 (List.map zai ch)),(14,.sl 6 (mE c)),(15,.loc 15 2 0 0)],[(5,pQ r),(7,pJ s),e15 m]⟩) (by kernel_rfl);refine wp_seq (rpStep Stable.none rp_r10 (re10 r s ev ch c m) h10 (λa11 w11 h11=>?_));refine wp_seq (rpStep Stable.none rp_r11 (re11 r s ev ch c m) h11 (λa12 w12 h12=>?_));refine wp_seq (wp_seq (rpStep Stable.none rp_r12 (re12 r s ev ch c m 0) h12 (λa13 w13 h13=>?_)));refine rp_appeals hs hsm.1 hc24 h13 (λa14 w14 h14=>?_);have hT:=zKw hs m hasc
 have hlast:∀x∈s.Scripts,∀a,timeS s m c x=some a->a<=lastT c:=λx hx a ha=>by obtain⟨y,hy,_,rfl⟩:=zLd ha;exact(lastT_ge c 0).2 y hy
 have t22:=re22 r s ev ch c m (schedM s m c []) (lastT c);rw[c_seeds s (by have:=hs.seeds;omega),zof]at t22;refine wp_seq (rpStep Stable.none rp_r22 t22 h14 (λa15 w15 h15=>?_));have t23:=re23 r s ev ch c m (schedM s m c []) (lastT c) (setM (s.Seeds.map (·.Script)) []);rw[c_blamed r hs m hsm.1 ch (hcas.imp λh e=>by omega) (by omega),znC]at t23;refine wp_seq (wp_seq (rpStep Stable.none rp_r23 t23 h15 (λa16 w16 h16=>?_)))
 have hbl:(zqt r s m ch).length<=1000:=by unfold zqt;rw[zad];have:=zee (λx:za3=>x.Level==1&&decide (r.Fails<=(ch.filter (marksB m x.ID)).length)) s.Markers;have:=hs.markers.1;omega
 refine rp_blamed (s:=s) hsm.1 hgv hT hlast hbl h16 (λM' a17 w17 hM' h17=>?_)
 have hM2:Times s (reopT s m c (zqt r s m ch)) M':=hM'.congr (λx hx=>by
  unfold reopT;rw[zK7]
  grind)
 have t32:=re32 ev M';rw[c_open hs hM2,ztP]at t32;refine wp_seq (rpStep Stable.none rp_r32 t32 h17 (λa18 w18 h18=>?_));have hfew:=zK4 hO (reopT s m c (zqt r s m ch));have holen:=zvS s (reopT s m c (zqt r s m ch));have h60:=hs.scripts.1;have hev:=hO.2.1;have hol:=zKZ (schedL s (reopT s m c (zqt r s m ch)));generalize openS (schedL s (reopT s m c (zqt r s m ch)))=o at h18 hfew hol ⊢;have t33:=re33 ev o;rw[c_with ev o (by omega) (by omega),ztP]at t33;rw[show cw zcB [sC (ev++o)] []=some (ze3 (canonS (ev++o),0))from c_canon false hfew,zKN]at t33;refine wp_seq (wp_seq (rpStep Stable.none rp_r33 t33 h18 (λa19 w19 h19=>?_)));refine wp_seq (rpStep Stable.none rp_r34 (re34 o 0) h19 (λa20 w20 h20=>?_));refine wp_cond (h20.bool (b:=false) rfl) ?_;rw[iNs];refine wp_skip ?_;have h21:=h20.trim Stable.none [26] [] (st':=⟨[(26,.sl 9 (mA o))],[]⟩) (by kernel_rfl);refine wp_seq (rpStep Stable.none rp_r36 (re36 o) h21 (λa22 w22 h22=>?_));refine wp_ret ⟨rfl,?_⟩;obtain⟨S,κ,hg,_⟩:=h22;exact⟨S,κ,hg⟩
end
theorem zLh:CallOK zP (single zB7 zOrc):=by
 intro f args ms r ms' h;unfold single at h;split at h
 case isFalse=>cases h
 rename_i hf;subst hf
 cases ms with
 |cons a m =>
   have hz:zOrc zB7 args (a::m)=none:=by unfold zOrc;simp(decide:=true) only [if_false,if_true]
   grind
 |nil =>
 have hz:zOrc zB7 args []=zKX args:=by unfold zOrc;simp(decide:=true) only [if_false,if_true]
 rw[hz]at h;clear hz;unfold zKX at h;split at h
 case isFalse=>cases h
 rename_i hex;have hsp:=hex.choose_spec.choose_spec.choose_spec.choose_spec.choose_spec;generalize hex.choose_spec.choose_spec.choose_spec.choose_spec.choose=l at h hsp;generalize hex.choose_spec.choose_spec.choose_spec.choose=ev at h hsp;generalize hex.choose_spec.choose_spec.choose=s at h hsp;generalize hex.choose_spec.choose=q at h hsp;generalize hex.choose=r0 at h hsp;obtain⟨rfl,hO⟩:=hsp;injection h with h;injection h with h1 h2;subst h1 h2;refine⟨rp_enters,λw S κ vals hvl hS hv hms hinj=>?_⟩;have hf:zKB.P.funcs[zB7]?=some zKB.fn:=by kernel_rfl
 refine zqw (args:=argR r0 q s ev l) (frz:=false) (ex:=.ret) hf rp_hb (show 5<=zKB.fn.ntmps by decide) hvl hS hv hms hinj (λid=>by simp) (λa hg=>?_) (st:=if(zyf r0 q s ev l).2≠0 then⟨[(10,.v (.slice none 0 0)),(11,I (zyf r0 q s ev l).2)],[]⟩else⟨[(10,.sl 9 (mA (reopS r0 q s ev (appS l).1))),(11,I 0)],[]⟩) ?_ ?_ ?_
 ·obtain⟨S,κ,hg⟩:=hg;exact rp_body hO ⟨S,κ,hg,trivial⟩
 · by_cases hE:(zyf r0 q s ev l).2=0
   ·rw[if_neg (by simpa using hE),(reopR_ok hE).1];kernel_rfl
   ·rw[if_pos hE,reopR_err hE];kernel_rfl
 ·split<;>kernel_rfl
 ·kernel_rfl
theorem zK8{r:zbp}{q:zbG}{s:zan}{ev:List zac}{l:List zaA}(hO:OkApp s ev l):cw zB7 [.agg (zck r),.agg (zcp q),.agg (zas s),.sl 9 (mA ev),.sl 6 (mE l)] []=some (ze3 (reopR r q s ev l)):=by
 refine zim zLh ?_;show zOrc zB7 (argR r q s ev l) []=_
 have hz:zOrc zB7 (argR r q s ev l) []=zKX (argR r q s ev l):=by unfold zOrc;simp(decide:=true) only [if_false,if_true]
 rw[hz];unfold zKX;have hex:∃r' q' s' ev' l',argR r q s ev l=argR r' q' s' ev' l'/\OkApp s' ev' l':=⟨r,q,s,ev,l,rfl,hO⟩
 rw[dif_pos hex];have hsp:=hex.choose_spec.choose_spec.choose_spec.choose_spec.choose_spec;generalize hex.choose_spec.choose_spec.choose_spec.choose_spec.choose=l' at hsp;generalize hex.choose_spec.choose_spec.choose_spec.choose=ev' at hsp;generalize hex.choose_spec.choose_spec.choose=s' at hsp;generalize hex.choose_spec.choose=q' at hsp;generalize hex.choose=r' at hsp;have h1:=hsp.1;unfold argR at h1;simp only[zax,AV.agg.injEq,AV.sl.injEq,true_and,and_true]at h1;obtain⟨g1,g2,g3,g4,g5⟩:=h1;have e1:r=r':=zog.inj g1;have e2:q=q':=zq3.inj g2;have e3:s=s':=zqy.inj g3;have e4:ev=ev':=ev_inj g4;have e5:l=l':=Eq.mp (TyD.minj zcz) g5;subst e1 e2 e3 e4 e5;rfl
end
theorem zLc{s:zan}{m:za9}{a:zaA}{n:Int}:n∈scopeL s m a↔∃x∈s.Scripts,scopeB s m a x=true/\x.Number=n:=by
 unfold scopeL;rw[zbs];constructor
 · rintro⟨x,hx,h⟩
   obtain⟨h1,h2⟩:=zcc.1 hx;exact⟨x,h1,h2,h⟩
 · rintro⟨x,h1,h2,h⟩
   exact⟨x,zcc.2 ⟨h1,h2⟩,h⟩
theorem scope_seed{s:zan}{m:za9}{a:zaA}{x:zaT}(h:scopeB s m a x=true):(seedOf s.Seeds x.Number).isSome=false:=by unfold scopeB at h;simp only[zaO,zc4]at h;exact h.1.2
section
variable{s:zan}{m:za9}{c:List zaA}{bl:List Int}
theorem open_get{L:List (Int×Int)}{i:Nat}(hi:i<(openS L).length):∃p,L[i]?=some p/\(openS L)[i]=openE i p:=by unfold openS at hi ⊢;rw[List.length_mapIdx]at hi;refine⟨L[i],zaa hi,?_⟩;rw[List.getElem_mapIdx]
theorem reop_why{p:Int×Int}(h:p∈schedL s (reopT s m c bl)):(seedOf s.Seeds p.1).isSome=false/\((c.any λa=>(scopeL s m a).any λn=>n==p.1)||m.Given.any λg=>bl.any λid=>g.Script==p.1&&g.Marker==id)=true:=by
 obtain⟨x,hx,h1,h2⟩:=zs2.1 h;unfold reopT at h1;rw[<-h2]
 cases ht:timeS s m c x with
 |some t=>obtain⟨a,ha,hb,_⟩:=zLd ht;refine⟨scope_seed hb,?_⟩;rw[zfd,zfN];exact .inl ⟨a,ha,zfN.2 ⟨x.Number,zLc.2 ⟨x,hx,hb,rfl⟩,by simp⟩⟩
 |none =>
   rw[ht]at h1;simp only at h1;split at h1
   ·rename_i hb;simp only[zaO,zc4,zfN]at hb;obtain⟨hs,id,hid,hm⟩:=hb;refine⟨hs,?_⟩;unfold marksB at hm;obtain⟨g,hg,hgg⟩:=zfN.1 hm;simp only[zaO]at hgg;rw[zfd,zfN];exact .inr (zfN.2 ⟨g,hg,zfN.2 ⟨id,hid,by rw[hgg.1,hgg.2];rfl⟩⟩)
   ·cases h1
theorem find_first(hc:AscT c){p:zaA->Bool}{a b:zaA}(h:c.find? p=some a)(hb:b∈c)(hp:p b=true):a.Stamp.Time<=b.Stamp.Time:=by
 induction c with
 |nil=>cases h
 |cons x r ih =>
   obtain⟨h1,h2⟩:=zcR.1 hc;rw[List.find?_cons]at h
   cases hx:p x with
   |true =>
     rw[hx]at h;injection h with h;subst h;rcases za4.1 hb with rfl|hb
     ·exact zf1 _
     ·exact h1 b hb
   |false =>
     rw[hx]at h;rcases za4.1 hb with rfl|hb
     ·rw[hp]at hx;cases hx
     ·exact ih h2 h hb
theorem reop_all(hc:AscT c){a:zaA}(ha:a∈c){n:Int}(hn:n∈scopeL s m a):((openS (schedL s (reopT s m c bl))).any λe=>e.Script==n&&decide (e.Stamp.Time<=a.Stamp.Time))=true:=by
 obtain⟨x,hx,hb,rfl⟩:=zLc.1 hn;have hf:(c.find? λa=>scopeB s m a x).isSome:=List.find?_isSome.2 ⟨a,ha,hb⟩;obtain⟨b,hb'⟩:=zaI.1 hf;have ht:timeS s m c x=some b.Stamp.Time:=by unfold timeS;rw[hb'];rfl
 have hle:=find_first hc hb' ha hb;have hm:(x.Number,b.Stamp.Time)∈schedL s (reopT s m c bl):=zs2.2 ⟨x,hx,by unfold reopT;rw[ht],rfl⟩;obtain⟨i,hi,hg⟩:=zbz.1 hm;rw[zfN];refine⟨openE i (x.Number,b.Stamp.Time),?_,by simp[openE,hle]⟩;unfold openS;exact List.mem_mapIdx.2 ⟨i,hi,by rw[hg]⟩
end
theorem reop_none{r:zbp}{q:zbG}{s:zan}{ev:List zac}(hr:chkA r=0):reopS r q s ev []=[]:=by
 have h1:zgA r q s ev []=[]:=by
  unfold zgA zjx
  have:schedL s (timeS s ⟨[],[]⟩ (([]:List zaA).filter λa=>a.Kind==0))=[]:=by unfold schedL;rw[List.filterMap_eq_nil_iff];intro x _;rfl
  rw[this];rfl
 have h2:∀m,zqt r s m []=[]:=λm=>by
  unfold zqt;rw[List.map_eq_nil_iff,zgL];intro x _
  have:¬r.Fails<=0:=λh=>by unfold chkA at hr;rw[iNQ]at hr;cases hr
  simp[this]
 unfold reopS;rw[h1,h2]
 have:schedL s (reopT s (foldS s ev) [] [])=[]:=by unfold schedL;rw[List.filterMap_eq_nil_iff];intro x _;simp[reopT,timeS]
 rw[this];rfl
theorem appS_nil:appS []=([],0):=rfl
theorem zHG{r:zbp}{q:zbG}{s:zan}(hs:zb3 s)(ev:List zac)(c:List zaA):(zgA r q s ev c).Nodup/\(zgA r q s ev c).length<=60:=by
 have h:=zG1 hs (timeS s ⟨[],[]⟩ (c.filter λa=>a.Kind==0));have hl:=zvS s (timeS s ⟨[],[]⟩ (c.filter λa=>a.Kind==0));have h60:=hs.scripts.1;unfold zgA zjx;constructor
 ·exact((h.imp λh e=>by omega:(List.map _ _).Nodup)).sublist ((List.filter_sublist).map _)
 ·rw[zad];exact zbP (zee _ _) (by omega)
set_option maxRecDepth 20000
theorem c_Rule(d:zaj)(hd:DOk d):∃(q:zbG) (d':zaj),cw zqb [.loc 1000 2 0 0] (mD d)=some (zqj (q,d'))/\chkR q=0/\DOk d':=by
 obtain⟨b,d1,h1,hd1⟩:=zqY d 2 hd (by omega);obtain⟨n,d2,h2,h0,h3,hd2⟩:=zdk d1 3 hd1 (by omega);refine⟨⟨b,n⟩,d2,zDs ?_,?_,hd2⟩
 ·simp only[h1,h2,zdT,zbo];rfl
 · unfold chkR
   grind
theorem zII(d:zaj)(hd:DOk d):∃(r:zbp) (d':zaj),cw zlw [.loc 1000 2 0 0] (mD d)=some (zlE (r,d'))/\chkA r=0/\DOk d':=by
 obtain⟨a,d1,h1,ha,hd1⟩:=c_Pick d [1000,100,0] hd (by simp) (by simp);obtain⟨n,d2,h2,n0,n1,hd2⟩:=zdk d1 2 hd1 (by omega);obtain⟨k,d3,h3,k0,k1,hd3⟩:=zdk d2 3 hd2 (by omega);refine⟨⟨a,1+n,k⟩,d3,zwq ?_,?_,hd3⟩
 ·rw[h1,zbo];simp only;rw[h2,zbo];simp only;rw[h3,zbo,w6Q];rfl
 · unfold chkA
   grind
theorem c_Appeals(d:zaj)(s:zan)(hd:DOk d)(hs:DSetup s):∃(l:List zaA) (d':zaj),cw znF [.loc 1000 2 0 0,.agg (zas s),I 5] (mD d)=some (zkv (l,d'))/\l.length<=10/\DOk d':=by
 have hm1:=hs.markers.1;have hm2:=hs.markers.2.1
 let Q:AV×Mem->Prop:=λy=>∃(l:List zaA) (d':zaj),y=zkv (l,d')/\l.length<=10/\DOk d'
 have loop:∀(n i:Nat) (xs:List zaA) (d:zaj),i+n=5->xs.length<=2*i->DOk d->Sat Q (zhH s 5 (mE xs) d i):=by
  intro n
  induction n with
  |zero=>intro i xs d hi hx hd;refine sat_of (λy=>zqM) ?_;rw[zaN (by omega),cPQ,zdm];exact zqk ⟨xs,d,rfl,by omega,hd⟩
  |succ n ih =>
    intro i xs d hi hx hd
    have next:∀(a:zaA) (d:zaj),DOk d->Sat Q (zh8 s 5 (mE xs) i a d):=by
     intro a d hd;have hraw:mE xs++[[AV.v (Go.Value.int IntKind.i64 a.Stamp.Time),AV.v (Go.Value.int IntKind.i64 a.Stamp.Source),AV.v (Go.Value.int IntKind.i64 a.Stamp.Seq),AV.v (Go.Value.int IntKind.i64 a.Kind),AV.v (Go.Value.int IntKind.i64 a.Candidate),AV.v (Go.Value.int IntKind.i64 a.Marker)]]=mE (xs++[a]):=by simp only[<-zd3 zaw];rfl
     obtain⟨b,d1,e1,hd1⟩:=zqY d 5 hd (by omega);refine sat_of (λy=>zvj) ?_;rw[hraw,zao rfl,zao (by grind),zao rfl,e1,zdT];simp only[zd3 zaw]
     try simp only
     rw[w6Q,show((i:Int)+1)=((i+1:Nat):Int)by omega]
     cases b with
     |false=>rw[zaz];exact ih (i+1) (xs++[a]) d1 (by omega) (by simp;omega) hd1
     |true =>
       obtain⟨v,d2,e2,h0,h1,hd2⟩:=zdk d1 ((mE (xs++[a])).length:Int) hd1 (by grind);have hv:v.toNat<(xs++[a]).length:=by simp only[zad,zcb,zhX]at h1 ⊢;omega
       rw[zaV,e2,zbo];simp only;rw[zao h0,zao (by simp_all),zaY,zjE,zaa hv,zae];simp only[zbx];rw[zao (by grind)]
       try simp only[zd3 zaw]
       exact ih (i+1) (xs++[a]++[(xs++[a])[v.toNat]]) d2 (by omega) (by simp;omega) hd2
    obtain⟨u,d1,e1,u0,u1,hd1⟩:=zdk d 200 hd (by omega);obtain⟨v,d2,e2,v0,v1,hd2⟩:=zdk d1 3 hd1 (by omega);obtain⟨b,d3,e3,hd3⟩:=zqY d2 4 hd2 (by omega);refine sat_of (λy=>zqM) ?_;rw[zaB (by omega),e1,zbo];simp only;rw[e2,zbo];simp only;rw[e3,zdT]
    cases b with
    |true =>
      obtain⟨k,d4,e4,k0,k1,hd4⟩:=zdk d3 ((mH s.Markers).length:Int) hd3 (by grind);have hk:k.toNat<s.Markers.length:=by rw[zad]at k1;omega
      simp_all
    |false =>
      obtain⟨k,d4,e4,k0,k1,hd4⟩:=zdk d3 4 hd3 (by omega)
      simp_all
 obtain⟨y,e1,l,d',rfl,h⟩:=loop 5 0 [] d (by omega) (by simp) hd;exact⟨l,d',zzz e1,h⟩
def rv(a b c d:Int):zaA:=⟨⟨a,b,c⟩,0,d,0⟩
theorem c_review(a b c d:Int):cw ziO [I a,I b,I c,I d] []=some (zsw (rv a b c d)):=zGe rfl
def inTime(r:zbp)(p:Int)(l:List zaA):List zaA:=l.filter λa=>stampB a.Stamp&&decide (0<=p/\p<=1000000/\p<=a.Stamp.Time/\a.Stamp.Time-p<=r.Days)
theorem c_InTime(r:zbp)(p:Int)(l:List zaA)(hl:l.length<=1000000):cw zq9 [.agg (zck r),I p,.sl 6 (mE l)] []=some (zn2 (inTime r p l)):=by
 refine zES ?_;by_cases h0:0<=p/\p<=1000000
 case neg =>
  have e:inTime r p l=[]:=by
   unfold inTime
   (simp_all;omega)
  rw[e];by_cases h1:p<0
  ·rw[zaB h1];rfl
  ·rw[zaN h1,zaB (by omega)];rfl
 rw[zaN (by omega),zaN (by omega)];refine zcl l (λi rest=>∀out:List zaA,(out.length:Int)<=i->zg1 r p l (mE out) i=some (zn2 (out++inTime r p rest))) ?_ ?_ [] (by simp)
 ·intro out ho;refine ztV ?_;rw[zad,zaN (by omega),zao rfl];unfold inTime;rw[zeQ,zdx];rfl
 · intro i hi rest _ ih out ho;refine ztV ?_;rw[zad,zaB (by omega),cPQ,zah,zjE,zaa hi,zae,zuK,zKA,zao rfl,zao (by grind),zao rfl,w64_id (show -9223372036854775808<=(i:Int)+1 by omega) (by omega)];unfold inTime at ih ⊢;rw[zcn];generalize l[i]=a
   cases hs:stampB a.Stamp with
   |false =>
     rw[zaz,zcF,iNs]
     grind
   |true =>
     have ht:0<=a.Stamp.Time/\a.Stamp.Time<=1000000:=by unfold stampB at hs;simp only[decide_eq_true_eq]at hs;exact hs.1
     rw[zaV,zcx,w6Q];by_cases h1:p<=a.Stamp.Time
     · by_cases h2:a.Stamp.Time-p<=r.Days
       · rw[zaB h1,zaB h2,if_pos (by simp;omega)];have:=ih (out++[a]) (by simp;omega)
         simp_all
       · rw[zaB h1,zaN h2,if_neg (by simp;omega)]
         grind
     · rw[zaN h1,if_neg (by simp;omega)]
       grind
def S38:zan:=⟨[],[⟨7,0,7,3,0,[],[]⟩,⟨8,0,8,3,0,[],[]⟩],[],[],[],⟨0,0,0,0⟩⟩
theorem okS38:zkM S38.Scripts:=by
 refine⟨by decide,λx hx=>?_,λj hj=>?_⟩
 · have:x=⟨7,0,7,3,0,[],[]⟩\/x=⟨8,0,8,3,0,[],[]⟩:=by simpa[S38]using hx
   unfold zmu;rcases this with rfl|rfl<;>simp
 · have:j=0:=by simp only[S38,zcP,zcZ]at hj;omega
   subst this;show(7:Int)<8;omega
theorem c_sane38:cw zre [] []=some (zap true):=by
 refine zI1 ?_;simp only[c_review,zAr];have h1:appS [rv 5 3 0 7,rv 5 3 0 7,rv 2 3 1 8]=([rv 2 3 1 8,rv 5 3 0 7],0):=by kernel_rfl
 have h2:scopeL S38 ⟨[],[]⟩ (rv 5 3 0 7)=[7]:=by kernel_rfl
 have h3:scopeL S38 ⟨[],[]⟩ (rv 5 4 0 7)=[]:=by kernel_rfl
 have h4:inTime ⟨3,0,0⟩ 2 [rv 2 3 1 8,rv 5 3 0 7]=[rv 2 3 1 8,rv 5 3 0 7]:=by kernel_rfl
 have h5:ziG (rv 2 3 1 8)=true:=by kernel_rfl
 rw[zAi (l:=[rv 5 3 0 7,rv 5 3 0 7,rv 2 3 1 8]) (by simp),h1,zlr];have e1:=zBn okS38 (by decide) ⟨[],[]⟩ (by simp) (rv 5 3 0 7);have e2:=zBn okS38 (by decide) ⟨[],[]⟩ (by simp) (rv 5 4 0 7);rw[h2]at e1;rw[h3]at e2;unfold S38 at e1 e2;rw[e1,zgz,e2,zgz,c_InTime _ _ _ (by simp),h4,zzu];rw[cPQ,zjE,show([rv 2 3 1 8,rv 5 3 0 7]:List zaA)[Int.toNat 0]?=some (rv 2 3 1 8)from rfl,zae];rw[cPQ,zce,show([7]:List Int)[Int.toNat 0]?=some 7 from rfl,zae];rw[cPQ,zjE,show([rv 2 3 1 8,rv 5 3 0 7]:List zaA)[Int.toNat 0]?=some (rv 2 3 1 8)from rfl,zae,zDg,h5,zKA,zDf,za7];rfl
set_option maxRecDepth 20000
theorem zK0{l:List zaA}(h:l.length<=24):(appS l).2=0:=by unfold appS;have h1:=zEy l;have h2:=zEz l;rw[iNQ]
theorem reopR_is{r:zbp}{q:zbG}{s:zan}{ev:List zac}{l:List zaA}(hr:chkA r=0)(hq:chkR q=0)(hl:l.length<=24):reopR r q s ev l=(reopS r q s ev (appS l).1,0):=by unfold reopR;rw[if_pos ⟨hr,hq⟩,if_pos (zK0 hl)]
theorem reopS_few{r:zbp}{q:zbG}{s:zan}(hs:zb3 s)(ev:List zac)(c:List zaA):(reopS r q s ev c).length<=60/\∀e∈reopS r q s ev c,e.Pages.length<=1000000:=by unfold reopS;refine⟨?_,λe he=>by rw[zK9 he];simp⟩;have h1:=zKZ (schedL s (reopT s (foldS s ev) c (zqt r s (foldS s ev) (zgA r q s ev c))));have h2:=zvS s (reopT s (foldS s ev) c (zqt r s (foldS s ev) (zgA r q s ev c)));have h3:=hs.scripts.1;omega
set_option maxRecDepth 20000
theorem zJR{r:zbp}{q:zbG}{s:zan}{ev:List zac}{l:List zaA}(hr:chkA r=0)(hq:chkR q=0)(hl:l.length<=24):zyf r q s ev l=(zgA r q s ev (appS l).1,0):=by unfold zyf;rw[if_pos ⟨hr,hq⟩,if_pos (zK0 hl)]
theorem zK5(t:List Int):cw zKW [.sl 1 (List.map zai t)] []=some (zap true):=by
 refine zKY ?_;rw[c_Light,zKA];by_cases ht:(t.length:Int)<=600
 case neg=>rw[decide_eq_false ht,zbe,zaV,c_sane38,zKA];rfl
 rw[decide_eq_true ht,zaF,zaz,c_Roll,zEI];obtain⟨s,d1,e1,hs,hd1⟩:=c_Setup ⟨t,0⟩ ⟨by simp,by grind⟩;obtain⟨a,d2,e2,ha,hpa,hd2⟩:=c_Full d1 s 20 hd1 hs (by omega);obtain⟨b,d3,e3,hb,hpb,hd3⟩:=c_Events d2 s 20 hd2 hs (by omega);obtain⟨l,d4,e4,hl,hd4⟩:=c_Appeals d3 s hd3 hs;obtain⟨r,d5,e5,hr,hd5⟩:=zII d4 hd4;obtain⟨q,d6,e6,hq,hd6⟩:=c_Rule d5 hd5;rw[e1,zw9];simp only;rw[e2,zq2];simp only;rw[e3,zq2];simp only;have hlab:(a++b).length<=140:=by rw[zcb];omega
 have hpg:∀e∈a++b,e.Pages.length<=1000000:=λe he=>by grind
 have hev:OkApp s (a++b) l:=⟨hs.ok,by omega,hpg,by omega⟩
 have hev0:OkApp s (a++b) []:=⟨hs.ok,by omega,hpg,by simp⟩
 have hsd:=hs.ok.seeds;have hcn:=zHG (r:=r) (q:=q) hs.ok (a++b) (appS l).1;have hX:=reopS_few (r:=r) (q:=q) hs.ok (a++b) (appS l).1;have hgl:=fold_len s (few_ev hev);have hasc:=zK1 l;have hc24:=zK2 l;have hr0:reopR r q s (a++b) []=([],0):=by rw[reopR_is hr hq (by simp),appS_nil,reop_none hr]
 simp only[zdm,<-zcC];simp(disch:=omega)only[zad,zaY,zaX,zbx,zao,e4,zvn,e5,zts,e6,zya,zIT hs.ok (show(a++b).length<=2000 by omega) hev.2.2.1,zp6,zK8 hev,zK8 hev0,hr0,zKN,reopR_is hr hq (show l.length<=24 by omega),zLb hev,zmy,zJR hr hq (show l.length<=24 by omega),c_Blamed hev _ hcn.1 (show _<=1000 by omega),zmy,hr,if_true,zAi hev.2.2.2,zlr,zK0 (show l.length<=24 by omega),bne_self_eq_false,zaz];rw[zaN (by simp)];have hRS:reopS r q s (a++b) (appS l).1=openS (schedL s (reopT s (foldS s (a++b)) (appS l).1 (zqt r s (foldS s (a++b)) (zgA r q s (a++b) (appS l).1)))):=rfl
 have hbl:(zqt r s (foldS s (a++b)) (zgA r q s (a++b) (appS l).1)).length<=16:=by have:=hs.ok.markers.1;unfold zqt;rw[zad];exact zbP (zee _ _) this
 rw[hRS]at hX ⊢;clear hRS;generalize zgA r q s (a++b) (appS l).1=ch at *;generalize zqt r s (foldS s (a++b)) ch=bl at *;generalize foldS s (a++b)=M at *;generalize hS:schedL s (reopT s M (appS l).1 bl)=S at *;have hSa:(S.map (·.1)).Pairwise (·< ·):=by rw[<-hS];exact zG1 hs.ok _
 have why:∀p∈S,_:=λp hp=>reop_why (s:=s) (m:=M) (c:=(appS l).1) (bl:=bl) (p:=p) (by rw[hS];exact hp)
 have all:∀x∈(appS l).1,∀n∈scopeL s M x,_:=λx hx n hn=>reop_all (bl:=bl) hasc hx hn
 rw[hS]at all;have hle:(appS l).2=0:=zK0 (by omega);clear hS hev hev0 hr0 hcn e4 e5 e6;generalize appS l=C at *;obtain⟨c,z⟩:=C;simp only at hle hc24 hasc why all hX ⊢;subst hle;have h60:=hX.1
 have hsc:∀x,(scopeL s M x).length<=60:=λx=>by unfold scopeL;rw[zad];exact zbP (zee _ _) hs.ok.scripts.1
 have hScp:∀x:zaA,cw ziN [.agg (zas s),.agg (zbI M),.agg (zaw x)] []=some (zeg (scopeL s M x)):=λx=>zBn hs.ok.scripts (by omega) M (by omega) x
 generalize hR:openS S=R at *
 let T:=some (zap true)
 have l8:∀(i6 j7:Int) (x:zaA) (n:Int),zKL (s,d1) (M,0) (R,0) (c,0) i6 x (scopeL s M x) (w64 (j7+1))=T->(R.any λe=>e.Script==n&&decide (e.Stamp.Time<=x.Stamp.Time))=true->zKF (s,d1) (M,0) (R,0) (c,0) i6 x (scopeL s M x) j7 n false 0=T:=by
  intro i6 j7 x n hk hany;refine zcl R (λi rest=>∀f:Bool,(f||rest.any λe=>e.Script==n&&decide (e.Stamp.Time<=x.Stamp.Time))=true->zKF (s,d1) (M,0) (R,0) (c,0) i6 x (scopeL s M x) j7 n f i=T) ?_ ?_ false (by simpa using hany)
  ·intro f hf;refine zKV ?_;dsimp only;rw[zjm,zga]at hf;rw[zad,zaN (by omega),hf,zaF,zaz];exact hk
  · intro i hi rest _ ih f hf;rw[zfp,<-zKG]at hf;refine zKV ?_;dsimp only;rw[zad,zaB (by omega),cPQ,zah,zcs,zaa hi,zae,w6Q]
    cases f with
    |true=>rw[zaV];grind
    |false =>
      rw[zaz]
      cases h1:R[i].Script==n with
      |true=>rw[zaV];grind
      |false=>rw[zaz];grind
 have l6:zKK (s,d1) (M,0) (R,0) (c,0) 0=T:=by
  refine zcl c (λi rest=>(∀x∈rest,x∈c)->zKK (s,d1) (M,0) (R,0) (c,0) i=T) ?_ ?_ (λ_ h=>h)
  ·intro _;refine zKT ?_;dsimp only;rw[zad,zaN (by omega),c_sane38,zKA];rfl
  · intro i hi rest _ ih hm;refine zKT ?_;dsimp only;have hin:=zar hi;rw[zad,zaB (by omega),cPQ,zah,zjE,zaa hi,zae,hScp,zgz];have hs60:=hsc c[i];refine zcl (scopeL s M c[i]) (λj rest=>(∀n∈rest,n∈scopeL s M c[i])->zKL (s,d1) (M,0) (R,0) (c,0) i c[i] (scopeL s M c[i]) j=T) ?_ ?_ (λ_ h=>h)
    · intro _;refine zKU ?_;rw[zad,zaN (by omega),w6Q]
      grind
    · intro j hj rest2 _ ih2 hm2;refine zKU ?_;rw[zad,zaB (by omega),cPQ,zah,zce,zaa hj,zae];refine l8 _ _ _ _ ?_ (all c[i] hin _ (zar hj));rw[w6Q]
      simp_all
 have l5:∀(i1:Int) (e:zac) (j4:Int) (g:za5) (f0:Bool),zKJ (s,d1) (M,0) (R,0) (bl,0) (c,0) i1 e (f0||bl.any λid=>g.Script==e.Script&&g.Marker==id) (w64 (j4+1))=T->zKE (s,d1) (M,0) (R,0) (bl,0) (c,0) i1 e j4 g f0 0=T:=by
  intro i1 e j4 g f0 hk;refine zcl bl (λi rest=>∀f:Bool,(f||rest.any λid=>g.Script==e.Script&&g.Marker==id)=(f0||bl.any λid=>g.Script==e.Script&&g.Marker==id)->zKE (s,d1) (M,0) (R,0) (bl,0) (c,0) i1 e j4 g f i=T) ?_ ?_ f0 rfl
  ·intro f hf;refine zKS ?_;dsimp only;rw[zjm,zga]at hf;rw[zad,zaN (by omega),hf];exact hk
  · intro i hi rest _ ih f hf;rw[zfp,<-zKG]at hf;refine zKS ?_;dsimp only;rw[zad,zaB (by omega),cPQ,zah,zce,zaa hi,zae,w6Q]
    cases f with
    |true=>rw[zaV];grind
    |false =>
      rw[zaz]
      cases h1:g.Script==e.Script with
      |true=>rw[zaV];grind
      |false=>rw[zaz];grind
 have l4:∀(i1:Nat) (hi1:i1<R.length) (e:zac) (f0:Bool),zKH (s,d1) (M,0) (R,0) (bl,0) (c,0) ((i1:Int)+1)=T->(f0||M.Given.any λg=>bl.any λid=>g.Script==e.Script&&g.Marker==id)=true->zKJ (s,d1) (M,0) (R,0) (bl,0) (c,0) i1 e f0 0=T:=by
  intro i1 hi1 e f0 hk hf0;refine zcl M.Given (λi rest=>∀f:Bool,(f||rest.any λg=>bl.any λid=>g.Script==e.Script&&g.Marker==id)=true->zKJ (s,d1) (M,0) (R,0) (bl,0) (c,0) i1 e f i=T) ?_ ?_ f0 hf0
  ·intro f hf;refine zKR ?_;dsimp only;rw[zjm,zga]at hf;rw[zad,zaN (by omega),hf,zaF,zaz,w6Q];exact hk
  ·intro i hi rest _ ih f hf;rw[zfp,<-zKG]at hf;refine zKR ?_;dsimp only;rw[zad,zaB (by omega),cPQ,zah,zf5,zaa hi,zae];refine l5 _ _ _ _ _ ?_;rw[w6Q];exact ih _ hf
 have l3:∀(i1:Int) (e:zac) (j2:Int) (x:zaA) (f0:Bool),zKD (s,d1) (M,0) (R,0) (bl,0) (c,0) i1 e (f0||(scopeL s M x).any λn=>n==e.Script) (w64 (j2+1))=T->zKI (s,d1) (M,0) (R,0) (bl,0) (c,0) i1 e j2 (scopeL s M x) f0 0=T:=by
  intro i1 e j2 x f0 hk;have hs60:=hsc x;refine zcl (scopeL s M x) (λi rest=>∀f:Bool,(f||rest.any λn=>n==e.Script)=(f0||(scopeL s M x).any λn=>n==e.Script)->zKI (s,d1) (M,0) (R,0) (bl,0) (c,0) i1 e j2 (scopeL s M x) f i=T) ?_ ?_ f0 rfl
  ·intro f hf;refine zKQ ?_;rw[zjm,zga]at hf;rw[zad,zaN (by omega),hf];exact hk
  · intro i hi rest _ ih f hf;rw[zfp,<-zKG]at hf;refine zKQ ?_;rw[zad,zaB (by omega),cPQ,zah,zce,zaa hi,zae,w6Q]
    cases f with
    |true=>rw[zaV];grind
    |false=>rw[zaz];grind
 have l2:∀(i1:Nat) (hi1:i1<R.length) (e:zac),zKH (s,d1) (M,0) (R,0) (bl,0) (c,0) ((i1:Int)+1)=T->((c.any λa=>(scopeL s M a).any λn=>n==e.Script)||M.Given.any λg=>bl.any λid=>g.Script==e.Script&&g.Marker==id)=true->zKD (s,d1) (M,0) (R,0) (bl,0) (c,0) i1 e false 0=T:=by
  intro i1 hi1 e hk hf0;refine zcl c (λi rest=>∀f:Bool,(f||rest.any λa=>(scopeL s M a).any λn=>n==e.Script)=(c.any λa=>(scopeL s M a).any λn=>n==e.Script)->zKD (s,d1) (M,0) (R,0) (bl,0) (c,0) i1 e f i=T) ?_ ?_ false (zei _)
  · intro f hf;refine zKP ?_;dsimp only;rw[zjm,zga]at hf;rw[zad,zaN (by omega)]
    grind
  ·intro i hi rest _ ih f hf;rw[zfp,<-zKG]at hf;refine zKP ?_;dsimp only;rw[zad,zaB (by omega),cPQ,zah,zjE,zaa hi,zae,hScp,zgz];refine l3 _ _ _ _ _ ?_;rw[w6Q];exact ih _ hf
 have loop:∀(n i:Nat),i+n=R.length->zKH (s,d1) (M,0) (R,0) (bl,0) (c,0) i=T:=by
  intro n
  induction n with
  |zero=>intro i hi;refine zKO ?_;dsimp only;rw[zad,zaN (by omega)];exact l6
  |succ n ih =>
    intro i hi;have hlt:i<R.length:=by omega
    obtain⟨p,hp,he⟩:=open_get (L:=S) (i:=i) (by rw[hR];exact hlt);have he':R[i]=openE i p:=by simp only[<-hR];exact he
    obtain⟨w1,w2⟩:=why p (zaq hp);have key:=l2 i hlt R[i] (ih (i+1) (by omega)) (by rw[he'];exact w2);refine zKO ?_;dsimp only
    have hsr:(seedR (seedOf s.Seeds R[i].Script)).2=false:=by
     rw[he'];have:(openE i p).Script=p.1:=rfl;rw[this]
     cases hq:seedOf s.Seeds p.1 with
     |none=>rfl
     |some y=>grind
    have g1:(R[i].Part !=-1)=false:=by rw[he'];rfl
    have g2:(R[i].Stamp.Source !=0)=false:=by rw[he'];rfl
    rw[zad,zaB (by omega),cPQ,zah,zcs,zaa hlt,zae,zod s.Seeds _ (by omega) (zyN hs.ok),ziZ,hsr,zaz,g1,zaz,g2,zaz];by_cases h0:0<i
    · have hlt2:i-1<R.length:=by omega
      obtain⟨p',hp',he2⟩:=open_get (L:=S) (i:=i-1) (by rw[hR];exact hlt2);have he2':R[i-1]=openE (i-1) p':=by simp only[<-hR];exact he2
      have hasc2:p'.1<p.1:=by obtain⟨q1,q2⟩:=zam.1 hp;obtain⟨q3,q4⟩:=zam.1 hp';have:=zcj.1 hSa (i-1) i (by simpa using q3) (by simpa using q1) (by omega);rw[zgo,zgo,q2,q4]at this;exact this
      have hdec:decide (R[i].Script<=R[i-1].Script)=false:=by rw[he',he2'];show decide (p.1<=p'.1)=false;exact decide_eq_false (by omega)
      rw[zaB (by omega),w6Q,cPQ,show((i:Int)-1).toNat=i-1 by omega,zcs,zaa hlt2,zae,hdec,zaz];exact key
    ·rw[zaN (by omega)];exact key
 exact loop R.length 0 (by omega)
end Go.Proofs.YtlecnobdfhlmnaaGreat
namespace Go.Ab
open Go.RowKit
abbrev Old(w:World):Nat->Prop:=λg=>g<w.heap.size
def Rd(P:Program)(w:World)(t:TypeId)(n:Nat){T:Type}(nT:T->List AV):Prop:=
 P.cellsOf t=n/\(∀v,(nT v).length=n)/\∀(H:Type) (enc:TypeId×Value->H) (base:Nat) (spare:Nat->Bool) (held:Bool) (fuel:Nat) (cs:List Value) (x:DataW H×List MemPlace),DataW.trod enc P w base spare held fuel t cs=some x->∃v:T,cs.length=n/\∀(j:Nat) (c:AV) (y:Value),(nT v)[j]?=some c->cs[j]?=some y->CRel (Old w) w c y/\y.oneCell'=true
theorem rd_int{P:Program}{w:World}{t:TypeId}{k:IntKind}(hc:P.cellsOf t=1)(ht:P.underlying t=some (.int k)):Rd P w t 1 (λn:Int=>[AV.v (.int k n)]):=by
 refine⟨hc,λ_=>rfl,λH enc base spare held fuel cs x h=>?_⟩;obtain⟨n,rfl,_,_⟩:=DataW.trod_int ht h;refine⟨n,rfl,λj c y h1 h2=>?_⟩
 cases j with
 |zero=>simp at h1 h2;subst h1;subst h2;exact⟨.v _,rfl⟩
 |succ j=>simp at h1
theorem list_of{T:Type}{R:Nat->T->Prop}:∀n:Nat,(∀i,i<n->∃v,R i v)->∃l:List T,l.length=n/\∀i v,l[i]?=some v->R i v
 |0,_=>⟨[],rfl,λi v h=>by simp at h⟩
 |n+1,h=>by
   obtain⟨l,h1,h2⟩:=list_of n (λi hi=>h i (by omega));obtain⟨v,hv⟩:=h n (by omega);refine⟨l++[v],by simp[h1],λi u hu=>?_⟩;by_cases hi:i<n
   ·rw[zd8 (by omega)]at hu;exact h2 i u hu
   · have hlt:=(zam.1 hu).1;simp at hlt;have:i=l.length:=by omega
     subst this;rw[List.getElem?_append_right (by omega)]at hu;simp at hu;subst hu;rw[h1];exact hv
theorem rd_slice{P:Program}{w:World}{t e:TypeId}{n:Nat}{T:Type}{nT:T->List AV}(hc:P.cellsOf t=1)(ht:P.underlying t=some (.slice e))(hn:0<n)(he:Rd P w e n nT):Rd P w t 1 (λl:List T=>[AV.sl n (l.map nT)]):=by
 refine⟨hc,λ_=>rfl,λH enc base spare held fuel cs x h=>?_⟩
 have done:∀(l:List T) (y:Value),CRel (Old w) w (.sl n (l.map nT)) y->y.oneCell'=true->∃v:List T,[y].length=1/\∀(j:Nat) (c:AV) (z:Value),[AV.sl n (v.map nT)][j]?=some c->[y][j]?=some z->CRel (Old w) w c z/\z.oneCell'=true:=by
  intro l y hy h1;refine⟨l,rfl,λj c z hj hz=>?_⟩
  cases j with
  |zero=>simp at hj hz;subst hj;subst hz;exact⟨hy,h1⟩
  |succ j=>simp at hj
 rcases DataW.trod_slice ht h with⟨rfl,_⟩|⟨a,len,cap,elems,rest,m,rfl,rfl,_,hb,hl,_,hlen,hel,_,_⟩
 ·exact done [] _ (CRel.nil_sl n) rfl
 · have each:∀i,i<len->∃v:T,a.block<w.heap.size/\∀(j:Nat) (c:AV),(nT v)[j]?=some c->∃y,w.cell? (a.add (i*n+j))=some y/\CRel (Old w) w c y/\y.oneCell'=true:=by
    intro i hi;have h1:=hel i hi;rw[zaa (by omega),he.1]at h1;obtain⟨cs',h2,h3⟩:=Option.bind_eq_some_iff.1 h1;obtain⟨v,h4,h5⟩:=he.2.2 H enc base spare held m cs' _ h3;obtain⟨h6,h7,h8⟩:=World.cells?_some h2;have hblk:=World.cells?_block h2 hn;rw[zmn]at hblk;refine⟨v,hblk,λj c hj=>?_⟩;have hjn:j<n:=by have:=(zam.1 hj).1;rw[he.2.1]at this;exact this
    have h9:=h8 j hjn;rw[Go.Addr.add_add]at h9;have h10:cs'[j]?=some (cs'[j]'(by omega)):=zaa (by omega);refine⟨cs'[j]'(by omega),by rw[h9,h10],h5 j c _ hj h10⟩
   obtain⟨l,hll,hlr⟩:=list_of len each;refine done l _ (.sl n _ (some a) len cap (λi j=>(w.cell? (a.add (i*n+j))).getD undef) (by simp;omega) hl (λcs hcs=>by obtain⟨v,_,rfl⟩:=zbs.1 hcs;exact he.2.1 v) ?_ ?_) rfl
   · cases l with
     |nil=>left;rfl
     |cons v l'=>right;refine⟨a,rfl,(hlr 0 v rfl).1,λi j cs c h1 h2=>?_⟩;rw[zbC]at h1;obtain⟨u,hu,rfl⟩:=zcW.1 h1;obtain⟨y,hy,hr,ho⟩:=(hlr i u hu).2 j c h2;rw[hy];exact⟨rfl,ho⟩
   ·intro i j cs c h1 h2;rw[zbC]at h1;obtain⟨u,hu,rfl⟩:=zcW.1 h1;obtain⟨y,hy,hr,ho⟩:=(hlr i u hu).2 j c h2;rw[hy];exact hr
theorem arg_cell{P:Program}{w:World}{t:TypeId}{T:Type}{f:T->AV}(hr:Rd P w t 1 (λv=>[f v])){H:Type}{enc:TypeId×Value->H}{base:Nat}{spare:Nat->Bool}{held:Bool}{y:Value}(hy:y.cells.toList=[y]){d:DataW H}{ps:List MemPlace}
  (h:DataW.Trod enc P w base spare held t y d ps) {κ:Kap} {D:Nat->Prop}:∃v:T,VRel (Old w) κ D w (f v) y:=by
 obtain⟨fuel,hf⟩:=h;rw[hy]at hf;obtain⟨v,_,h2⟩:=hr.2.2 H enc base spare held fuel _ _ hf;exact⟨v,.c (h2 0 _ _ rfl rfl).1⟩
end Go.Ab
end
