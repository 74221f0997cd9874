/- appeal.Reopened by hand: a range over a map, in whatever order. -/
import Derived.Test.YtlecnobdfhlmnaaGreatJ6
import Derived.Test.YtlecnobdfhlmnaaGreatJ5
import Derived.Control
import Derived.Test.YtlecnobdfhlmnaaGreatJ0
import Derived.Test.YtlecnobdfhlmnaaGreatJ4
import Derived.Test.YtlecnobdfhlmnaaGreatAb9
import Derived.OpenShut
import Derived.DataElems
import Derived.ChangeArms
set_option linter.unusedSimpArgs false
set_option linter.unusedVariables false
noncomputable section
namespace Go.Proofs.YtlecnobdfhlmnaaGreat
open Go.Ab
set_option maxRecDepth 100000
def rpC:Code:=(zKB.fn.body).getD .skip
def rpO(j:Nat):Array Oper:=opsAt j rpC
def rpD(j:Nat):Bool:=zur j rpC
theorem rp_hb:zKB.fn.body=some rpC:=by kernel_rfl
theorem rp_shape:rpC=(.seq (.region 0 (rpO 0) (rpD 0)) (.seq (.region 1 (rpO 1) (rpD 1)) (.seq (.seq (.region 2 (rpO 2) (rpD 2)) (.cond (.tmp 39) (.seq (.region 3 (rpO 3) (rpD 3)) .ret) .skip)) (.seq (.region 4 (rpO 4) (rpD 4)) (.seq (.seq (.region 5 (rpO 5) (rpD 5)) (.cond (.tmp 47) (.seq (.region 6 (rpO 6) (rpD 6)) .ret) .skip)) (.seq (.region 7 (rpO 7) (rpD 7)) (.seq (.seq (.region 8 (rpO 8) (rpD 8)) (.cond (.tmp 56) (.seq (.region 9 (rpO 9) (rpD 9)) .ret) .skip)) (.seq (.region 10 (rpO 10) (rpD 10)) (.seq (.region 11 (rpO 11) (rpD 11)) (.seq (.seq (.region 12 (rpO 12) (rpD 12)) (.block 0 (.loop (.seq (.region 13 (rpO 13) (rpD 13)) (.seq (.cond (.tmp 62) .skip (.exit 0)) (.seq (.block 1 (.seq (.region 14 (rpO 14) (rpD 14)) (.seq (.region 15 (rpO 15) (rpD 15)) (.seq (.region 16 (rpO 16) (rpD 16)) (.block 2 (.loop (.seq (.region 17 (rpO 17) (rpD 17)) (.seq (.cond (.tmp 76) .skip (.exit 2)) (.seq (.block 3 (.seq (.region 18 (rpO 18) (rpD 18)) (.region 19 (rpO 19) (rpD 19)))) (.region 20 (rpO 20) (rpD 20))))))))))) (.region 21 (rpO 21) (rpD 21)))))))) (.seq (.region 22 (rpO 22) (rpD 22)) (.seq (.seq (.region 23 (rpO 23) (rpD 23)) (.block 4 (.loop (.seq (.region 24 (rpO 24) (rpD 24)) (.seq (.cond (.tmp 96) .skip (.exit 4)) (.seq (.block 5 (.seq (.region 25 (rpO 25) (rpD 25)) (.seq (.region 26 (rpO 26) false) (.block 6 (.loop (.seq (.region 27 (rpO 27) false) (.seq (.cond (.tmp 104) .skip (.exit 6)) (.block 7 (.seq (.region 28 (rpO 28) false) (.seq (.region 29 (rpO 29) (rpD 29)) (.cond (.tmp 110) (.region 30 (rpO 30) (rpD 30)) .skip))))))))))) (.region 31 (rpO 31) (rpD 31)))))))) (.seq (.region 32 (rpO 32) (rpD 32)) (.seq (.seq (.region 33 (rpO 33) (rpD 33)) (.seq (.region 34 (rpO 34) (rpD 34)) (.cond (.tmp 126) (.seq (.region 35 (rpO 35) (rpD 35)) .ret) .skip))) (.seq (.region 36 (rpO 36) (rpD 36)) .ret))))))))))))))):=by kernel_rfl
theorem rp_r0:regOf 0 rpC=some (.region 0 (rpO 0) (rpD 0)):=by kernel_rfl
theorem rp_r1:regOf 1 rpC=some (.region 1 (rpO 1) (rpD 1)):=by kernel_rfl
theorem rp_r2:regOf 2 rpC=some (.region 2 (rpO 2) (rpD 2)):=by kernel_rfl
theorem rp_r3:regOf 3 rpC=some (.region 3 (rpO 3) (rpD 3)):=by kernel_rfl
theorem rp_r4:regOf 4 rpC=some (.region 4 (rpO 4) (rpD 4)):=by kernel_rfl
theorem rp_r5:regOf 5 rpC=some (.region 5 (rpO 5) (rpD 5)):=by kernel_rfl
theorem rp_r7:regOf 7 rpC=some (.region 7 (rpO 7) (rpD 7)):=by kernel_rfl
theorem rp_r8:regOf 8 rpC=some (.region 8 (rpO 8) (rpD 8)):=by kernel_rfl
theorem rp_r10:regOf 10 rpC=some (.region 10 (rpO 10) (rpD 10)):=by kernel_rfl
theorem rp_r11:regOf 11 rpC=some (.region 11 (rpO 11) (rpD 11)):=by kernel_rfl
theorem rp_r12:regOf 12 rpC=some (.region 12 (rpO 12) (rpD 12)):=by kernel_rfl
theorem rp_r13:regOf 13 rpC=some (.region 13 (rpO 13) (rpD 13)):=by kernel_rfl
theorem rp_r14:regOf 14 rpC=some (.region 14 (rpO 14) (rpD 14)):=by kernel_rfl
theorem rp_r15:regOf 15 rpC=some (.region 15 (rpO 15) (rpD 15)):=by kernel_rfl
theorem rp_r16:regOf 16 rpC=some (.region 16 (rpO 16) (rpD 16)):=by kernel_rfl
theorem rp_r17:regOf 17 rpC=some (.region 17 (rpO 17) (rpD 17)):=by kernel_rfl
theorem rp_r18:regOf 18 rpC=some (.region 18 (rpO 18) (rpD 18)):=by kernel_rfl
theorem rp_r19:regOf 19 rpC=some (.region 19 (rpO 19) (rpD 19)):=by kernel_rfl
theorem rp_r20:regOf 20 rpC=some (.region 20 (rpO 20) (rpD 20)):=by kernel_rfl
theorem rp_r21:regOf 21 rpC=some (.region 21 (rpO 21) (rpD 21)):=by kernel_rfl
theorem rp_r22:regOf 22 rpC=some (.region 22 (rpO 22) (rpD 22)):=by kernel_rfl
theorem rp_r23:regOf 23 rpC=some (.region 23 (rpO 23) (rpD 23)):=by kernel_rfl
theorem rp_r24:regOf 24 rpC=some (.region 24 (rpO 24) (rpD 24)):=by kernel_rfl
theorem rp_r25:regOf 25 rpC=some (.region 25 (rpO 25) (rpD 25)):=by kernel_rfl
theorem rp_r26:regOf 26 rpC=some (.region 26 (rpO 26) false):=by kernel_rfl
theorem rp_r28:regOf 28 rpC=some (.region 28 (rpO 28) false):=by kernel_rfl
theorem rp_r29:regOf 29 rpC=some (.region 29 (rpO 29) (rpD 29)):=by kernel_rfl
theorem rp_r30:regOf 30 rpC=some (.region 30 (rpO 30) (rpD 30)):=by kernel_rfl
theorem rp_r31:regOf 31 rpC=some (.region 31 (rpO 31) (rpD 31)):=by kernel_rfl
theorem rp_r32:regOf 32 rpC=some (.region 32 (rpO 32) (rpD 32)):=by kernel_rfl
theorem rp_r33:regOf 33 rpC=some (.region 33 (rpO 33) (rpD 33)):=by kernel_rfl
theorem rp_r34:regOf 34 rpC=some (.region 34 (rpO 34) (rpD 34)):=by kernel_rfl
theorem rp_r36:regOf 36 rpC=some (.region 36 (rpO 36) (rpD 36)):=by kernel_rfl
theorem rp_n:zKB.fn.ntmps<=1000:=by decide
theorem rp_enters:enters zKB.P zB7=true:=by kernel_rfl
noncomputable section
abbrev NR:Nat:=zKB.fn.ntmps
abbrev PR:Program:=zKB.P
abbrev e58(M:List (Int×Int)):Nat×Ent:=(58,gO (mR M))
abbrev e15(m:za9):Nat×Ent:=(15,pR m)
abbrev s39(ev:List zac):Nat×AV:=(3,.sl 9 (mA ev))
abbrev stP(r:zbp)(s:zan)(ev:List zac)(ch:List Int)(m:za9)(M:List (Int×Int))(g:Int)(lt:List (Nat×AV)):St:=
 ⟨[s39 ev,(5,.loc 5 3 0 0),(7,.loc 7 9 0 0),(12,.sl 1 (List.map zai ch)),(15,.loc 15 2 0 0),(16,.map 58),(17,I g)]++lt,[(5,pQ r),(7,pJ s),e15 m,e58 M]⟩
abbrev ltC(c:List zaA)(i:Int):List (Nat×AV):=[(59,.sl 6 (mE c)),(60,I (mE c).length),(61,I i)]
abbrev stX(r:zbp)(s:zan)(ev:List zac)(ch:List Int)(m:za9)(M:List (Int×Int))(g:Int)(x:zaA)(lt:List (Nat×AV)):St:=
 ⟨[s39 ev,(5,.loc 5 3 0 0),(7,.loc 7 9 0 0),(12,.sl 1 (List.map zai ch)),(15,.loc 15 2 0 0),(16,.map 58),(17,I g),(19,.loc 19 6 0 0)]++lt,[(5,pQ r),(7,pJ s),e15 m,(19,pL x),e58 M]⟩
abbrev ltS(sc:List Int)(j:Int):List (Nat×AV):=[(73,.sl 1 (List.map zai sc)),(74,I (List.map zai sc).length),(75,I j)]
abbrev stQ(ev:List zac)(m:za9)(M:List (Int×Int))(g:Int)(sd:List (Int×Bool))(bl:List Int)(i:Int)(lt:List (Nat×AV)):St:=
 ⟨[s39 ev,(15,.loc 15 2 0 0),(16,.map 58),(17,I g),(22,.map 88),(93,.row 93 1 0 (List.map zai bl).length),(94,I (List.map zai bl).length),(95,I i)]++lt,[e15 m,e58 M,(88,gN (mO sd)),(93,⟨1,zcO,List.map zai bl,false⟩)]⟩
def at25(k:Int)(st:St):St:=⟨st.t.take 5++(25,I k)::st.t.drop 5,st.m⟩
theorem Times.congr{s:zan}{f f':zaT->Option Int}{M:List (Int×Int)}(h:Times s f M)(e:∀x∈s.Scripts,f x=f' x):Times s f' M:=⟨h.nd,h.num,λx hx=>(h.val x hx).trans (e x hx)⟩
def keysV(kv sd:List (Int×Bool))(done:List Nat):List Int:=(done.filterMap λj=>(kv[j]?).map (·.1)).filter λk=>!(mfind k sd).getD false
theorem keysV_snoc(kv sd:List (Int×Bool))(done:List Nat){j:Nat}{p:Int×Bool}(h:kv[j]?=some p):keysV kv sd (done++[j])=keysV kv sd done++(if(mfind p.1 sd).getD false then[]else[p.1]):=by
 unfold keysV
 grind
theorem mem_keysV{kv sd:List (Int×Bool)}{done:List Nat}(h1:∀i∈done,i<kv.length)(h2:∀i,i<kv.length->i∈done)(k:Int):k∈keysV kv sd done↔k∈kv.map (·.1)/\(mfind k sd).getD false=false:=by
 unfold keysV;rw[zcc,zel]
 have e:(∃a,a∈done/\Option.map (λx=>x.1) kv[a]?=some k)↔k∈kv.map (·.1):=by
  rw[zbs];constructor
  ·grind
  · rintro⟨p,hp,rfl⟩
    obtain⟨i,hi,rfl⟩:=zbz.1 hp
    grind
 rw[e];simp
theorem zLe(l:List Int)(k t:Int)(M:List (Int×Int)):addL (l++[k]) t M=addT k t (addL l t M):=by
 unfold addL
 simp_all
section
variable{w0:World}{S0:Nat->Prop}{κ0:Kap}{K:Nat->Prop}{a:Act}{w:World}
theorem rpStep{j:Nat}{st st':St}{X:Sat2}(hX:Stable X)(hr:regOf j rpC=some (.region j (rpO j) (rpD j)))(ht:tReg zKB zT j st=some st')
  (h:NowP w0 S0 κ0 K NR X st a w) {Q:Exit->Act->World->Prop} (hQ:∀a' w',NowP w0 S0 κ0 K NR X st' a' w'->Q .normal a' w'):(Code.region j (rpO j) (rpD j)).wp PR Q a w:=stepP hX rp_hb rp_n hr ht h hQ
theorem rp_scope{r:zbp}{s:zan}{ev:List zac}{ch:List Int}{m:za9}{M:List (Int×Int)}{g:Int}{c:List zaA}{i:Int}{x:zaA}{sc:List Int}(hsc:sc.length<=1000)
  (h:NowP w0 S0 κ0 K NR X0 (stX r s ev ch m M g x (ltC c i++ltS sc 0)) a w) {Q:Exit->Act->World->Prop}
  (hQ:∀a' w',NowP w0 S0 κ0 K NR X0 (stP r s ev ch m (addL sc x.Stamp.Time M) g (ltC c i)) a' w'->Q .normal a' w'):(Code.block 2 (.loop (.seq (.region 17 (rpO 17) (rpD 17)) (.seq (.cond (.tmp 76) .skip (.exit 2)) (.seq (.block 3 (.seq (.region 18 (rpO 18) (rpD 18)) (.region 19 (rpO 19) (rpD 19)))) (.region 20 (rpO 20) (rpD 20))))))).wp PR Q a w:=by
 refine wp_block (wp_loop (λa w=>∃k:Nat,k<=sc.length/\NowP w0 S0 κ0 K NR X0 (stX r s ev ch m (addL (sc.take k) x.Stamp.Time M) g x (ltC c i++ltS sc k)) a w) (λa _=>sc.length-cnt a 75) ⟨0,zdh _,h⟩ ?_)
 rintro a w ⟨k,hk,hn⟩
 have hc0:cnt a 75=k:=by rw[hn.cnt (n:=(k:Int)) rfl];simp
 generalize hM:addL (sc.take k) x.Stamp.Time M=Mk at hn;refine wp_seq (rpStep Stable.none rp_r17 (re17 r s ev ch c m Mk g _ i x sc _ k) hn (λa2 w2 h2=>?_));refine wp_seq (wp_cond (h2.bool (b:=decide ((k:Int)<(List.map zai sc).length)) rfl) ?_);by_cases hlt:k<sc.length
 case neg=>rw[decide_eq_false (by simp;omega),iNs];rw[zaJ (by omega)]at hM;exact wp_exit (hQ _ _ (by rw[hM];exact h2.trim Stable.none [3,5,7,12,15,16,17,59,60,61] [19] (by kernel_rfl)))
 rw[decide_eq_true (by simp;omega),if_pos rfl];refine wp_skip ?_;have h3:=h2.trim Stable.none [3,5,7,12,15,16,17,19,59,60,61,73,74,75] [] (st':=stX r s ev ch m Mk g x (ltC c i++ltS sc k)) (by kernel_rfl);have t18:=re18 r s ev ch c m Mk g (mE c).length i x sc (List.map zai sc).length k;rw[cPQ,zce,show((k:Int)).toNat=k from rfl,zaa hlt,zae]at t18;refine wp_seq (wp_block (wp_seq (rpStep Stable.none rp_r18 t18 h3 (λa4 w4 h4=>?_))));have t19:=re19 r s ev ch c m Mk g (mE c).length i x sc (List.map zai sc).length k sc[k];rw[c_add,zt4]at t19;refine rpStep Stable.none rp_r19 t19 h4 (λa5 w5 h5=>?_);have t20:=re20 r s ev ch c m (addT sc[k] x.Stamp.Time Mk) g (mE c).length i x sc (List.map zai sc).length k;rw[w6Q]at t20;refine rpStep Stable.none rp_r20 t20 h5 (λa6 w6 h6=>⟨⟨k+1,hlt,?_⟩,?_⟩)
 ·rw[zco hlt,zLe,hM];exact h6
 · have:cnt a6 75=k+1:=by rw[h6.cnt (n:=(k:Int)+1) rfl];omega
   omega
theorem rp_appeals{r:zbp}{s:zan}(hs:zb3 s){ev:List zac}{ch:List Int}{m:za9}(hm:m.Given.length<=1000000){c:List zaA}(hc:c.length<=24)
  (h:NowP w0 S0 κ0 K NR X0 (stP r s ev ch m [] 0 (ltC c 0)) a w) {Q:Exit->Act->World->Prop}
  (hQ:∀a' w',NowP w0 S0 κ0 K NR X0 (stP r s ev ch m (schedM s m c []) (lastT c) []) a' w'->Q .normal a' w'):(Code.block 0 (.loop (.seq (.region 13 (rpO 13) (rpD 13)) (.seq (.cond (.tmp 62) .skip (.exit 0)) (.seq (.block 1 (.seq (.region 14 (rpO 14) (rpD 14)) (.seq (.region 15 (rpO 15) (rpD 15)) (.seq (.region 16 (rpO 16) (rpD 16)) (.block 2 (.loop (.seq (.region 17 (rpO 17) (rpD 17)) (.seq (.cond (.tmp 76) .skip (.exit 2)) (.seq (.block 3 (.seq (.region 18 (rpO 18) (rpD 18)) (.region 19 (rpO 19) (rpD 19)))) (.region 20 (rpO 20) (rpD 20))))))))))) (.region 21 (rpO 21) (rpD 21))))))).wp PR Q a w:=by
 refine wp_block (wp_loop (λa w=>∃k:Nat,k<=c.length/\NowP w0 S0 κ0 K NR X0 (stP r s ev ch m (schedM s m (c.take k) []) (lastT (c.take k)) (ltC c k)) a w) (λa _=>c.length-cnt a 61) ⟨0,zdh _,h⟩ ?_)
 rintro a w ⟨k,hk,hn⟩
 have hc0:cnt a 61=k:=by rw[hn.cnt (n:=(k:Int)) rfl];simp
 generalize hM:schedM s m (c.take k) []=Mk at hn;generalize hg:lastT (c.take k)=g at hn;refine wp_seq (rpStep Stable.none rp_r13 (re13 r s ev ch c m Mk g _ k) hn (λa2 w2 h2=>?_));refine wp_seq (wp_cond (h2.bool (b:=decide ((k:Int)<(mE c).length)) rfl) ?_);by_cases hlt:k<c.length
 case neg=>rw[decide_eq_false (by simp;omega),iNs];rw[zaJ (by omega)]at hM hg;exact wp_exit (hQ _ _ (by rw[hM,hg];exact h2.trim Stable.none [3,5,7,12,15,16,17] [] (by kernel_rfl)))
 rw[decide_eq_true (by simp;omega),if_pos rfl];refine wp_skip ?_;have h3:=h2.trim Stable.none [3,5,7,12,15,16,17,59,60,61] [] (st':=stP r s ev ch m Mk g (ltC c k)) (by kernel_rfl)
 have hnM:schedM s m (c.take (k+1)) []=addL (scopeL s m c[k]) c[k].Stamp.Time Mk:=by rw[zco hlt,<-hM];unfold schedM;rw[zKH];rfl
 have hng:lastT (c.take (k+1))=if g<c[k].Stamp.Time then c[k].Stamp.Time else g:=by rw[zco hlt,<-hg];unfold lastT;rw[zKH];rfl
 have t14:=re14 r s ev ch c m Mk g (mE c).length k;rw[cPQ,zjE,show((k:Int)).toNat=k from rfl,zaa hlt,zae]at t14;generalize c[k]=x at hnM hng t14;refine wp_seq (wp_block (wp_seq (rpStep Stable.none rp_r14 t14 h3 (λa4 w4 h4=>?_))));refine wp_seq (rpStep Stable.none rp_r15 (re15 r s ev ch c m Mk g _ k x) h4 (λa5 w5 h5=>?_));have t16:=re16 r s ev ch c m Mk (if x.Stamp.Time > g then x.Stamp.Time else g) (mE c).length k x;rw[zBn hs.scripts (by have:=hs.seeds;omega) m hm x,zgz]at t16;refine wp_seq (rpStep Stable.none rp_r16 t16 h5 (λa6 w6 h6=>?_))
 have hsl:(scopeL s m x).length<=1000:=by unfold scopeL;rw[zad];have:=zee (scopeB s m x) s.Scripts;have:=hs.scripts.1;omega
 refine rp_scope (c:=c) (i:=(k:Int)) (x:=x) (sc:=scopeL s m x) hsl h6 (λa7 w7 h7=>?_);have t21:=re21 r s ev ch c m (addL (scopeL s m x) x.Stamp.Time Mk) (if x.Stamp.Time > g then x.Stamp.Time else g) (mE c).length k;rw[w6Q]at t21;refine rpStep Stable.none rp_r21 t21 h7 (λa8 w8 h8=>⟨⟨k+1,hlt,?_⟩,?_⟩)
 ·grind
 · have:cnt a8 61=k+1:=by rw[h8.cnt (n:=(k:Int)+1) rfl];omega
   omega
theorem rp_marks{s:zan}{ev:List zac}{m:za9}(hm:m.Given.length<=1000000){M:List (Int×Int)}{g:Int}{sd:List (Int×Bool)}{bl:List Int}{i id:Int}
  (h:NowP w0 S0 κ0 K NR X0 ⟨[s39 ev,(15,.loc 15 2 0 0),(16,.map 58),(17,I g),(22,.map 88),(24,I id),(93,.row 93 1 0 (List.map zai bl).length),(94,I (List.map zai bl).length),(95,I i)],(stQ ev m M g sd bl i []).m⟩ a w) {Q:Exit->Act->World->Prop}
  (hQ:∀ks a' w',(∀k,k∈ks↔marksB m id k=true/\(mfind k sd).getD false=false)->NowP w0 S0 κ0 K NR X0 (stQ ev m (addL ks g M) g sd bl i []) a' w'->Q .normal a' w'):(Code.seq (.region 26 (rpO 26) false) (.block 6 (.loop (.seq (.region 27 (rpO 27) false) (.seq (.cond (.tmp 104) .skip (.exit 6)) (.block 7 (.seq (.region 28 (rpO 28) false) (.seq (.region 29 (rpO 29) (rpD 29)) (.cond (.tmp 110) (.region 30 (rpO 30) (rpD 30)) .skip))))))))).wp PR Q a w:=by
 refine wp_seq (wp_region ?_);have z26:(rpO 26).size=4:=by kernel_rfl
 rw[z26,show List.range 4=List.range' 0 3++[3]from rfl];have t26:=re26 ev m M g sd bl (List.map zai bl).length i id;rw[zEF m id hm,zof]at t26;generalize hkv:setM (markL m id) []=kv at t26;refine segP Stable.none rp_hb rp_n rp_r26 t26 (by rw[z26];decide) h (λa1 w1 h1=>?_);have h2:=(h1.trim Stable.none [101,3,15,16,17,22,93,94,95] [] (st':=⟨(101,.map 101)::(stQ ev m M g sd bl i []).t,(stQ ev m M g sd bl i []).m++[(101,gN (mO kv))]⟩) (by kernel_rfl)).freeze Stable.none rp_n [101] (by kernel_rfl) (st':=⟨(101,.mp (mO kv))::(stQ ev m M g sd bl i []).t,(stQ ev m M g sd bl i []).m⟩) (by kernel_rfl);rw[wpOps_cons];refine zDU (t:=68) (k:=3) (e:=4) (by unfold opIs;kernel_rfl) (by kernel_rfl) (by decide) h2 (m:=101) (d:=102) rfl (λa3 w3 r q en clock h3=>?_);have h4:=h3.trim Rng.stable [3,15,16,17,22,93,94,95,102] [] (st':=stQ ev m (addL (keysV kv sd []) g M) g sd bl i [(102,.v (.pointer (some ⟨r,0,none⟩)))]) (by kernel_rfl);refine zDW (it:=102) (d1:=103) (d2:=104) (r:=r) (stf:=λdone=>stQ ev m (addL (keysV kv sd done) g M) g sd bl i [(102,.v (.pointer (some ⟨r,0,none⟩)))]) [3,15,16,17,22,93,94,95,102] (by kernel_rfl) (by unfold opIs;kernel_rfl) (by unfold opIs;kernel_rfl) (by decide) (by decide) (λ_=>rfl) (λ_ _ _=>by kernel_rfl) ?_ h4 ?_
 · intro done j k v hd hdl hjd hk a w hn
   have hj:j<kv.length:=by have:=(zam.1 hk).1;simpa using this
   have hkj:=zaa hj;rw[zbC,hkj]at hk;simp only[keysV_snoc kv sd done hkj];generalize kv[j]=p at hk hkj ⊢;obtain⟨ky,b⟩:=p;simp only[zbg,zaf,zbX,zax,and_true]at hk;obtain⟨rfl,rfl⟩:=hk;generalize keysV kv sd done=ks at hn ⊢;refine wp_block (wp_seq (wp_region ?_));have z28:(rpO 28).size=3:=by kernel_rfl
   rw[z28,show List.range 3=0::(List.range' 1 2++[])from rfl,wpOps_cons];refine zDD (by unfold opIs;kernel_rfl) (by decide) hn (it:=102) (d:=105) rfl (by rw[zbC,hkj];rfl) (λa1 w1 h1=>?_);have h2:=h1.trim Rng.stable [3,15,16,17,22,93,94,95,102,105] [] (st':=stQ ev m (addL ks g M) g sd bl i [(102,.v (.pointer (some ⟨r,0,none⟩))),(105,.tup [I ky,B b])]) (by kernel_rfl);refine segP Rng.stable rp_hb rp_n rp_r28 (re28 ev m (addL ks g M) g sd bl _ i ⟨r,0,none⟩ ky b) (by rw[z28];decide) h2 (λa3 w3 h3=>?_);have h4:=h3.trim Rng.stable [3,15,16,17,22,25,93,94,95,102] [] (st':=stQ ev m (addL ks g M) g sd bl i [(102,.v (.pointer (some ⟨r,0,none⟩)))]|> at25 ky) (by kernel_rfl);have t29:=re29 ev m (addL ks g M) g sd bl (List.map zai bl).length i ⟨r,0,none⟩ ky;rw[znm]at t29;refine wp_seq (rpStep Rng.stable rp_r29 t29 h4 (λa5 w5 h5=>?_));refine wp_cond (h5.bool (b:=!(mfind ky sd).getD false) rfl) ?_
   cases hsd:(mfind ky sd).getD false with
   |true=>rw[iNs];rw[hsd]at h5;refine wp_skip ⟨rfl,?_⟩;rw[if_pos rfl,zdx];exact h5.trim Rng.stable [3,15,16,17,22,93,94,95,102] [] (by kernel_rfl)
   |false=>rw[if_pos (by simp)];rw[hsd]at h5;have h6:=h5.trim Rng.stable [3,15,16,17,22,25,93,94,95,102] [] (st':=stQ ev m (addL ks g M) g sd bl i [(102,.v (.pointer (some ⟨r,0,none⟩)))]|> at25 ky) (by kernel_rfl);have t30:=re30 ev m (addL ks g M) g sd bl (List.map zai bl).length i ⟨r,0,none⟩ ky;rw[c_add,zt4]at t30;refine rpStep Rng.stable rp_r30 t30 h6 (λa7 w7 h7=>⟨rfl,?_⟩);rw[iNs,zLe];exact h7
 · intro done hd hdl hall a' w' hn;refine hQ (keysV kv sd done) a' w' (λk=>?_) (hn.trim Rng.stable [3,15,16,17,22,93,94,95] [] (by kernel_rfl)).drop;rw[mem_keysV (λi hi=>by simpa using hdl i hi) (λi hi=>hall i (by simpa using hi)),<-hkv,<-zK6];refine and_congr_left' ?_;constructor
   · intro hk
     cases hf:mfind k (setM (markL m id) [])with
     |none=>exact absurd hk (zuc.1 hf)
     |some b =>
       rw[zA7]at hf;simp only[mfind]at hf
       simp_all
   ·intro hk;apply zhw;intro hn;rw[zuc.2 hn]at hk;cases hk
theorem rp_blamed{s:zan}{ev:List zac}{m:za9}(hm:m.Given.length<=1000000)(hg:∀n id,marksB m id n=true->∃x∈s.Scripts,x.Number=n){f:zaT->Option Int}{M:List (Int×Int)}(hM:Times s f M){g:Int}(hf:∀x∈s.Scripts,∀a,f x=some a->a<=g){sd:List (Int×Bool)}{bl:List Int}(hb:bl.length<=1000)
  (h:NowP w0 S0 κ0 K NR X0 (stQ ev m M g sd bl 0 []) a w) {Q:Exit->Act->World->Prop}
  (hQ:∀M' a' w',Times s (λx=>(f x).or (if bl.any (λid=>marksB m id x.Number)=true/\(mfind x.Number sd).getD false=false then some g else none)) M'->NowP w0 S0 κ0 K NR X0 ⟨[s39 ev,(16,.map 58)],[e58 M']⟩ a' w'->Q .normal a' w'):(Code.block 4 (.loop (.seq (.region 24 (rpO 24) (rpD 24)) (.seq (.cond (.tmp 96) .skip (.exit 4)) (.seq (.block 5 (.seq (.region 25 (rpO 25) (rpD 25)) (.seq (.region 26 (rpO 26) false) (.block 6 (.loop (.seq (.region 27 (rpO 27) false) (.seq (.cond (.tmp 104) .skip (.exit 6)) (.block 7 (.seq (.region 28 (rpO 28) false) (.seq (.region 29 (rpO 29) (rpD 29)) (.cond (.tmp 110) (.region 30 (rpO 30) (rpD 30)) .skip))))))))))) (.region 31 (rpO 31) (rpD 31))))))).wp PR Q a w:=by
 refine wp_block (wp_loop (λa w=>∃(k:Nat) (M':List (Int×Int)),k<=bl.length/\Times s (λx=>(f x).or (if(bl.take k).any (λid=>marksB m id x.Number)=true/\(mfind x.Number sd).getD false=false then some g else none)) M'/\NowP w0 S0 κ0 K NR X0 (stQ ev m M' g sd bl k []) a w) (λa _=>bl.length-cnt a 95) ⟨0,M,zdh _,hM.congr (λx hx=>by simp),h⟩ ?_)
 rintro a w ⟨k,M',hk,hT,hn⟩
 have hc0:cnt a 95=k:=by rw[hn.cnt (n:=(k:Int)) rfl];simp
 refine wp_seq (rpStep Stable.none rp_r24 (re24 ev m M' g sd bl _ k) hn (λa2 w2 h2=>?_));refine wp_seq (wp_cond (h2.bool (b:=decide ((k:Int)<(List.map zai bl).length)) rfl) ?_);by_cases hlt:k<bl.length
 case neg=>rw[decide_eq_false (by simp;omega),iNs];rw[zaJ (by omega)]at hT;exact wp_exit (hQ M' _ _ hT (h2.trim Stable.none [3,16] [15,88,93] (by kernel_rfl)))
 rw[decide_eq_true (by simp;omega),if_pos rfl];refine wp_skip ?_;have h3:=h2.trim Stable.none [3,15,16,17,22,93,94,95] [] (st':=stQ ev m M' g sd bl k []) (by kernel_rfl);have t25:=re25 ev m M' g sd bl (List.map zai bl).length k;rw[cPQ,zao (by simp;omega),zce,zaY,show((k:Int)).toNat=k from rfl,zaa hlt,zae]at t25;refine wp_seq (wp_block (wp_seq (rpStep Stable.none rp_r25 t25 h3 (λa4 w4 h4=>?_))));refine rp_marks (s:=s) hm h4 (λks a5 w5 hks h5=>?_);have t31:=re31 ev m (addL ks g M') g sd bl (List.map zai bl).length k;rw[w6Q]at t31;refine rpStep Stable.none rp_r31 t31 h5 (λa6 w6 h6=>⟨⟨k+1,addL ks g M',hlt,?_,h6⟩,?_⟩)
 · refine(hT.addL (l:=ks) (t:=g) (λn hn=>hg n bl[k] ((hks n).1 hn).1) (λx hx b hb=>?_)).congr (λx hx=>?_)
   · cases hfx:f x with
     |some c=>grind
     |none=>simp_all
   · have hkx:=hks x.Number;rw[zco hlt,List.any_append]
     grind
 · have:cnt a6 95=k+1:=by rw[h6.cnt (n:=(k:Int)+1) rfl];omega
   omega
theorem reopR_err{r:zbp}{q:zbG}{s:zan}{ev:List zac}{l:List zaA}(h:(zyf r q s ev l).2≠0):reopR r q s ev l=([],(zyf r q s ev l).2):=by
 unfold reopR zyf at *
 grind
theorem reopR_ok{r:zbp}{q:zbG}{s:zan}{ev:List zac}{l:List zaA}(h:(zyf r q s ev l).2=0):reopR r q s ev l=(reopS r q s ev (appS l).1,0)/\(appS l).2=0/\(zyf r q s ev l).1=zgA r q s ev (appS l).1:=by
 unfold reopR zyf at *
 grind
theorem appS_bd{l:List zaA}{a:zaA}(h:a∈(appS l).1):0<=a.Stamp.Time:=by
 have:=(apKeep_mem.1 (appS_mem h)).2.1;unfold ziG at this;simp only[zaO]at this;obtain⟨⟨h1,_⟩,_⟩:=this;unfold stampB at h1
 simp_all
theorem rp_body{r:zbp}{q:zbG}{s:zan}{ev:List zac}{l:List zaA}(hO:OkApp s ev l)(h:NowP w0 S0 κ0 K NR X0 ⟨[(0,.agg (zck r)),(1,.agg (zcp q)),(2,.agg (zas s)),s39 ev,(4,.sl 6 (mE l))],[]⟩ a w):rpC.wp PR (PostC w0 S0 κ0 K NR .ret (if(zyf r q s ev l).2≠0 then⟨[(10,.v (.slice none 0 0)),(11,I (zyf r q s ev l).2)],[]⟩else⟨[(10,.sl 9 (mA (reopS r q s ev (appS l).1))),(11,I 0)],[]⟩)) a w:=by
 have hs:=hO.1;rw[rp_shape];refine wp_seq (rpStep Stable.none rp_r0 (re0 r q s ev l) h (λa1 w1 h1=>?_));have t1:=re1 r q s ev l;rw[c_Changed hO,zmy]at t1;refine wp_seq (rpStep Stable.none rp_r1 t1 h1 (λa2 w2 h2=>?_));refine wp_seq (wp_seq (rpStep Stable.none rp_r2 (re2 r s ev l _ _) h2 (λa3 w3 h3=>?_)));refine wp_cond (h3.bool (b:=(zyf r q s ev l).2 !=0) rfl) ?_;by_cases hE:(zyf r q s ev l).2=0
 case neg=>rw[if_pos (show((zyf r q s ev l).2 !=0)=true by simpa using hE),if_pos hE];have h4:=h3.trim Stable.none [13] [5,7] (st':=⟨[(13,I (zyf r q s ev l).2)],[]⟩) (by kernel_rfl);refine wp_seq (rpStep Stable.none rp_r3 (re3 _) h4 (λa5 w5 h5=>?_));refine wp_ret ⟨rfl,?_⟩;obtain⟨S,κ,hg,_⟩:=h5;exact⟨S,κ,hg⟩
 rw[if_neg (show¬((zyf r q s ev l).2 !=0)=true by simpa using hE),if_neg (by simpa using hE)];refine wp_skip ?_;obtain⟨_,hA,hch⟩:=reopR_ok hE;have h4:=h3.trim Stable.none [3,4,5,7,12] [] (st':=⟨[s39 ev,(4,.sl 6 (mE l)),(5,.loc 5 3 0 0),(7,.loc 7 9 0 0),(12,.sl 1 (List.map zai (zyf r q s ev l).1))],[(5,pQ r),(7,pJ s)]⟩) (by kernel_rfl);rw[hch]at h4;have hcas:=zLl (r:=r) (q:=q) hs ev (appS l).1;have hcfew:=zLm (r:=r) (q:=q) hs ev (appS l).1;have hc24:=appS_few l;have hasc:=appS_asc l;have hpos:=λa (ha:a∈(appS l).1)=>appS_bd ha
 unfold reopS;generalize zgA r q s ev (appS l).1=ch at h4 hcas hcfew;have t4:=re4 r s ev l ch;rw[zAi hO.2.2.2,zlr]at t4;refine wp_seq (rpStep Stable.none rp_r4 t4 h4 (λa5 w5 h5=>?_));generalize appS l=ap at h5 hA hc24 hasc hpos;obtain⟨c,e0⟩:=ap;simp only at hA hc24 hasc hpos;subst hA;refine wp_seq (wp_seq (rpStep Stable.none rp_r5 (re5 r s ev ch c 0) h5 (λa6 w6 h6=>?_)));refine wp_cond (h6.bool (b:=false) rfl) ?_;rw[iNs];refine wp_skip ?_;have h7:=h6.trim Stable.none [3,5,7,12,14] [] (st':=⟨[s39 ev,(5,.loc 5 3 0 0),(7,.loc 7 9 0 0),(12,.sl 1 (List.map zai ch)),(14,.sl 6 (mE c))],[(5,pQ r),(7,pJ s)]⟩) (by kernel_rfl);have t7:=re7 r s ev ch c;rw[c_fold_d hs (few_ev hO),zp6]at t7;refine wp_seq (rpStep Stable.none rp_r7 t7 h7 (λa8 w8 h8=>?_));have hsm:=zys hs (few_ev hO)
 have hgv:∀n id,marksB (foldS s ev) id n=true->∃x∈s.Scripts,x.Number=n:=λn id hb=>by obtain⟨y,hy,e⟩:=zfN.1 hb;simp only[zaO,beq_iff_eq]at e;rw[<-e.2];exact zLj (zyr hs hy).1
 generalize foldS s ev=m at h8 hsm hgv;refine wp_seq (wp_seq (rpStep Stable.none rp_r8 (re8 r s ev ch c m 0) h8 (λa9 w9 h9=>?_)));refine wp_cond (h9.bool (b:=false) rfl) ?_;rw[iNs];refine wp_skip ?_;have h10:=h9.trim Stable.none [3,5,7,12,14,15] [] (st':=⟨[s39 ev,(5,.loc 5 3 0 0),(7,.loc 7 9 0 0),(12,.sl 1 (List.map zai ch)),(14,.sl 6 (mE c)),(15,.loc 15 2 0 0)],[(5,pQ r),(7,pJ s),e15 m]⟩) (by kernel_rfl);refine wp_seq (rpStep Stable.none rp_r10 (re10 r s ev ch c m) h10 (λa11 w11 h11=>?_));refine wp_seq (rpStep Stable.none rp_r11 (re11 r s ev ch c m) h11 (λa12 w12 h12=>?_));refine wp_seq (wp_seq (rpStep Stable.none rp_r12 (re12 r s ev ch c m 0) h12 (λa13 w13 h13=>?_)));refine rp_appeals hs hsm.1 hc24 h13 (λa14 w14 h14=>?_);have hT:=zKw hs m hasc
 have hlast:∀x∈s.Scripts,∀a,timeS s m c x=some a->a<=lastT c:=λx hx a ha=>by obtain⟨y,hy,_,rfl⟩:=timeS_mem ha;exact(lastT_ge c 0).2 y hy
 have t22:=re22 r s ev ch c m (schedM s m c []) (lastT c);rw[c_seeds s (by have:=hs.seeds;omega),zof]at t22;refine wp_seq (rpStep Stable.none rp_r22 t22 h14 (λa15 w15 h15=>?_));have t23:=re23 r s ev ch c m (schedM s m c []) (lastT c) (setM (s.Seeds.map (·.Script)) []);rw[c_blamed r hs m hsm.1 ch (hcas.imp λh e=>by omega) (by omega),znC]at t23;refine wp_seq (wp_seq (rpStep Stable.none rp_r23 t23 h15 (λa16 w16 h16=>?_)))
 have hbl:(zqt r s m ch).length<=1000:=by unfold zqt;rw[zad];have:=zee (λx:za3=>x.Level==1&&decide (r.Fails<=(ch.filter (marksB m x.ID)).length)) s.Markers;have:=hs.markers.1;omega
 refine rp_blamed (s:=s) hsm.1 hgv hT hlast hbl h16 (λM' a17 w17 hM' h17=>?_)
 have hM2:Times s (reopT s m c (zqt r s m ch)) M':=hM'.congr (λx hx=>by
  unfold reopT;rw[zK7]
  grind)
 have t32:=re32 ev M';rw[c_open hs hM2,ztP]at t32;refine wp_seq (rpStep Stable.none rp_r32 t32 h17 (λa18 w18 h18=>?_));have hfew:=zK3 hO (reopT s m c (zqt r s m ch));have holen:=zvS s (reopT s m c (zqt r s m ch));have h60:=hs.scripts.1;have hev:=hO.2.1;have hol:=zK0 (schedL s (reopT s m c (zqt r s m ch)));generalize openS (schedL s (reopT s m c (zqt r s m ch)))=o at h18 hfew hol ⊢;have t33:=re33 ev o;rw[c_with ev o (by omega) (by omega),ztP]at t33;rw[show cw zcB [sC (ev++o)] []=some (ze3 (canonS (ev++o),0))from c_canon false hfew,zKJ]at t33;refine wp_seq (wp_seq (rpStep Stable.none rp_r33 t33 h18 (λa19 w19 h19=>?_)));refine wp_seq (rpStep Stable.none rp_r34 (re34 o 0) h19 (λa20 w20 h20=>?_));refine wp_cond (h20.bool (b:=false) rfl) ?_;rw[iNs];refine wp_skip ?_;have h21:=h20.trim Stable.none [26] [] (st':=⟨[(26,.sl 9 (mA o))],[]⟩) (by kernel_rfl);refine wp_seq (rpStep Stable.none rp_r36 (re36 o) h21 (λa22 w22 h22=>?_));refine wp_ret ⟨rfl,?_⟩;obtain⟨S,κ,hg,_⟩:=h22;exact⟨S,κ,hg⟩
end
theorem zLo:CallOK zP (single zB7 zOrc):=by
 intro f args ms r ms' h;unfold single at h;split at h
 case isFalse=>cases h
 rename_i hf;subst hf
 cases ms with
 |cons a m =>
   have hz:zOrc zB7 args (a::m)=none:=by unfold zOrc;simp(decide:=true) only [if_false,if_true]
   grind
 |nil =>
 have hz:zOrc zB7 args []=zKS args:=by unfold zOrc;simp(decide:=true) only [if_false,if_true]
 rw[hz]at h;clear hz;unfold zKS at h;split at h
 case isFalse=>cases h
 rename_i hex;have hsp:=hex.choose_spec.choose_spec.choose_spec.choose_spec.choose_spec;generalize hex.choose_spec.choose_spec.choose_spec.choose_spec.choose=l at h hsp;generalize hex.choose_spec.choose_spec.choose_spec.choose=ev at h hsp;generalize hex.choose_spec.choose_spec.choose=s at h hsp;generalize hex.choose_spec.choose=q at h hsp;generalize hex.choose=r0 at h hsp;obtain⟨rfl,hO⟩:=hsp;injection h with h;injection h with h1 h2;subst h1 h2;refine⟨rp_enters,λw S κ vals hvl hS hv hms hinj=>?_⟩;have hf:zKB.P.funcs[zB7]?=some zKB.fn:=by kernel_rfl
 refine zqw (args:=argR r0 q s ev l) (frz:=false) (ex:=.ret) hf rp_hb (show 5<=zKB.fn.ntmps by decide) hvl hS hv hms hinj (λid=>by simp) (λa hg=>?_) (st:=if(zyf r0 q s ev l).2≠0 then⟨[(10,.v (.slice none 0 0)),(11,I (zyf r0 q s ev l).2)],[]⟩else⟨[(10,.sl 9 (mA (reopS r0 q s ev (appS l).1))),(11,I 0)],[]⟩) ?_ ?_ ?_
 ·obtain⟨S,κ,hg⟩:=hg;exact rp_body hO ⟨S,κ,hg,trivial⟩
 · by_cases hE:(zyf r0 q s ev l).2=0
   ·rw[if_neg (by simpa using hE),(reopR_ok hE).1];kernel_rfl
   ·rw[if_pos hE,reopR_err hE];kernel_rfl
 ·split<;>kernel_rfl
 ·kernel_rfl
theorem c_Reopened{r:zbp}{q:zbG}{s:zan}{ev:List zac}{l:List zaA}(hO:OkApp s ev l):cw zB7 [.agg (zck r),.agg (zcp q),.agg (zas s),.sl 9 (mA ev),.sl 6 (mE l)] []=some (ze3 (reopR r q s ev l)):=by
 refine zim zLo ?_;show zOrc zB7 (argR r q s ev l) []=_
 have hz:zOrc zB7 (argR r q s ev l) []=zKS (argR r q s ev l):=by unfold zOrc;simp(decide:=true) only [if_false,if_true]
 rw[hz];unfold zKS;have hex:∃r' q' s' ev' l',argR r q s ev l=argR r' q' s' ev' l'/\OkApp s' ev' l':=⟨r,q,s,ev,l,rfl,hO⟩
 rw[dif_pos hex];have hsp:=hex.choose_spec.choose_spec.choose_spec.choose_spec.choose_spec;generalize hex.choose_spec.choose_spec.choose_spec.choose_spec.choose=l' at hsp;generalize hex.choose_spec.choose_spec.choose_spec.choose=ev' at hsp;generalize hex.choose_spec.choose_spec.choose=s' at hsp;generalize hex.choose_spec.choose=q' at hsp;generalize hex.choose=r' at hsp;have h1:=hsp.1;unfold argR at h1;simp only[zax,AV.agg.injEq,AV.sl.injEq,true_and,and_true]at h1;obtain⟨g1,g2,g3,g4,g5⟩:=h1;have e1:r=r':=zog.inj g1;have e2:q=q':=zq3.inj g2;have e3:s=s':=zqy.inj g3;have e4:ev=ev':=ev_inj g4;have e5:l=l':=Eq.mp (TyD.minj zcz) g5;subst e1 e2 e3 e4 e5;rfl
end
set_option maxRecDepth 20000
theorem c_Rule(d:zaj)(hd:DOk d):∃(q:zbG) (d':zaj),cw zqb [.loc 1000 2 0 0] (mD d)=some (zqj (q,d'))/\chkR q=0/\DOk d':=by
 obtain⟨b,d1,h1,hd1⟩:=zqY d 2 hd (by omega);obtain⟨n,d2,h2,h0,h3,hd2⟩:=zdk d1 3 hd1 (by omega);refine⟨⟨b,n⟩,d2,zDs ?_,?_,hd2⟩
 ·simp only[h1,h2,zdT,zbo];rfl
 · unfold chkR
   grind
theorem zII(d:zaj)(hd:DOk d):∃(r:zbp) (d':zaj),cw zlw [.loc 1000 2 0 0] (mD d)=some (zlE (r,d'))/\chkA r=0/\DOk d':=by
 obtain⟨a,d1,h1,ha,hd1⟩:=c_Pick d [1000,100,0] hd (by simp) (by simp);obtain⟨n,d2,h2,n0,n1,hd2⟩:=zdk d1 2 hd1 (by omega);obtain⟨k,d3,h3,k0,k1,hd3⟩:=zdk d2 3 hd2 (by omega);refine⟨⟨a,1+n,k⟩,d3,zwq ?_,?_,hd3⟩
 ·rw[h1,zbo];simp only;rw[h2,zbo];simp only;rw[h3,zbo,w6Q];rfl
 · unfold chkA
   grind
theorem c_Appeals(d:zaj)(s:zan)(hd:DOk d)(hs:DSetup s):∃(l:List zaA) (d':zaj),cw znF [.loc 1000 2 0 0,.agg (zas s),I 5] (mD d)=some (zkv (l,d'))/\l.length<=10/\DOk d':=by
 have hm1:=hs.markers.1;have hm2:=hs.markers.2.1
 let Q:AV×Mem->Prop:=λy=>∃(l:List zaA) (d':zaj),y=zkv (l,d')/\l.length<=10/\DOk d'
 have loop:∀(n i:Nat) (xs:List zaA) (d:zaj),i+n=5->xs.length<=2*i->DOk d->Sat Q (zhH s 5 (mE xs) d i):=by
  intro n
  induction n with
  |zero=>intro i xs d hi hx hd;refine sat_of (λy=>zqM) ?_;rw[zaN (by omega),cPQ,zdm];exact zqk ⟨xs,d,rfl,by omega,hd⟩
  |succ n ih =>
    intro i xs d hi hx hd
    have next:∀(a:zaA) (d:zaj),DOk d->Sat Q (zh8 s 5 (mE xs) i a d):=by
     intro a d hd;have hraw:mE xs++[[AV.v (Go.Value.int IntKind.i64 a.Stamp.Time),AV.v (Go.Value.int IntKind.i64 a.Stamp.Source),AV.v (Go.Value.int IntKind.i64 a.Stamp.Seq),AV.v (Go.Value.int IntKind.i64 a.Kind),AV.v (Go.Value.int IntKind.i64 a.Candidate),AV.v (Go.Value.int IntKind.i64 a.Marker)]]=mE (xs++[a]):=by simp only[<-zd3 zaw];rfl
     obtain⟨b,d1,e1,hd1⟩:=zqY d 5 hd (by omega);refine sat_of (λy=>zvj) ?_;rw[hraw,zao rfl,zao (by grind),zao rfl,e1,zdT];simp only[zd3 zaw]
     try simp only
     rw[w6Q,show((i:Int)+1)=((i+1:Nat):Int)by omega]
     cases b with
     |false=>rw[zaz];exact ih (i+1) (xs++[a]) d1 (by omega) (by simp;omega) hd1
     |true =>
       obtain⟨v,d2,e2,h0,h1,hd2⟩:=zdk d1 ((mE (xs++[a])).length:Int) hd1 (by grind);have hv:v.toNat<(xs++[a]).length:=by simp only[zad,zcb,zhX]at h1 ⊢;omega
       rw[zaV,e2,zbo];simp only;rw[zao h0,zao (by simp_all),zaY,zjE,zaa hv,zae];simp only[zbx];rw[zao (by grind)]
       try simp only[zd3 zaw]
       exact ih (i+1) (xs++[a]++[(xs++[a])[v.toNat]]) d2 (by omega) (by simp;omega) hd2
    obtain⟨u,d1,e1,u0,u1,hd1⟩:=zdk d 200 hd (by omega);obtain⟨v,d2,e2,v0,v1,hd2⟩:=zdk d1 3 hd1 (by omega);obtain⟨b,d3,e3,hd3⟩:=zqY d2 4 hd2 (by omega);refine sat_of (λy=>zqM) ?_;rw[zaB (by omega),e1,zbo];simp only;rw[e2,zbo];simp only;rw[e3,zdT]
    cases b with
    |true =>
      obtain⟨k,d4,e4,k0,k1,hd4⟩:=zdk d3 ((mH s.Markers).length:Int) hd3 (by grind);have hk:k.toNat<s.Markers.length:=by rw[zad]at k1;omega
      simp_all
    |false =>
      obtain⟨k,d4,e4,k0,k1,hd4⟩:=zdk d3 4 hd3 (by omega)
      simp_all
 obtain⟨y,e1,l,d',rfl,h⟩:=loop 5 0 [] d (by omega) (by simp) hd;exact⟨l,d',zzz e1,h⟩
def rv(a b c d:Int):zaA:=⟨⟨a,b,c⟩,0,d,0⟩
theorem c_review(a b c d:Int):cw ziO [I a,I b,I c,I d] []=some (zsw (rv a b c d)):=zGe rfl
def inTime(r:zbp)(p:Int)(l:List zaA):List zaA:=l.filter λa=>stampB a.Stamp&&decide (0<=p/\p<=1000000/\p<=a.Stamp.Time/\a.Stamp.Time-p<=r.Days)
theorem c_InTime(r:zbp)(p:Int)(l:List zaA)(hl:l.length<=1000000):cw zq9 [.agg (zck r),I p,.sl 6 (mE l)] []=some (zn2 (inTime r p l)):=by
 refine zES ?_;by_cases h0:0<=p/\p<=1000000
 case neg =>
  have e:inTime r p l=[]:=by
   unfold inTime
   (simp_all;omega)
  rw[e];by_cases h1:p<0
  ·rw[zaB h1];rfl
  ·rw[zaN h1,zaB (by omega)];rfl
 rw[zaN (by omega),zaN (by omega)];refine zcl l (λi rest=>∀out:List zaA,(out.length:Int)<=i->zg1 r p l (mE out) i=some (zn2 (out++inTime r p rest))) ?_ ?_ [] (by simp)
 ·intro out ho;refine ztV ?_;rw[zad,zaN (by omega),zao rfl];unfold inTime;rw[zeQ,zdx];rfl
 · intro i hi rest _ ih out ho;refine ztV ?_;rw[zad,zaB (by omega),cPQ,zah,zjE,zaa hi,zae,zuK,zKA,zao rfl,zao (by grind),zao rfl,w64_id (show -9223372036854775808<=(i:Int)+1 by omega) (by omega)];unfold inTime at ih ⊢;rw[zcn];generalize l[i]=a
   cases hs:stampB a.Stamp with
   |false =>
     rw[zaz,zcF,iNs]
     grind
   |true =>
     have ht:0<=a.Stamp.Time/\a.Stamp.Time<=1000000:=by unfold stampB at hs;simp only[decide_eq_true_eq]at hs;exact hs.1
     rw[zaV,zcx,w6Q];by_cases h1:p<=a.Stamp.Time
     · by_cases h2:a.Stamp.Time-p<=r.Days
       · rw[zaB h1,zaB h2,if_pos (by simp;omega)];have:=ih (out++[a]) (by simp;omega)
         simp_all
       · rw[zaB h1,zaN h2,if_neg (by simp;omega)]
         grind
     · rw[zaN h1,if_neg (by simp;omega)]
       grind
def S38:zan:=⟨[],[⟨7,0,7,3,0,[],[]⟩,⟨8,0,8,3,0,[],[]⟩],[],[],[],⟨0,0,0,0⟩⟩
theorem okS38:zkM S38.Scripts:=by
 refine⟨by decide,λx hx=>?_,λj hj=>?_⟩
 · have:x=⟨7,0,7,3,0,[],[]⟩\/x=⟨8,0,8,3,0,[],[]⟩:=by simpa[S38]using hx
   unfold zmu;rcases this with rfl|rfl<;>simp
 · have:j=0:=by simp only[S38,zcP,zcZ]at hj;omega
   subst this;show(7:Int)<8;omega
theorem c_sane38:cw zre [] []=some (zap true):=by
 refine zI1 ?_;simp only[c_review,zAr];have h1:appS [rv 5 3 0 7,rv 5 3 0 7,rv 2 3 1 8]=([rv 2 3 1 8,rv 5 3 0 7],0):=by kernel_rfl
 have h2:scopeL S38 ⟨[],[]⟩ (rv 5 3 0 7)=[7]:=by kernel_rfl
 have h3:scopeL S38 ⟨[],[]⟩ (rv 5 4 0 7)=[]:=by kernel_rfl
 have h4:inTime ⟨3,0,0⟩ 2 [rv 2 3 1 8,rv 5 3 0 7]=[rv 2 3 1 8,rv 5 3 0 7]:=by kernel_rfl
 have h5:ziG (rv 2 3 1 8)=true:=by kernel_rfl
 rw[zAi (l:=[rv 5 3 0 7,rv 5 3 0 7,rv 2 3 1 8]) (by simp),h1,zlr];have e1:=zBn okS38 (by decide) ⟨[],[]⟩ (by simp) (rv 5 3 0 7);have e2:=zBn okS38 (by decide) ⟨[],[]⟩ (by simp) (rv 5 4 0 7);rw[h2]at e1;rw[h3]at e2;unfold S38 at e1 e2;rw[e1,zgz,e2,zgz,c_InTime _ _ _ (by simp),h4,zzu];rw[cPQ,zjE,show([rv 2 3 1 8,rv 5 3 0 7]:List zaA)[Int.toNat 0]?=some (rv 2 3 1 8)from rfl,zae];rw[cPQ,zce,show([7]:List Int)[Int.toNat 0]?=some 7 from rfl,zae];rw[cPQ,zjE,show([rv 2 3 1 8,rv 5 3 0 7]:List zaA)[Int.toNat 0]?=some (rv 2 3 1 8)from rfl,zae,zDg,h5,zKA,c_ACheck,za7];rfl
set_option maxRecDepth 20000
theorem appS_ok{l:List zaA}(h:l.length<=24):(appS l).2=0:=by unfold appS;have h1:=zEy l;have h2:=zEz l;rw[iNQ]
theorem reopR_is{r:zbp}{q:zbG}{s:zan}{ev:List zac}{l:List zaA}(hr:chkA r=0)(hq:chkR q=0)(hl:l.length<=24):reopR r q s ev l=(reopS r q s ev (appS l).1,0):=by unfold reopR;rw[if_pos ⟨hr,hq⟩,if_pos (appS_ok hl)]
theorem reopS_few{r:zbp}{q:zbG}{s:zan}(hs:zb3 s)(ev:List zac)(c:List zaA):(reopS r q s ev c).length<=60/\∀e∈reopS r q s ev c,e.Pages.length<=1000000:=by unfold reopS;refine⟨?_,λe he=>by rw[zLb he];simp⟩;have h1:=zK0 (schedL s (reopT s (foldS s ev) c (zqt r s (foldS s ev) (zgA r q s ev c))));have h2:=zvS s (reopT s (foldS s ev) c (zqt r s (foldS s ev) (zgA r q s ev c)));have h3:=hs.scripts.1;omega
theorem zK1(t:List Int):cw zKP [.sl 1 (List.map zai t)] []=some (zap true):=by
 refine zKW ?_;rw[c_Light,zKA];by_cases ht:(t.length:Int)<=600
 case neg=>rw[decide_eq_false ht,zbe,zaV,c_sane38,zKA];rfl
 rw[decide_eq_true ht,zaF,zaz,c_Roll,zEI];obtain⟨s,d1,e1,hs,hd1⟩:=c_Setup ⟨t,0⟩ ⟨by simp,by grind⟩;obtain⟨a,d2,e2,ha,hpa,hd2⟩:=c_FullK d1 s 20 hd1 hs (by omega);obtain⟨b,d3,e3,hb,hpb,hd3⟩:=c_EventsK d2 s 20 hd2 hs (by omega);obtain⟨r,d4,e4,hr,hd4⟩:=zII d3 hd3;obtain⟨q,d5,e5,hq,hd5⟩:=c_Rule d4 hd4;obtain⟨l,d6,e6,hl,hd6⟩:=c_Appeals d5 s hd5 hs;rw[e1,zw9];simp only;rw[e2,zq2];simp only;rw[e3,zq2];simp only
 have hev:OkApp s (a++b) l:=⟨hs.ok,by grind,λe he=>by
  rcases zbh.1 he with h|h
  ·have:=(hpa e h).1;omega
  ·have:=(hpb e h).1;omega,by omega⟩
 have hlow:LowEv (a++b):=λf hf=>by
  rcases zbh.1 hf with h|h
  ·exact .inl (hpa f h).2.1
  ·exact(hpb f h).2.imp id (λh=>by omega)
 have hX:=reopS_few (r:=r) (q:=q) hs.ok (a++b) (appS l).1;obtain⟨S,hS⟩:∃S,reopS r q s (a++b) (appS l).1=openS S:=⟨_,rfl⟩
 obtain⟨g1,g2,g3⟩:=seniors hlow S (s:=s);have hfw:FewEv (a++b):=zKX (by grind) hev.2.2.1;rw[hS]at hX
 have hpx:∀e∈a++b++openS S,e.Pages.length<=1000000:=λe he=>by
  rcases zbh.1 he with h|h
  ·exact hev.2.2.1 e h
  ·exact hX.2 e h
 have hlab:(a++b).length<=140:=by rw[zcb];omega
 have hfw2:FewEv (a++b++openS S):=zKX (by grind) hpx;have f1:=zK4 s hfw;have f2:=zK4 s hfw2
 have f3:(foldS s (a++b)).Suspensions.length<=1000000:=by rw[zxi];have h1:=zLd hs.ok (canonS (a++b)) 100;have h2:=(zhr (a++b)).length_eq;have h3:=hfw.2.1;dsimp only;omega
 simp only[zdm,<-zcC];simp(disch:=omega)only[zad,zaY,zaX,zbx,zao,e4,zts,e5,zya,e6,zvn,c_Reopened hev,zKJ,reopR_is hr hq (show l.length<=24 by omega),hS,zIT hs.ok (show(a++b).length<=2000 by omega) hev.2.2.1,zp6];have hl2:(a++b++openS S).length=(a++b).length+(openS S).length:=zcb;simp(disch:=omega)only[zad,zaY,zaX,zbx,zao,zIT hs.ok (show(a++b++openS S).length<=2000 by omega) hpx,zp6,bne_self_eq_false,zaz];generalize foldS s (a++b)=M1 at *;generalize foldS s (a++b++openS S)=M2 at *
 have loop2:∀(n i:Nat),i+n=M2.Given.length->∀ys:List za5,ys=(M2.Given.take i).filter (λg=>decide (1<g.Level))->zKG (M1,0) (M2,0) (mF (M1.Given.filter λg=>decide (1<g.Level))) (mF ys) i=some (zap true):=by
  intro n
  induction n with
  |zero =>
    intro i hi ys hy;have hfl:=zee (λg:za5=>decide (1<g.Level)) M1.Given;rw[zaJ (by omega),<-g1]at hy;subst hy;refine zKO ?_;have hm:∀xs:List za5,[sM xs,sI M1.Suspensions]=zbI ⟨xs,M1.Suspensions⟩:=λ_=>rfl
    simp(disch:=omega)only[zad,zaN,zaY,zaX,zbx];rw[zaJ (by simp),<-g2,hm,c_rSame _ _ (by dsimp only;omega) (by dsimp only;omega),zKA,zbj rfl,zaV,zaB (by omega),c_sane38,zKA];rfl
  |succ n ih =>
    intro i hi ys hy;have hlt:i<M2.Given.length:=by omega
    have hyl:ys.length<=i:=by rw[hy];exact zbP (zee _ _) (by grind)
    refine zKO ?_;simp(disch:=omega)only[zad,zaB,zao,zbx,eq_self,zah,zf5,zaa hlt,zae,w64_id,zd3 zaC,show((i:Int)+1)=((i+1:Nat):Int)by omega]
    have hnx:(M2.Given.take (i+1)).filter (λg=>decide (1<g.Level))=ys++(if 1<M2.Given[i].Level then[M2.Given[i]]else[]):=by
     rw[zco hlt,zKD,hy];congr 1
     grind
    by_cases h:1<M2.Given[i].Level
    · rw[decide_eq_true h,zaV]
      grind
    · rw[decide_eq_false h,zaz]
      grind
 have loop1:∀(n i:Nat),i+n=M1.Given.length->∀ys:List za5,ys=(M1.Given.take i).filter (λg=>decide (1<g.Level))->zKF (M1,0) (M2,0) (mF ys) i=some (zap true):=by
  intro n
  induction n with
  |zero=>intro i hi ys hy;rw[zaJ (by omega)]at hy;subst hy;refine zKN ?_;simp(disch:=omega)only[zad,zaN];exact loop2 M2.Given.length 0 (by omega) [] (by simp)
  |succ n ih =>
    intro i hi ys hy;have hlt:i<M1.Given.length:=by omega
    have hyl:ys.length<=i:=by rw[hy];exact zbP (zee _ _) (by grind)
    refine zKN ?_;simp(disch:=omega)only[zad,zaB,zao,zbx,eq_self,zah,zf5,zaa hlt,zae,w64_id,zd3 zaC,show((i:Int)+1)=((i+1:Nat):Int)by omega]
    have hnx:(M1.Given.take (i+1)).filter (λg=>decide (1<g.Level))=ys++(if 1<M1.Given[i].Level then[M1.Given[i]]else[]):=by
     rw[zco hlt,zKD,hy];congr 1
     grind
    by_cases h:1<M1.Given[i].Level
    · rw[decide_eq_true h,zaV]
      grind
    · rw[decide_eq_false h,zaz]
      grind
 exact loop1 M1.Given.length 0 (by omega) [] (by simp)
end Go.Proofs.YtlecnobdfhlmnaaGreat
namespace Go.Ab
open Go.RowKit
abbrev Old(w:World):Nat->Prop:=λg=>g<w.heap.size
def Rd(P:Program)(w:World)(t:TypeId)(n:Nat){T:Type}(nT:T->List AV):Prop:=
 P.cellsOf t=n/\(∀v,(nT v).length=n)/\∀(H:Type) (enc:TypeId×Value->H) (base:Nat) (spare:Nat->Bool) (held:Bool) (fuel:Nat) (cs:List Value) (x:DataW H×List MemPlace),DataW.trod enc P w base spare held fuel t cs=some x->∃v:T,cs.length=n/\∀(j:Nat) (c:AV) (y:Value),(nT v)[j]?=some c->cs[j]?=some y->CRel (Old w) w c y/\y.oneCell'=true
theorem rd_int{P:Program}{w:World}{t:TypeId}{k:IntKind}(hc:P.cellsOf t=1)(ht:P.underlying t=some (.int k)):Rd P w t 1 (λn:Int=>[AV.v (.int k n)]):=by
 refine⟨hc,λ_=>rfl,λH enc base spare held fuel cs x h=>?_⟩;obtain⟨n,rfl,_,_⟩:=DataW.trod_int ht h;refine⟨n,rfl,λj c y h1 h2=>?_⟩
 cases j with
 |zero=>simp at h1 h2;subst h1;subst h2;exact⟨.v _,rfl⟩
 |succ j=>simp at h1
theorem list_of{T:Type}{R:Nat->T->Prop}:∀n:Nat,(∀i,i<n->∃v,R i v)->∃l:List T,l.length=n/\∀i v,l[i]?=some v->R i v
 |0,_=>⟨[],rfl,λi v h=>by simp at h⟩
 |n+1,h=>by
   obtain⟨l,h1,h2⟩:=list_of n (λi hi=>h i (by omega));obtain⟨v,hv⟩:=h n (by omega);refine⟨l++[v],by simp[h1],λi u hu=>?_⟩;by_cases hi:i<n
   ·rw[zd8 (by omega)]at hu;exact h2 i u hu
   · have hlt:=(zam.1 hu).1;simp at hlt;have:i=l.length:=by omega
     subst this;rw[List.getElem?_append_right (by omega)]at hu;simp at hu;subst hu;rw[h1];exact hv
theorem rd_slice{P:Program}{w:World}{t e:TypeId}{n:Nat}{T:Type}{nT:T->List AV}(hc:P.cellsOf t=1)(ht:P.underlying t=some (.slice e))(hn:0<n)(he:Rd P w e n nT):Rd P w t 1 (λl:List T=>[AV.sl n (l.map nT)]):=by
 refine⟨hc,λ_=>rfl,λH enc base spare held fuel cs x h=>?_⟩
 have done:∀(l:List T) (y:Value),CRel (Old w) w (.sl n (l.map nT)) y->y.oneCell'=true->∃v:List T,[y].length=1/\∀(j:Nat) (c:AV) (z:Value),[AV.sl n (v.map nT)][j]?=some c->[y][j]?=some z->CRel (Old w) w c z/\z.oneCell'=true:=by
  intro l y hy h1;refine⟨l,rfl,λj c z hj hz=>?_⟩
  cases j with
  |zero=>simp at hj hz;subst hj;subst hz;exact⟨hy,h1⟩
  |succ j=>simp at hj
 rcases DataW.trod_slice ht h with⟨rfl,_⟩|⟨a,len,cap,elems,rest,m,rfl,rfl,_,hb,hl,_,hlen,hel,_,_⟩
 ·exact done [] _ (CRel.nil_sl n) rfl
 · have each:∀i,i<len->∃v:T,a.block<w.heap.size/\∀(j:Nat) (c:AV),(nT v)[j]?=some c->∃y,w.cell? (a.add (i*n+j))=some y/\CRel (Old w) w c y/\y.oneCell'=true:=by
    intro i hi;have h1:=hel i hi;rw[zaa (by omega),he.1]at h1;obtain⟨cs',h2,h3⟩:=Option.bind_eq_some_iff.1 h1;obtain⟨v,h4,h5⟩:=he.2.2 H enc base spare held m cs' _ h3;obtain⟨h6,h7,h8⟩:=World.cells?_some h2;have hblk:=World.cells?_block h2 hn;rw[zmn]at hblk;refine⟨v,hblk,λj c hj=>?_⟩;have hjn:j<n:=by have:=(zam.1 hj).1;rw[he.2.1]at this;exact this
    have h9:=h8 j hjn;rw[Go.Addr.add_add]at h9;have h10:cs'[j]?=some (cs'[j]'(by omega)):=zaa (by omega);refine⟨cs'[j]'(by omega),by rw[h9,h10],h5 j c _ hj h10⟩
   obtain⟨l,hll,hlr⟩:=list_of len each;refine done l _ (.sl n _ (some a) len cap (λi j=>(w.cell? (a.add (i*n+j))).getD undef) (by simp;omega) hl (λcs hcs=>by obtain⟨v,_,rfl⟩:=zbs.1 hcs;exact he.2.1 v) ?_ ?_) rfl
   · cases l with
     |nil=>left;rfl
     |cons v l'=>right;refine⟨a,rfl,(hlr 0 v rfl).1,λi j cs c h1 h2=>?_⟩;rw[zbC]at h1;obtain⟨u,hu,rfl⟩:=zcW.1 h1;obtain⟨y,hy,hr,ho⟩:=(hlr i u hu).2 j c h2;rw[hy];exact⟨rfl,ho⟩
   ·intro i j cs c h1 h2;rw[zbC]at h1;obtain⟨u,hu,rfl⟩:=zcW.1 h1;obtain⟨y,hy,hr,ho⟩:=(hlr i u hu).2 j c h2;rw[hy];exact hr
theorem arg_cell{P:Program}{w:World}{t:TypeId}{T:Type}{f:T->AV}(hr:Rd P w t 1 (λv=>[f v])){H:Type}{enc:TypeId×Value->H}{base:Nat}{spare:Nat->Bool}{held:Bool}{y:Value}(hy:y.cells.toList=[y]){d:DataW H}{ps:List MemPlace}
  (h:DataW.Trod enc P w base spare held t y d ps) {κ:Kap} {D:Nat->Prop}:∃v:T,VRel (Old w) κ D w (f v) y:=by
 obtain⟨fuel,hf⟩:=h;rw[hy]at hf;obtain⟨v,_,h2⟩:=hr.2.2 H enc base spare held fuel _ _ hf;exact⟨v,.c (h2 0 _ _ rfl rfl).1⟩
end Go.Ab
end
