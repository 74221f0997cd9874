/- Marking: what is done at a marker's desk. -/
import Derived.Test.YtikogkgdkdmljaaGreatJ1
import Derived.Test.YtikogkgdkdmljaaGreatXAnn
import Derived.Test.YtikogkgdkdmljaaGreatAb10
import Derived.Control
import Derived.Test.YtikogkgdkdmljaaGreatJ0
set_option linter.unusedSimpArgs false
set_option linter.unusedVariables false
noncomputable section
namespace Go.Proofs.YtikogkgdkdmljaaGreat
open Go.Ab
set_option maxRecDepth 10000
structure DeskOk (r:za2) (k:Nat) (d:zaf):Prop where
 marks:d.marks.length≤k
 susp:d.suspensions.length≤k
 period:0≤d.period∧d.period≤d.marks.length
 watch:zqA r d.watch
 some:d.watch.Suspended=true→0 < d.suspensions.length
def zfc (p:Int) (f:Bool) (g:zaM) (l:List zbc) (i:Nat):List zbc:=l.mapIdx fun j m=>if j < i then voidIf p f g j m else m
theorem zAA (p:Int) (f:Bool) (g:zaM) (l:List zbc) (i:Nat):(zfc p f g l i).length=l.length:=by simp [zfc]
theorem zqt {p:Int} {f:Bool} {g:zaM} {l:List zbc} {i:Nat} (hi:i < l.length):(zfc p f g l i)[i]?=some l[i]:=by unfold zfc; rw [zjH,zaC hi]; simp
theorem ztT {p:Int} {f:Bool} {g:zaM} {l:List zbc} {i:Nat} (hi:i < l.length):zfc p f g l (i+1)=(zfc p f g l i).set i (voidIf p f g i l[i]):=by
 unfold zfc; apply zjF; intro j; rw [zmO,zjH,zjH,List.length_mapIdx]; by_cases hj:i=j
 · subst hj; rw [zaC hi]; simp [hi]
 · rw [if_neg hj]
   cases l[j]? with
   | none=>rfl
   | some m =>
     simp only [zc1]; by_cases h:j < i
     · simp [h,show j < i+1 by omega]
     · simp [h,show ¬ j < i+1 by omega]
theorem zzQ {p:Int} {f:Bool} {g:zaM} {l:List zbc} {i:Nat} (hi:i < l.length) (h:voidIf p f g i l[i]=l[i]):zfc p f g l (i+1)=zfc p f g l i:=by
 rw [ztT hi,h]; apply zjF; intro j; rw [zmO]; by_cases hj:i=j
 · subst hj; rw [zqt hi,if_pos rfl,zAA,if_pos hi]
 · rw [if_neg hj]
theorem zAz (p:Int) (f:Bool) (g:zaM) (l:List zbc):zfc p f g l l.length=l.mapIdx (voidIf p f g):=by
 unfold zfc; apply zjF; intro j; rw [zjH,zjH]
 cases h:l[j]? with
 | none=>rfl
 | some m=>have:=(zbs.1 h).1; simp [this]
theorem zxZ {p:Int} (f:Bool) (g:zaM) (l:List zbc) (hp:0≤p):zfc p f g l p.toNat=l:=by
 unfold zfc; apply zjF; intro j; rw [zjH]
 cases h:l[j]? with
 | none=>rfl
 | some m =>
   simp only [zc1,voidIf]; by_cases hj:j < p.toNat
   · rw [if_pos hj,iNQ]
   · rw [if_neg hj]
theorem susp_loop {d:zaf} (hl:d.marks.length≤1000000) (x:za8) (us:List za8):∀ (n i:Nat),i+n=d.marks.length→d.period≤i→zcC d x (List.map zaj (zfc d.period x.First x.Good d.marks i)) (List.map zah us) i=some (zbN { d with marks:=d.marks.mapIdx (voidIf d.period x.First x.Good),suspensions:=us }):=by
 intro n
 induction n with
 | zero =>
   intro i hi hpi; refine zj9 _ _ _ _ _ ?_; rw [zaT (by simp; omega),show i=d.marks.length by omega,zAz]; have e:(List.map zaj d.marks).length=(List.map zaj (d.marks.mapIdx (voidIf d.period x.First x.Good))).length:=by simp
   rw [e]; rfl
 | succ n ih =>
   intro i hi hpi; have hlt:i < d.marks.length:=by omega
   have void:voidIf d.period x.First x.Good i d.marks[i]={ d.marks[i] with void:=true }→zd3 d x (List.map zaj (zfc d.period x.First x.Good d.marks i)) (List.map zah us) i=some (zbN { d with marks:=d.marks.mapIdx (voidIf d.period x.First x.Good),suspensions:=us }):=by intro hv; refine znP _ _ _ _ _ ?_; rw [cPQ,zan (by simp; omega),zb5,za4,zgH,zqt hlt,zaY,w6Q,show ((i:Int)+1)=((i+1:Nat):Int) by omega]; have:=ih (i+1) (by omega) (by omega); rw [ztT hlt,hv,← zj1] at this; exact this
   refine zj9 _ _ _ _ _ ?_; rw [zaF (by simp; omega)]
   cases hf:x.First with
   | true=>rw [zaI,← hf]; exact void (by unfold voidIf; rw [if_pos ⟨hpi,by rw [hf]; rfl⟩])
   | false =>
     rw [zaw,cPQ,zan (by simp; omega),zb5,za4,zgH,← hf,zqt hlt,zaY,zqX,za0,zpd]
     cases hc:lessS x.Good d.marks[i].event.Stamp with
     | true=>rw [zaI]; exact void (by unfold voidIf; rw [if_pos ⟨hpi,by rw [hc]; simp⟩])
     | false=>rw [zaw,w6Q,show ((i:Int)+1)=((i+1:Nat):Int) by omega]; have:=ih (i+1) (by omega) (by omega); rw [zzQ hlt (by unfold voidIf; rw [if_neg (by rw [hf,hc]; simp)])] at this; exact this
theorem c_suspend (d:zaf) (id:Int) (a:zaM) (hl:d.marks.length≤1000000) (hs:d.suspensions.length≤1000000) (hp:0≤d.period∧d.period≤d.marks.length):cw zfl [.loc 1000 14 0 0,I id,.agg (zbI a)] (zmu d)=some (zbN (suspS id a d)):=by
 refine zqi d id a ?_
 have go:∀ x:za8,x.First=!d.some→x.Good=(if d.some=true then d.good else d.started)→x.Marker=id→x.At=a→x.Until=⟨0,0,0⟩→x.Lifted=false→zcC d x (List.map zaj d.marks) (List.map zah d.suspensions++[zah x]) d.period=some (zbN (suspS id a d)):=by
  intro x h1 h2 h3 h4 h5 h6; have:=susp_loop hl x (d.suspensions++[x]) (d.marks.length - d.period.toNat) d.period.toNat (by omega) (by omega)
  rw [zxZ _ _ _ hp.1,show ((d.period.toNat:Nat):Int)=d.period by omega,← zel] at this; rw [this]; unfold suspS; obtain ⟨m,g,t,u,f,li⟩:=x; simp only at h1 h2 h3 h4 h5 h6; subst h1 h2 h3 h4 h5 h6; rfl
 cases hso:d.some with
 | true=>rw [zbO,zaw]; refine zmx _ _ _ ?_; rw [zan rfl,zan (by simp only [zap]; omega)]; exact go ⟨id,⟨d.good.Time,d.good.Source,d.good.Seq⟩,⟨a.Time,a.Source,a.Seq⟩,⟨0,0,0⟩,false,false⟩ (by rw [hso]; rfl) (by rw [hso]; rfl) rfl rfl rfl rfl
 | false=>rw [zcx,zaI]; refine znO _ _ _ ?_; rw [zan rfl,zan (by simp only [zap]; omega)]; exact go ⟨id,⟨d.started.Time,d.started.Source,d.started.Seq⟩,⟨a.Time,a.Source,a.Seq⟩,⟨0,0,0⟩,true,false⟩ (by rw [hso]; rfl) (by rw [hso]; rfl) rfl rfl rfl rfl
theorem modify_at {α:Type} {l:List α} {i:Nat} (f:α→α) (h:i < l.length):l.modify i f=l.set i (f l[i]):=by
 apply zjF; intro j; rw [zvG,zmO]; by_cases hj:i=j
 · subst hj; simp [h]
 · simp [hj]
theorem zAk (d:zaf) (a:zaM) (hs:d.suspensions.length≤1000000) (h0:d.watch.Suspended=true→0 < d.suspensions.length):cw zeB [.loc 1000 14 0 0,.agg (zbI a)] (zM d)=some (zbN (reinS a d)):=by
 refine zpf d a ?_; unfold reinS; obtain ⟨lv,mk,pe,st,no,⟨la,su⟩,go,so,us⟩:=d; simp only at hs h0 ⊢
 cases su with
 | false=>rfl
 | true =>
   have h1:=h0 rfl; have hlt:us.length - 1 < us.length:=by omega
   rw [zbO,zaw,zap,w6Q,cPQ,cPQ,zb5,zfq h1,zdX,zaC hlt,zaY,zj1,zdX,zmO,if_pos rfl,if_pos hlt,zaY,zj1,List.set_set,if_pos rfl,modify_at _ hlt]; have e:us.length=(List.map zah (us.set (us.length - 1) ⟨us[us.length - 1].Marker,⟨us[us.length - 1].Good.Time,us[us.length - 1].Good.Source,us[us.length - 1].Good.Seq⟩,⟨us[us.length - 1].At.Time,us[us.length - 1].At.Source,us[us.length - 1].At.Seq⟩,⟨a.Time,a.Source,a.Seq⟩,us[us.length - 1].First,true⟩)).length:=by simp
   conv=>lhs; arg 1; arg 2; arg 1; arg 2; arg 3; rw [e]
   conv=>rhs; rw [show mk.length=(List.map zaj mk).length by simp]
   rfl
theorem c_note (hok:CallOK zP (single zby zOrc)) (s:zay) (hm:OkMon s.Monitor) (p:zaE) (sd:GSeed) (e:zab) (d:zaf) {k:Nat} (hd:DeskOk s.Monitor k d) (hk:k < 1000000)
  (hp:p.Parts.length≤24) (hsd:sd.Marks.length=p.Parts.length):cw zgn [.loc 1000 14 0 0,.agg (zau s),.agg (zaL p),.agg (zbU sd),.agg (zaa e)] (zM d)=some (zbN (noteS s p sd e d)):=by
 have hml:=hd.marks; have hsl:=hd.susp; refine zsY d s p sd e ?_; rw [zkG]; unfold noteS
 cases hf:(mfind ⟨e.Script,e.Part⟩ d.noted).isSome with
 | true=>rw [zaI,if_pos rfl]; rfl
 | false =>
 rw [zaw,iNs,zpF]; simp only; generalize mput ⟨e.Script,e.Part⟩ e.Value d.noted=no
 have key:∀ (n i:Nat) (x y:List Int),i+n=p.Parts.length→x.length≤i→y.length≤i→zev d s p sd e (List.map zaq no) (List.map zak x) (List.map zak y) i=some (zbN (match gather no e.Script sd.Marks (p.Parts.drop i) i x y with
    | none=>{ d with noted:=no }
    | some (x,y) =>
      if d.watch.Suspended then { d with noted:=no }
      else
       if (stepW s.Monitor d.watch (goodS s.Monitor x y)).Suspended then suspS e.Stamp.Source e.Stamp { { d with noted:=no } with watch:=stepW s.Monitor d.watch (goodS s.Monitor x y) }
       else if goodS s.Monitor x y then { { { d with noted:=no } with watch:=stepW s.Monitor d.watch (goodS s.Monitor x y) } with good:=e.Stamp,some:=true }
       else { { d with noted:=no } with watch:=stepW s.Monitor d.watch (goodS s.Monitor x y) })):=by
  intro n
  induction n with
  | zero =>
    intro i x y hi hx hy; refine zlX _ _ _ _ _ _ _ _ _ ?_; rw [zap,zaT (by omega),cPQ,cPQ,take_len,take_len,c_Good _ hm x y (by omega) (by omega),zai,c_Step hok _ hm _ hd.watch,ztr,zjG (by omega)]; unfold gather; simp only; generalize goodS s.Monitor x y=gd; obtain ⟨lv,mk,pe,st,no0,⟨la,su⟩,go,so,us⟩:=d; simp only at *
    cases su with
    | true=>rfl
    | false =>
      rw [iNs,iNs,show ((0:Int) != 0)=false from rfl,zaw]; generalize hw:stepW s.Monitor ⟨la,false⟩ gd=w2; obtain ⟨l2,s2⟩:=w2; simp only
      cases s2 with
      | true=>rw [zaI,if_pos rfl,zan trivial,zan trivial]; have hc:=c_suspend ⟨lv,mk,pe,st,no,⟨l2,true⟩,go,so,us⟩ e.Stamp.Source e.Stamp (by show mk.length≤_; omega) (by show us.length≤_; omega) hd.period; have hc':cw zfl [.loc 1000 14 0 0,I e.Stamp.Source,.agg (zbI e.Stamp)] [(1000,⟨14,za6,[[I lv,.row 900 10 0 ((List.map zaj mk).length),I pe,I st.Time,I st.Source,I st.Seq,.map 901,.sl 1 (List.map nBool l2),B true,I go.Time,I go.Source,I go.Seq,B so,.row 902 12 0 ((List.map zah us).length)]],true⟩),(900,⟨10,za7,List.map zaj mk,false⟩),(901,⟨0,zaJ,List.map zaq no,false⟩),(902,⟨12,zas,List.map zah us,false⟩)]=_:=hc; rw [hc',ze8]; rfl
      | false =>
        rw [zaw,iNs]
        cases gd with
        | true=>rfl
        | false=>rfl
  | succ n ih =>
    intro i x y hi hx hy; have hlt:i < p.Parts.length:=by omega
    refine zlX _ _ _ _ _ _ _ _ _ ?_; rw [zap,zaF (by omega),cPQ,za4,zfk,zaC hlt,zaY,zf8 hlt,w6Q,show ((i:Int)+1)=((i+1:Nat):Int) by omega]; unfold gather; by_cases hk1:p.Parts[i].Kind=1
    · rw [show (p.Parts[i].Kind != 1)=false by simp [hk1],zaw,if_pos hk1,zkG]; have hi2:i < sd.Marks.length:=by omega
      cases hv:mfind ⟨e.Script,i⟩ no with
      | none=>simp only [zrz,zcx,zaI]; rfl
      | some v=>simp only [zmH,zbO,zaw,ziP]; rw [cPQ,zcO,zaC hi2,zaY,zan trivial,zan (by simp only [zap]; omega),zan trivial,zan trivial,zan (by simp only [zap]; omega),zan trivial]; have:=ih (i+1) (x++[sd.Marks[i]]) (y++[v]) (by omega) (by simp; omega) (by simp; omega); rw [← zel,← zel] at this; rw [show sd.Marks.getD i 0=sd.Marks[i] by rw [zvH,zaC hi2]; rfl]; exact this
    · rw [show (p.Parts[i].Kind != 1)=true by simp [hk1],zaI,if_neg hk1]; exact ih (i+1) x y (by omega) (by omega) (by omega)
 have:=key p.Parts.length 0 [] [] (by omega) (by simp) (by simp); rw [zoD] at this; exact this
set_option maxRecDepth 100000
noncomputable section
def walkW {s:zay} (g:Legs s) (ev:List zab):Desks×Reop:=ev.foldl (evG g) (seats s.Markers,[])
theorem upd_D {s:zay} (g:Legs s) {ds:Desks} {k i:Nat} {d:zaf} (h:∀ i d,ds i=some d→g.D k d) (hd:g.D (k+1) d):∀ j d',upd ds i d j=some d'→g.D (k+1) d':=fun j d' hj=>by
 unfold upd at hj; split at hj
 · injection hj with hj; rw [← hj]; exact hd
 · exact g.Dup k d' (h j d' hj)
theorem stepW_D {s:zay} (g:Legs s) {ds:Desks} {R:Reop} {k:Nat} {e:zab} (hok:g.ok e) (h:∀ i d,ds i=some d→g.D k d):∀ i d,(evG g (ds,R) e).1 i=some d→g.D (k+1) d:=by
 intro i d hi; unfold evG at hi; split at hi
 · split at hi
   · rename_i d0 hd0; exact upd_D g h (g.Drein k d0 e hok (h _ _ hd0)) i d hi
   · exact g.Dup k d (h i d hi)
 · split at hi
   · exact g.Dup k d (h i d hi)
   · split at hi
     · split at hi
       · rename_i d0 q hd0 _; split at hi
         · exact upd_D g h (g.Dnote k d0 _ _ e hok (h _ _ hd0)) i d hi
         · exact upd_D g h (g.Dapp k d0 e hok (h _ _ hd0)) i d hi
         · exact g.Dup k d (h i d hi)
       · exact g.Dup k d (h i d hi)
     · exact g.Dup k d (h i d hi)
theorem seats_D {s:zay} (g:Legs s) (ms:List zaU):∀ i d,seats ms i=some d→g.D 0 d:=by
 have key:∀ (ms:List zaU) (ds:Desks),(∀ i d,ds i=some d→g.D 0 d)→∀ i d,(ms.foldl (fun ds m=>upd ds m.ID.toNat (desk0 m.Level)) ds) i=some d→g.D 0 d:=by
  intro ms
  induction ms with
  | nil=>intro ds h; exact h
  | cons m ms ih =>
    intro ds h; refine ih _ (fun i d hi=>?_); replace hi:upd ds m.ID.toNat (desk0 m.Level) i=some d:=hi; unfold upd at hi; split at hi
    · injection hi with hi; rw [← hi]; exact g.D0 _
    · exact h i d hi
 exact key ms _ (fun i d h=>by cases h)
section
variable {w0:World} {S0:Nat→Prop} {κ0:Kap} {K:Nat→Prop} {a:Act} {w:World}
theorem wk_loop {s:zay} {ev:List zab} (g:Legs s) {x:Nat→Option Addr} {κd0:Nat→Kap} (hok:∀ e∈ev,g.ok e) (hev:ev.length < 1000000)
  (h:Now w0 S0 κ0 K zaD.fn.ntmps (mems (seats s.Markers)) κd0 (stE s ev x [] 0) a w) (hp:Points (seats s.Markers) κd0 x) {Q:Exit→Act→World→Prop}
  (hQ:∀ a' w' κd,Now w0 S0 κ0 K zaD.fn.ntmps (mems (walkW g ev).1) κd (stE s ev x (walkW g ev).2 ev.length) a' w'→Points (walkW g ev).1 κd x→Q .normal a' w'):(Code.block 2 (.loop (.seq (.region 9 (wkO 9) (wkD 9)) (.seq (.cond (.tmp 41) .skip (.exit 2)) (.seq (.block 3 (.seq (.region 10 (wkO 10) (wkD 10)) (.seq (.region 11 (wkO 11) (wkD 11)) (.block 4 (.seq (.region 12 (wkO 12) (wkD 12)) (.cond (.tmp 46) (.seq (.region 13 (wkO 13) (wkD 13)) (.seq (.region 14 (wkO 14) (wkD 14)) (.cond (.tmp 55) (.region 15 (wkO 15) (wkD 15)) .skip))) (.seq (.region 16 (wkO 16) (wkD 16)) (.cond (.tmp 60) (.region 17 (wkO 17) (wkD 17)) (.seq (.region 18 (wkO 18) (wkD 18)) (.cond (.tmp 70) (.seq (.region 19 (wkO 19) (wkD 19)) (.seq (.seq (.region 20 (wkO 20) (wkD 20)) (.cond (.tmp 80) (.exit 3) .skip)) (.seq (.region 21 (wkO 21) (wkD 21)) (.seq (.region 22 (wkO 22) (wkD 22)) (.cond (.tmp 88) (.region 23 (wkO 23) (wkD 23)) (.region 24 (wkO 24) (wkD 24))))))) .skip)))))))))) (.region 25 (wkO 25) (wkD 25))))))).wp zaD.P Q a w:=by
 let pre:Nat→Desks×Reop:=fun k=>(ev.take k).foldl (evG g) (seats s.Markers,[])
 refine wp_block (wp_loop (fun a w=>∃ k κd,k≤ev.length∧Now w0 S0 κ0 K zaD.fn.ntmps (mems (pre k).1) κd (stE s ev x (pre k).2 k) a w∧Points (pre k).1 κd x∧∀ i d,(pre k).1 i=some d→g.D k d)
  (fun a _=>ev.length - cnt a 40) ⟨0,κd0,zkj _,h,hp,seats_D g _⟩ ?_)
 rintro a w ⟨k,κd,hk,hn,hp,hD⟩
 have hc0:cnt a 40=k:=by rw [zum hn (n:=(k:Int)) rfl]; simp
 refine wp_seq (wkStep wk_r9 (w9 s ev _ _ _ _) hn (fun a1 w1 h1=>?_)); refine wp_seq (wp_cond (h1.bool (b:=decide ((k:Int) < (List.map zaa ev).length)) rfl) ?_); by_cases hlt:k < ev.length
 · rw [decide_eq_true (by simp; omega),if_pos rfl]; refine wp_skip ?_; have h2:=h1.trim [2,6,9,38,39,40] [] (st':=stE s ev x (pre k).2 k) (by kernel_rfl); refine wp_seq ?_
   have e:pre (k+1)=evG g (pre k) ev[k]:=by show (ev.take (k+1)).foldl (evG g) _=_; rw [aLiAs136 hlt,zvI]; rfl
   refine wk_event g hlt (hok _ (zbg hlt)) hev h2 hp hD (fun a3 w3 κd3 h3 hp3=>?_); refine wkStep wk_r25 (w25 s ev _ _ _ _) h3 (fun a6 w6 h6=>?_); rw [w6Q] at h6; refine ⟨⟨k+1,κd3,hlt,by rw [e]; exact_mod_cast h6,by rw [e]; exact hp3,by rw [e]; exact stepW_D g (hok _ (zbg hlt)) hD⟩,?_⟩; have:cnt a6 40=k+1:=by rw [zum h6 (n:=(k:Int)+1) rfl]; omega
   show ev.length - cnt a6 40 < ev.length - cnt a 40; omega
 · rw [decide_eq_false (by simp; omega),iNs]; refine wp_exit ?_; have hkl:k=ev.length:=by omega
   subst hkl
   have e:pre ev.length=walkW g ev:=by show (ev.take ev.length).foldl (evG g) _=_; rw [zmC]; rfl
   rw [e] at h1 hp; exact hQ _ _ _ (h1.trim [2,6,9,38,39,40] [] (by kernel_rfl)) hp
theorem desk_snap (d:zaf):snap (Ab.look (deskM d)) 5 (.loc 300 14 0 0)=some (.fp (zcW d)):=by
 have e0:Ab.look (deskM d) 300=some (e0D d):=rfl; have e1:Ab.look (deskM d) 301=some ⟨10,za7,List.map zaj d.marks,false⟩:=rfl; have e2:Ab.look (deskM d) 302=some ⟨0,zaJ,List.map zaq d.noted,false⟩:=rfl; have e3:Ab.look (deskM d) 303=some ⟨12,zas,List.map zah d.suspensions,false⟩:=rfl
 have r1:snap (Ab.look (deskM d)) 4 (.row 301 10 0 (List.map zaj d.marks).length)=some (.sl 10 (List.map zaj d.marks)):=by simp only [snap,e1]; simp [zcN]
 have r2:snap (Ab.look (deskM d)) 4 (.map 302)=some (.mp (List.map zaq d.noted)):=by simp only [snap,e2]; simp
 have r3:snap (Ab.look (deskM d)) 4 (.row 303 12 0 (List.map zah d.suspensions).length)=some (.sl 12 (List.map zah d.suspensions)):=by simp only [snap,e3]; simp [zcN]
 rw [show snap (Ab.look (deskM d)) 5 (.loc 300 14 0 0)=(match mapO (snap (Ab.look (deskM d)) 4) [I d.level,.row 301 10 0 ((List.map zaj d.marks).length),I d.period,I d.started.Time,I d.started.Source,I d.started.Seq,.map 302,AV.sl 1 (List.map nBool d.watch.Last),B d.watch.Suspended,I d.good.Time,I d.good.Source,I d.good.Seq,B d.some,.row 303 12 0 ((List.map zah d.suspensions).length)] with
  | some l=>some (.fp l)
  | none=>none) from rfl]
 simp only [mapO,r1,r2,r3]; rfl
theorem zAr:enters zaD.P zcH=true:=by kernel_rfl
theorem zAv {S S':Nat→Prop} {κd:Kap} {d:zaf} {g c:Nat} {w:World} (hF:FarObj S w κd (Ab.look (deskM d))) (hS:∀ g,S g→S' g) (hb:∀ b g c,(Ab.look (deskM d) b).isSome=true→κd b=some (g,c)→S' g)
  (hκ:κd 300=some (g,c)):CRel S' w (.fp (zcW d)) (.pointer (some ⟨g,0,none⟩)):=by
 have hv:VRel S κd (fun b=>(Ab.look (deskM d) b).isSome=true) w (.loc 300 14 0 0) (.pointer (some ⟨g,0,none⟩)):=by have:=VRel.loc (S:=S) (κ:=κd) (D:=fun b=>(Ab.look (deskM d) b).isSome=true) (w:=w) 300 14 0 0 g c rfl hκ; simpa using this
 exact zg8 hF.ents hS 5 hv (desk_snap d) (fun b hbm g c hk=>hb b g c (ids_D hF.ents 5 _ _ hv b hbm) hk)
theorem walk_calls {s:zay} {ev:List zab} (g:Legs s) (hm:∀ m∈s.Markers,0≤m.ID∧m.ID < 100) (hml:s.Markers.length < 1000000) (hok:∀ e∈ev,g.ok e) (hev:ev.length < 1000000)
  (w:World) (S:Nat→Prop) (κ:Kap) (vals:Array Value) (hvl:vals.size=2) (hS:∀ g,S g→g < w.heap.size)
  (hv:∀ (k:Nat) (a:AV) (x:Value),[AV.agg (zau s),AV.sl 9 (List.map zaa ev)][k]?=some a→vals[k]?=some x→VRel S κ (Dm []) w a x):Calls zaD.P zcH vals w (Ab.Left S κ [] [] (.tup [.fa 1 ((deskL (walkW g ev).1).map nDp),.mp (List.map zal (walkW g ev).2)]) w):=by
 have hf:zaD.P.funcs[zcH]?=some zaD.fn:=by kernel_rfl
 refine calls_of_wp hf wk_hb ?_; have h0:=GoodS.start (args:=[AV.agg (zau s),AV.sl 9 (List.map zaa ev)]) (κ:=κ) (ms:=[]) (N:=zaD.fn.ntmps) (by rw [hvl]; rfl) (show 2≤zaD.fn.ntmps by decide) hS hv (fun b ent hb=>by simp [Ab.look] at hb) (fun b b' g c c' hb=>by simp [Dm,Ab.look] at hb); have n0:Now w S κ (Dm []) zaD.fn.ntmps (fun _=>none) (fun _=>κ) ⟨argTab 0 [AV.agg (zau s),AV.sl 9 (List.map zaa ev)],[]⟩ _ w:=⟨S,κ,h0,Objs.none⟩
 generalize ({ tmps:=vals++Array.replicate (zaD.fn.ntmps - vals.size) undef,defers:=[] }:Act)=a0 at n0; rw [wk_shape]; refine wp_seq (wkStep wk_r0 (Go.Proofs.YtikogkgdkdmljaaGreat.w0 s ev) n0 (fun a1 w1 h1=>?_)); refine wp_seq (wkStep wk_r1 (Go.Proofs.YtikogkgdkdmljaaGreat.w1 s ev) h1 (fun a2 w2 h2=>?_)); refine wp_seq (wp_seq (wkStep wk_r2 (Go.Proofs.YtikogkgdkdmljaaGreat.w2 s ev (fun _=>none)) h2 (fun a3 w3 h3=>?_))); refine wk_markers hm hml h3 (fun a4 w4 κd4 x h4 hp4=>?_); have h5:=wk_toRow h4; refine wp_seq (wkStep wk_r7 (Go.Proofs.YtikogkgdkdmljaaGreat.w7 s ev (rows x)) h5 (fun a6 w6 h6=>?_)); refine wp_seq (wp_seq (wkStep wk_r8 (Go.Proofs.YtikogkgdkdmljaaGreat.w8 s ev (rows x) []) h6 (fun a7 w7 h7=>?_))); have h8:=h7.trim [2,6,9,38,39,40] [] (st':=stE s ev x [] 0) (by kernel_rfl); refine wk_loop g hok hev h8 hp4 (fun a9 w9 κd9 h9 hp9=>?_); have h10:=h9.trim [6,9] [2] (st':=⟨[(6,AV.loc 18 1 0 0),(9,AV.map 37)],[bA x,bR (walkW g ev).2]⟩) (by kernel_rfl); refine wp_seq (wkStep wk_r26 (Go.Proofs.YtikogkgdkdmljaaGreat.w26 (rows x) _) h10 (fun a11 w11 h11=>?_)); refine wp_ret ?_; obtain ⟨S2,κ2,hg,ho⟩:=h11; refine ⟨hg.defers,?_⟩; obtain ⟨v,hrun,hres⟩:=zn1 (P:=zaD.P) (st:=⟨[(4,AV.loc 18 1 0 0),(5,AV.map 37)],[bA x,bR (walkW g ev).2]⟩) hg.slots hg.ents (fn:=zaD.fn) (l:=[.loc 18 1 0 0,.map 37]) (by kernel_rfl)
 have hv2:VRel S2 κ2 (fun b=>(Ab.look [bA x,bR (walkW g ev).2] b).isSome=true) w11 (.tup [.loc 18 1 0 0,.map 37]) v:=by
  rcases hres with ⟨a,ha,_⟩ | ⟨_,h⟩
  · cases ha
  · exact h
 refine ⟨v,hrun,v,fun q=>S2 q∨(∃ b c,(Ab.look [bA x,bR (walkW g ev).2] b).isSome=true∧κ2 b=some (q,c))∨∃ i d b c,(walkW g ev).1 i=some d∧(Ab.look (deskM d) b).isSome=true∧κd9 i b=some (q,c),κ,rfl,hg.os,hg.tape,hg.output,hg.grow,?_,?_,?_,?_,fun _ _=>rfl,?_,?_,?_,?_⟩
 · exact fun q hq hK=>hg.old q hq hK
 · exact fun q hq=>.inl (hg.sup q hq)
 · intro q hq; rcases hq with h | ⟨b,c,hb,hk⟩ | ⟨i,d,b,c,hd,hb,hk⟩
   · exact hg.snew q h
   · have hb':b < 300:=zir (m:=[bA x,bR (walkW g ev).2]) (by kernel_rfl) b hb; exact .inr (hg.own b q c (by omega) hb hk)
   · exact .inr (ho.far i (deskM d) b q c (by simp [mems,hd]) hb hk).2
 · intro q hq; rcases hq with h | ⟨b,c,hb,hk⟩ | ⟨i,d,b,c,hd,hb,hk⟩
   · exact hg.slt q h
   · obtain ⟨ent,he⟩:=zb0.1 hb; have hE:=hg.ents b ent he; rw [hk] at hE; exact hE.lt
   · exact (ho.far i (deskM d) b q c (by simp [mems,hd]) hb hk).1.1
 · intro b g c _ hb; simp [Dm,Ab.look] at hb
 · intro b b' g c c' hb; simp [Dm,Ab.look] at hb
 · intro b ent hb; simp [Ab.look] at hb
 ·
  obtain ⟨vs,rfl,hsz,hvs⟩:=hv2.tup_inv; refine CRel.tup _ _ (by simpa using hsz) (fun j c y hj hy=>?_); have hS':∀ q,S2 q→(fun q=>S2 q∨(∃ b c,(Ab.look [bA x,bR (walkW g ev).2] b).isSome=true∧κ2 b=some (q,c))∨∃ i d b c,(walkW g ev).1 i=some d∧(Ab.look (deskM d) b).isSome=true∧κd9 i b=some (q,c)) q:=fun q hq=>.inl hq
  match j with
  | 0 =>
    simp only [ze5,zat] at hj; subst hj; have hv0:=hvs 0 _ y rfl hy; have hc0:CRel _ w11 (.fa 1 (rows x)) y:=zg8 hg.ents hS' 5 hv0 (a':=.fa 1 (rows x)) (by simp only [snap,Ab.look,if_true]; rw [zm9 x 0 (by omega)]; rfl) (fun b hb g c hk=>.inr (.inl ⟨b,c,ids_D hg.ents 5 _ _ hv0 b hb,hk⟩))
    cases hc0 with
    | fa _ _ a u hz hSa hc hr =>
      have hget:∀ i c,((deskL (walkW g ev).1).map nDp)[i]?=some c→i < 100∧c=nDp ((walkW g ev).1 i):=fun i c hi=>by
       have hl:i < 100:=by have:=(zbs.1 hi).1; simpa [deskL] using this
       refine ⟨hl,?_⟩; unfold deskL at hi; rw [zcR,zcR,zmD hl] at hi; simpa using hi.symm
      refine .fa 1 _ a u (fun cs hcs=>?_) hSa (fun i j cs c hi hj=>?_) (fun i j cs c hi hj=>?_)
      · obtain ⟨o,_,rfl⟩:=zbC.1 hcs; cases o <;> rfl
      · obtain ⟨hl,rfl⟩:=hget i cs hi
        have hj0:j=0:=by cases hq:(walkW g ev).1 i <;> rw [hq] at hj <;> cases j <;> simp [nDp] at hj ⊢
        subst hj0; exact hc i 0 _ _ (zm9 x i hl) rfl
      · obtain ⟨hl,rfl⟩:=hget i cs hi
        have hj0:j=0:=by cases hq:(walkW g ev).1 i <;> rw [hq] at hj <;> cases j <;> simp [nDp] at hj ⊢
        subst hj0
        have hu:u i 0=.pointer (x i):=by exact (VRel.c (κ:=fun _=>none) (D:=fun _=>False) (hr i 0 _ _ (zm9 x i hl) rfl)).v_inv
        rw [hu]; have hpi:=hp9 i hl
        cases hq:(walkW g ev).1 i with
        | none=>rw [hq] at hpi hj; simp [nDp] at hj; subst hj; rw [hpi]; exact .v _
        | some d=>rw [hq] at hpi hj; obtain ⟨g1,c1,hκ,hx⟩:=hpi; simp [nDp] at hj; subst hj; rw [hx]; exact zAv (ho.obj i (deskM d) (by simp [mems,hq])) hS' (fun b g c hb hk=>.inr (.inr ⟨i,d,b,c,hq,hb,hk⟩)) hκ
  | 1=>simp only [zmL,ze5,zat] at hj; subst hj; have hv1:=hvs 1 _ y rfl hy; exact zg8 hg.ents hS' 5 hv1 (by simp [snap,Ab.look]) (fun b hb g c hk=>.inr (.inl ⟨b,c,ids_D hg.ents 5 _ _ hv1 b hb,hk⟩))
  | j+2=>simp at hj
end
end
set_option maxRecDepth 10000
theorem fitS_at {s:zay} {e:zab} {q:Nat} (h:fitS s e=some q):∃ x p y,zgi s.Scripts e.Script=some x∧eligB s.Markers e.Stamp.Source x=true∧zfd s.Papers x=some (q,p)∧0≤e.Part∧p.Parts[e.Part.toNat]?=some y∧y.Kind=1∧permB y e.Value=true∧e.Pages=x.Pages:=by
 unfold fitS at h
 cases h1:zgi s.Scripts e.Script with
 | none=>simp [h1] at h
 | some x =>
   simp only [h1] at h; split at h
   case isFalse=>cases h
   rename_i h2
   cases h3:zfd s.Papers x with
   | none=>simp [h3] at h
   | some kp =>
     obtain ⟨k,p⟩:=kp; simp only [h3] at h; split at h
     case isFalse=>cases h
     rename_i h4
     cases h5:p.Parts[e.Part.toNat]? with
     | none=>simp [h5] at h
     | some y =>
       simp only [h5] at h; split at h
       case isFalse=>cases h
       rename_i h6; injection h with h; subst h; exact ⟨x,p,y,rfl,h2,h3,h4,h5,h6.1,h6.2.1,h6.2.2⟩
theorem c_seedOf (s:zay) (n:Int) (hl:s.Seeds.length≤1000000):cw zia [.agg (zau s),I n] []=some (zgg ((seedS s n).getD ⟨0,[]⟩,(seedS s n).isSome)):=by
 refine zv7 s n ?_; unfold seedS; refine zfK s.Seeds (fun y=>y.Script == n) (fun i=>zgT s n i) (fun o=>zgg (((o.map (·.2)).getD ⟨0,[]⟩),(o.map (·.2)).isSome)) ?_ ?_ ?_
 · exact zka _ _ _ (by simp (disch:=omega) only [zap,zaT]; rfl)
 · intro i hi h; refine zka _ _ _ ?_; simp (disch:=omega) only [zap,zaF,zan,za4,zni,zaC hi,zaY,h,zaI]; rfl
 · intro i hi y h hk; refine zka _ _ _ ?_; simp (disch:=omega) only [zap,zaF,zan,za4,zni,zaC hi,zaY,h,zaw,w64_id,hk]
section
variable {s:zay} (hok:CallOK zP (single zbt zOrc)) (hs:zdl s)
include hok hs
theorem c_fits (x:Nat→Option Addr) (e:zab) (hr:0≤e.Stamp.Source∧e.Stamp.Source < 100) (hp:e.Pages.length≤1000000):cw zfS [.fa 1 (rows x),.agg (zau s),.agg (zaa e)] []=some (zeI (match x e.Stamp.Source.toNat,fitS s e with
   | some p,some q=>((q:Int),some p)
   | _,_=>(0,none))):=by
 have hsl:=hs.scripts.1; have hpl:=hs.papers; have hml:=hs.markers.1; have hlen:=hs.len; refine zrY _ s e ?_; have hrow:=zm9 x e.Stamp.Source.toNat (by omega)
 rw [zan hr.1,zan (by have:=hr.2; simpa using this)]
 cases hx:x e.Stamp.Source.toNat with
 | none=>rw [hx] at hrow; rw [zpQ hrow]; refine zou _ _ ?_; rw [zrQ s _ (by omega),zhc]; rfl
 | some p =>
   rw [hx] at hrow; rw [zyd hrow]; refine znQ _ _ _ ?_; rw [zrQ s _ (by omega),zhc]; unfold fitS
   cases h1:zgi s.Scripts e.Script with
   | none=>rfl
   | some y =>
     simp only [scR,zbO,zaw]; rw [c_Eligible hok s.Markers _ y (by omega) (fun m hm=>hs.short2 m hm),zai]
     cases h2:eligB s.Markers e.Stamp.Source y with
     | false=>rfl
     | true =>
       simp only [zbO,zaw,if_true]; rw [ztp s y (by omega),zlG]
       cases h3:zfd s.Papers y with
       | none=>rfl
       | some kp =>
         obtain ⟨k,pp⟩:=kp; obtain ⟨hk,_⟩:=zgV h3; obtain ⟨hkl,_⟩:=zbs.1 hk; have hkc:k < s.Schemes.length:=by omega
         simp only [ixR,zbO,zaw]; by_cases h4:0≤e.Part
         case neg=>rw [zaF (by omega),if_neg h4]; rfl
         rw [zaT (by omega),if_pos h4,cPQ,za4,zfu,hk,zaY,zap]; by_cases h5:e.Part.toNat < pp.Parts.length
         case neg=>rw [zaF (by omega),zox (by omega)]; rfl
         rw [zaT (by omega),cPQ,zfu,hk,zaY,zan h4,zfk,zaC h5,zaY]; simp only; by_cases h6:pp.Parts[e.Part.toNat].Kind=1
         case neg=>rw [show (pp.Parts[e.Part.toNat].Kind != 1)=true by simp [h6],zaI,if_neg (fun h=>h6 h.1)]; rfl
         rw [show (pp.Parts[e.Part.toNat].Kind != 1)=false by simp [h6],zaw]
         have fin:∀ b:Bool,permB pp.Parts[e.Part.toNat] e.Value=b→brn (!b) (some (AV.tup [I 0,.v (.pointer none)],[])) (zex e p (y,true) ((k:Int),true))=some (zeI (match some p,if pp.Parts[e.Part.toNat].Kind=1∧permB pp.Parts[e.Part.toNat] e.Value=true∧e.Pages=y.Pages then some k else none with
           | some p,some q=>((q:Int),some p)
           | _,_=>(0,none))):=by
          intro b hb
          cases b with
          | false=>rw [zcx,zaI,if_neg (fun h=>by rw [hb] at h; exact absurd h.2.1 (by simp))]; rfl
          | true =>
            rw [zbO,zaw]; refine zov _ _ _ _ ?_; rw [c_Equal _ _ hp,zai]; by_cases h7:e.Pages=y.Pages
            · rw [zbE h7,zbO,zaw,if_pos ⟨h6,hb,h7⟩]; rfl
            · rw [zbG h7,zcx,zaI,if_neg (fun h=>h7 h.2.2)]; rfl
         by_cases h7:e.Value=-1
         · rw [show (e.Value != -1)=false by simp [h7],zaw]; have:=fin true (by unfold permB; rw [if_pos h7]); rw [zbO,zaw] at this; exact this
         · rw [show (e.Value != -1)=true by simp [h7],zaI,cPQ,zfu,hk,zaY,cPQ,zyX,zaC hkc,zaY]; have hc:=zAg pp s.Schemes[k] e.Part.toNat pp.Parts[e.Part.toNat] e.Value (hs.short _ (zbg hkc)) (hs.schemes k pp _ hk (zaC hkc)) (zaC h5); rw [show ((e.Part.toNat:Nat):Int)=e.Part by omega] at hc; rw [hc,zai]; exact fin _ rfl
end
set_option maxRecDepth 10000
theorem lastW_len {r:za2} {w:zcY} {b:Bool} (h:(w.Last.length:Int)≤r.Window):((lastW r w b).length:Int)≤r.Window:=by
 unfold lastW; split
 · simp; omega
 · rename_i h; simp at h ⊢; omega
theorem zwr {r:za2} {w:zcY} {b:Bool} (h:(w.Last.length:Int)≤r.Window):zqA r (stepW r w b):=⟨lastW_len h,rfl⟩
theorem OkMon.blank {r:za2} (h:OkMon r):zqA r ⟨[],false⟩:=by refine ⟨by have:=h.2.2.1; simp; omega,?_⟩; have:=h.2.2.2; show false=decide (r.Fails≤failsN []); rw [eq_comm,decide_eq_false_iff_not]; show ¬ r.Fails≤(0:Int); omega
section
variable {r:za2} {k:Nat} {d:zaf}
theorem DeskOk.zero (h:OkMon r) (l:Int):DeskOk r 0 (desk0 l):=⟨by simp [desk0],by simp [desk0],by simp [desk0],h.blank,by simp [desk0]⟩
theorem DeskOk.up (h:DeskOk r k d):DeskOk r (k+1) d:=⟨by have:=h.marks; omega,by have:=h.susp; omega,h.period,h.watch,h.some⟩
theorem DeskOk.rein (hm:OkMon r) (h:DeskOk r k d) (a:zaM):DeskOk r (k+1) (reinS a d):=by
 unfold reinS; split
 · exact ⟨by have:=h.marks; simp; omega,by have:=h.susp; simp; omega,by simp,hm.blank,by simp⟩
 · exact h.up
theorem DeskOk.app (h:DeskOk r k d) (m:zbc):DeskOk r (k+1) { d with marks:=d.marks++[m] }:=
 ⟨by have:=h.marks; simp; omega,by have:=h.susp; simp; omega,by have:=h.period; simp; omega,h.watch,h.some⟩
theorem DeskOk.note (h:DeskOk r k d) {s:zay} (hr:s.Monitor=r) (p:zaE) (sd:GSeed) (e:zab):DeskOk r (k+1) (noteS s p sd e d):=by
 subst hr; have h1:=h.marks; have h2:=h.susp; have h3:=h.period; unfold noteS; split
 · exact h.up
 · simp only; split
   · exact ⟨by show d.marks.length≤_; omega,by show d.suspensions.length≤_; omega,h3,h.watch,h.some⟩
   · split
     · exact ⟨by show d.marks.length≤_; omega,by show d.suspensions.length≤_; omega,h3,h.watch,h.some⟩
     · split
       · unfold suspS; exact ⟨by simp; omega,by simp; omega,by simpa using h3,zwr h.watch.1,fun _=>by simp⟩
       · rename_i hn; split
         · exact ⟨by show d.marks.length≤_; omega,by show d.suspensions.length≤_; omega,h3,zwr h.watch.1,fun q=>absurd q hn⟩
         · exact ⟨by show d.marks.length≤_; omega,by show d.suspensions.length≤_; omega,h3,zwr h.watch.1,fun q=>absurd q hn⟩
end
theorem zpR {e:zab} (h:eventB e=true):OkEvent e:=by unfold eventB stampB at h; simp only [zbK,decide_eq_true_eq,zbQ] at h; obtain ⟨⟨⟨⟨h1,h2⟩,h3⟩,h4⟩,h5⟩:=h; exact ⟨h1,h2,h3,h4,h5⟩
section
variable (okI:CallOK zP (single zbt zOrc)) (okB:CallOK zP (single zby zOrc))
include okI okB
def legs {s:zay} (hs:zdl s):Legs s where
 rein:=reinS
 note:=noteS s
 fit:=fitS s
 seed:=seedS s
 ok:=fun e=>eventB e=true
 D:=DeskOk s.Monitor
 ranges:=fun e he=>by have h:=zpR he; have h1:=h.1; have h2:=h.2.2.2.2; unfold OkStamp at h1; unfold OkKind at h2; omega
 D0:=fun l=>DeskOk.zero hs.monitor l
 Dup:=fun _ _ h=>h.up
 Dlen:=fun _ _ h=>h.marks
 Drein:=fun _ _ _ _ h=>h.rein hs.monitor _
 Dnote:=fun _ _ _ _ _ _ h=>h.note rfl _ _ _
 Dapp:=fun _ _ _ _ h=>h.app _
 fit_lt:=fun e q h=>by obtain ⟨x,p,y,_,_,h3,_⟩:=fitS_at h; exact (zbs.1 (zgV h3).1).1
 cRein:=fun k d e hk _ h=>zAk d e.Stamp (by have:=h.susp; omega) h.some
 cNote:=fun k d p sd e hk _ h hp hfit hseed=>by
  have hpm:=(hs.schemes · p · · ·)
  obtain ⟨q,hq,hpq⟩:=hfit; obtain ⟨x,p',y,h1,_,h3,_⟩:=fitS_at hq
  have hpp:p'=p:=by have:=(zgV h3).1; rw [hpq] at this; injection this with this; exact this.symm
  subst hpp; unfold seedS at hseed
  cases hsd:seedOf s.Seeds e.Script with
  | none=>simp [hsd] at hseed
  | some js =>
    obtain ⟨j,sd'⟩:=js; simp only [hsd,zc1,zat] at hseed; subst hseed; obtain ⟨hj,hje,_⟩:=fnd_at hsd; have hse:sd'.Script=e.Script:=by simpa using hje
    obtain ⟨k2,p2,h4,h5⟩:=hs.seed sd' (zbP hj); unfold zm6 at h4; rw [hse,h1,zaY,h3] at h4; injection h4 with h4; cases h4; have hlen:p'.Parts.length≤24:=(zdl.okPaper hs hpq).2.2.1.2; exact c_note okB s hs.monitor p' sd' e d h hk hlen h5.1
 cFits:=fun x e he=>by have h:=zpR he; have h1:=h.1; have h2:=h.2.2.1; unfold OkStamp at h1; exact c_fits okI hs x e (by omega) (by omega)
 cSeed:=fun n=>c_seedOf s n (by have:=hs.seeds; omega)
theorem walk_ok:CallOK zP (single zcH zOrc):=by
 intro f args ms r ms' h; unfold single at h; split at h
 case isFalse=>cases h
 rename_i hf; subst hf; simp only [zOrc,if_true] at h
 cases ms with
 | cons a m=>cases h
 | nil =>
 simp only [oWalk] at h; split at h
 case isFalse=>cases h
 rename_i hex; have hsp:=hex.choose_spec.choose_spec; generalize hex.choose_spec.choose=ev at h hsp; generalize hex.choose=s at h hsp; obtain ⟨ha,hs,hev,hlen⟩:=hsp; subst ha; injection h with h; have h1:r=.tup [.fa 1 ((deskL (walkS s ev).1).map nDp),.mp (List.map zal (walkS s ev).2)]:=(congrArg Prod.fst h).symm; have h2:ms'=[]:=(congrArg Prod.snd h).symm; subst h1 h2; refine ⟨zAr,fun w S κ vals hvl hS hv _ _=>?_⟩; have hm:=hs.markers; exact walk_calls (legs okI okB hs) (fun m hm'=>by have:=(hm.2.1 m hm').1.1; omega) (by have:=hm.1; omega) hev (by omega) w S κ vals (by simpa using hvl) hS hv
end
set_option maxRecDepth 100000
def ciC:Code:=(zbq.fn.body).getD .skip
def ciO (j:Nat):Array Oper:=opsAt j ciC
def ciD (j:Nat):Bool:=zq3 j ciC
theorem ci_hb:zbq.fn.body=some ciC:=by kernel_rfl
theorem ci_shape:ciC=(.seq (.region 0 (ciO 0) (ciD 0)) (.seq (.seq (.region 1 (ciO 1) false) (.cond (.tmp 4) (.seq (.region 2 (ciO 2) (ciD 2)) .ret) .skip)) (.seq (.region 3 (ciO 3) (ciD 3)) .ret))):=by kernel_rfl
theorem ci_r0:regOf 0 ciC=some (.region 0 (ciO 0) (ciD 0)):=by kernel_rfl
theorem ci_r1:regOf 1 ciC=some (.region 1 (ciO 1) false):=by kernel_rfl
theorem ci_r2:regOf 2 ciC=some (.region 2 (ciO 2) (ciD 2)):=by kernel_rfl
theorem ci_r3:regOf 3 ciC=some (.region 3 (ciO 3) (ciD 3)):=by kernel_rfl
theorem ci_n:zbq.fn.ntmps≤1000:=by decide
theorem ci_enters:enters zbq.P zbt=true:=by kernel_rfl
theorem ci_t0 (es:List (List AV)):tReg zbq zT 0 ⟨[(0,AV.sl 1 es)],[]⟩=some ⟨[(0,AV.sl 1 es)],[]⟩:=by kernel_rfl
theorem ci_t1 (es:List (List AV)):tSeg zbq zT 1 0 1 ⟨[(0,AV.sl 1 es)],[]⟩=some ⟨[(3,AV.sl 1 es),(0,AV.sl 1 es)],[]⟩:=by kernel_rfl
theorem ci_t2:tReg zbq zT 2 ⟨[],[]⟩=some ⟨[(2,AV.row 2 1 0 0)],[(2,⟨1,za3,[],false⟩)]⟩:=by kernel_rfl
theorem ci_t3 (es:List (List AV)):tReg zbq zT 3 ⟨[(0,AV.sl 1 es)],[]⟩=(chk (0=0)<|chk ((0+es.length)*(8+1)≤1099511627776)<|chk (es.length=es.length)<|some ⟨[(2,AV.row 2 1 0 es.length)],[(2,⟨1,za3,es,false⟩)]⟩):=by kernel_rfl
theorem ci_body {w0:World} {S0:Nat→Prop} {κ0:Kap} {K:Nat→Prop} {a:Act} {w:World} {es:List (List AV)} (hl:es.length≤100000000) (h:NowP w0 S0 κ0 K zbq.fn.ntmps (fun _ _ _ _=>True) ⟨[(0,AV.sl 1 es)],[]⟩ a w):ciC.wp zbq.P (PostC w0 S0 κ0 K zbq.fn.ntmps .ret ⟨[(2,AV.row 2 1 0 es.length)],[(2,⟨1,za3,es,false⟩)]⟩) a w:=by
 rw [ci_shape]; refine wp_seq (stepP Stable.none ci_hb ci_n ci_r0 (ci_t0 es) h (fun a1 w1 h1=>?_)); refine wp_seq (wp_seq (wp_region ?_)); have z1:(ciO 1).size=2:=by kernel_rfl
 rw [z1,show List.range 2=List.range' 0 1++[1] from rfl]; refine segP Stable.none ci_hb ci_n ci_r1 (ci_t1 es) (by rw [z1]; decide) h1 (fun a2 w2 h2=>?_); rw [wpOps_cons]; refine nil_op (t:=22) (u:=22) (e:=za3) (s:=3) (d:=4) (by unfold opIs; kernel_rfl) (by kernel_rfl) (by decide) h2 rfl (fun b hb h3=>?_); refine wp_cond (h3.bool (b:=b) rfl) ?_
 cases b with
 | true=>have:=hb rfl; subst this; rw [if_pos rfl]; have h4:=h3.trim Stable.none [] [] (st':=⟨[],[]⟩) (by kernel_rfl); refine wp_seq (stepP Stable.none ci_hb ci_n ci_r2 ci_t2 h4 (fun a5 w5 h5=>?_)); refine wp_ret ⟨rfl,?_⟩; obtain ⟨S,κ,hg,_⟩:=h5; exact ⟨S,κ,hg⟩
 | false=>rw [iNs]; refine wp_skip ?_; have h4:=h3.trim Stable.none [0] [] (st':=⟨[(0,AV.sl 1 es)],[]⟩) (by kernel_rfl); have t3:=ci_t3 es; rw [zan rfl,cPQ,zan rfl] at t3; refine wp_seq (stepP Stable.none ci_hb ci_n ci_r3 t3 h4 (fun a5 w5 h5=>?_)); refine wp_ret ⟨rfl,?_⟩; obtain ⟨S,κ,hg,_⟩:=h5; exact ⟨S,κ,hg⟩
theorem ci_ok:CallOK zP (single zbt zOrc):=by
 intro f args ms r ms' h; unfold single at h; split at h
 case isFalse=>cases h
 rename_i hf; subst hf
 cases ms with
 | cons a m =>
   have hz:zOrc zbt args (a :: m)=none:=by unfold zOrc; simp (decide:=true) only [if_false,if_true]
   rw [hz] at h; cases h
 | nil =>
 have hz:zOrc zbt args []=oClone za3 args:=by unfold zOrc; simp (decide:=true) only [if_false,if_true]
 rw [hz] at h; clear hz; unfold oClone at h; split at h
 case h_2=>cases h
 rename_i es; split at h
 case isFalse=>cases h
 rename_i hl; injection h with h; injection h with h1 h2; subst h1 h2; refine ⟨ci_enters,fun w S κ vals hvl hS hv hms hinj=>?_⟩; have hf:zbq.P.funcs[zbt]?=some zbq.fn:=by kernel_rfl
 refine znz (args:=[AV.sl 1 es]) (frz:=false) (ex:=.ret) (st:=⟨[(2,AV.row 2 1 0 es.length)],[(2,⟨1,za3,es,false⟩)]⟩) hf ci_hb (show 1≤zbq.fn.ntmps by decide) hvl hS hv hms hinj (fun id=>by simp) (fun a hg=>?_) ?_ ?_ ?_
 · obtain ⟨S,κ,hg⟩:=hg; exact ci_body hl ⟨S,κ,hg,trivial⟩
 · rw [show zfg zbq.P false zbq.fn ⟨[(2,.row 2 1 0 es.length)],[(2,⟨1,za3,es,false⟩)]⟩=outOf false [(2,⟨1,za3,es,false⟩)] (.row 2 1 0 es.length) from by kernel_rfl]; simp [outOf,Ab.look]
 · kernel_rfl
 · kernel_rfl
def cbC:Code:=(zbk.fn.body).getD .skip
def cbO (j:Nat):Array Oper:=opsAt j cbC
def cbD (j:Nat):Bool:=zq3 j cbC
theorem cb_hb:zbk.fn.body=some cbC:=by kernel_rfl
theorem cb_shape:cbC=(.seq (.region 0 (cbO 0) (cbD 0)) (.seq (.seq (.region 1 (cbO 1) false) (.cond (.tmp 4) (.seq (.region 2 (cbO 2) (cbD 2)) .ret) .skip)) (.seq (.region 3 (cbO 3) (cbD 3)) .ret))):=by kernel_rfl
theorem cb_r0:regOf 0 cbC=some (.region 0 (cbO 0) (cbD 0)):=by kernel_rfl
theorem cb_r1:regOf 1 cbC=some (.region 1 (cbO 1) false):=by kernel_rfl
theorem cb_r2:regOf 2 cbC=some (.region 2 (cbO 2) (cbD 2)):=by kernel_rfl
theorem cb_r3:regOf 3 cbC=some (.region 3 (cbO 3) (cbD 3)):=by kernel_rfl
theorem cb_n:zbk.fn.ntmps≤1000:=by decide
theorem cb_enters:enters zbk.P zby=true:=by kernel_rfl
theorem cb_t0 (es:List (List AV)):tReg zbk zT 0 ⟨[(0,AV.sl 1 es)],[]⟩=some ⟨[(0,AV.sl 1 es)],[]⟩:=by kernel_rfl
theorem cb_t1 (es:List (List AV)):tSeg zbk zT 1 0 1 ⟨[(0,AV.sl 1 es)],[]⟩=some ⟨[(3,AV.sl 1 es),(0,AV.sl 1 es)],[]⟩:=by kernel_rfl
theorem cb_t2:tReg zbk zT 2 ⟨[],[]⟩=some ⟨[(2,AV.row 2 1 0 0)],[(2,⟨1,zfi,[],false⟩)]⟩:=by kernel_rfl
theorem cb_t3 (es:List (List AV)):tReg zbk zT 3 ⟨[(0,AV.sl 1 es)],[]⟩=(chk (0=0)<|chk ((0+es.length)*(1+1)≤1099511627776)<|chk (es.length=es.length)<|some ⟨[(2,AV.row 2 1 0 es.length)],[(2,⟨1,zfi,es,false⟩)]⟩):=by kernel_rfl
theorem cb_body {w0:World} {S0:Nat→Prop} {κ0:Kap} {K:Nat→Prop} {a:Act} {w:World} {es:List (List AV)} (hl:es.length≤100000000) (h:NowP w0 S0 κ0 K zbk.fn.ntmps (fun _ _ _ _=>True) ⟨[(0,AV.sl 1 es)],[]⟩ a w):cbC.wp zbk.P (PostC w0 S0 κ0 K zbk.fn.ntmps .ret ⟨[(2,AV.row 2 1 0 es.length)],[(2,⟨1,zfi,es,false⟩)]⟩) a w:=by
 rw [cb_shape]; refine wp_seq (stepP Stable.none cb_hb cb_n cb_r0 (cb_t0 es) h (fun a1 w1 h1=>?_)); refine wp_seq (wp_seq (wp_region ?_)); have z1:(cbO 1).size=2:=by kernel_rfl
 rw [z1,show List.range 2=List.range' 0 1++[1] from rfl]; refine segP Stable.none cb_hb cb_n cb_r1 (cb_t1 es) (by rw [z1]; decide) h1 (fun a2 w2 h2=>?_); rw [wpOps_cons]; refine nil_op (t:=109) (u:=109) (e:=zfi) (s:=3) (d:=4) (by unfold opIs; kernel_rfl) (by kernel_rfl) (by decide) h2 rfl (fun b hb h3=>?_); refine wp_cond (h3.bool (b:=b) rfl) ?_
 cases b with
 | true=>have:=hb rfl; subst this; rw [if_pos rfl]; have h4:=h3.trim Stable.none [] [] (st':=⟨[],[]⟩) (by kernel_rfl); refine wp_seq (stepP Stable.none cb_hb cb_n cb_r2 cb_t2 h4 (fun a5 w5 h5=>?_)); refine wp_ret ⟨rfl,?_⟩; obtain ⟨S,κ,hg,_⟩:=h5; exact ⟨S,κ,hg⟩
 | false=>rw [iNs]; refine wp_skip ?_; have h4:=h3.trim Stable.none [0] [] (st':=⟨[(0,AV.sl 1 es)],[]⟩) (by kernel_rfl); have t3:=cb_t3 es; rw [zan rfl,cPQ,zan rfl] at t3; refine wp_seq (stepP Stable.none cb_hb cb_n cb_r3 t3 h4 (fun a5 w5 h5=>?_)); refine wp_ret ⟨rfl,?_⟩; obtain ⟨S,κ,hg,_⟩:=h5; exact ⟨S,κ,hg⟩
theorem cb_ok:CallOK zP (single zby zOrc):=by
 intro f args ms r ms' h; unfold single at h; split at h
 case isFalse=>cases h
 rename_i hf; subst hf
 cases ms with
 | cons a m =>
   have hz:zOrc zby args (a :: m)=none:=by unfold zOrc; simp (decide:=true) only [if_false,if_true]
   rw [hz] at h; cases h
 | nil =>
 have hz:zOrc zby args []=oClone zfi args:=by unfold zOrc; simp (decide:=true) only [if_false,if_true]
 rw [hz] at h; clear hz; unfold oClone at h; split at h
 case h_2=>cases h
 rename_i es; split at h
 case isFalse=>cases h
 rename_i hl; injection h with h; injection h with h1 h2; subst h1 h2; refine ⟨cb_enters,fun w S κ vals hvl hS hv hms hinj=>?_⟩; have hf:zbk.P.funcs[zby]?=some zbk.fn:=by kernel_rfl
 refine znz (args:=[AV.sl 1 es]) (frz:=false) (ex:=.ret) (st:=⟨[(2,AV.row 2 1 0 es.length)],[(2,⟨1,zfi,es,false⟩)]⟩) hf cb_hb (show 1≤zbk.fn.ntmps by decide) hvl hS hv hms hinj (fun id=>by simp) (fun a hg=>?_) ?_ ?_ ?_
 · obtain ⟨S,κ,hg⟩:=hg; exact cb_body hl ⟨S,κ,hg,trivial⟩
 · rw [show zfg zbk.P false zbk.fn ⟨[(2,.row 2 1 0 es.length)],[(2,⟨1,zfi,es,false⟩)]⟩=outOf false [(2,⟨1,zfi,es,false⟩)] (.row 2 1 0 es.length) from by kernel_rfl]; simp [outOf,Ab.look]
 · kernel_rfl
 · kernel_rfl
set_option maxRecDepth 100000
def frA (b:Bool) (k:Nat) (l:List zab):AV:=bif b then .row k 9 0 (List.map zaa l).length else .sl 9 (List.map zaa l)
def frM (b:Bool) (k:Nat) (l:List zab):Mem:=bif b then [(k,⟨9,zac,List.map zaa l,false⟩)] else []
theorem c0 (b:Bool) (l:List zab):tReg zaH zT 0 ⟨[(0,frA b 1000 l)],frM b 1000 l⟩=(some ⟨[(0,frA b 1000 l)],frM b 1000 l⟩):=by cases b <;> kernel_rfl
theorem c1 (b:Bool) (l:List zab):tReg zaH zT 1 ⟨[(0,frA b 1000 l)],frM b 1000 l⟩=(some ⟨[(0,frA b 1000 l),(4,AV.row 4 9 0 0)],[(4,⟨9,zac,[],false⟩)]++frM b 1000 l⟩):=by cases b <;> kernel_rfl
theorem c4 (b:Bool) (l:List zab) (ev:List zab) (p:Addr) (k:Int×Int) (g:zba):tSeg zaH zT 4 1 3 ⟨[(0,frA b 1000 l),(4,AV.row 4 9 0 (List.length (List.map zaa ev))),(10,AV.v (.pointer (some p))),(13,AV.tup [AV.agg [I k.fst,I k.snd],AV.agg [I g.first,B g.disputed]])],[(4,⟨9,zac,List.map zaa ev,false⟩)]++frM b 1000 l⟩=(some ⟨[(6,AV.loc 6 2 0 0),(14,AV.agg [I g.first,B g.disputed]),(0,frA b 1000 l),(4,AV.row 4 9 0 (List.length (List.map zaa ev))),(10,AV.v (.pointer (some p))),(13,AV.tup [AV.agg [I k.fst,I k.snd],AV.agg [I g.first,B g.disputed]])],[(6,⟨2,zdK,[zbA g],true⟩),(4,⟨9,zac,List.map zaa ev,false⟩)]++frM b 1000 l⟩):=by cases b <;> kernel_rfl
theorem c5 (b:Bool) (l:List zab) (ev:List zab) (p:Addr) (g:zba):tReg zaH zT 5 ⟨[(0,frA b 1000 l),(4,AV.row 4 9 0 (List.length (List.map zaa ev))),(6,AV.loc 6 2 0 0),(10,AV.v (.pointer (some p)))],[(4,⟨9,zac,List.map zaa ev,false⟩),(6,⟨2,zdK,[zbA g],true⟩)]++frM b 1000 l⟩=(some ⟨[(0,frA b 1000 l),(4,AV.row 4 9 0 (List.length (List.map zaa ev))),(6,AV.loc 6 2 0 0),(10,AV.v (.pointer (some p))),(17,B (!g.disputed))],[(4,⟨9,zac,List.map zaa ev,false⟩),(6,⟨2,zdK,[zbA g],true⟩)]++frM b 1000 l⟩):=by cases b <;> kernel_rfl
theorem c7 (b:Bool) (l:List zab) (ev:List zab):tReg zaH zT 7 ⟨[(4,AV.row 4 9 0 (List.length (List.map zaa ev)))],[(4,⟨9,zac,List.map zaa ev,false⟩)]++frM b 1000 l⟩=(some ⟨[(4,AV.row 4 9 0 (List.length (List.map zaa ev))),(28,B (decide (2000 < (↑(List.map zaa ev).length:Int))))],[(4,⟨9,zac,List.map zaa ev,false⟩)]++frM b 1000 l⟩):=by cases b <;> kernel_rfl
theorem c9 (b:Bool) (l:List zab) (ev:List zab):tReg zaH zT 9 ⟨[(4,AV.row 4 9 0 (List.length (List.map zaa ev)))],[(4,⟨9,zac,List.map zaa ev,false⟩)]++frM b 1000 l⟩=(callD za9 (cw zd1 [AV.row 1000 9 0 (List.length (List.map zaa ev)),AV.fn zer []] [(1000,⟨9,zac,List.map zaa ev,false⟩)]) fun (r0:(List zab))=>some ⟨[(4,AV.row 4 9 0 ((List.map zaa ev).length))],[(4,⟨9,zac,List.map zaa r0,false⟩)]++frM b 1000 l⟩):=by cases b <;> kernel_rfl
theorem c10 (b:Bool) (l:List zab) (ev:List zab):tReg zaH zT 10 ⟨[(4,AV.row 4 9 0 (List.length (List.map zaa ev)))],[(4,⟨9,zac,List.map zaa ev,false⟩)]++frM b 1000 l⟩=(some ⟨[(4,AV.row 4 9 0 (List.length (List.map zaa ev))),(32,I ((↑(List.map zaa ev).length:Int))),(33,I 0)],[(4,⟨9,zac,List.map zaa ev,false⟩)]++frM b 1000 l⟩):=by cases b <;> kernel_rfl
theorem c11 (b:Bool) (l:List zab) (ev:List zab) (n:Int) (i:Int):tReg zaH zT 11 ⟨[(4,AV.row 4 9 0 (List.length (List.map zaa ev))),(32,I n),(33,I i)],[(4,⟨9,zac,List.map zaa ev,false⟩)]++frM b 1000 l⟩=(some ⟨[(4,AV.row 4 9 0 (List.length (List.map zaa ev))),(32,I n),(33,I i),(34,B (decide (i < n)))],[(4,⟨9,zac,List.map zaa ev,false⟩)]++frM b 1000 l⟩):=by cases b <;> kernel_rfl
theorem c12 (b:Bool) (l:List zab) (ev:List zab) (n:Int) (i:Int):tReg zaH zT 12 ⟨[(4,AV.row 4 9 0 (List.length (List.map zaa ev))),(32,I n),(33,I i)],[(4,⟨9,zac,List.map zaa ev,false⟩)]++frM b 1000 l⟩=(some ⟨[(4,AV.row 4 9 0 (List.length (List.map zaa ev))),(7,I i),(32,I n),(33,I i)],[(4,⟨9,zac,List.map zaa ev,false⟩)]++frM b 1000 l⟩):=by cases b <;> kernel_rfl
theorem c13 (b:Bool) (l:List zab) (ev:List zab) (n:Int) (i:Int):tReg zaH zT 13 ⟨[(4,AV.row 4 9 0 (List.length (List.map zaa ev))),(7,I i),(32,I n),(33,I i)],[(4,⟨9,zac,List.map zaa ev,false⟩)]++frM b 1000 l⟩=(chk ((0:Int)≤i)<|
 chk ((i:Int) < ((↑(List.map zaa ev).length:Int)))<|
 elemD zaB (List.map zaa ev) (0+i.toNat) fun (c0:zab) =>
 callD zeK (cw zgL [AV.agg (zaa c0)] []) fun (r1:zab) =>
 chk ((0:Int)≤i)<|
 chk ((i:Int) < ((↑(List.map zaa ev).length:Int)))<|
 elemD zaB (List.map zaa ev) (0+i.toNat) fun (c2:zab) =>
 some ⟨[(4,AV.row 4 9 0 ((List.map zaa ev).length)),(32,I n),(33,I i)],[(4,⟨9,zac,List.set (List.map zaa ev) (0+i.toNat) (zaa r1),false⟩)]++frM b 1000 l⟩):=by cases b <;> kernel_rfl
theorem c14 (b:Bool) (l:List zab) (ev:List zab) (n:Int) (i:Int):tReg zaH zT 14 ⟨[(4,AV.row 4 9 0 (List.length (List.map zaa ev))),(32,I n),(33,I i)],[(4,⟨9,zac,List.map zaa ev,false⟩)]++frM b 1000 l⟩=(some ⟨[(4,AV.row 4 9 0 (List.length (List.map zaa ev))),(32,I n),(33,I (w64 (i+1)))],[(4,⟨9,zac,List.map zaa ev,false⟩)]++frM b 1000 l⟩):=by cases b <;> kernel_rfl
theorem c15 (b:Bool) (l:List zab) (ev:List zab):tReg zaH zT 15 ⟨[(4,AV.row 4 9 0 (List.length (List.map zaa ev)))],[(4,⟨9,zac,List.map zaa ev,false⟩)]++frM b 1000 l⟩=(some ⟨[(2,AV.row 4 9 0 (List.length (List.map zaa ev))),(3,I 0)],[(4,⟨9,zac,List.map zaa ev,false⟩)]++frM b 1000 l⟩):=by cases b <;> kernel_rfl
theorem c2 (l:List zab):tSeg zaH zT 2 0 2 ⟨[(0,AV.row 1000 9 0 (List.length (List.map zaa l))),(4,AV.row 4 9 0 0)],[(4,⟨9,zac,[],false⟩),(1000,⟨9,zac,List.map zaa l,false⟩)]⟩=(callD zio (cw zcP [AV.row 1000 9 0 (List.length (List.map zaa l))] [(1000,⟨9,zac,List.map zaa l,false⟩)]) fun (r0:((List ((Int×Int)×zba)))×(List zab))=>some ⟨[(9,AV.map 9),(8,AV.row 1000 9 0 ((List.map zaa l).length)),(0,AV.row 1000 9 0 ((List.map zaa l).length)),(4,AV.row 4 9 0 0)],[(9,⟨0,zbn,List.map zbv r0.fst,false⟩),(4,⟨9,zac,[],false⟩),(1000,⟨9,zac,List.map zaa r0.snd,false⟩)]⟩):=by kernel_rfl
theorem c2f (l:List zab):tSeg zaH zT 2 0 2 ⟨[(0,AV.sl 9 (List.map zaa l)),(4,AV.row 4 9 0 0)],[(4,⟨9,zac,[],false⟩)]⟩=(callD zg5 (cw zcP [AV.sl 9 (List.map zaa l)] []) fun (r0:(List ((Int×Int)×zba)))=>some ⟨[(9,AV.map 9),(8,AV.sl 9 (List.map zaa l)),(0,AV.sl 9 (List.map zaa l)),(4,AV.row 4 9 0 0)],[(9,⟨0,zbn,List.map zbv r0,false⟩),(4,⟨9,zac,[],false⟩)]⟩):=by kernel_rfl
theorem c6 (l:List zab) (ev:List zab) (p:Addr) (g:zba):tReg zaH zT 6 ⟨[(0,AV.row 1000 9 0 (List.length (List.map zaa l))),(4,AV.row 4 9 0 (List.length (List.map zaa ev))),(6,AV.loc 6 2 0 0),(10,AV.v (.pointer (some p)))],[(4,⟨9,zac,List.map zaa ev,false⟩),(6,⟨2,zdK,[zbA g],true⟩),(1000,⟨9,zac,List.map zaa l,false⟩)]⟩=(chk ((0:Int)≤g.first)<|
 chk ((g.first:Int) < ((↑(List.map zaa l).length:Int)))<|
 elemD zaB (List.map zaa l) (0+g.first.toNat) fun (c0:zab) =>
 chk ((List.map zaa ev).length=(List.map zaa ev).length)<|
 chk (((List.map zaa ev).length+1)*(88+1)≤1099511627776)<|
 chk ((List.map zaa ev++[[AV.v (Go.Value.int IntKind.i64 c0.Stamp.Time),AV.v (Go.Value.int IntKind.i64 c0.Stamp.Source),AV.v (Go.Value.int IntKind.i64 c0.Stamp.Seq),AV.v (Go.Value.int IntKind.i64 c0.Kind),AV.v (Go.Value.int IntKind.i64 c0.Script),AV.v (Go.Value.int IntKind.i64 c0.Part),AV.v (Go.Value.int IntKind.i64 c0.Value),AV.v (Go.Value.int IntKind.i64 c0.Marker),AV.sl 1 (List.map zak c0.Pages)]]).length=(List.map zaa ev++[[AV.v (Go.Value.int IntKind.i64 c0.Stamp.Time),AV.v (Go.Value.int IntKind.i64 c0.Stamp.Source),AV.v (Go.Value.int IntKind.i64 c0.Stamp.Seq),AV.v (Go.Value.int IntKind.i64 c0.Kind),AV.v (Go.Value.int IntKind.i64 c0.Script),AV.v (Go.Value.int IntKind.i64 c0.Part),AV.v (Go.Value.int IntKind.i64 c0.Value),AV.v (Go.Value.int IntKind.i64 c0.Marker),AV.sl 1 (List.map zak c0.Pages)]]).length)<|
 some ⟨[(0,AV.row 1000 9 0 (List.length (List.map zaa l))),(4,AV.row 4 9 0 (List.length ((List.map zaa ev)++([[I c0.Stamp.Time,I c0.Stamp.Source,I c0.Stamp.Seq,I c0.Kind,I c0.Script,I c0.Part,I c0.Value,I c0.Marker,AV.sl 1 (List.map zak c0.Pages)]])))),(10,AV.v (.pointer (some p)))],[(4,⟨9,zac,(List.map zaa ev)++([zaa c0]),false⟩),(1000,⟨9,zac,List.map zaa l,false⟩)]⟩):=by kernel_rfl
theorem c6f (l:List zab) (ev:List zab) (p:Addr) (g:zba):tReg zaH zT 6 ⟨[(0,AV.sl 9 (List.map zaa l)),(4,AV.row 4 9 0 (List.length (List.map zaa ev))),(6,AV.loc 6 2 0 0),(10,AV.v (.pointer (some p)))],[(4,⟨9,zac,List.map zaa ev,false⟩),(6,⟨2,zdK,[zbA g],true⟩)]⟩=(chk ((0:Int)≤g.first)<|
 elemD zaB (List.map zaa l) g.first.toNat fun (c0:zab) =>
 chk ((List.map zaa ev).length=(List.map zaa ev).length)<|
 chk (((List.map zaa ev).length+1)*(88+1)≤1099511627776)<|
 chk ((List.map zaa ev++[[AV.v (Go.Value.int IntKind.i64 c0.Stamp.Time),AV.v (Go.Value.int IntKind.i64 c0.Stamp.Source),AV.v (Go.Value.int IntKind.i64 c0.Stamp.Seq),AV.v (Go.Value.int IntKind.i64 c0.Kind),AV.v (Go.Value.int IntKind.i64 c0.Script),AV.v (Go.Value.int IntKind.i64 c0.Part),AV.v (Go.Value.int IntKind.i64 c0.Value),AV.v (Go.Value.int IntKind.i64 c0.Marker),AV.sl 1 (List.map zak c0.Pages)]]).length=(List.map zaa ev++[[AV.v (Go.Value.int IntKind.i64 c0.Stamp.Time),AV.v (Go.Value.int IntKind.i64 c0.Stamp.Source),AV.v (Go.Value.int IntKind.i64 c0.Stamp.Seq),AV.v (Go.Value.int IntKind.i64 c0.Kind),AV.v (Go.Value.int IntKind.i64 c0.Script),AV.v (Go.Value.int IntKind.i64 c0.Part),AV.v (Go.Value.int IntKind.i64 c0.Value),AV.v (Go.Value.int IntKind.i64 c0.Marker),AV.sl 1 (List.map zak c0.Pages)]]).length)<|
 some ⟨[(0,AV.sl 9 (List.map zaa l)),(4,AV.row 4 9 0 (List.length ((List.map zaa ev)++([[I c0.Stamp.Time,I c0.Stamp.Source,I c0.Stamp.Seq,I c0.Kind,I c0.Script,I c0.Part,I c0.Value,I c0.Marker,AV.sl 1 (List.map zak c0.Pages)]])))),(10,AV.v (.pointer (some p)))],[(4,⟨9,zac,(List.map zaa ev)++([zaa c0]),false⟩)]⟩):=by kernel_rfl
set_option maxRecDepth 100000
def cnC:Code:=(zaH.fn.body).getD .skip
def cnO (j:Nat):Array Oper:=opsAt j cnC
def cnD (j:Nat):Bool:=zq3 j cnC
theorem cn_hb:zaH.fn.body=some cnC:=by kernel_rfl
theorem cn_shape:cnC=(.seq (.region 0 (cnO 0) (cnD 0)) (.seq (.region 1 (cnO 1) (cnD 1)) (.seq (.seq (.region 2 (cnO 2) false) (.block 0 (.loop (.seq (.region 3 (cnO 3) false) (.seq (.cond (.tmp 12) .skip (.exit 0)) (.block 1 (.seq (.region 4 (cnO 4) false) (.seq (.region 5 (cnO 5) (cnD 5)) (.cond (.tmp 17) (.region 6 (cnO 6) (cnD 6)) .skip))))))))) (.seq (.seq (.region 7 (cnO 7) (cnD 7)) (.cond (.tmp 28) (.seq (.region 8 (cnO 8) (cnD 8)) .ret) .skip)) (.seq (.region 9 (cnO 9) (cnD 9)) (.seq (.seq (.region 10 (cnO 10) (cnD 10)) (.block 2 (.loop (.seq (.region 11 (cnO 11) (cnD 11)) (.seq (.cond (.tmp 34) .skip (.exit 2)) (.seq (.block 3 (.seq (.region 12 (cnO 12) (cnD 12)) (.region 13 (cnO 13) (cnD 13)))) (.region 14 (cnO 14) (cnD 14)))))))) (.seq (.region 15 (cnO 15) (cnD 15)) .ret))))))):=by kernel_rfl
theorem cn_r0:regOf 0 cnC=some (.region 0 (cnO 0) (cnD 0)):=by kernel_rfl
theorem cn_r1:regOf 1 cnC=some (.region 1 (cnO 1) (cnD 1)):=by kernel_rfl
theorem cn_r2:regOf 2 cnC=some (.region 2 (cnO 2) false):=by kernel_rfl
theorem cn_r4:regOf 4 cnC=some (.region 4 (cnO 4) false):=by kernel_rfl
theorem cn_r5:regOf 5 cnC=some (.region 5 (cnO 5) (cnD 5)):=by kernel_rfl
theorem cn_r6:regOf 6 cnC=some (.region 6 (cnO 6) (cnD 6)):=by kernel_rfl
theorem cn_r7:regOf 7 cnC=some (.region 7 (cnO 7) (cnD 7)):=by kernel_rfl
theorem cn_r9:regOf 9 cnC=some (.region 9 (cnO 9) (cnD 9)):=by kernel_rfl
theorem cn_r10:regOf 10 cnC=some (.region 10 (cnO 10) (cnD 10)):=by kernel_rfl
theorem cn_r11:regOf 11 cnC=some (.region 11 (cnO 11) (cnD 11)):=by kernel_rfl
theorem cn_r12:regOf 12 cnC=some (.region 12 (cnO 12) (cnD 12)):=by kernel_rfl
theorem cn_r13:regOf 13 cnC=some (.region 13 (cnO 13) (cnD 13)):=by kernel_rfl
theorem cn_r14:regOf 14 cnC=some (.region 14 (cnO 14) (cnD 14)):=by kernel_rfl
theorem cn_r15:regOf 15 cnC=some (.region 15 (cnO 15) (cnD 15)):=by kernel_rfl
theorem cn_n:zaH.fn.ntmps≤1000:=by decide
abbrev X0:Sat2:=fun _ _ _ _=>True
def pickG (l:List zab) (p:(Int×Int)×zba):Option zab:=if p.2.disputed then none else l[p.2.first.toNat]?
def evsOf (l:List zab) (gs:zdx) (done:List Nat):List zab:=done.filterMap fun j=>gs[j]?.bind (pickG l)
theorem evsOf_snoc (l:List zab) (gs:zdx) (done:List Nat) (j:Nat):evsOf l gs (done++[j])=evsOf l gs done++((gs[j]?.bind (pickG l)).toList):=by unfold evsOf; rw [List.filterMap_append]; congr 1
theorem zq9 {α β:Type} {f:α→Option β} {g:α→β}:∀ l:List α,(∀ x∈l,f x=some (g x))→l.filterMap f=l.map g
 | [],_=>rfl
 | x :: r,h=>by rw [List.filterMap_cons,h x (by simp)]; simp only [zco]; rw [zq9 r (fun y hy=>h y (by simp [hy]))]
theorem zlU {β:Type} (l:List β):(List.range l.length).filterMap (fun j=>l[j]?)=l:=by
 cases l with
 | nil=>rfl
 | cons d r =>
   rw [zq9 (g:=fun j=>(d :: r).getD j d) _ (fun j hj=>by
    have:=zhC.1 hj; rw [zvH,zaC this]
    rfl)]
   apply zoX
   · simp
   · intro i h1 h2; rw [List.getElem_map,List.getElem_range,zvH,zaC h2]; rfl
noncomputable section
abbrev bL (l:List zab):Nat×Ent:=(1000,⟨9,zac,List.map zaa l,false⟩)
abbrev bV (ev:List zab):Nat×Ent:=(4,⟨9,zac,List.map zaa ev,false⟩)
abbrev s0 (b:Bool) (l:List zab):Nat×AV:=(0,frA b 1000 l)
abbrev s4 (ev:List zab):Nat×AV:=(4,.row 4 9 0 (List.map zaa ev).length)
abbrev s10 (r:Nat):Nat×AV:=(10,.v (.pointer (some ⟨r,0,none⟩)))
abbrev stC (b:Bool) (l ev:List zab) (r:Nat):St:=⟨[s0 b l,s4 ev,s10 r],[bV ev]++frM b 1000 l⟩
structure CnLegs (b:Bool) (l:List zab):Prop where
 len:l.length < 1000000
 glen:(zbT l).length < 1000000
 few:(keepS l).length < 1000
 cGroups:cw zcP [frA b 1000 l] (frM b 1000 l)=some (bif b then zdH (zbT l,l) else zc8 (zbT l))
 first:∀ p∈zbT l,0≤p.2.first∧p.2.first < l.length
 cSort:∀ ev,List.Perm ev (keepS l)→cw zd1 [.row 1000 9 0 (List.map zaa ev).length,.fn zer []] [bL ev]=some (zcL (canonS l))
 perm:List.Perm (canonS l) (keepS l)
 cClone:∀ e∈canonS l,cw zgL [.agg (zaa e)] []=some (zku e)
theorem c2b (b:Bool) (l:List zab) {gs:zdx} (h:cw zcP [frA b 1000 l] (frM b 1000 l)=some (bif b then zdH (gs,l) else zc8 gs)):tSeg zaH zT 2 0 2 ⟨[(0,frA b 1000 l),(4,AV.row 4 9 0 0)],[(4,⟨9,zac,[],false⟩)]++frM b 1000 l⟩=some ⟨[(9,AV.map 9),(8,frA b 1000 l),(0,frA b 1000 l),(4,AV.row 4 9 0 0)],[(9,⟨0,zbn,List.map zbv gs,false⟩),(4,⟨9,zac,[],false⟩)]++frM b 1000 l⟩:=by
 cases b with
 | true=>have t:=c2 l; rw [show cw zcP [AV.row 1000 9 0 (List.length (List.map zaa l))] [(1000,⟨9,zac,List.map zaa l,false⟩)]=some (zdH (gs,l)) from h,zrU] at t; exact t
 | false=>have t:=c2f l; rw [show cw zcP [AV.sl 9 (List.map zaa l)] []=some (zc8 gs) from h,zqd] at t; exact t
theorem c6b (b:Bool) (l ev:List zab) (p:Addr) (g:zba) (h1:0≤g.first) (h2:g.first < (l.length:Int)) (hev:ev.length < 1000000000):tReg zaH zT 6 ⟨[(0,frA b 1000 l),(4,AV.row 4 9 0 (List.length (List.map zaa ev))),(6,AV.loc 6 2 0 0),(10,AV.v (.pointer (some p)))],[(4,⟨9,zac,List.map zaa ev,false⟩),(6,⟨2,zdK,[zbA g],true⟩)]++frM b 1000 l⟩ =
  some ⟨[(0,frA b 1000 l),(4,AV.row 4 9 0 (List.length ((List.map zaa ev)++[zaa (l[g.first.toNat]'(by omega))]))),(10,AV.v (.pointer (some p)))],[(4,⟨9,zac,(List.map zaa ev)++[zaa (l[g.first.toNat]'(by omega))],false⟩)]++frM b 1000 l⟩:=by
 have hf:g.first.toNat < l.length:=by omega
 cases b with
 | true=>have t6:=c6 l ev p g; rw [zan h1,zan (by simpa using h2),zb5,zdf,zaC hf,zaY,zan rfl,zan (by simp; omega),zan rfl] at t6; exact t6
 | false=>have t6:=c6f l ev p g; rw [zan h1,zdf,zaC hf,zaY,zan rfl,zan (by simp; omega),zan rfl] at t6; exact t6
section
variable {w0:World} {S0:Nat→Prop} {κ0:Kap} {K:Nat→Prop} {a:Act} {w:World}
theorem cnStep {j:Nat} {st st':St} {X:Sat2} (hX:Stable X) (hr:regOf j cnC=some (.region j (cnO j) (cnD j))) (ht:tReg zaH zT j st=some st')
  (h:NowP w0 S0 κ0 K zaH.fn.ntmps X st a w) {Q:Exit→Act→World→Prop} (hQ:∀ a' w',NowP w0 S0 κ0 K zaH.fn.ntmps X st' a' w'→Q .normal a' w'):(Code.region j (cnO j) (cnD j)).wp zaH.P Q a w:=stepP hX cn_hb cn_n hr ht h hQ
theorem keepS_perm {l:List zab} {done:List Nat} (hd:done.Nodup) (h1:∀ i∈done,i < (zbT l).length) (h2:∀ i,i < (zbT l).length→i∈done):List.Perm (evsOf l (zbT l) done) (keepS l):=by
 have hp:List.Perm done (List.range (zbT l).length):=(zvJ hd List.nodup_range).2 (fun i=>⟨fun h=>zhC.2 (h1 i h),fun h=>h2 i (zhC.1 h)⟩)
 have e:keepS l=evsOf l (zbT l) (List.range (zbT l).length):=by
  unfold keepS evsOf; have:zbT l=(List.range (zbT l).length).filterMap fun j=>(zbT l)[j]?:=(zlU _).symm
  conv=>lhs; rw [this]
  rw [List.filterMap_filterMap]; rfl
 rw [e]; exact hp.filterMap _
theorem cn_range {b:Bool} {l:List zab} (g:CnLegs b l)
  (h:NowP w0 S0 κ0 K zaH.fn.ntmps X0 ⟨[s0 b l,s4 []],[bV []]++frM b 1000 l⟩ a w) {Q:Exit→Act→World→Prop}
  (hQ:∀ ev a' w',List.Perm ev (keepS l)→NowP w0 S0 κ0 K zaH.fn.ntmps X0 ⟨[s4 ev],[bV ev]++frM b 1000 l⟩ a' w'→Q .normal a' w'):(Code.seq (.region 2 (cnO 2) false) (.block 0 (.loop (.seq (.region 3 (cnO 3) false) (.seq (.cond (.tmp 12) .skip (.exit 0)) (.block 1 (.seq (.region 4 (cnO 4) false) (.seq (.region 5 (cnO 5) (cnD 5)) (.cond (.tmp 17) (.region 6 (cnO 6) (cnD 6)) .skip))))))))).wp zaH.P Q a w:=by
 refine wp_seq (wp_region ?_); have z2:(cnO 2).size=3:=by cases b <;> kernel_rfl
 rw [z2,show List.range 3=List.range' 0 2++[2] from rfl]; have t2:=c2b b l g.cGroups; refine segP Stable.none cn_hb cn_n cn_r2 t2 (by rw [z2]; decide) h (fun a1 w1 h1=>?_); have h2:=h1.freeze Stable.none cn_n [9] (by cases b <;> kernel_rfl) (st':=⟨[(9,.mp (List.map zbv (zbT l))),(8,frA b 1000 l),s0 b l,(4,.row 4 9 0 0)],[(4,⟨9,zac,[],false⟩)]++frM b 1000 l⟩) (by cases b <;> kernel_rfl); rw [wpOps_cons]; refine range_op (t:=149) (k:=151) (e:=153) (by unfold opIs; kernel_rfl) (by cases b <;> kernel_rfl) (by decide) h2 (m:=9) (d:=10) rfl (fun a3 w3 r q en clock h3=>?_); have h4:=h3.trim Rng.stable [0,4,10] [] (st':=stC b l (evsOf l (zbT l) []) r) (by cases b <;> kernel_rfl); refine rng_loop (it:=10) (d1:=11) (d2:=12) (r:=r) (stf:=fun done=>stC b l (evsOf l (zbT l) done) r) [0,4,10] (by cases b <;> kernel_rfl) (by unfold opIs; kernel_rfl) (by unfold opIs; kernel_rfl) (by decide) (by decide) (fun _=>rfl) (fun _ _ _=>by cases b <;> kernel_rfl) ?_ h4 ?_
 · intro done j k v hd hl hjd hkv a w hn
   have hj:j < (zbT l).length:=by have:=(zbs.1 hkv).1; simpa using this
   rw [zcR,zaC hj] at hkv; have hp:=g.first _ (zbg hj)
   have hev:evsOf l (zbT l) (done++[j])=evsOf l (zbT l) done++(pickG l (zbT l)[j]).toList:=by rw [evsOf_snoc,zaC hj]; rfl
   have hlen:(evsOf l (zbT l) done).length < 1000000000:=by have:(evsOf l (zbT l) done).length≤done.length:=zrA _ _; have:=ztY hd (n:=(zbT l).length) (fun i hi=>by simpa using hl i hi); have:=g.glen; omega
   simp only [hev]; generalize evsOf l (zbT l) done=ev at hn hlen ⊢; generalize hx:(zbT l)[j]=x at hkv hp ⊢; obtain ⟨⟨k1,k2⟩,gr⟩:=x; simp only [zc1,zat,zbv,zbm,and_true] at hkv; obtain ⟨rfl,rfl⟩:=hkv; refine wp_block (wp_seq (wp_region ?_)); have z4:(cnO 4).size=4:=by cases b <;> kernel_rfl
   rw [z4,show List.range 4=0 :: (List.range' 1 3++[]) from rfl,wpOps_cons]; refine entry_op (by unfold opIs; kernel_rfl) (by decide) hn (it:=10) (d:=13) rfl (by rw [zcR,zaC hj,hx]; rfl) (fun a1 w1 h1=>?_); have h2:=h1.trim Rng.stable [0,4,10,13] [] (st':=⟨[s0 b l,s4 ev,s10 r,(13,.tup [.agg [I k1,I k2],.agg [I gr.first,B gr.disputed]])],[bV ev]++frM b 1000 l⟩) (by cases b <;> kernel_rfl); refine segP Rng.stable cn_hb cn_n cn_r4 (c4 b l ev _ (k1,k2) gr) (by rw [z4]; decide) h2 (fun a3 w3 h3=>?_); have h4:=h3.trim Rng.stable [0,4,6,10] [] (st':=⟨[s0 b l,s4 ev,(6,.loc 6 2 0 0),s10 r],[bV ev,(6,⟨2,zdK,[zbA gr],true⟩)]++frM b 1000 l⟩) (by cases b <;> kernel_rfl); refine wp_seq (cnStep Rng.stable cn_r5 (c5 b l ev _ gr) h4 (fun a5 w5 h5=>?_)); refine wp_cond (h5.bool (b:=!gr.disputed) rfl) ?_
   cases hdsp:gr.disputed with
   | true =>
     rw [iNs]; refine wp_skip ⟨rfl,?_⟩; have h6:=h5.trim Rng.stable [0,4,10] [6] (st':=stC b l ev r) (by cases b <;> kernel_rfl); have e:pickG l ((k1,k2),gr)=none:=by unfold pickG; simp [hdsp]
     rw [e]; simpa using h6
   | false =>
     rw [if_pos (by simp)]; have h6:=h5.trim Rng.stable [0,4,6,10] [] (st':=⟨[s0 b l,s4 ev,(6,.loc 6 2 0 0),s10 r],[bV ev,(6,⟨2,zdK,[zbA gr],true⟩)]++frM b 1000 l⟩) (by cases b <;> kernel_rfl); simp only at hp; have hf:gr.first.toNat < l.length:=by omega
     have t6:=c6b b l ev ⟨r,0,none⟩ gr hp.1 hp.2 (by omega); refine cnStep Rng.stable cn_r6 t6 h6 (fun a7 w7 h7=>⟨rfl,?_⟩); have h8:=h7.trim Rng.stable [0,4,10] [6] (st':=⟨[s0 b l,(4,.row 4 9 0 (List.length ((List.map zaa ev)++[zaa l[gr.first.toNat]]))),s10 r],[(4,⟨9,zac,(List.map zaa ev)++[zaa l[gr.first.toNat]],false⟩)]++frM b 1000 l⟩) (by cases b <;> kernel_rfl); have e:pickG l ((k1,k2),gr)=some l[gr.first.toNat]:=by unfold pickG; simp [hdsp,hf]
     rw [e,show (some l[gr.first.toNat]).toList=[l[gr.first.toNat]] from rfl,show stC b l (ev++[l[gr.first.toNat]]) r=⟨[s0 b l,(4,.row 4 9 0 (List.length ((List.map zaa ev)++[zaa l[gr.first.toNat]]))),s10 r],[(4,⟨9,zac,(List.map zaa ev)++[zaa l[gr.first.toNat]],false⟩)]++frM b 1000 l⟩ from by simp only [stC,s4,bV,zf9,zco,List.map_nil]]; exact h8
 · intro done hd hl hall a' w' hn; refine hQ _ a' w' (keepS_perm hd (fun i hi=>by simpa using hl i hi) (fun i hi=>hall i (by simpa using hi))) ?_; exact (hn.trim Rng.stable [4] [] (st':=⟨[s4 (evsOf l (zbT l) done)],[bV (evsOf l (zbT l) done)]++frM b 1000 l⟩) (by cases b <;> kernel_rfl)).drop
abbrev s33 (n i:Int):List (Nat×AV):=[(32,I n),(33,I i)]
theorem cn_copy {b:Bool} {l ev:List zab} (hcl:∀ e∈ev,cw zgL [.agg (zaa e)] []=some (zku e)) (hev:ev.length < 1000000)
  (h:NowP w0 S0 κ0 K zaH.fn.ntmps X0 ⟨[s4 ev],[bV ev]++frM b 1000 l⟩ a w) {Q:Exit→Act→World→Prop}
  (hQ:∀ a' w',NowP w0 S0 κ0 K zaH.fn.ntmps X0 ⟨[s4 ev],[bV ev]++frM b 1000 l⟩ a' w'→Q .normal a' w'):(Code.seq (.region 10 (cnO 10) (cnD 10)) (.block 2 (.loop (.seq (.region 11 (cnO 11) (cnD 11)) (.seq (.cond (.tmp 34) .skip (.exit 2)) (.seq (.block 3 (.seq (.region 12 (cnO 12) (cnD 12)) (.region 13 (cnO 13) (cnD 13)))) (.region 14 (cnO 14) (cnD 14)))))))).wp zaH.P Q a w:=by
 refine wp_seq (cnStep Stable.none cn_r10 (c10 b l ev) h (fun a1 w1 h1=>?_)); refine wp_block (wp_loop (fun a w=>∃ k:Nat,k≤ev.length∧NowP w0 S0 κ0 K zaH.fn.ntmps X0 ⟨s4 ev :: s33 (List.map zaa ev).length k,[bV ev]++frM b 1000 l⟩ a w) (fun a _=>ev.length - cnt a 33) ⟨0,zkj _,h1⟩ ?_)
 rintro a w ⟨k,hk,hn⟩
 have hc0:cnt a 33=k:=by rw [hn.cnt (n:=(k:Int)) rfl]; simp
 refine wp_seq (cnStep Stable.none cn_r11 (c11 b l ev _ _) hn (fun a2 w2 h2=>?_)); refine wp_seq (wp_cond (h2.bool (b:=decide ((k:Int) < (List.map zaa ev).length)) rfl) ?_); by_cases hlt:k < ev.length
 · rw [decide_eq_true (by simp; omega),if_pos rfl]; refine wp_skip ?_; have h3:=h2.trim Stable.none [4,32,33] [] (st':=⟨s4 ev :: s33 (List.map zaa ev).length k,[bV ev]++frM b 1000 l⟩) (by cases b <;> kernel_rfl); refine wp_seq (wp_block (wp_seq (cnStep Stable.none cn_r12 (c12 b l ev _ _) h3 (fun a4 w4 h4=>?_)))); have t:=c13 b l ev (List.map zaa ev).length k; rw [cPQ,zan (by simp; omega),zb5,zdf,show ((k:Int)).toNat=k from rfl,zaC hlt,zaY,hcl _ (zbg hlt),ze7,cPQ,zan (by simp; omega),zdf,zaC hlt,zaY] at t
   have e:List.set (List.map zaa ev) k (zaa ev[k])=List.map zaa ev:=by rw [← List.map_set,List.set_getElem_self]
   rw [e] at t; refine cnStep Stable.none cn_r13 t h4 (fun a5 w5 h5=>?_); refine cnStep Stable.none cn_r14 (c14 b l ev _ _) h5 (fun a6 w6 h6=>?_); rw [w6Q] at h6; refine ⟨⟨k+1,hlt,by exact_mod_cast h6⟩,?_⟩; have:cnt a6 33=k+1:=by rw [h6.cnt (n:=(k:Int)+1) rfl]; omega
   show ev.length - cnt a6 33 < ev.length - cnt a 33; omega
 · rw [decide_eq_false (by simp; omega),iNs]; exact wp_exit (hQ _ _ (h2.trim Stable.none [4] [] (by cases b <;> kernel_rfl)))
abbrev stN (b:Bool) (l:List zab):St:=⟨[(2,.row 4 9 0 (List.map zaa (canonS l)).length),(3,I 0)],[bV (canonS l)]++frM b 1000 l⟩
theorem cn_body {b:Bool} {l:List zab} (g:CnLegs b l) (h:NowP w0 S0 κ0 K zaH.fn.ntmps X0 ⟨[s0 b l],(frM b 1000 l)⟩ a w):cnC.wp zaH.P (PostC w0 S0 κ0 K zaH.fn.ntmps .ret (stN b l)) a w:=by
 rw [cn_shape]; refine wp_seq (cnStep Stable.none cn_r0 (c0 b l) h (fun a1 w1 h1=>?_)); refine wp_seq (cnStep Stable.none cn_r1 (c1 b l) h1 (fun a2 w2 h2=>?_)); refine wp_seq (cn_range g h2 (fun ev a3 w3 hp h3=>?_)); have hl:ev.length=(keepS l).length:=hp.length_eq; have hf:=g.few; refine wp_seq (wp_seq (cnStep Stable.none cn_r7 (c7 b l ev) h3 (fun a4 w4 h4=>?_))); refine wp_cond (h4.bool (b:=decide (2000 < ((List.map zaa ev).length:Int))) rfl) ?_; rw [decide_eq_false (by simp; omega),iNs]; refine wp_skip ?_; have h5:=h4.trim Stable.none [4] [] (st':=⟨[s4 ev],[bV ev]++frM b 1000 l⟩) (by cases b <;> kernel_rfl); have t9:=c9 b l ev; rw [show List.length (List.map zaa ev)=(List.map zaa ev).length from rfl,g.cSort ev hp,zf6] at t9
 have hlen:(List.map zaa ev).length=(List.map zaa (canonS l)).length:=by rw [zap,zap,hp.length_eq,g.perm.length_eq]
 have hcl:(canonS l).length=(keepS l).length:=g.perm.length_eq; refine wp_seq (cnStep Stable.none cn_r9 t9 h5 (fun a6 w6 h6=>?_)); rw [hlen] at h6; refine wp_seq (cn_copy (ev:=canonS l) g.cClone (by omega) h6 (fun a7 w7 h7=>?_)); refine wp_seq (cnStep Stable.none cn_r15 (c15 b l (canonS l)) h7 (fun a8 w8 h8=>?_)); refine wp_ret ⟨rfl,?_⟩; obtain ⟨S,κ,hg,_⟩:=h8; exact ⟨S,κ,hg⟩
theorem zx9:enters zaH.P zbj=true:=by kernel_rfl
theorem cn_calls {b:Bool} {l:List zab} (g:CnLegs b l) (w:World) (S:Nat→Prop) (κ:Kap) (vals:Array Value) (hvl:vals.size=1) (hS:∀ g,S g→g < w.heap.size)
  (hv:∀ (k:Nat) (a:AV) (x:Value),[frA b 1000 l][k]?=some a→vals[k]?=some x→VRel S κ (Dm (frM b 1000 l)) w a x)
  (hms:∀ d ent,Ab.look (frM b 1000 l) d=some ent→EntAt S κ (Dm (frM b 1000 l)) w (κ d) ent) (hinj:∀ d d' g c c',Dm (frM b 1000 l) d→Dm (frM b 1000 l) d'→κ d=some (g,c)→κ d'=some (g,c')→d=d'):Calls zaH.P zbj vals w (Ab.Left S κ (frM b 1000 l) (frM b 1000 l) (.tup [.sl 9 (List.map zaa (canonS l)),I 0]) w):=by
 have hf:zaH.P.funcs[zbj]?=some zaH.fn:=by cases b <;> kernel_rfl
 refine znz (args:=[frA b 1000 l]) (frz:=false) (ex:=.ret) (st:=stN b l) hf cn_hb (show 1≤zaH.fn.ntmps by decide) hvl hS hv hms hinj (fun id=>by simp) (fun a hg=>?_) ?_ ?_ ?_
 · obtain ⟨S,κ,hg⟩:=hg; exact cn_body g ⟨S,κ,hg,trivial⟩
 · unfold stN bV; generalize List.map zaa (canonS l)=xs; rw [show zfg zaH.P false zaH.fn ⟨[(2,.row 4 9 0 xs.length),(3,I 0)],[(4,⟨9,zac,xs,false⟩)]++frM b 1000 l⟩=outOf false ([(4,⟨9,zac,xs,false⟩)]++frM b 1000 l) (.tup [.row 4 9 0 xs.length,I 0]) from by cases b <;> kernel_rfl]; simp [outOf,snap,mapO,Ab.look]
 · cases b <;> kernel_rfl
 · cases b <;> kernel_rfl
end
end
def orcL:List Nat:=[zcH,zbj,zbV,zbt,zby]
theorem orcL_none (f:FuncId) (a:List AV) (m:Mem) (h:orcL.contains f=false):zOrc f a m=none:=by unfold orcL at h; simp only [List.contains_cons,List.contains_nil,Bool.or_false,Bool.or_eq_false_iff,beq_eq_false_iff_ne,ne_eq] at h; obtain ⟨h1,h2,h3,h4,h5⟩:=h; unfold zOrc; rw [if_neg h1,if_neg h2,if_neg h3,if_neg h4,if_neg h5]
def acl (P:Program) (C:Cfg) (A:AnnF):Nat→zbu
 | 0,_,_,_=>none
 | n+1,f,args,ms=>if orcL.contains f=true then none else match P.funcs[f]? with
   | none=>none
   | some fn=>match fn.body with
     | none=>none
     | some c=>if fn.ntmps≤1000∧args.length≤fn.ntmps∧enters P f=true then
       (match aeval P C (A f) fn.ntmps (acl P C A n) (iter n) c { t:=argTab 0 args,m:=ms } with
       | some (.exit _,_)=>none
       | some (_,st)=>match zfg P (A f).frz fn st,ziV st.m ms with
         | some r,some ms'=>zoL r ms'
         | _,_=>none
       | none=>none) else none
theorem acl_le {P:Program} {C:Cfg} {A:AnnF} (ho:∀ f a m,orcL.contains f=false→C.orc f a m=none):∀ n,LeC (acl P C A n) (acall P C A n):=by
 intro n
 induction n with
 | zero=>intro f args ms r h; simp [acl] at h
 | succ n ih =>
   intro f args ms r h; simp only [acl] at h; split at h
   case isTrue=>cases h
   rename_i hof; simp only [acall,zyz (ho f args ms (by simpa using hof))]
   cases hf:P.funcs[f]? with
   | none=>simp [hf] at h
   | some fn =>
     simp only [hf] at h ⊢
     cases hb:fn.body with
     | none=>simp [hb] at h
     | some c =>
       simp only [hb] at h ⊢; split at h
       case isFalse=>cases h
       rename_i hc; rw [if_pos hc]
       cases hev:aeval P C (A f) fn.ntmps (acl P C A n) (iter n) c { t:=argTab 0 args,m:=ms } with
       | none=>simp [hev] at h
       | some q=>rw [zh5 ih (zf0 (zbR n)) c _ q hev]; rw [hev] at h; exact h
theorem cw_of (n:Nat) {f:FuncId} {args:List AV} {ms:Mem} {r:AV×Mem} (h:acl zP zC zA n f args ms=some r):cw f args ms=some r:=
 zmQ n _ _ _ _ (acl_le (fun f a m h=>orcL_none f a m h) n _ _ _ _ h)
end Go.Proofs.YtikogkgdkdmljaaGreat
end
