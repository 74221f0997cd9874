/- Marking: what is done at a marker's desk. -/
import Derived.Test.YtlecnobdfhlmnaaGreatJ1
import Derived.Test.YtlecnobdfhlmnaaGreatXAnn
import Derived.Test.YtlecnobdfhlmnaaGreatAb10
import Derived.Control
import Derived.Test.YtlecnobdfhlmnaaGreatProg
import Derived.Shelf.SlSortCmp.WholeK
import Derived.Shelf.SlIterI.Nil
import Derived.Shelf.SortM.Plain
import Derived.Shelf.SortM.SortNone
set_option linter.unusedSimpArgs false
set_option linter.unusedVariables false
noncomputable section
namespace Go.Proofs.YtlecnobdfhlmnaaGreat
open Go.Ab
set_option maxRecDepth 10000
structure DeskOk(r:zbv)(k:Nat)(d:zay):Prop where
 marks:d.marks.length<=k
 susp:d.suspensions.length<=k
 period:0<=d.period/\d.period<=d.marks.length
 watch:zno r d.watch
 some:d.watch.Suspended=true->0<d.suspensions.length
def ziQ(p:Int)(f:Bool)(g:za6)(l:List zb5)(i:Nat):List zb5:=l.mapIdx λj m=>if j<i then voidIf p f g j m else m
theorem zJ8(p:Int)(f:Bool)(g:za6)(l:List zb5)(i:Nat):(ziQ p f g l i).length=l.length:=by simp[ziQ]
theorem zwE{p:Int}{f:Bool}{g:za6}{l:List zb5}{i:Nat}(hi:i<l.length):(ziQ p f g l i)[i]?=some l[i]:=by
 unfold ziQ
 simp_all
theorem zAZ{p:Int}{f:Bool}{g:za6}{l:List zb5}{i:Nat}(hi:i<l.length):ziQ p f g l (i+1)=(ziQ p f g l i).set i (voidIf p f g i l[i]):=by
 unfold ziQ;apply zcI
 grind
theorem zJi{p:Int}{f:Bool}{g:za6}{l:List zb5}{i:Nat}(hi:i<l.length)(h:voidIf p f g i l[i]=l[i]):ziQ p f g l (i+1)=ziQ p f g l i:=by
 rw[zAZ hi,h];apply zcI;intro j;rw[zfD];by_cases hj:i=j
 ·subst hj;rw[zwE hi,if_pos rfl,zJ8,if_pos hi]
 ·rw[if_neg hj]
theorem zJ7(p:Int)(f:Bool)(g:za6)(l:List zb5):ziQ p f g l l.length=l.mapIdx (voidIf p f g):=by
 unfold ziQ;apply zcI
 grind
theorem zGo{p:Int}(f:Bool)(g:za6)(l:List zb5)(hp:0<=p):ziQ p f g l p.toNat=l:=by
 unfold ziQ;apply zcI;intro j;rw[zf8]
 cases h:l[j]? with
 |none=>rfl
 |some m =>
   simp only[zbg,voidIf]
   grind
theorem susp_loop{d:zay}(hl:d.marks.length<=1000000)(x:zbS)(us:List zbS):∀(n i:Nat),i+n=d.marks.length->d.period<=i->zeW d x (mG (ziQ d.period x.First x.Good d.marks i)) (mC us) i=some (zdd { d with marks:=d.marks.mapIdx (voidIf d.period x.First x.Good),suspensions:=us }):=by
 intro n
 induction n with
 |zero =>
   intro i hi hpi;refine zoJ ?_;rw[zaN (by simp;omega),show i=d.marks.length by omega,zJ7];have e:(mG d.marks).length=(mG (d.marks.mapIdx (voidIf d.period x.First x.Good))).length:=by simp
   rw[e];rfl
 |succ n ih =>
   intro i hi hpi;have hlt:i<d.marks.length:=by omega
   have void:voidIf d.period x.First x.Good i d.marks[i]={ d.marks[i]with void:=true }->zg6 d x (mG (ziQ d.period x.First x.Good d.marks i)) (mC us) i=some (zdd { d with marks:=d.marks.mapIdx (voidIf d.period x.First x.Good),suspensions:=us }):=by intro hv;refine ztf ?_;rw[cPQ,zao (by simp;omega),zaY,zah,zoi,zwE hlt,zae,w6Q,show((i:Int)+1)=((i+1:Nat):Int)by omega];have:=ih (i+1) (by omega) (by omega);rw[zAZ hlt,hv]at this;simp only[<-zgE]at this;exact this
   refine zoJ ?_;rw[zaB (by simp;omega)]
   cases hf:x.First with
   |true=>rw[zaV,<-hf];exact void (by unfold voidIf;simp_all)
   |false =>
     rw[zaz,cPQ,zao (by simp;omega),zaY,zah,zoi,<-hf,zwE hlt,zae,zw6,za7,zDj]
     cases hc:lessS x.Good d.marks[i].event.Stamp with
     |true=>rw[zaV];exact void (by unfold voidIf;simp_all)
     |false=>rw[zaz,w6Q,show((i:Int)+1)=((i+1:Nat):Int)by omega];have:=ih (i+1) (by omega) (by omega);rw[zJi hlt (by unfold voidIf;simp_all)]at this;exact this
theorem c_suspend(d:zay)(id:Int)(a:za6)(hl:d.marks.length<=1000000)(hs:d.suspensions.length<=1000000)(hp:0<=d.period/\d.period<=d.marks.length):cw zi0 [.loc 1000 14 0 0,I id,.agg (zb6 a)] (zrN d)=some (zdd (suspS id a d)):=by
 refine zwt ?_
 have go:∀x:zbS,x.First=!d.some->x.Good=(if d.some=true then d.good else d.started)->x.Marker=id->x.At=a->x.Until=⟨0,0,0⟩->x.Lifted=false->zeW d x (mG d.marks) (mC d.suspensions++[zat x]) d.period=some (zdd (suspS id a d)):=by
  intro x h1 h2 h3 h4 h5 h6;have:=susp_loop hl x (d.suspensions++[x]) (d.marks.length-d.period.toNat) d.period.toNat (by omega) (by omega)
  rw[zGo _ _ _ hp.1,show((d.period.toNat:Nat):Int)=d.period by omega]at this;simp only[<-zd3]at this;rw[this];unfold suspS;obtain⟨m,g,t,u,f,li⟩:=x;simp only at h1 h2 h3 h4 h5 h6;subst h1 h2 h3 h4 h5 h6;rfl
 cases hso:d.some with
 |true =>
   rw[zaF,zaz];refine zrQ ?_;rw[zao rfl,zao (by grind)]
   simp_all
 |false =>
   rw[zbe,zaV];refine zte ?_;rw[zao rfl,zao (by grind)]
   simp_all
theorem modify_at{α:Type}{l:List α}{i:Nat}(f:α->α)(h:i<l.length):l.modify i f=l.set i (f l[i]):=by
 apply zcI
 grind
theorem zJO(d:zay)(a:za6)(hs:d.suspensions.length<=1000000)(h0:d.watch.Suspended=true->0<d.suspensions.length):cw zh3 [.loc 1000 14 0 0,.agg (zb6 a)] (zM d)=some (zdd (reinS a d)):=by
 refine zuT ?_;unfold reinS;obtain⟨lv,mk,pe,st,no,⟨la,su⟩,go,so,us⟩:=d;simp only at hs h0 ⊢
 cases su with
 |false=>rfl
 |true =>
   have h1:=h0 rfl;have hlt:us.length-1<us.length:=by omega
   rw[zaF,zaz,zad,w6Q,cPQ,cPQ,zaY,zfo h1,zpk,zaa hlt,zae,zgE,zpk,zfD,if_pos rfl,if_pos hlt,zae,zgE,List.set_set,if_pos rfl,modify_at _ hlt];have e:us.length=(mC (us.set (us.length-1) ⟨us[us.length-1].Marker,⟨us[us.length-1].Good.Time,us[us.length-1].Good.Source,us[us.length-1].Good.Seq⟩,⟨us[us.length-1].At.Time,us[us.length-1].At.Source,us[us.length-1].At.Seq⟩,⟨a.Time,a.Source,a.Seq⟩,us[us.length-1].First,true⟩)).length:=by simp
   conv=>lhs;arg 1;arg 2;arg 1;arg 2;arg 3;rw[e]
   conv=>rhs;rw[show mk.length=(mG mk).length by simp]
   rfl
theorem c_note(hok:CallOK zP (single zc1 zOrc))(s:zan)(hm:OkMon s.Monitor)(p:zaM)(sd:GSeed)(e:zac)(d:zay){k:Nat}(hd:DeskOk s.Monitor k d)(hk:k<1000000)
  (hp:p.Parts.length<=24) (hsd:sd.Marks.length=p.Parts.length):cw zkr [.loc 1000 14 0 0,.agg (zas s),.agg (zaQ p),.agg (zcA sd),.agg (zab e)] (zM d)=some (zdd (noteS s p sd e d)):=by
 have hml:=hd.marks;have hsl:=hd.susp;refine zzD ?_;rw[zpf];unfold noteS
 cases hf:(mfind ⟨e.Script,e.Part⟩ d.noted).isSome with
 |true=>rw[zaV,if_pos rfl];rfl
 |false =>
 rw[zaz,iNs,zvr];simp only;generalize mput ⟨e.Script,e.Part⟩ e.Value d.noted=no
 have key:∀(n i:Nat) (x y:List Int),i+n=p.Parts.length->x.length<=i->y.length<=i->zhL d s p sd e (mL no) (List.map zai x) (List.map zai y) i=some (zdd (match gather no e.Script sd.Marks (p.Parts.drop i) i x y with
    |none=>{ d with noted:=no }
    |some (x,y) =>
      if d.watch.Suspended then{ d with noted:=no }
      else
       if(stepW s.Monitor d.watch (goodS s.Monitor x y)).Suspended then suspS e.Stamp.Source e.Stamp { { d with noted:=no }with watch:=stepW s.Monitor d.watch (goodS s.Monitor x y) }
       else if goodS s.Monitor x y then{ { { d with noted:=no }with watch:=stepW s.Monitor d.watch (goodS s.Monitor x y) }with good:=e.Stamp,some:=true }
       else{ { d with noted:=no }with watch:=stepW s.Monitor d.watch (goodS s.Monitor x y) })):=by
  intro n
  induction n with
  |zero =>
    intro i x y hi hx hy;refine zqP ?_;rw[zad,zaN (by omega),cPQ,cPQ,take_len,take_len,c_Good _ hm x y (by omega) (by omega),zKA,c_Step hok _ hm _ hd.watch,zuN,zcd (by omega)];unfold gather;simp only;generalize goodS s.Monitor x y=gd;obtain⟨lv,mk,pe,st,no0,⟨la,su⟩,go,so,us⟩:=d;simp only at *
    cases su with
    |true=>rfl
    |false =>
      rw[iNs,iNs,show((0:Int) !=0)=false from rfl,zaz];generalize hw:stepW s.Monitor ⟨la,false⟩ gd=w2;obtain⟨l2,s2⟩:=w2;simp only
      cases s2 with
      |true=>rw[zaV,if_pos rfl,zao trivial,zao trivial];have hc:=c_suspend ⟨lv,mk,pe,st,no,⟨l2,true⟩,go,so,us⟩ e.Stamp.Source e.Stamp (by grind) (by grind) hd.period;have hc':cw zi0 [.loc 1000 14 0 0,I e.Stamp.Source,.agg (zb6 e.Stamp)] [(1000,⟨14,zb0,[[I lv,.row 900 10 0 ((mG mk).length),I pe,I st.Time,I st.Source,I st.Seq,.map 901,.sl 1 (List.map nBool l2),B true,I go.Time,I go.Source,I go.Seq,B so,.row 902 12 0 ((mC us).length)]],true⟩),(900,gG (mG mk)),(901,gH (mL no)),(902,gA (mC us))]=_:=hc;rw[hc',ziI];rfl
      |false =>
        rw[zaz,iNs]
        cases gd with
        |true=>rfl
        |false=>rfl
  |succ n ih =>
    intro i x y hi hx hy;have hlt:i<p.Parts.length:=by omega
    refine zqP ?_;rw[zad,zaB (by omega),cPQ,zah,zej,zaa hlt,zae,zbd hlt,w6Q,show((i:Int)+1)=((i+1:Nat):Int)by omega];unfold gather;by_cases hk1:p.Parts[i].Kind=1
    · rw[show(p.Parts[i].Kind !=1)=false by simp[hk1],zaz,if_pos hk1,zpf];have hi2:i<sd.Marks.length:=by omega
      cases hv:mfind ⟨e.Script,i⟩ no with
      |none=>simp only[zem,zbe,zaV];rfl
      |some v =>
        simp only[zcS,zaF,zaz,zbN];rw[cPQ,zce,zaa hi2,zae,zao trivial,zao (by grind),zao trivial,zao trivial,zao (by grind),zao trivial]
        grind
    · rw[show(p.Parts[i].Kind !=1)=true by simp[hk1],zaV,if_neg hk1]
      grind
 have:=key p.Parts.length 0 [] [] (by omega) (by simp) (by simp)
 grind
set_option maxRecDepth 100000
noncomputable section
def walkW{s:zan}(g:Legs s)(ev:List zac):Desks×Reop:=ev.foldl (evG g) (seats s.Markers,[])
theorem upd_D{s:zan}(g:Legs s){ds:Desks}{k i:Nat}{d:zay}(h:∀i d,ds i=some d->g.D k d)(hd:g.D (k+1) d):∀j d',upd ds i d j=some d'->g.D (k+1) d':=λj d' hj=>by
 unfold upd at hj;split at hj
 ·simp_all
 ·exact g.Dup k d' (h j d' hj)
theorem stepW_D{s:zan}(g:Legs s){ds:Desks}{R:Reop}{k:Nat}{e:zac}(hok:g.ok e)(h:∀i d,ds i=some d->g.D k d):∀i d,(evG g (ds,R) e).1 i=some d->g.D (k+1) d:=by
 intro i d hi;unfold evG at hi;split at hi
 · split at hi
   ·rename_i d0 hd0;exact upd_D g h (g.Drein k d0 e hok (h _ _ hd0)) i d hi
   ·exact g.Dup k d (h i d hi)
 · split at hi
   ·exact g.Dup k d (h i d hi)
   · split at hi
     · split at hi
       · rename_i d0 q hd0 _;split at hi
         ·exact upd_D g h (g.Dnote k d0 _ _ e hok (h _ _ hd0)) i d hi
         ·exact upd_D g h (g.Dapp k d0 e hok (h _ _ hd0)) i d hi
         ·exact g.Dup k d (h i d hi)
       ·exact g.Dup k d (h i d hi)
     ·exact g.Dup k d (h i d hi)
theorem seats_D{s:zan}(g:Legs s)(ms:List za3):∀i d,seats ms i=some d->g.D 0 d:=by
 have key:∀(ms:List za3) (ds:Desks),(∀i d,ds i=some d->g.D 0 d)->∀i d,(ms.foldl (λds m=>upd ds m.ID.toNat (desk0 m.Level)) ds) i=some d->g.D 0 d:=by
  intro ms
  induction ms with
  |nil=>intro ds h;exact h
  |cons m ms ih =>
    intro ds h;refine ih _ (λi d hi=>?_);replace hi:upd ds m.ID.toNat (desk0 m.Level) i=some d:=hi;unfold upd at hi;split at hi
    ·injection hi with hi;rw[<-hi];exact g.D0 _
    ·exact h i d hi
 exact key ms _ (λi d h=>by cases h)
section
variable{w0:World}{S0:Nat->Prop}{κ0:Kap}{K:Nat->Prop}{a:Act}{w:World}
theorem wk_loop{s:zan}{ev:List zac}(g:Legs s){x:Nat->Option Addr}{κd0:Nat->Kap}(hok:∀e∈ev,g.ok e)(hev:ev.length<1000000)
  (h:Now w0 S0 κ0 K zba.fn.ntmps (mems (seats s.Markers)) κd0 (stE s ev x [] 0) a w) (hp:Points (seats s.Markers) κd0 x) {Q:Exit->Act->World->Prop}
  (hQ:∀a' w' κd,Now w0 S0 κ0 K zba.fn.ntmps (mems (walkW g ev).1) κd (stE s ev x (walkW g ev).2 ev.length) a' w'->Points (walkW g ev).1 κd x->Q .normal a' w'):(Code.block 2 (.loop (.seq (.region 9 (wkO 9) (wkD 9)) (.seq (.cond (.tmp 41) .skip (.exit 2)) (.seq (.block 3 (.seq (.region 10 (wkO 10) (wkD 10)) (.seq (.region 11 (wkO 11) (wkD 11)) (.block 4 (.seq (.region 12 (wkO 12) (wkD 12)) (.cond (.tmp 46) (.seq (.region 13 (wkO 13) (wkD 13)) (.seq (.region 14 (wkO 14) (wkD 14)) (.cond (.tmp 55) (.region 15 (wkO 15) (wkD 15)) .skip))) (.seq (.region 16 (wkO 16) (wkD 16)) (.cond (.tmp 60) (.region 17 (wkO 17) (wkD 17)) (.seq (.region 18 (wkO 18) (wkD 18)) (.cond (.tmp 70) (.seq (.region 19 (wkO 19) (wkD 19)) (.seq (.seq (.region 20 (wkO 20) (wkD 20)) (.cond (.tmp 80) (.exit 3) .skip)) (.seq (.region 21 (wkO 21) (wkD 21)) (.seq (.region 22 (wkO 22) (wkD 22)) (.cond (.tmp 88) (.region 23 (wkO 23) (wkD 23)) (.region 24 (wkO 24) (wkD 24))))))) .skip)))))))))) (.region 25 (wkO 25) (wkD 25))))))).wp zba.P Q a w:=by
 let pre:Nat->Desks×Reop:=λk=>(ev.take k).foldl (evG g) (seats s.Markers,[])
 refine wp_block (wp_loop (λa w=>∃k κd,k<=ev.length/\Now w0 S0 κ0 K zba.fn.ntmps (mems (pre k).1) κd (stE s ev x (pre k).2 k) a w/\Points (pre k).1 κd x/\∀i d,(pre k).1 i=some d->g.D k d)
  (λa _=>ev.length-cnt a 40) ⟨0,κd0,zdh _,h,hp,seats_D g _⟩ ?_)
 rintro a w ⟨k,κd,hk,hn,hp,hD⟩
 have hc0:cnt a 40=k:=by rw[zBr hn (n:=(k:Int)) rfl];simp
 refine wp_seq (wkStep wk_r9 (w9 s ev _ _ _ _) hn (λa1 w1 h1=>?_));refine wp_seq (wp_cond (h1.bool (b:=decide ((k:Int)<(mA ev).length)) rfl) ?_);by_cases hlt:k<ev.length
 · rw[decide_eq_true (by simp;omega),if_pos rfl];refine wp_skip ?_;have h2:=h1.trim [2,6,9,38,39,40] [] (st':=stE s ev x (pre k).2 k) (by kernel_rfl);refine wp_seq ?_
   have e:pre (k+1)=evG g (pre k) ev[k]:=by show(ev.take (k+1)).foldl (evG g) _=_;rw[zco hlt,zKM];rfl
   refine wk_event g hlt (hok _ (zar hlt)) hev h2 hp hD (λa3 w3 κd3 h3 hp3=>?_);refine wkStep wk_r25 (w25 s ev _ _ _ _) h3 (λa6 w6 h6=>?_);rw[w6Q]at h6;refine⟨⟨k+1,κd3,hlt,by grind,by rw[e];exact hp3,by rw[e];exact stepW_D g (hok _ (zar hlt)) hD⟩,?_⟩;have:cnt a6 40=k+1:=by rw[zBr h6 (n:=(k:Int)+1) rfl];omega
   omega
 · rw[decide_eq_false (by simp;omega),iNs];refine wp_exit ?_;have hkl:k=ev.length:=by omega
   subst hkl
   have e:pre ev.length=walkW g ev:=by show(ev.take ev.length).foldl (evG g) _=_;rw[zdm];rfl
   rw[e]at h1 hp;exact hQ _ _ _ (h1.trim [2,6,9,38,39,40] [] (by kernel_rfl)) hp
theorem desk_snap(d:zay):snap (Ab.look (deskM d)) 5 (.loc 300 14 0 0)=some (.fp (zf6 d)):=by
 have e0:Ab.look (deskM d) 300=some (e0D d):=rfl;have e1:Ab.look (deskM d) 301=some (gG (mG d.marks)):=rfl;have e2:Ab.look (deskM d) 302=some (gH (mL d.noted)):=rfl;have e3:Ab.look (deskM d) 303=some (gA (mC d.suspensions)):=rfl
 have r1:snap (Ab.look (deskM d)) 4 (.row 301 10 0 (mG d.marks).length)=some (.sl 10 (mG d.marks)):=by simp only[snap,e1];simp[zaJ]
 have r2:snap (Ab.look (deskM d)) 4 (.map 302)=some (.mp (mL d.noted)):=by simp only[snap,e2];simp
 have r3:snap (Ab.look (deskM d)) 4 (.row 303 12 0 (mC d.suspensions).length)=some (.sl 12 (mC d.suspensions)):=by simp only[snap,e3];simp[zaJ]
 rw[show snap (Ab.look (deskM d)) 5 (.loc 300 14 0 0)=(match mapO (snap (Ab.look (deskM d)) 4) [I d.level,.row 301 10 0 ((mG d.marks).length),I d.period,I d.started.Time,I d.started.Source,I d.started.Seq,.map 302,AV.sl 1 (List.map nBool d.watch.Last),B d.watch.Suspended,I d.good.Time,I d.good.Source,I d.good.Seq,B d.some,.row 303 12 0 ((mC d.suspensions).length)]with
  |some l=>some (.fp l)
  |none=>none)from rfl]
 simp only[mapO,r1,r2,r3];rfl
theorem zJ0:enters zba.P zgb=true:=by kernel_rfl
theorem zJ4{S S':Nat->Prop}{κd:Kap}{d:zay}{g c:Nat}{w:World}(hF:FarObj S w κd (Ab.look (deskM d)))(hS:∀g,S g->S' g)(hb:∀b g c,(Ab.look (deskM d) b).isSome=true->κd b=some (g,c)->S' g)
  (hκ:κd 300=some (g,c)):CRel S' w (.fp (zf6 d)) (.pointer (some ⟨g,0,none⟩)):=by
 have hv:VRel S κd (λb=>(Ab.look (deskM d) b).isSome=true) w (.loc 300 14 0 0) (.pointer (some ⟨g,0,none⟩)):=by have:=VRel.loc (S:=S) (κ:=κd) (D:=λb=>(Ab.look (deskM d) b).isSome=true) (w:=w) 300 14 0 0 g c rfl hκ;simpa using this
 exact zlo hF.ents hS 5 hv (desk_snap d) (λb hbm g c hk=>hb b g c (ids_D hF.ents 5 _ _ hv b hbm) hk)
theorem walk_calls{s:zan}{ev:List zac}(g:Legs s)(hm:∀m∈s.Markers,0<=m.ID/\m.ID<100)(hml:s.Markers.length<1000000)(hok:∀e∈ev,g.ok e)(hev:ev.length<1000000)
  (w:World) (S:Nat->Prop) (κ:Kap) (vals:Array Value) (hvl:vals.size=2) (hS:∀g,S g->g<w.heap.size)
  (hv:∀(k:Nat) (a:AV) (x:Value),[sS s,sC ev][k]?=some a->vals[k]?=some x->VRel S κ (Dm []) w a x):Calls zba.P zgb vals w (Ab.Left S κ [] [] (.tup [.fa 1 ((deskL (walkW g ev).1).map nDp),.mp (mK (walkW g ev).2)]) w):=by
 have hf:zba.P.funcs[zgb]?=some zba.fn:=by kernel_rfl
 refine calls_of_wp hf wk_hb ?_;have h0:=GoodS.start (args:=[sS s,sC ev]) (κ:=κ) (ms:=[]) (N:=zba.fn.ntmps) (by rw[hvl];rfl) (show 2<=zba.fn.ntmps by decide) hS hv (λb ent hb=>by simp[Ab.look]at hb) (λb b' g c c' hb=>by simp[Dm,Ab.look]at hb);have n0:Now w S κ (Dm []) zba.fn.ntmps (λ_=>none) (λ_=>κ) ⟨argTab 0 [sS s,sC ev],[]⟩ _ w:=⟨S,κ,h0,Objs.none⟩
 generalize ({ tmps:=vals++Array.replicate (zba.fn.ntmps-vals.size) undef,defers:=[] }:Act)=a0 at n0;rw[wk_shape];refine wp_seq (wkStep wk_r0 (Go.Proofs.YtlecnobdfhlmnaaGreat.w0 s ev) n0 (λa1 w1 h1=>?_));refine wp_seq (wkStep wk_r1 (Go.Proofs.YtlecnobdfhlmnaaGreat.w1 s ev) h1 (λa2 w2 h2=>?_));refine wp_seq (wp_seq (wkStep wk_r2 (Go.Proofs.YtlecnobdfhlmnaaGreat.w2 s ev (λ_=>none)) h2 (λa3 w3 h3=>?_)));refine wk_markers hm hml h3 (λa4 w4 κd4 x h4 hp4=>?_);have h5:=wk_toRow h4;refine wp_seq (wkStep wk_r7 (Go.Proofs.YtlecnobdfhlmnaaGreat.w7 s ev (rows x)) h5 (λa6 w6 h6=>?_));refine wp_seq (wp_seq (wkStep wk_r8 (Go.Proofs.YtlecnobdfhlmnaaGreat.w8 s ev (rows x) []) h6 (λa7 w7 h7=>?_)));have h8:=h7.trim [2,6,9,38,39,40] [] (st':=stE s ev x [] 0) (by kernel_rfl);refine wk_loop g hok hev h8 hp4 (λa9 w9 κd9 h9 hp9=>?_);have h10:=h9.trim [6,9] [2] (st':=⟨[(6,gQ 18 1),(9,AV.map 37)],[bA x,bR (walkW g ev).2]⟩) (by kernel_rfl);refine wp_seq (wkStep wk_r26 (Go.Proofs.YtlecnobdfhlmnaaGreat.w26 (rows x) _) h10 (λa11 w11 h11=>?_));refine wp_ret ?_;obtain⟨S2,κ2,hg,ho⟩:=h11;refine⟨hg.defers,?_⟩;obtain⟨v,hrun,hres⟩:=ztE (P:=zba.P) (st:=⟨[(4,gQ 18 1),(5,AV.map 37)],[bA x,bR (walkW g ev).2]⟩) hg.slots hg.ents (fn:=zba.fn) (l:=[.loc 18 1 0 0,.map 37]) (by kernel_rfl)
 have hv2:VRel S2 κ2 (λb=>(Ab.look [bA x,bR (walkW g ev).2] b).isSome=true) w11 (.tup [.loc 18 1 0 0,.map 37]) v:=by
  rcases hres with⟨a,ha,_⟩|⟨_,h⟩
  ·cases ha
  ·exact h
 refine⟨v,hrun,v,λq=>S2 q\/(∃b c,(Ab.look [bA x,bR (walkW g ev).2] b).isSome=true/\κ2 b=some (q,c))\/∃i d b c,(walkW g ev).1 i=some d/\(Ab.look (deskM d) b).isSome=true/\κd9 i b=some (q,c),κ,rfl,hg.os,hg.tape,hg.output,hg.grow,?_,?_,?_,?_,λ_ _=>rfl,?_,?_,?_,?_⟩
 ·exact λq hq hK=>hg.old q hq hK
 ·exact λq hq=>.inl (hg.sup q hq)
 · intro q hq;rcases hq with h|⟨b,c,hb,hk⟩|⟨i,d,b,c,hd,hb,hk⟩
   ·exact hg.snew q h
   ·have hb':b<300:=zm5 (m:=[bA x,bR (walkW g ev).2]) (by kernel_rfl) b hb;exact .inr (hg.own b q c (by omega) hb hk)
   ·exact .inr (ho.far i (deskM d) b q c (by simp[mems,hd]) hb hk).2
 · intro q hq;rcases hq with h|⟨b,c,hb,hk⟩|⟨i,d,b,c,hd,hb,hk⟩
   ·exact hg.slt q h
   ·obtain⟨ent,he⟩:=zaI.1 hb;have hE:=hg.ents b ent he;rw[hk]at hE;exact hE.lt
   ·exact(ho.far i (deskM d) b q c (by simp[mems,hd]) hb hk).1.1
 ·intro b g c _ hb;simp[Dm,Ab.look]at hb
 ·intro b b' g c c' hb;simp[Dm,Ab.look]at hb
 ·intro b ent hb;simp[Ab.look]at hb
 ·
  obtain⟨vs,rfl,hsz,hvs⟩:=hv2.tup_inv;refine CRel.tup _ _ (by simpa using hsz) (λj c y hj hy=>?_);have hS':∀q,S2 q->(λq=>S2 q\/(∃b c,(Ab.look [bA x,bR (walkW g ev).2] b).isSome=true/\κ2 b=some (q,c))\/∃i d b c,(walkW g ev).1 i=some d/\(Ab.look (deskM d) b).isSome=true/\κd9 i b=some (q,c)) q:=λq hq=>.inl hq
  match j with
  |0 =>
    simp only[zbR,zaf]at hj;subst hj;have hv0:=hvs 0 _ y rfl hy;have hc0:CRel _ w11 (.fa 1 (rows x)) y:=zlo hg.ents hS' 5 hv0 (a':=.fa 1 (rows x)) (by simp only[snap,Ab.look,if_true];rw[zsy x 0 (by omega)];rfl) (λb hb g c hk=>.inr (.inl ⟨b,c,ids_D hg.ents 5 _ _ hv0 b hb,hk⟩))
    cases hc0 with
    |fa _ _ a u hz hSa hc hr =>
      have hget:∀i c,((deskL (walkW g ev).1).map nDp)[i]?=some c->i<100/\c=nDp ((walkW g ev).1 i):=λi c hi=>by
       have hl:i<100:=by have:=(zam.1 hi).1;simpa[deskL]using this
       refine⟨hl,?_⟩;unfold deskL at hi
       simp_all
      refine .fa 1 _ a u (λcs hcs=>?_) hSa (λi j cs c hi hj=>?_) (λi j cs c hi hj=>?_)
      ·obtain⟨o,_,rfl⟩:=zbs.1 hcs;cases o<;>rfl
      · obtain⟨hl,rfl⟩:=hget i cs hi
        have hj0:j=0:=by cases hq:(walkW g ev).1 i<;>rw[hq]at hj<;>cases j<;>simp[nDp]at hj ⊢
        subst hj0;exact hc i 0 _ _ (zsy x i hl) rfl
      · obtain⟨hl,rfl⟩:=hget i cs hi
        have hj0:j=0:=by cases hq:(walkW g ev).1 i<;>rw[hq]at hj<;>cases j<;>simp[nDp]at hj ⊢
        subst hj0
        have hu:u i 0=.pointer (x i):=by exact(VRel.c (κ:=λ_=>none) (D:=λ_=>False) (hr i 0 _ _ (zsy x i hl) rfl)).v_inv
        rw[hu];have hpi:=hp9 i hl
        cases hq:(walkW g ev).1 i with
        |none=>rw[hq]at hpi hj;simp[nDp]at hj;subst hj;rw[hpi];exact .v _
        |some d=>rw[hq]at hpi hj;obtain⟨g1,c1,hκ,hx⟩:=hpi;simp[nDp]at hj;subst hj;rw[hx];exact zJ4 (ho.obj i (deskM d) (by simp[mems,hq])) hS' (λb g c hb hk=>.inr (.inr ⟨i,d,b,c,hq,hb,hk⟩)) hκ
  |1=>simp only[zfg,zbR,zaf]at hj;subst hj;have hv1:=hvs 1 _ y rfl hy;exact zlo hg.ents hS' 5 hv1 (by simp[snap,Ab.look]) (λb hb g c hk=>.inr (.inl ⟨b,c,ids_D hg.ents 5 _ _ hv1 b hb,hk⟩))
  |j+2=>simp at hj
end
end
set_option maxRecDepth 10000
theorem zqE{s:zan}{e:zac}{q:Nat}(h:fitS s e=some q):∃x p y,zgm s.Scripts e.Script=some x/\eligB s.Markers e.Stamp.Source x=true/\zfW s.Papers x=some (q,p)/\0<=e.Part/\p.Parts[e.Part.toNat]?=some y/\y.Kind=1/\permB y e.Value=true/\e.Pages=x.Pages:=by
 unfold fitS at h
 grind
theorem c_seedOf(s:zan)(n:Int)(hl:s.Seeds.length<=1000000):cw zmI [.agg (zas s),I n] []=some (zkg ((seedS s n).getD ⟨0,[]⟩,(seedS s n).isSome)):=by
 refine zDw ?_;unfold seedS;refine zh6 s.Seeds (λy=>y.Script==n) (λi=>zk4 s n i) (λo=>zkg (((o.map (·.2)).getD ⟨0,[]⟩),(o.map (·.2)).isSome)) ?_ ?_ ?_
 ·exact zoK (by simp(disch:=omega)only[zad,zaN];rfl)
 ·intro i hi h;refine zoK ?_;simp(disch:=omega)only[zad,zaB,zao,zah,zls,zaa hi,zae,h,zaV];rfl
 ·intro i hi y h hk;refine zoK ?_;simp(disch:=omega)only[zad,zaB,zao,zah,zls,zaa hi,zae,h,zaz,w64_id,hk]
section
variable{s:zan}(hok:CallOK zP (single zcL zOrc))(hs:zb3 s)
include hok hs
theorem c_fits(x:Nat->Option Addr)(e:zac)(hr:0<=e.Stamp.Source/\e.Stamp.Source<100)(hp:e.Pages.length<=1000000):cw zjR [.fa 1 (rows x),.agg (zas s),.agg (zab e)] []=some (zie (match x e.Stamp.Source.toNat,fitS s e with
   |some p,some q=>((q:Int),some p)
   |_,_=>(0,none))):=by
 have hsl:=hs.scripts.1;have hpl:=hs.papers;have hml:=hs.markers.1;have hlen:=hs.len;refine zyk ?_;have hrow:=zsy x e.Stamp.Source.toNat (by omega)
 rw[zao hr.1,cPQ]
 cases hx:x e.Stamp.Source.toNat with
 |none=>rw[hx]at hrow;rw[zAO hrow];refine zul ?_;rw[zx8 s _ (by omega),zjb];rfl
 |some p =>
   rw[hx]at hrow;rw[zGB hrow];refine ztg ?_;rw[zx8 s _ (by omega),zjb];unfold fitS
   cases h1:zgm s.Scripts e.Script with
   |none=>rfl
   |some y =>
     simp only[scR,zaF,zaz];rw[c_Eligible hok s.Markers _ y (by omega) (λm hm=>hs.short2 m hm),zKA]
     cases h2:eligB s.Markers e.Stamp.Source y with
     |false=>rfl
     |true =>
       simp only[zaF,zaz,if_true];rw[zAj s y (by omega),zg0]
       cases h3:zfW s.Papers y with
       |none=>rfl
       |some kp =>
         obtain⟨k,pp⟩:=kp;obtain⟨hk,_⟩:=zfl h3;obtain⟨hkl,_⟩:=zam.1 hk;have hkc:k<s.Schemes.length:=by omega
         simp only[ixR,zaF,zaz];by_cases h4:0<=e.Part
         case neg=>rw[zaB (by omega),if_neg h4];rfl
         rw[zaN (by omega),if_pos h4,cPQ,zah,zfH,hk,zae,zad];by_cases h5:e.Part.toNat<pp.Parts.length
         case neg=>rw[zaB (by omega),zgX (by omega)];rfl
         rw[zaN (by omega),cPQ,zfH,hk,zae,zao h4,zej,zaa h5,zae];simp only;by_cases h6:pp.Parts[e.Part.toNat].Kind=1
         case neg=>rw[show(pp.Parts[e.Part.toNat].Kind !=1)=true by simp[h6],zaV,if_neg (λh=>h6 h.1)];rfl
         rw[show(pp.Parts[e.Part.toNat].Kind !=1)=false by simp[h6],zaz]
         have fin:∀b:Bool,permB pp.Parts[e.Part.toNat] e.Value=b->brn (!b) (some (AV.tup [I 0,.v (.pointer none)],[])) (zhS e p (y,true) ((k:Int),true))=some (zie (match some p,if pp.Parts[e.Part.toNat].Kind=1/\permB pp.Parts[e.Part.toNat] e.Value=true/\e.Pages=y.Pages then some k else none with
           |some p,some q=>((q:Int),some p)
           |_,_=>(0,none))):=by
          intro b hb
          cases b with
          |false=>rw[zbe,zaV,if_neg (λh=>by simp_all)];rfl
          |true =>
            rw[zaF,zaz];refine zum ?_;rw[c_Equal _ _ hp,zKA];by_cases h7:e.Pages=y.Pages
            ·rw[zbj h7,zaF,zaz,if_pos ⟨h6,hb,h7⟩];rfl
            ·rw[zbB h7,zbe,zaV,if_neg (λh=>h7 h.2.2)];rfl
         by_cases h7:e.Value=-1
         · rw[show(e.Value !=-1)=false by simp[h7],zaz];have:=fin true (by unfold permB;rw[if_pos h7])
           simp_all
         · rw[show(e.Value !=-1)=true by simp[h7],zaV,cPQ,zfH,hk,zae,cPQ,zpW,zaa hkc,zae];have hc:=zJN pp s.Schemes[k] e.Part.toNat pp.Parts[e.Part.toNat] e.Value (hs.short _ (zar hkc)) (hs.schemes k pp _ hk (zaa hkc)) (zaa h5);rw[show((e.Part.toNat:Nat):Int)=e.Part by omega]at hc
           simp_all
end
set_option maxRecDepth 10000
theorem lastW_len{r:zbv}{w:zbZ}{b:Bool}(h:(w.Last.length:Int)<=r.Window):((lastW r w b).length:Int)<=r.Window:=by
 unfold lastW
 grind
theorem zDZ{r:zbv}{w:zbZ}{b:Bool}(h:(w.Last.length:Int)<=r.Window):zno r (stepW r w b):=⟨lastW_len h,rfl⟩
theorem OkMon.blank{r:zbv}(h:OkMon r):zno r ⟨[],false⟩:=by refine⟨by have:=h.2.2.1;simp;omega,?_⟩;have:=h.2.2.2;show false=decide (r.Fails<=failsN []);rw[eq_comm,decide_eq_false_iff_not];show¬r.Fails<=(0:Int);omega
section
variable{r:zbv}{k:Nat}{d:zay}
theorem DeskOk.zero(h:OkMon r)(l:Int):DeskOk r 0 (desk0 l):=⟨by simp[desk0],by simp[desk0],by simp[desk0],h.blank,by simp[desk0]⟩
theorem DeskOk.up(h:DeskOk r k d):DeskOk r (k+1) d:=⟨by have:=h.marks;omega,by have:=h.susp;omega,h.period,h.watch,h.some⟩
theorem DeskOk.rein(hm:OkMon r)(h:DeskOk r k d)(a:za6):DeskOk r (k+1) (reinS a d):=by
 unfold reinS;split
 ·exact⟨by have:=h.marks;simp;omega,by have:=h.susp;simp;omega,by simp,hm.blank,by simp⟩
 ·exact h.up
theorem DeskOk.app(h:DeskOk r k d)(m:zb5):DeskOk r (k+1) { d with marks:=d.marks++[m] }:=
 ⟨by have:=h.marks;simp;omega,by have:=h.susp;simp;omega,by have:=h.period;simp;omega,h.watch,h.some⟩
theorem DeskOk.note(h:DeskOk r k d){s:zan}(hr:s.Monitor=r)(p:zaM)(sd:GSeed)(e:zac):DeskOk r (k+1) (noteS s p sd e d):=by
 subst hr;have h1:=h.marks;have h2:=h.susp;have h3:=h.period;unfold noteS;split
 ·exact h.up
 · simp only;split
   ·exact⟨by grind,by grind,h3,h.watch,h.some⟩
   · split
     ·exact⟨by grind,by grind,h3,h.watch,h.some⟩
     · split
       ·unfold suspS;exact⟨by simp;omega,by simp;omega,by simpa using h3,zDZ h.watch.1,λ_=>by simp⟩
       · rename_i hn;split
         ·exact⟨by grind,by grind,h3,zDZ h.watch.1,λq=>absurd q hn⟩
         ·exact⟨by grind,by grind,h3,zDZ h.watch.1,λq=>absurd q hn⟩
end
theorem zqD{e:zac}(h:eventB e=true):zup e:=by unfold eventB stampB at h;simp only[zaO,decide_eq_true_eq,zbH]at h;obtain⟨⟨⟨⟨h1,h2⟩,h3⟩,h4⟩,h5⟩:=h;exact⟨h1,h2,h3,h4,h5⟩
theorem ok_eventB{e:zac}(h:zup e):eventB e=true:=by unfold eventB stampB;simp only[zaO,decide_eq_true_eq,zbH];exact⟨⟨⟨⟨h.1,h.2.1⟩,h.2.2.1⟩,h.2.2.2.1⟩,h.2.2.2.2⟩
section
variable(okI:CallOK zP (single zcL zOrc))(okB:CallOK zP (single zc1 zOrc))
include okI okB
def legs{s:zan}(hs:zb3 s):Legs s where
 rein:=reinS
 note:=noteS s
 fit:=fitS s
 seed:=seedS s
 ok:=λe=>eventB e=true
 D:=DeskOk s.Monitor
 ranges:=λe he=>by have h:=zqD he;have h1:=h.1;have h2:=h.2.2.2.2;unfold zqq at h1;unfold OkKind at h2;omega
 D0:=λl=>DeskOk.zero hs.monitor l
 Dup:=λ_ _ h=>h.up
 Dlen:=λ_ _ h=>h.marks
 Drein:=λ_ _ _ _ h=>h.rein hs.monitor _
 Dnote:=λ_ _ _ _ _ _ h=>h.note rfl _ _ _
 Dapp:=λ_ _ _ _ h=>h.app _
 fit_lt:=λe q h=>by obtain⟨x,p,y,_,_,h3,_⟩:=zqE h;exact(zam.1 (zfl h3).1).1
 cRein:=λk d e hk _ h=>zJO d e.Stamp (by have:=h.susp;omega) h.some
 cNote:=λk d p sd e hk _ h hp hfit hseed=>by
  have hpm:=(hs.schemes · p · · ·)
  obtain⟨q,hq,hpq⟩:=hfit;obtain⟨x,p',y,h1,_,h3,_⟩:=zqE hq
  have hpp:p'=p:=by have:=(zfl h3).1;rw[hpq]at this;injection this with this;exact this.symm
  subst hpp;unfold seedS at hseed
  cases hsd:seedOf s.Seeds e.Script with
  |none=>simp[hsd]at hseed
  |some js =>
    obtain⟨j,sd'⟩:=js;simp only[hsd,zbg,zaf]at hseed;subst hseed;obtain⟨hj,hje,_⟩:=fnd_at hsd;have hse:sd'.Script=e.Script:=by simpa using hje
    obtain⟨k2,p2,h4,h5⟩:=hs.seed sd' (zaq hj);unfold zfX at h4;rw[hse,h1,zae,h3]at h4;injection h4 with h4;cases h4;have hlen:p'.Parts.length<=24:=(zb3.okPaper hs hpq).2.2.1.2;exact c_note okB s hs.monitor p' sd' e d h hk hlen h5.1
 cFits:=λx e he=>by have h:=zqD he;have h1:=h.1;have h2:=h.2.2.1;unfold zqq at h1;exact c_fits okI hs x e (by omega) (by omega)
 cSeed:=λn=>c_seedOf s n (by have:=hs.seeds;omega)
theorem walk_ok:CallOK zP (single zgb zOrc):=by
 intro f args ms r ms' h;unfold single at h;split at h
 case isFalse=>cases h
 rename_i hf;subst hf;simp only[zOrc,if_true]at h
 cases ms with
 |cons a m=>cases h
 |nil =>
 simp only[oWalk]at h;split at h
 case isFalse=>cases h
 rename_i hex;have hsp:=hex.choose_spec.choose_spec;generalize hex.choose_spec.choose=ev at h hsp;generalize hex.choose=s at h hsp;obtain⟨ha,hs,hev,hlen⟩:=hsp;subst ha;injection h with h;have h1:r=.tup [.fa 1 ((deskL (walkS s ev).1).map nDp),.mp (mK (walkS s ev).2)]:=(congrArg Prod.fst h).symm;have h2:ms'=[]:=(congrArg Prod.snd h).symm;subst h1 h2;refine⟨zJ0,λw S κ vals hvl hS hv _ _=>?_⟩;have hm:=hs.markers;exact walk_calls (legs okI okB hs) (λm hm'=>by have:=(hm.2.1 m hm').1.1;omega) (by have:=hm.1;omega) hev (by omega) w S κ vals (by simpa using hvl) hS hv
end
set_option maxRecDepth 100000
def ciC:Code:=(zcw.fn.body).getD .skip
def ciO(j:Nat):Array Oper:=opsAt j ciC
def ciD(j:Nat):Bool:=zur j ciC
theorem ci_hb:zcw.fn.body=some ciC:=by kernel_rfl
theorem ci_shape:ciC=(.seq (.region 0 (ciO 0) (ciD 0)) (.seq (.seq (.region 1 (ciO 1) false) (.cond (.tmp 4) (.seq (.region 2 (ciO 2) (ciD 2)) .ret) .skip)) (.seq (.region 3 (ciO 3) (ciD 3)) .ret))):=by kernel_rfl
theorem ci_r0:regOf 0 ciC=some (.region 0 (ciO 0) (ciD 0)):=by kernel_rfl
theorem ci_r1:regOf 1 ciC=some (.region 1 (ciO 1) false):=by kernel_rfl
theorem ci_r2:regOf 2 ciC=some (.region 2 (ciO 2) (ciD 2)):=by kernel_rfl
theorem ci_r3:regOf 3 ciC=some (.region 3 (ciO 3) (ciD 3)):=by kernel_rfl
theorem ci_n:zcw.fn.ntmps<=1000:=by decide
theorem ci_enters:enters zcw.P zcL=true:=by kernel_rfl
theorem ci_t0(es:List (List AV)):tReg zcw zT 0 ⟨[(0,AV.sl 1 es)],[]⟩=some ⟨[(0,AV.sl 1 es)],[]⟩:=by kernel_rfl
theorem ci_t1(es:List (List AV)):tSeg zcw zT 1 0 1 ⟨[(0,AV.sl 1 es)],[]⟩=some ⟨[(3,AV.sl 1 es),(0,AV.sl 1 es)],[]⟩:=by kernel_rfl
theorem ci_t2:tReg zcw zT 2 ⟨[],[]⟩=some ⟨[(2,AV.row 2 1 0 0)],[(2,⟨1,zcO,[],false⟩)]⟩:=by kernel_rfl
theorem ci_t3(es:List (List AV)):tReg zcw zT 3 ⟨[(0,AV.sl 1 es)],[]⟩=(chk (0=0)<|chk ((0+es.length)*(8+1)<=1099511627776)<|chk (es.length=es.length)<|some ⟨[(2,AV.row 2 1 0 es.length)],[(2,gJ es)]⟩):=by kernel_rfl
theorem ci_body{w0:World}{S0:Nat->Prop}{κ0:Kap}{K:Nat->Prop}{a:Act}{w:World}{es:List (List AV)}(hl:es.length<=100000000)(h:NowP w0 S0 κ0 K zcw.fn.ntmps (λ_ _ _ _=>True) ⟨[(0,AV.sl 1 es)],[]⟩ a w):ciC.wp zcw.P (PostC w0 S0 κ0 K zcw.fn.ntmps .ret ⟨[(2,AV.row 2 1 0 es.length)],[(2,gJ es)]⟩) a w:=by
 rw[ci_shape];refine wp_seq (stepP Stable.none ci_hb ci_n ci_r0 (ci_t0 es) h (λa1 w1 h1=>?_));refine wp_seq (wp_seq (wp_region ?_));have z1:(ciO 1).size=2:=by kernel_rfl
 rw[z1,show List.range 2=List.range' 0 1++[1]from rfl];refine segP Stable.none ci_hb ci_n ci_r1 (ci_t1 es) (by rw[z1];decide) h1 (λa2 w2 h2=>?_);rw[wpOps_cons];refine nil_op (t:=22) (u:=22) (e:=zcO) (s:=3) (d:=4) (by unfold opIs;kernel_rfl) (by kernel_rfl) (by decide) h2 rfl (λb hb h3=>?_);refine wp_cond (h3.bool (b:=b) rfl) ?_
 cases b with
 |true=>have:=hb rfl;subst this;rw[if_pos rfl];have h4:=h3.trim Stable.none [] [] (st':=⟨[],[]⟩) (by kernel_rfl);refine wp_seq (stepP Stable.none ci_hb ci_n ci_r2 ci_t2 h4 (λa5 w5 h5=>?_));refine wp_ret ⟨rfl,?_⟩;obtain⟨S,κ,hg,_⟩:=h5;exact⟨S,κ,hg⟩
 |false=>rw[iNs];refine wp_skip ?_;have h4:=h3.trim Stable.none [0] [] (st':=⟨[(0,AV.sl 1 es)],[]⟩) (by kernel_rfl);have t3:=ci_t3 es;rw[zao rfl,cPQ,zao rfl]at t3;refine wp_seq (stepP Stable.none ci_hb ci_n ci_r3 t3 h4 (λa5 w5 h5=>?_));refine wp_ret ⟨rfl,?_⟩;obtain⟨S,κ,hg,_⟩:=h5;exact⟨S,κ,hg⟩
theorem ci_ok:CallOK zP (single zcL zOrc):=by
 intro f args ms r ms' h;unfold single at h;split at h
 case isFalse=>cases h
 rename_i hf;subst hf
 cases ms with
 |cons a m =>
   have hz:zOrc zcL args (a::m)=none:=by unfold zOrc;simp(decide:=true) only [if_false,if_true]
   rw[hz]at h;cases h
 |nil =>
 have hz:zOrc zcL args []=oClone zcO args:=by unfold zOrc;simp(decide:=true) only [if_false,if_true]
 rw[hz]at h;clear hz;unfold oClone at h;split at h
 case h_2=>cases h
 rename_i es;split at h
 case isFalse=>cases h
 rename_i hl;injection h with h;injection h with h1 h2;subst h1 h2;refine⟨ci_enters,λw S κ vals hvl hS hv hms hinj=>?_⟩;have hf:zcw.P.funcs[zcL]?=some zcw.fn:=by kernel_rfl
 refine zqw (args:=[AV.sl 1 es]) (frz:=false) (ex:=.ret) (st:=⟨[(2,AV.row 2 1 0 es.length)],[(2,gJ es)]⟩) hf ci_hb (show 1<=zcw.fn.ntmps by decide) hvl hS hv hms hinj (λid=>by simp) (λa hg=>?_) ?_ ?_ ?_
 ·obtain⟨S,κ,hg⟩:=hg;exact ci_body hl ⟨S,κ,hg,trivial⟩
 ·rw[show ziU zcw.P false zcw.fn ⟨[(2,.row 2 1 0 es.length)],[(2,gJ es)]⟩=outOf false [(2,gJ es)] (.row 2 1 0 es.length)from by kernel_rfl];simp[outOf,Ab.look]
 ·kernel_rfl
 ·kernel_rfl
def cbC:Code:=(zcq.fn.body).getD .skip
def cbO(j:Nat):Array Oper:=opsAt j cbC
def cbD(j:Nat):Bool:=zur j cbC
theorem cb_hb:zcq.fn.body=some cbC:=by kernel_rfl
theorem cb_shape:cbC=(.seq (.region 0 (cbO 0) (cbD 0)) (.seq (.seq (.region 1 (cbO 1) false) (.cond (.tmp 4) (.seq (.region 2 (cbO 2) (cbD 2)) .ret) .skip)) (.seq (.region 3 (cbO 3) (cbD 3)) .ret))):=by kernel_rfl
theorem cb_r0:regOf 0 cbC=some (.region 0 (cbO 0) (cbD 0)):=by kernel_rfl
theorem cb_r1:regOf 1 cbC=some (.region 1 (cbO 1) false):=by kernel_rfl
theorem cb_r2:regOf 2 cbC=some (.region 2 (cbO 2) (cbD 2)):=by kernel_rfl
theorem cb_r3:regOf 3 cbC=some (.region 3 (cbO 3) (cbD 3)):=by kernel_rfl
theorem cb_n:zcq.fn.ntmps<=1000:=by decide
theorem cb_enters:enters zcq.P zc1=true:=by kernel_rfl
theorem cb_t0(es:List (List AV)):tReg zcq zT 0 ⟨[(0,AV.sl 1 es)],[]⟩=some ⟨[(0,AV.sl 1 es)],[]⟩:=by kernel_rfl
theorem cb_t1(es:List (List AV)):tSeg zcq zT 1 0 1 ⟨[(0,AV.sl 1 es)],[]⟩=some ⟨[(3,AV.sl 1 es),(0,AV.sl 1 es)],[]⟩:=by kernel_rfl
theorem cb_t2:tReg zcq zT 2 ⟨[],[]⟩=some ⟨[(2,AV.row 2 1 0 0)],[(2,⟨1,zdq,[],false⟩)]⟩:=by kernel_rfl
theorem cb_t3(es:List (List AV)):tReg zcq zT 3 ⟨[(0,AV.sl 1 es)],[]⟩=(chk (0=0)<|chk ((0+es.length)*(1+1)<=1099511627776)<|chk (es.length=es.length)<|some ⟨[(2,AV.row 2 1 0 es.length)],[(2,gI es)]⟩):=by kernel_rfl
theorem cb_body{w0:World}{S0:Nat->Prop}{κ0:Kap}{K:Nat->Prop}{a:Act}{w:World}{es:List (List AV)}(hl:es.length<=100000000)(h:NowP w0 S0 κ0 K zcq.fn.ntmps (λ_ _ _ _=>True) ⟨[(0,AV.sl 1 es)],[]⟩ a w):cbC.wp zcq.P (PostC w0 S0 κ0 K zcq.fn.ntmps .ret ⟨[(2,AV.row 2 1 0 es.length)],[(2,gI es)]⟩) a w:=by
 rw[cb_shape];refine wp_seq (stepP Stable.none cb_hb cb_n cb_r0 (cb_t0 es) h (λa1 w1 h1=>?_));refine wp_seq (wp_seq (wp_region ?_));have z1:(cbO 1).size=2:=by kernel_rfl
 rw[z1,show List.range 2=List.range' 0 1++[1]from rfl];refine segP Stable.none cb_hb cb_n cb_r1 (cb_t1 es) (by rw[z1];decide) h1 (λa2 w2 h2=>?_);rw[wpOps_cons];refine nil_op (t:=129) (u:=129) (e:=zdq) (s:=3) (d:=4) (by unfold opIs;kernel_rfl) (by kernel_rfl) (by decide) h2 rfl (λb hb h3=>?_);refine wp_cond (h3.bool (b:=b) rfl) ?_
 cases b with
 |true=>have:=hb rfl;subst this;rw[if_pos rfl];have h4:=h3.trim Stable.none [] [] (st':=⟨[],[]⟩) (by kernel_rfl);refine wp_seq (stepP Stable.none cb_hb cb_n cb_r2 cb_t2 h4 (λa5 w5 h5=>?_));refine wp_ret ⟨rfl,?_⟩;obtain⟨S,κ,hg,_⟩:=h5;exact⟨S,κ,hg⟩
 |false=>rw[iNs];refine wp_skip ?_;have h4:=h3.trim Stable.none [0] [] (st':=⟨[(0,AV.sl 1 es)],[]⟩) (by kernel_rfl);have t3:=cb_t3 es;rw[zao rfl,cPQ,zao rfl]at t3;refine wp_seq (stepP Stable.none cb_hb cb_n cb_r3 t3 h4 (λa5 w5 h5=>?_));refine wp_ret ⟨rfl,?_⟩;obtain⟨S,κ,hg,_⟩:=h5;exact⟨S,κ,hg⟩
theorem cb_ok:CallOK zP (single zc1 zOrc):=by
 intro f args ms r ms' h;unfold single at h;split at h
 case isFalse=>cases h
 rename_i hf;subst hf
 cases ms with
 |cons a m =>
   have hz:zOrc zc1 args (a::m)=none:=by unfold zOrc;simp(decide:=true) only [if_false,if_true]
   rw[hz]at h;cases h
 |nil =>
 have hz:zOrc zc1 args []=oClone zdq args:=by unfold zOrc;simp(decide:=true) only [if_false,if_true]
 rw[hz]at h;clear hz;unfold oClone at h;split at h
 case h_2=>cases h
 rename_i es;split at h
 case isFalse=>cases h
 rename_i hl;injection h with h;injection h with h1 h2;subst h1 h2;refine⟨cb_enters,λw S κ vals hvl hS hv hms hinj=>?_⟩;have hf:zcq.P.funcs[zc1]?=some zcq.fn:=by kernel_rfl
 refine zqw (args:=[AV.sl 1 es]) (frz:=false) (ex:=.ret) (st:=⟨[(2,AV.row 2 1 0 es.length)],[(2,gI es)]⟩) hf cb_hb (show 1<=zcq.fn.ntmps by decide) hvl hS hv hms hinj (λid=>by simp) (λa hg=>?_) ?_ ?_ ?_
 ·obtain⟨S,κ,hg⟩:=hg;exact cb_body hl ⟨S,κ,hg,trivial⟩
 ·rw[show ziU zcq.P false zcq.fn ⟨[(2,.row 2 1 0 es.length)],[(2,gI es)]⟩=outOf false [(2,gI es)] (.row 2 1 0 es.length)from by kernel_rfl];simp[outOf,Ab.look]
 ·kernel_rfl
 ·kernel_rfl
set_option maxRecDepth 100000
def frA(b:Bool)(k:Nat)(l:List zac):AV:=bif b then .row k 9 0 (mA l).length else .sl 9 (mA l)
def frM(b:Bool)(k:Nat)(l:List zac):Mem:=bif b then[(k,gB (mA l))]else[]
theorem c0(b:Bool)(l:List zac):tReg zbf zT 0 ⟨[(0,frA b 1000 l)],frM b 1000 l⟩=(some ⟨[(0,frA b 1000 l)],frM b 1000 l⟩):=by cases b<;>kernel_rfl
theorem c1(b:Bool)(l:List zac):tReg zbf zT 1 ⟨[(0,frA b 1000 l)],frM b 1000 l⟩=(some ⟨[(0,frA b 1000 l),(4,AV.row 4 9 0 0)],[(4,⟨9,zak,[],false⟩)]++frM b 1000 l⟩):=by cases b<;>kernel_rfl
theorem c4(b:Bool)(l:List zac)(ev:List zac)(p:Addr)(k:Int×Int)(g:zbO):tSeg zbf zT 4 1 3 ⟨[(0,frA b 1000 l),(4,gR 4 9 (mA ev)),(10,AV.v (.pointer (some p))),(13,AV.tup [AV.agg [I k.1,I k.2],AV.agg [I g.first,B g.disputed]])],[(4,gB (mA ev))]++frM b 1000 l⟩=(some ⟨[(6,gQ 6 2),(14,AV.agg [I g.first,B g.disputed]),(0,frA b 1000 l),(4,gR 4 9 (mA ev)),(10,AV.v (.pointer (some p))),(13,AV.tup [AV.agg [I k.1,I k.2],AV.agg [I g.first,B g.disputed]])],[(6,pX g),(4,gB (mA ev))]++frM b 1000 l⟩):=by cases b<;>kernel_rfl
theorem c5(b:Bool)(l:List zac)(ev:List zac)(p:Addr)(g:zbO):tReg zbf zT 5 ⟨[(0,frA b 1000 l),(4,gR 4 9 (mA ev)),(6,gQ 6 2),(10,AV.v (.pointer (some p)))],[(4,gB (mA ev)),(6,pX g)]++frM b 1000 l⟩=(some ⟨[(0,frA b 1000 l),(4,gR 4 9 (mA ev)),(6,gQ 6 2),(10,AV.v (.pointer (some p))),(17,B (!g.disputed))],[(4,gB (mA ev)),(6,pX g)]++frM b 1000 l⟩):=by cases b<;>kernel_rfl
theorem c7(b:Bool)(l:List zac)(ev:List zac):tReg zbf zT 7 ⟨[(4,gR 4 9 (mA ev))],[(4,gB (mA ev))]++frM b 1000 l⟩=(some ⟨[(4,gR 4 9 (mA ev)),(28,B (decide (2000<(↑(mA ev).length:Int))))],[(4,gB (mA ev))]++frM b 1000 l⟩):=by cases b<;>kernel_rfl
theorem c9(b:Bool)(l:List zac)(ev:List zac):tReg zbf zT 9 ⟨[(4,gR 4 9 (mA ev))],[(4,gB (mA ev))]++frM b 1000 l⟩=(callD zec (cw zcX [gR 1000 9 (mA ev),AV.fn ze2 []] [(1000,gB (mA ev))]) λ(r0:(List zac))=>some ⟨[(4,AV.row 4 9 0 ((mA ev).length))],[(4,gB (mA r0))]++frM b 1000 l⟩):=by cases b<;>kernel_rfl
theorem c10(b:Bool)(l:List zac)(ev:List zac):tReg zbf zT 10 ⟨[(4,gR 4 9 (mA ev))],[(4,gB (mA ev))]++frM b 1000 l⟩=(some ⟨[(4,gR 4 9 (mA ev)),(32,I ((↑(mA ev).length:Int))),(33,I 0)],[(4,gB (mA ev))]++frM b 1000 l⟩):=by cases b<;>kernel_rfl
theorem c11(b:Bool)(l:List zac)(ev:List zac)(n:Int)(i:Int):tReg zbf zT 11 ⟨[(4,gR 4 9 (mA ev)),(32,I n),(33,I i)],[(4,gB (mA ev))]++frM b 1000 l⟩=(some ⟨[(4,gR 4 9 (mA ev)),(32,I n),(33,I i),(34,B (decide (i<n)))],[(4,gB (mA ev))]++frM b 1000 l⟩):=by cases b<;>kernel_rfl
theorem c12(b:Bool)(l:List zac)(ev:List zac)(n:Int)(i:Int):tReg zbf zT 12 ⟨[(4,gR 4 9 (mA ev)),(32,I n),(33,I i)],[(4,gB (mA ev))]++frM b 1000 l⟩=(some ⟨[(4,gR 4 9 (mA ev)),(7,I i),(32,I n),(33,I i)],[(4,gB (mA ev))]++frM b 1000 l⟩):=by cases b<;>kernel_rfl
theorem c13(b:Bool)(l:List zac)(ev:List zac)(n:Int)(i:Int):tReg zbf zT 13 ⟨[(4,gR 4 9 (mA ev)),(7,I i),(32,I n),(33,I i)],[(4,gB (mA ev))]++frM b 1000 l⟩=(chk ((0:Int)<=i)<|
 chk ((i:Int)<((↑(mA ev).length:Int)))<|
 elemD zaZ (mA ev) (0+i.toNat) λ(c0:zac) =>
 callD zlm (cw zjp [sU c0] []) λ(r1:zac) =>
 chk ((0:Int)<=i)<|
 chk ((i:Int)<((↑(mA ev).length:Int)))<|
 elemD zaZ (mA ev) (0+i.toNat) λ(c2:zac) =>
 some ⟨[(4,AV.row 4 9 0 ((mA ev).length)),(32,I n),(33,I i)],[(4,⟨9,zak,List.set (mA ev) (0+i.toNat) (zab r1),false⟩)]++frM b 1000 l⟩):=by cases b<;>kernel_rfl
theorem c14(b:Bool)(l:List zac)(ev:List zac)(n:Int)(i:Int):tReg zbf zT 14 ⟨[(4,gR 4 9 (mA ev)),(32,I n),(33,I i)],[(4,gB (mA ev))]++frM b 1000 l⟩=(some ⟨[(4,gR 4 9 (mA ev)),(32,I n),(33,I (w64 (i+1)))],[(4,gB (mA ev))]++frM b 1000 l⟩):=by cases b<;>kernel_rfl
theorem c15(b:Bool)(l:List zac)(ev:List zac):tReg zbf zT 15 ⟨[(4,gR 4 9 (mA ev))],[(4,gB (mA ev))]++frM b 1000 l⟩=(some ⟨[(2,gR 4 9 (mA ev)),(3,I 0)],[(4,gB (mA ev))]++frM b 1000 l⟩):=by cases b<;>kernel_rfl
theorem c2(l:List zac):tSeg zbf zT 2 0 2 ⟨[(0,gR 1000 9 (mA l)),(4,AV.row 4 9 0 0)],[(4,⟨9,zak,[],false⟩),(1000,gB (mA l))]⟩=(callD zm3 (cw zfq [gR 1000 9 (mA l)] [(1000,gB (mA l))]) λ(r0:((List ((Int×Int)×zbO)))×(List zac))=>some ⟨[(9,AV.map 9),(8,AV.row 1000 9 0 ((mA l).length)),(0,AV.row 1000 9 0 ((mA l).length)),(4,AV.row 4 9 0 0)],[(9,gP (mY r0.1)),(4,⟨9,zak,[],false⟩),(1000,gB (mA r0.2))]⟩):=by kernel_rfl
theorem c2f(l:List zac):tSeg zbf zT 2 0 2 ⟨[(0,sC l),(4,AV.row 4 9 0 0)],[(4,⟨9,zak,[],false⟩)]⟩=(callD zln (cw zfq [sC l] []) λ(r0:(List ((Int×Int)×zbO)))=>some ⟨[(9,AV.map 9),(8,sC l),(0,sC l),(4,AV.row 4 9 0 0)],[(9,gP (mY r0)),(4,⟨9,zak,[],false⟩)]⟩):=by kernel_rfl
theorem c6(l:List zac)(ev:List zac)(p:Addr)(g:zbO):tReg zbf zT 6 ⟨[(0,gR 1000 9 (mA l)),(4,gR 4 9 (mA ev)),(6,gQ 6 2),(10,AV.v (.pointer (some p)))],[(4,gB (mA ev)),(6,pX g),(1000,gB (mA l))]⟩=(chk ((0:Int)<=g.first)<|
 chk ((g.first:Int)<((↑(mA l).length:Int)))<|
 elemD zaZ (mA l) (0+g.first.toNat) λ(c0:zac) =>
 chk ((mA ev).length=(mA ev).length)<|
 chk (((mA ev).length+1)*(88+1)<=1099511627776)<|
 chk ((mA ev++[[AV.v (Go.Value.int IntKind.i64 c0.Stamp.Time),AV.v (Go.Value.int IntKind.i64 c0.Stamp.Source),AV.v (Go.Value.int IntKind.i64 c0.Stamp.Seq),AV.v (Go.Value.int IntKind.i64 c0.Kind),AV.v (Go.Value.int IntKind.i64 c0.Script),AV.v (Go.Value.int IntKind.i64 c0.Part),AV.v (Go.Value.int IntKind.i64 c0.Value),AV.v (Go.Value.int IntKind.i64 c0.Marker),AV.sl 1 (List.map zai c0.Pages)]]).length=(mA ev++[[AV.v (Go.Value.int IntKind.i64 c0.Stamp.Time),AV.v (Go.Value.int IntKind.i64 c0.Stamp.Source),AV.v (Go.Value.int IntKind.i64 c0.Stamp.Seq),AV.v (Go.Value.int IntKind.i64 c0.Kind),AV.v (Go.Value.int IntKind.i64 c0.Script),AV.v (Go.Value.int IntKind.i64 c0.Part),AV.v (Go.Value.int IntKind.i64 c0.Value),AV.v (Go.Value.int IntKind.i64 c0.Marker),AV.sl 1 (List.map zai c0.Pages)]]).length)<|
 some ⟨[(0,gR 1000 9 (mA l)),(4,gR 4 9 ((mA ev)++([[I c0.Stamp.Time,I c0.Stamp.Source,I c0.Stamp.Seq,I c0.Kind,I c0.Script,I c0.Part,I c0.Value,I c0.Marker,AV.sl 1 (List.map zai c0.Pages)]]))),(10,AV.v (.pointer (some p)))],[(4,⟨9,zak,(mA ev)++([zab c0]),false⟩),(1000,gB (mA l))]⟩):=by kernel_rfl
theorem c6f(l:List zac)(ev:List zac)(p:Addr)(g:zbO):tReg zbf zT 6 ⟨[(0,sC l),(4,gR 4 9 (mA ev)),(6,gQ 6 2),(10,AV.v (.pointer (some p)))],[(4,gB (mA ev)),(6,pX g)]⟩=(chk ((0:Int)<=g.first)<|
 elemD zaZ (mA l) g.first.toNat λ(c0:zac) =>
 chk ((mA ev).length=(mA ev).length)<|
 chk (((mA ev).length+1)*(88+1)<=1099511627776)<|
 chk ((mA ev++[[AV.v (Go.Value.int IntKind.i64 c0.Stamp.Time),AV.v (Go.Value.int IntKind.i64 c0.Stamp.Source),AV.v (Go.Value.int IntKind.i64 c0.Stamp.Seq),AV.v (Go.Value.int IntKind.i64 c0.Kind),AV.v (Go.Value.int IntKind.i64 c0.Script),AV.v (Go.Value.int IntKind.i64 c0.Part),AV.v (Go.Value.int IntKind.i64 c0.Value),AV.v (Go.Value.int IntKind.i64 c0.Marker),AV.sl 1 (List.map zai c0.Pages)]]).length=(mA ev++[[AV.v (Go.Value.int IntKind.i64 c0.Stamp.Time),AV.v (Go.Value.int IntKind.i64 c0.Stamp.Source),AV.v (Go.Value.int IntKind.i64 c0.Stamp.Seq),AV.v (Go.Value.int IntKind.i64 c0.Kind),AV.v (Go.Value.int IntKind.i64 c0.Script),AV.v (Go.Value.int IntKind.i64 c0.Part),AV.v (Go.Value.int IntKind.i64 c0.Value),AV.v (Go.Value.int IntKind.i64 c0.Marker),AV.sl 1 (List.map zai c0.Pages)]]).length)<|
 some ⟨[(0,sC l),(4,gR 4 9 ((mA ev)++([[I c0.Stamp.Time,I c0.Stamp.Source,I c0.Stamp.Seq,I c0.Kind,I c0.Script,I c0.Part,I c0.Value,I c0.Marker,AV.sl 1 (List.map zai c0.Pages)]]))),(10,AV.v (.pointer (some p)))],[(4,⟨9,zak,(mA ev)++([zab c0]),false⟩)]⟩):=by kernel_rfl
set_option maxRecDepth 100000
def cnC:Code:=(zbf.fn.body).getD .skip
def cnO(j:Nat):Array Oper:=opsAt j cnC
def cnD(j:Nat):Bool:=zur j cnC
theorem cn_hb:zbf.fn.body=some cnC:=by kernel_rfl
theorem cn_shape:cnC=(.seq (.region 0 (cnO 0) (cnD 0)) (.seq (.region 1 (cnO 1) (cnD 1)) (.seq (.seq (.region 2 (cnO 2) false) (.block 0 (.loop (.seq (.region 3 (cnO 3) false) (.seq (.cond (.tmp 12) .skip (.exit 0)) (.block 1 (.seq (.region 4 (cnO 4) false) (.seq (.region 5 (cnO 5) (cnD 5)) (.cond (.tmp 17) (.region 6 (cnO 6) (cnD 6)) .skip))))))))) (.seq (.seq (.region 7 (cnO 7) (cnD 7)) (.cond (.tmp 28) (.seq (.region 8 (cnO 8) (cnD 8)) .ret) .skip)) (.seq (.region 9 (cnO 9) (cnD 9)) (.seq (.seq (.region 10 (cnO 10) (cnD 10)) (.block 2 (.loop (.seq (.region 11 (cnO 11) (cnD 11)) (.seq (.cond (.tmp 34) .skip (.exit 2)) (.seq (.block 3 (.seq (.region 12 (cnO 12) (cnD 12)) (.region 13 (cnO 13) (cnD 13)))) (.region 14 (cnO 14) (cnD 14)))))))) (.seq (.region 15 (cnO 15) (cnD 15)) .ret))))))):=by kernel_rfl
theorem cn_r0:regOf 0 cnC=some (.region 0 (cnO 0) (cnD 0)):=by kernel_rfl
theorem cn_r1:regOf 1 cnC=some (.region 1 (cnO 1) (cnD 1)):=by kernel_rfl
theorem cn_r2:regOf 2 cnC=some (.region 2 (cnO 2) false):=by kernel_rfl
theorem cn_r4:regOf 4 cnC=some (.region 4 (cnO 4) false):=by kernel_rfl
theorem cn_r5:regOf 5 cnC=some (.region 5 (cnO 5) (cnD 5)):=by kernel_rfl
theorem cn_r6:regOf 6 cnC=some (.region 6 (cnO 6) (cnD 6)):=by kernel_rfl
theorem cn_r7:regOf 7 cnC=some (.region 7 (cnO 7) (cnD 7)):=by kernel_rfl
theorem cn_r9:regOf 9 cnC=some (.region 9 (cnO 9) (cnD 9)):=by kernel_rfl
theorem cn_r10:regOf 10 cnC=some (.region 10 (cnO 10) (cnD 10)):=by kernel_rfl
theorem cn_r11:regOf 11 cnC=some (.region 11 (cnO 11) (cnD 11)):=by kernel_rfl
theorem cn_r12:regOf 12 cnC=some (.region 12 (cnO 12) (cnD 12)):=by kernel_rfl
theorem cn_r13:regOf 13 cnC=some (.region 13 (cnO 13) (cnD 13)):=by kernel_rfl
theorem cn_r14:regOf 14 cnC=some (.region 14 (cnO 14) (cnD 14)):=by kernel_rfl
theorem cn_r15:regOf 15 cnC=some (.region 15 (cnO 15) (cnD 15)):=by kernel_rfl
theorem cn_n:zbf.fn.ntmps<=1000:=by decide
abbrev X0:Sat2:=λ_ _ _ _=>True
def pickG(l:List zac)(p:(Int×Int)×zbO):Option zac:=if p.2.disputed then none else l[p.2.first.toNat]?
def evsOf(l:List zac)(gs:zfw)(done:List Nat):List zac:=done.filterMap λj=>gs[j]?.bind (pickG l)
theorem evsOf_snoc(l:List zac)(gs:zfw)(done:List Nat)(j:Nat):evsOf l gs (done++[j])=evsOf l gs done++((gs[j]?.bind (pickG l)).toList):=by
 unfold evsOf
 grind
theorem zxh{α β:Type}{f:α->Option β}{g:α->β}:∀l:List α,(∀x∈l,f x=some (g x))->l.filterMap f=l.map g
 |[],_=>rfl
 |x::r,h=>by rw[List.filterMap_cons,h x (by simp)];simp only[zbJ];rw[zxh r (λy hy=>h y (by simp[hy]))]
theorem zs4{β:Type}(l:List β):(List.range l.length).filterMap (λj=>l[j]?)=l:=by
 cases l with
 |nil=>rfl
 |cons d r =>
   rw[zxh (g:=λj=>(d::r).getD j d) _ (λj hj=>by simp_all)]
   apply zeB
   ·simp
   simp_all
noncomputable section
abbrev bL(l:List zac):Nat×Ent:=(1000,gB (mA l))
abbrev bV(ev:List zac):Nat×Ent:=(4,gB (mA ev))
abbrev s0(b:Bool)(l:List zac):Nat×AV:=(0,frA b 1000 l)
abbrev s4(ev:List zac):Nat×AV:=(4,.row 4 9 0 (mA ev).length)
abbrev s10(r:Nat):Nat×AV:=(10,.v (.pointer (some ⟨r,0,none⟩)))
abbrev stC(b:Bool)(l ev:List zac)(r:Nat):St:=⟨[s0 b l,s4 ev,s10 r],[bV ev]++frM b 1000 l⟩
structure CnLegs(b:Bool)(l:List zac):Prop where
 len:l.length<1000000
 glen:(zda l).length<1000000
 few:(keepS l).length<1000
 cGroups:cw zfq [frA b 1000 l] (frM b 1000 l)=some (bif b then zgG (zda l,l)else zfS (zda l))
 first:∀p∈zda l,0<=p.2.first/\p.2.first<l.length
 cSort:∀ev,List.Perm ev (keepS l)->cw zcX [.row 1000 9 0 (mA ev).length,.fn ze2 []] [bL ev]=some (zeb (canonS l))
 perm:List.Perm (canonS l) (keepS l)
 cClone:∀e∈canonS l,cw zjp [.agg (zab e)] []=some (zlg e)
theorem c2b(b:Bool)(l:List zac){gs:zfw}(h:cw zfq [frA b 1000 l] (frM b 1000 l)=some (bif b then zgG (gs,l)else zfS gs)):tSeg zbf zT 2 0 2 ⟨[(0,frA b 1000 l),(4,AV.row 4 9 0 0)],[(4,⟨9,zak,[],false⟩)]++frM b 1000 l⟩=some ⟨[(9,AV.map 9),(8,frA b 1000 l),(0,frA b 1000 l),(4,AV.row 4 9 0 0)],[(9,gP (mY gs)),(4,⟨9,zak,[],false⟩)]++frM b 1000 l⟩:=by
 cases b with
 |true=>have t:=c2 l;rw[show cw zfq [gR 1000 9 (mA l)] [(1000,gB (mA l))]=some (zgG (gs,l))from h,zyd]at t;exact t
 |false=>have t:=c2f l;rw[show cw zfq [sC l] []=some (zfS gs)from h,zwk]at t;exact t
theorem c6b(b:Bool)(l ev:List zac)(p:Addr)(g:zbO)(h1:0<=g.first)(h2:g.first<(l.length:Int))(hev:ev.length<1000000000):tReg zbf zT 6 ⟨[(0,frA b 1000 l),(4,gR 4 9 (mA ev)),(6,gQ 6 2),(10,AV.v (.pointer (some p)))],[(4,gB (mA ev)),(6,pX g)]++frM b 1000 l⟩ =
  some ⟨[(0,frA b 1000 l),(4,gR 4 9 ((mA ev)++[zab (l[g.first.toNat]'(by omega))])),(10,AV.v (.pointer (some p)))],[(4,⟨9,zak,(mA ev)++[zab (l[g.first.toNat]'(by omega))],false⟩)]++frM b 1000 l⟩:=by
 have hf:g.first.toNat<l.length:=by omega
 cases b with
 |true=>have t6:=c6 l ev p g;rw[zao h1,zao (by simpa using h2),zaY,zcs,zaa hf,zae,zao rfl,zao (by simp;omega),zao rfl]at t6;exact t6
 |false=>have t6:=c6f l ev p g;rw[zao h1,zcs,zaa hf,zae,zao rfl,zao (by simp;omega),zao rfl]at t6;exact t6
section
variable{w0:World}{S0:Nat->Prop}{κ0:Kap}{K:Nat->Prop}{a:Act}{w:World}
theorem cnStep{j:Nat}{st st':St}{X:Sat2}(hX:Stable X)(hr:regOf j cnC=some (.region j (cnO j) (cnD j)))(ht:tReg zbf zT j st=some st')
  (h:NowP w0 S0 κ0 K zbf.fn.ntmps X st a w) {Q:Exit->Act->World->Prop} (hQ:∀a' w',NowP w0 S0 κ0 K zbf.fn.ntmps X st' a' w'->Q .normal a' w'):(Code.region j (cnO j) (cnD j)).wp zbf.P Q a w:=stepP hX cn_hb cn_n hr ht h hQ
theorem keepS_perm{l:List zac}{done:List Nat}(hd:done.Nodup)(h1:∀i∈done,i<(zda l).length)(h2:∀i,i<(zda l).length->i∈done):List.Perm (evsOf l (zda l) done) (keepS l):=by
 have hp:List.Perm done (List.range (zda l).length):=(zcN hd zjQ).2 (λi=>⟨λh=>ze9.2 (h1 i h),λh=>h2 i (ze9.1 h)⟩)
 have e:keepS l=evsOf l (zda l) (List.range (zda l).length):=by
  unfold keepS evsOf;have:zda l=(List.range (zda l).length).filterMap λj=>(zda l)[j]?:=(zs4 _).symm
  conv=>lhs;rw[this]
  rw[List.filterMap_filterMap];rfl
 rw[e];exact hp.filterMap _
theorem cn_range{b:Bool}{l:List zac}(g:CnLegs b l)
  (h:NowP w0 S0 κ0 K zbf.fn.ntmps X0 ⟨[s0 b l,s4 []],[bV []]++frM b 1000 l⟩ a w) {Q:Exit->Act->World->Prop}
  (hQ:∀ev a' w',List.Perm ev (keepS l)->NowP w0 S0 κ0 K zbf.fn.ntmps X0 ⟨[s4 ev],[bV ev]++frM b 1000 l⟩ a' w'->Q .normal a' w'):(Code.seq (.region 2 (cnO 2) false) (.block 0 (.loop (.seq (.region 3 (cnO 3) false) (.seq (.cond (.tmp 12) .skip (.exit 0)) (.block 1 (.seq (.region 4 (cnO 4) false) (.seq (.region 5 (cnO 5) (cnD 5)) (.cond (.tmp 17) (.region 6 (cnO 6) (cnD 6)) .skip))))))))).wp zbf.P Q a w:=by
 refine wp_seq (wp_region ?_);have z2:(cnO 2).size=3:=by cases b<;>kernel_rfl
 rw[z2,show List.range 3=List.range' 0 2++[2]from rfl];have t2:=c2b b l g.cGroups;refine segP Stable.none cn_hb cn_n cn_r2 t2 (by rw[z2];decide) h (λa1 w1 h1=>?_);have h2:=h1.freeze Stable.none cn_n [9] (by cases b<;>kernel_rfl) (st':=⟨[(9,.mp (mY (zda l))),(8,frA b 1000 l),s0 b l,(4,.row 4 9 0 0)],[(4,⟨9,zak,[],false⟩)]++frM b 1000 l⟩) (by cases b<;>kernel_rfl);rw[wpOps_cons];refine zDU (t:=206) (k:=137) (e:=209) (by unfold opIs;kernel_rfl) (by cases b<;>kernel_rfl) (by decide) h2 (m:=9) (d:=10) rfl (λa3 w3 r q en clock h3=>?_);have h4:=h3.trim Rng.stable [0,4,10] [] (st':=stC b l (evsOf l (zda l) []) r) (by cases b<;>kernel_rfl);refine zDW (it:=10) (d1:=11) (d2:=12) (r:=r) (stf:=λdone=>stC b l (evsOf l (zda l) done) r) [0,4,10] (by cases b<;>kernel_rfl) (by unfold opIs;kernel_rfl) (by unfold opIs;kernel_rfl) (by decide) (by decide) (λ_=>rfl) (λ_ _ _=>by cases b<;>kernel_rfl) ?_ h4 ?_
 · intro done j k v hd hl hjd hkv a w hn
   have hj:j<(zda l).length:=by have:=(zam.1 hkv).1;simpa using this
   rw[zbC,zaa hj]at hkv;have hp:=g.first _ (zar hj)
   have hev:evsOf l (zda l) (done++[j])=evsOf l (zda l) done++(pickG l (zda l)[j]).toList:=by rw[evsOf_snoc,zaa hj];rfl
   have hlen:(evsOf l (zda l) done).length<1000000000:=by have:(evsOf l (zda l) done).length<=done.length:=zdg _ _;have:=zvQ hd (n:=(zda l).length) (λi hi=>by simpa using hl i hi);have:=g.glen;omega
   simp only[hev];generalize evsOf l (zda l) done=ev at hn hlen ⊢;generalize hx:(zda l)[j]=x at hkv hp ⊢;obtain⟨⟨k1,k2⟩,gr⟩:=x;simp only[zbg,zaf,zcE,zax,and_true]at hkv;obtain⟨rfl,rfl⟩:=hkv;refine wp_block (wp_seq (wp_region ?_));have z4:(cnO 4).size=4:=by cases b<;>kernel_rfl
   rw[z4,show List.range 4=0::(List.range' 1 3++[])from rfl,wpOps_cons];refine zDD (by unfold opIs;kernel_rfl) (by decide) hn (it:=10) (d:=13) rfl (by rw[zbC,zaa hj,hx];rfl) (λa1 w1 h1=>?_);have h2:=h1.trim Rng.stable [0,4,10,13] [] (st':=⟨[s0 b l,s4 ev,s10 r,(13,.tup [.agg [I k1,I k2],.agg [I gr.first,B gr.disputed]])],[bV ev]++frM b 1000 l⟩) (by cases b<;>kernel_rfl);refine segP Rng.stable cn_hb cn_n cn_r4 (c4 b l ev _ (k1,k2) gr) (by rw[z4];decide) h2 (λa3 w3 h3=>?_);have h4:=h3.trim Rng.stable [0,4,6,10] [] (st':=⟨[s0 b l,s4 ev,(6,.loc 6 2 0 0),s10 r],[bV ev,(6,pX gr)]++frM b 1000 l⟩) (by cases b<;>kernel_rfl);refine wp_seq (cnStep Rng.stable cn_r5 (c5 b l ev _ gr) h4 (λa5 w5 h5=>?_));refine wp_cond (h5.bool (b:=!gr.disputed) rfl) ?_
   cases hdsp:gr.disputed with
   |true =>
     rw[iNs];refine wp_skip ⟨rfl,?_⟩;have h6:=h5.trim Rng.stable [0,4,10] [6] (st':=stC b l ev r) (by cases b<;>kernel_rfl);have e:pickG l ((k1,k2),gr)=none:=by unfold pickG;simp[hdsp]
     simp_all
   |false =>
     rw[if_pos (by simp)];have h6:=h5.trim Rng.stable [0,4,6,10] [] (st':=⟨[s0 b l,s4 ev,(6,.loc 6 2 0 0),s10 r],[bV ev,(6,pX gr)]++frM b 1000 l⟩) (by cases b<;>kernel_rfl);simp only at hp;have hf:gr.first.toNat<l.length:=by omega
     have t6:=c6b b l ev ⟨r,0,none⟩ gr hp.1 hp.2 (by omega);refine cnStep Rng.stable cn_r6 t6 h6 (λa7 w7 h7=>⟨rfl,?_⟩);have h8:=h7.trim Rng.stable [0,4,10] [6] (st':=⟨[s0 b l,(4,.row 4 9 0 (List.length ((mA ev)++[zab l[gr.first.toNat]]))),s10 r],[(4,⟨9,zak,(mA ev)++[zab l[gr.first.toNat]],false⟩)]++frM b 1000 l⟩) (by cases b<;>kernel_rfl);have e:pickG l ((k1,k2),gr)=some l[gr.first.toNat]:=by unfold pickG;simp[hdsp,hf]
     grind
 ·intro done hd hl hall a' w' hn;refine hQ _ a' w' (keepS_perm hd (λi hi=>by simpa using hl i hi) (λi hi=>hall i (by simpa using hi))) ?_;exact(hn.trim Rng.stable [4] [] (st':=⟨[s4 (evsOf l (zda l) done)],[bV (evsOf l (zda l) done)]++frM b 1000 l⟩) (by cases b<;>kernel_rfl)).drop
abbrev s33(n i:Int):List (Nat×AV):=[(32,I n),(33,I i)]
theorem cn_copy{b:Bool}{l ev:List zac}(hcl:∀e∈ev,cw zjp [.agg (zab e)] []=some (zlg e))(hev:ev.length<1000000)
  (h:NowP w0 S0 κ0 K zbf.fn.ntmps X0 ⟨[s4 ev],[bV ev]++frM b 1000 l⟩ a w) {Q:Exit->Act->World->Prop}
  (hQ:∀a' w',NowP w0 S0 κ0 K zbf.fn.ntmps X0 ⟨[s4 ev],[bV ev]++frM b 1000 l⟩ a' w'->Q .normal a' w'):(Code.seq (.region 10 (cnO 10) (cnD 10)) (.block 2 (.loop (.seq (.region 11 (cnO 11) (cnD 11)) (.seq (.cond (.tmp 34) .skip (.exit 2)) (.seq (.block 3 (.seq (.region 12 (cnO 12) (cnD 12)) (.region 13 (cnO 13) (cnD 13)))) (.region 14 (cnO 14) (cnD 14)))))))).wp zbf.P Q a w:=by
 refine wp_seq (cnStep Stable.none cn_r10 (c10 b l ev) h (λa1 w1 h1=>?_));refine wp_block (wp_loop (λa w=>∃k:Nat,k<=ev.length/\NowP w0 S0 κ0 K zbf.fn.ntmps X0 ⟨s4 ev::s33 (mA ev).length k,[bV ev]++frM b 1000 l⟩ a w) (λa _=>ev.length-cnt a 33) ⟨0,zdh _,h1⟩ ?_)
 rintro a w ⟨k,hk,hn⟩
 have hc0:cnt a 33=k:=by rw[hn.cnt (n:=(k:Int)) rfl];simp
 refine wp_seq (cnStep Stable.none cn_r11 (c11 b l ev _ _) hn (λa2 w2 h2=>?_));refine wp_seq (wp_cond (h2.bool (b:=decide ((k:Int)<(mA ev).length)) rfl) ?_);by_cases hlt:k<ev.length
 · rw[decide_eq_true (by simp;omega),if_pos rfl];refine wp_skip ?_;have h3:=h2.trim Stable.none [4,32,33] [] (st':=⟨s4 ev::s33 (mA ev).length k,[bV ev]++frM b 1000 l⟩) (by cases b<;>kernel_rfl);refine wp_seq (wp_block (wp_seq (cnStep Stable.none cn_r12 (c12 b l ev _ _) h3 (λa4 w4 h4=>?_))));have t:=c13 b l ev (mA ev).length k;rw[cPQ,zao (by simp;omega),zaY,zcs,show((k:Int)).toNat=k from rfl,zaa hlt,zae,hcl _ (zar hlt),zrW,cPQ,zao (by simp;omega),zcs,zaa hlt,zae]at t
   have e:List.set (mA ev) k (zab ev[k])=mA ev:=by rw[<-List.map_set,List.set_getElem_self]
   rw[e]at t;refine cnStep Stable.none cn_r13 t h4 (λa5 w5 h5=>?_);refine cnStep Stable.none cn_r14 (c14 b l ev _ _) h5 (λa6 w6 h6=>?_);rw[w6Q]at h6;refine⟨⟨k+1,hlt,by exact_mod_cast h6⟩,?_⟩;have:cnt a6 33=k+1:=by rw[h6.cnt (n:=(k:Int)+1) rfl];omega
   omega
 ·rw[decide_eq_false (by simp;omega),iNs];exact wp_exit (hQ _ _ (h2.trim Stable.none [4] [] (by cases b<;>kernel_rfl)))
abbrev stN(b:Bool)(l:List zac):St:=⟨[(2,.row 4 9 0 (mA (canonS l)).length),(3,I 0)],[bV (canonS l)]++frM b 1000 l⟩
theorem cn_body{b:Bool}{l:List zac}(g:CnLegs b l)(h:NowP w0 S0 κ0 K zbf.fn.ntmps X0 ⟨[s0 b l],(frM b 1000 l)⟩ a w):cnC.wp zbf.P (PostC w0 S0 κ0 K zbf.fn.ntmps .ret (stN b l)) a w:=by
 rw[cn_shape];refine wp_seq (cnStep Stable.none cn_r0 (c0 b l) h (λa1 w1 h1=>?_));refine wp_seq (cnStep Stable.none cn_r1 (c1 b l) h1 (λa2 w2 h2=>?_));refine wp_seq (cn_range g h2 (λev a3 w3 hp h3=>?_));have hl:ev.length=(keepS l).length:=hp.length_eq;have hf:=g.few;refine wp_seq (wp_seq (cnStep Stable.none cn_r7 (c7 b l ev) h3 (λa4 w4 h4=>?_)));refine wp_cond (h4.bool (b:=decide (2000<((mA ev).length:Int))) rfl) ?_;rw[decide_eq_false (by simp;omega),iNs];refine wp_skip ?_;have h5:=h4.trim Stable.none [4] [] (st':=⟨[s4 ev],[bV ev]++frM b 1000 l⟩) (by cases b<;>kernel_rfl);have t9:=c9 b l ev;rw[show List.length (mA ev)=(mA ev).length from rfl,g.cSort ev hp,zj4]at t9
 have hlen:(mA ev).length=(mA (canonS l)).length:=by rw[zad,zad,hp.length_eq,g.perm.length_eq]
 have hcl:(canonS l).length=(keepS l).length:=g.perm.length_eq;refine wp_seq (cnStep Stable.none cn_r9 t9 h5 (λa6 w6 h6=>?_));rw[hlen]at h6;refine wp_seq (cn_copy (ev:=canonS l) g.cClone (by omega) h6 (λa7 w7 h7=>?_));refine wp_seq (cnStep Stable.none cn_r15 (c15 b l (canonS l)) h7 (λa8 w8 h8=>?_));refine wp_ret ⟨rfl,?_⟩;obtain⟨S,κ,hg,_⟩:=h8;exact⟨S,κ,hg⟩
theorem zGA:enters zbf.P zcB=true:=by kernel_rfl
theorem cn_calls{b:Bool}{l:List zac}(g:CnLegs b l)(w:World)(S:Nat->Prop)(κ:Kap)(vals:Array Value)(hvl:vals.size=1)(hS:∀g,S g->g<w.heap.size)
  (hv:∀(k:Nat) (a:AV) (x:Value),[frA b 1000 l][k]?=some a->vals[k]?=some x->VRel S κ (Dm (frM b 1000 l)) w a x)
  (hms:∀d ent,Ab.look (frM b 1000 l) d=some ent->EntAt S κ (Dm (frM b 1000 l)) w (κ d) ent) (hinj:∀d d' g c c',Dm (frM b 1000 l) d->Dm (frM b 1000 l) d'->κ d=some (g,c)->κ d'=some (g,c')->d=d'):Calls zbf.P zcB vals w (Ab.Left S κ (frM b 1000 l) (frM b 1000 l) (.tup [.sl 9 (mA (canonS l)),I 0]) w):=by
 have hf:zbf.P.funcs[zcB]?=some zbf.fn:=by cases b<;>kernel_rfl
 refine zqw (args:=[frA b 1000 l]) (frz:=false) (ex:=.ret) (st:=stN b l) hf cn_hb (show 1<=zbf.fn.ntmps by decide) hvl hS hv hms hinj (λid=>by simp) (λa hg=>?_) ?_ ?_ ?_
 ·obtain⟨S,κ,hg⟩:=hg;exact cn_body g ⟨S,κ,hg,trivial⟩
 ·unfold stN bV;generalize mA (canonS l)=xs;rw[show ziU zbf.P false zbf.fn ⟨[(2,.row 4 9 0 xs.length),(3,I 0)],[(4,gB xs)]++frM b 1000 l⟩=outOf false ([(4,gB xs)]++frM b 1000 l) (.tup [.row 4 9 0 xs.length,I 0])from by cases b<;>kernel_rfl];simp[outOf,snap,mapO,Ab.look]
 ·cases b<;>kernel_rfl
 ·cases b<;>kernel_rfl
end
end
end Go.Proofs.YtlecnobdfhlmnaaGreat
namespace Go.Proofs.YtlecnobdfhlmnaaGreat
open Go.Shelf
def zDM:Go.Shelf.Ren:=⟨λ|6=>97|15=>123|14=>147|28=>170|29=>171|20=>193|21=>194|22=>195|23=>196|24=>197|25=>198|26=>199|27=>200|46=>247|47=>222|48=>223|49=>248|50=>249|57=>264|n=>n,λ|22=>51|24=>70|25=>183|3=>3|39=>204|0=>0|53=>256|55=>258|4=>4|46=>250|45=>249|50=>166|5=>5|9=>9|66=>292|70=>296|76=>313|77=>314|n=>n,λ|n=>n⟩
theorem layG:Go.Proofs.SlLaysF0.n6 Tryz.prog zDM:={ mixed:=by kernel_rfl,f6:=⟨Tryz.f97.name,by decide,Tryz.func97.trans bJ⟩,f14:=⟨Tryz.f147.name,by decide,Tryz.func147.trans bJ⟩,f15:=Tryz.func123.trans bJ,f20:=⟨Tryz.f193.name,by decide,Tryz.func193.trans bJ⟩,f21:=⟨Tryz.f194.name,by decide,Tryz.func194.trans bJ⟩,f22:=⟨Tryz.f195.name,by decide,Tryz.func195.trans bJ⟩,f23:=⟨Tryz.f196.name,by decide,Tryz.func196.trans bJ⟩,f24:=⟨Tryz.f197.name,by decide,Tryz.func197.trans bJ⟩,f25:=⟨Tryz.f198.name,by decide,Tryz.func198.trans bJ⟩,f26:=⟨Tryz.f199.name,by decide,Tryz.func199.trans bJ⟩,f27:=⟨Tryz.f200.name,by decide,Tryz.func200.trans bJ⟩,f28:=Tryz.func170.trans bJ,f29:=Tryz.func171.trans bJ,f46:=⟨Tryz.f247.name,by decide,Tryz.func247.trans bJ⟩,f47:=Tryz.func222.trans bJ,f48:=Tryz.func223.trans bJ,f49:=⟨Tryz.f248.name,by decide,Tryz.func248.trans bJ⟩,f50:=⟨Tryz.f249.name,by decide,Tryz.func249.trans bJ⟩,f57:=⟨Tryz.f264.name,by decide,Tryz.func264.trans bJ⟩,t0:=Tryz.underlying0,a0:=Tryz.isAgg0,z0:=Tryz.sizeOf0,v0:=Tryz.zeroValue0,t3:=Tryz.underlying3,a3:=Tryz.isAgg3,z3:=Tryz.sizeOf3,v3:=Tryz.zeroValue3,t4:=Tryz.underlying4,a4:=Tryz.isAgg4,z4:=Tryz.sizeOf4,v4:=Tryz.zeroValue4,t5:=Tryz.underlying5,a5:=Tryz.isAgg5,z5:=Tryz.sizeOf5,v5:=Tryz.zeroValue5,t9:=Tryz.underlying9,a9:=Tryz.isAgg9,z9:=Tryz.sizeOf9,v9:=Tryz.zeroValue9,t22:=Tryz.underlying51,a22:=Tryz.isAgg51,z22:=Tryz.sizeOf51,v22:=Tryz.zeroValue51,t25:=Tryz.underlying183,a25:=Tryz.isAgg183,z25:=Tryz.sizeOf183,v25:=Tryz.zeroValue183,t39:=Tryz.underlying204,a39:=Tryz.isAgg204,z39:=Tryz.sizeOf204,v39:=Tryz.zeroValue204,t45:=Tryz.underlying249,a45:=Tryz.isAgg249,z45:=Tryz.sizeOf249,v45:=Tryz.zeroValue249,t46:=Tryz.underlying250,a46:=Tryz.isAgg250,z46:=Tryz.sizeOf250,v46:=Tryz.zeroValue250,t50:=Tryz.underlying166,a50:=Tryz.isAgg166,z50:=Tryz.sizeOf166,v50:=Tryz.zeroValue166,t53:=Tryz.underlying256,a53:=Tryz.isAgg256,z53:=Tryz.sizeOf256,v53:=Tryz.zeroValue256,t55:=Tryz.underlying258,a55:=Tryz.isAgg258,z55:=Tryz.sizeOf258,v55:=Tryz.zeroValue258,t66:=Tryz.underlying292,a66:=Tryz.isAgg292,z66:=Tryz.sizeOf292,v66:=Tryz.zeroValue292,t70:=Tryz.underlying296,a70:=Tryz.isAgg296,z70:=Tryz.sizeOf296,v70:=Tryz.zeroValue296,t76:=Tryz.underlying313,a76:=Tryz.isAgg313,z76:=Tryz.sizeOf313,v76:=Tryz.zeroValue313,t77:=Tryz.underlying314,a77:=Tryz.isAgg314,z77:=Tryz.sizeOf314,v77:=Tryz.zeroValue314 }
theorem aggG(w:World):(Go.isAgg (zDM.t 24)).run Tryz.prog w=.ok true w:=Tryz.isAgg70 w
theorem sizeG(w:World):(Go.sizeOf (zDM.t 24)).run Tryz.prog w=.ok 8 w:=Tryz.sizeOf70 w
def zDL:Go.Shelf.Ren:=⟨λ|6=>128|15=>123|14=>176|28=>170|29=>171|20=>227|21=>228|22=>229|23=>230|24=>231|25=>232|26=>233|27=>234|46=>259|47=>222|48=>223|49=>260|50=>261|57=>269|n=>n,λ|22=>37|24=>85|25=>211|3=>3|39=>204|0=>0|53=>256|55=>258|4=>4|46=>250|45=>249|50=>166|5=>5|9=>9|66=>292|70=>296|76=>313|77=>314|n=>n,λ|n=>n⟩
theorem layE:Go.Proofs.SlLaysF0.n6 Tryz.prog zDL:={ mixed:=by kernel_rfl,f6:=⟨Tryz.f128.name,by decide,Tryz.func128.trans bJ⟩,f14:=⟨Tryz.f176.name,by decide,Tryz.func176.trans bJ⟩,f15:=Tryz.func123.trans bJ,f20:=⟨Tryz.f227.name,by decide,Tryz.func227.trans bJ⟩,f21:=⟨Tryz.f228.name,by decide,Tryz.func228.trans bJ⟩,f22:=⟨Tryz.f229.name,by decide,Tryz.func229.trans bJ⟩,f23:=⟨Tryz.f230.name,by decide,Tryz.func230.trans bJ⟩,f24:=⟨Tryz.f231.name,by decide,Tryz.func231.trans bJ⟩,f25:=⟨Tryz.f232.name,by decide,Tryz.func232.trans bJ⟩,f26:=⟨Tryz.f233.name,by decide,Tryz.func233.trans bJ⟩,f27:=⟨Tryz.f234.name,by decide,Tryz.func234.trans bJ⟩,f28:=Tryz.func170.trans bJ,f29:=Tryz.func171.trans bJ,f46:=⟨Tryz.f259.name,by decide,Tryz.func259.trans bJ⟩,f47:=Tryz.func222.trans bJ,f48:=Tryz.func223.trans bJ,f49:=⟨Tryz.f260.name,by decide,Tryz.func260.trans bJ⟩,f50:=⟨Tryz.f261.name,by decide,Tryz.func261.trans bJ⟩,f57:=⟨Tryz.f269.name,by decide,Tryz.func269.trans bJ⟩,t0:=Tryz.underlying0,a0:=Tryz.isAgg0,z0:=Tryz.sizeOf0,v0:=Tryz.zeroValue0,t3:=Tryz.underlying3,a3:=Tryz.isAgg3,z3:=Tryz.sizeOf3,v3:=Tryz.zeroValue3,t4:=Tryz.underlying4,a4:=Tryz.isAgg4,z4:=Tryz.sizeOf4,v4:=Tryz.zeroValue4,t5:=Tryz.underlying5,a5:=Tryz.isAgg5,z5:=Tryz.sizeOf5,v5:=Tryz.zeroValue5,t9:=Tryz.underlying9,a9:=Tryz.isAgg9,z9:=Tryz.sizeOf9,v9:=Tryz.zeroValue9,t22:=Tryz.underlying37,a22:=Tryz.isAgg37,z22:=Tryz.sizeOf37,v22:=Tryz.zeroValue37,t25:=Tryz.underlying211,a25:=Tryz.isAgg211,z25:=Tryz.sizeOf211,v25:=Tryz.zeroValue211,t39:=Tryz.underlying204,a39:=Tryz.isAgg204,z39:=Tryz.sizeOf204,v39:=Tryz.zeroValue204,t45:=Tryz.underlying249,a45:=Tryz.isAgg249,z45:=Tryz.sizeOf249,v45:=Tryz.zeroValue249,t46:=Tryz.underlying250,a46:=Tryz.isAgg250,z46:=Tryz.sizeOf250,v46:=Tryz.zeroValue250,t50:=Tryz.underlying166,a50:=Tryz.isAgg166,z50:=Tryz.sizeOf166,v50:=Tryz.zeroValue166,t53:=Tryz.underlying256,a53:=Tryz.isAgg256,z53:=Tryz.sizeOf256,v53:=Tryz.zeroValue256,t55:=Tryz.underlying258,a55:=Tryz.isAgg258,z55:=Tryz.sizeOf258,v55:=Tryz.zeroValue258,t66:=Tryz.underlying292,a66:=Tryz.isAgg292,z66:=Tryz.sizeOf292,v66:=Tryz.zeroValue292,t70:=Tryz.underlying296,a70:=Tryz.isAgg296,z70:=Tryz.sizeOf296,v70:=Tryz.zeroValue296,t76:=Tryz.underlying313,a76:=Tryz.isAgg313,z76:=Tryz.sizeOf313,v76:=Tryz.zeroValue313,t77:=Tryz.underlying314,a77:=Tryz.isAgg314,z77:=Tryz.sizeOf314,v77:=Tryz.zeroValue314 }
theorem aggE(w:World):(Go.isAgg (zDL.t 24)).run Tryz.prog w=.ok true w:=Tryz.isAgg85 w
theorem sizeE(w:World):(Go.sizeOf (zDL.t 24)).run Tryz.prog w=.ok 9 w:=Tryz.sizeOf85 w
def zDK:Go.Shelf.Ren:=⟨λ|6=>69|15=>123|14=>122|28=>170|29=>171|20=>162|21=>163|22=>164|23=>165|24=>166|25=>167|26=>168|27=>169|46=>221|47=>222|48=>223|49=>224|50=>225|57=>257|n=>n,λ|22=>39|24=>62|25=>141|3=>3|39=>204|0=>0|53=>256|55=>258|4=>4|46=>250|45=>249|50=>166|5=>5|9=>9|66=>292|70=>296|76=>313|77=>314|n=>n,λ|n=>n⟩
theorem layA:Go.Proofs.SlLaysF0.n6 Tryz.prog zDK:={ mixed:=by kernel_rfl,f6:=⟨Tryz.f69.name,by decide,Tryz.func69.trans bJ⟩,f14:=⟨Tryz.f122.name,by decide,Tryz.func122.trans bJ⟩,f15:=Tryz.func123.trans bJ,f20:=⟨Tryz.f162.name,by decide,Tryz.func162.trans bJ⟩,f21:=⟨Tryz.f163.name,by decide,Tryz.func163.trans bJ⟩,f22:=⟨Tryz.f164.name,by decide,Tryz.func164.trans bJ⟩,f23:=⟨Tryz.f165.name,by decide,Tryz.func165.trans bJ⟩,f24:=⟨Tryz.f166.name,by decide,Tryz.func166.trans bJ⟩,f25:=⟨Tryz.f167.name,by decide,Tryz.func167.trans bJ⟩,f26:=⟨Tryz.f168.name,by decide,Tryz.func168.trans bJ⟩,f27:=⟨Tryz.f169.name,by decide,Tryz.func169.trans bJ⟩,f28:=Tryz.func170.trans bJ,f29:=Tryz.func171.trans bJ,f46:=⟨Tryz.f221.name,by decide,Tryz.func221.trans bJ⟩,f47:=Tryz.func222.trans bJ,f48:=Tryz.func223.trans bJ,f49:=⟨Tryz.f224.name,by decide,Tryz.func224.trans bJ⟩,f50:=⟨Tryz.f225.name,by decide,Tryz.func225.trans bJ⟩,f57:=⟨Tryz.f257.name,by decide,Tryz.func257.trans bJ⟩,t0:=Tryz.underlying0,a0:=Tryz.isAgg0,z0:=Tryz.sizeOf0,v0:=Tryz.zeroValue0,t3:=Tryz.underlying3,a3:=Tryz.isAgg3,z3:=Tryz.sizeOf3,v3:=Tryz.zeroValue3,t4:=Tryz.underlying4,a4:=Tryz.isAgg4,z4:=Tryz.sizeOf4,v4:=Tryz.zeroValue4,t5:=Tryz.underlying5,a5:=Tryz.isAgg5,z5:=Tryz.sizeOf5,v5:=Tryz.zeroValue5,t9:=Tryz.underlying9,a9:=Tryz.isAgg9,z9:=Tryz.sizeOf9,v9:=Tryz.zeroValue9,t22:=Tryz.underlying39,a22:=Tryz.isAgg39,z22:=Tryz.sizeOf39,v22:=Tryz.zeroValue39,t25:=Tryz.underlying141,a25:=Tryz.isAgg141,z25:=Tryz.sizeOf141,v25:=Tryz.zeroValue141,t39:=Tryz.underlying204,a39:=Tryz.isAgg204,z39:=Tryz.sizeOf204,v39:=Tryz.zeroValue204,t45:=Tryz.underlying249,a45:=Tryz.isAgg249,z45:=Tryz.sizeOf249,v45:=Tryz.zeroValue249,t46:=Tryz.underlying250,a46:=Tryz.isAgg250,z46:=Tryz.sizeOf250,v46:=Tryz.zeroValue250,t50:=Tryz.underlying166,a50:=Tryz.isAgg166,z50:=Tryz.sizeOf166,v50:=Tryz.zeroValue166,t53:=Tryz.underlying256,a53:=Tryz.isAgg256,z53:=Tryz.sizeOf256,v53:=Tryz.zeroValue256,t55:=Tryz.underlying258,a55:=Tryz.isAgg258,z55:=Tryz.sizeOf258,v55:=Tryz.zeroValue258,t66:=Tryz.underlying292,a66:=Tryz.isAgg292,z66:=Tryz.sizeOf292,v66:=Tryz.zeroValue292,t70:=Tryz.underlying296,a70:=Tryz.isAgg296,z70:=Tryz.sizeOf296,v70:=Tryz.zeroValue296,t76:=Tryz.underlying313,a76:=Tryz.isAgg313,z76:=Tryz.sizeOf313,v76:=Tryz.zeroValue313,t77:=Tryz.underlying314,a77:=Tryz.isAgg314,z77:=Tryz.sizeOf314,v77:=Tryz.zeroValue314 }
theorem aggA(w:World):(Go.isAgg (zDK.t 24)).run Tryz.prog w=.ok true w:=Tryz.isAgg62 w
theorem sizeA(w:World):(Go.sizeOf (zDK.t 24)).run Tryz.prog w=.ok 6 w:=Tryz.sizeOf62 w
def layK_ren:Go.Shelf.Ren:=⟨λ|7=>74|10=>126|n=>n,λ|23=>68|26=>3|3=>4|28=>121|0=>0|27=>120|33=>98|4=>4|n=>n,λ|n=>n⟩
theorem layK:Go.Proofs.SlLaysZI.n7 Tryz.prog layK_ren:={ mixed:=by kernel_rfl,f7:=⟨Tryz.f74.name,by decide,Tryz.func74.trans bJ⟩,f10:=⟨Tryz.f126.name,by decide,Tryz.func126.trans bJ⟩,t0:=Tryz.underlying0,a0:=Tryz.isAgg0,z0:=Tryz.sizeOf0,v0:=Tryz.zeroValue0,t4:=Tryz.underlying4,a4:=Tryz.isAgg4,z4:=Tryz.sizeOf4,v4:=Tryz.zeroValue4,t23:=Tryz.underlying68,a23:=Tryz.isAgg68,z23:=Tryz.sizeOf68,v23:=Tryz.zeroValue68,t26:=Tryz.underlying3,a26:=Tryz.isAgg3,z26:=Tryz.sizeOf3,v26:=Tryz.zeroValue3,t27:=Tryz.underlying120,a27:=Tryz.isAgg120,z27:=Tryz.sizeOf120,v27:=Tryz.zeroValue120,t28:=Tryz.underlying121,a28:=Tryz.isAgg121,z28:=Tryz.sizeOf121,v28:=Tryz.zeroValue121,t33:=Tryz.underlying98,a33:=Tryz.isAgg98,z33:=Tryz.sizeOf98,v33:=Tryz.zeroValue98 }
def layL_ren:Go.Shelf.Ren:=⟨λ|7=>59|10=>102|n=>n,λ|23=>114|26=>3|3=>3|28=>121|0=>0|27=>120|33=>98|4=>4|n=>n,λ|n=>n⟩
theorem layL:Go.Proofs.SlLaysZI.n7 Tryz.prog layL_ren:={ mixed:=by kernel_rfl,f7:=⟨Tryz.f59.name,by decide,Tryz.func59.trans bJ⟩,f10:=⟨Tryz.f102.name,by decide,Tryz.func102.trans bJ⟩,t0:=Tryz.underlying0,a0:=Tryz.isAgg0,z0:=Tryz.sizeOf0,v0:=Tryz.zeroValue0,t4:=Tryz.underlying4,a4:=Tryz.isAgg4,z4:=Tryz.sizeOf4,v4:=Tryz.zeroValue4,t23:=Tryz.underlying114,a23:=Tryz.isAgg114,z23:=Tryz.sizeOf114,v23:=Tryz.zeroValue114,t26:=Tryz.underlying3,a26:=Tryz.isAgg3,z26:=Tryz.sizeOf3,v26:=Tryz.zeroValue3,t27:=Tryz.underlying120,a27:=Tryz.isAgg120,z27:=Tryz.sizeOf120,v27:=Tryz.zeroValue120,t28:=Tryz.underlying121,a28:=Tryz.isAgg121,z28:=Tryz.sizeOf121,v28:=Tryz.zeroValue121,t33:=Tryz.underlying98,a33:=Tryz.isAgg98,z33:=Tryz.sizeOf98,v33:=Tryz.zeroValue98 }
def layS_ren:Go.Shelf.Ren:=⟨λ|6=>58|8=>100|9=>101|11=>149|13=>123|12=>150|23=>170|24=>171|14=>201|15=>202|16=>203|17=>204|18=>205|19=>206|20=>207|21=>208|22=>209|25=>250|26=>222|27=>223|28=>251|29=>252|30=>172|31=>265|n=>n,λ|26=>3|28=>121|24=>22|0=>0|3=>3|37=>204|48=>256|50=>258|4=>4|40=>250|39=>249|45=>166|5=>5|9=>9|51=>292|55=>296|57=>313|58=>314|33=>98|n=>n,λ|n=>n⟩
theorem layS:Go.Proofs.SlLaysZI.n6 Tryz.prog layS_ren:={ mixed:=by kernel_rfl,f6:=⟨Tryz.f58.name,by decide,Tryz.func58.trans bJ⟩,f8:=⟨Tryz.f100.name,by decide,Tryz.func100.trans bJ⟩,f11:=⟨Tryz.f149.name,by decide,Tryz.func149.trans bJ⟩,t0:=Tryz.underlying0,a0:=Tryz.isAgg0,z0:=Tryz.sizeOf0,v0:=Tryz.zeroValue0,t24:=Tryz.underlying22,a24:=Tryz.isAgg22,z24:=Tryz.sizeOf22,v24:=Tryz.zeroValue22,t26:=Tryz.underlying3,a26:=Tryz.isAgg3,z26:=Tryz.sizeOf3,v26:=Tryz.zeroValue3,t28:=Tryz.underlying121,a28:=Tryz.isAgg121,z28:=Tryz.sizeOf121,v28:=Tryz.zeroValue121,i26:=by kernel_rfl }
def layI_ren:Go.Shelf.Ren:=⟨λ|5=>101|8=>123|7=>150|19=>170|20=>171|10=>201|11=>202|12=>203|13=>204|14=>205|15=>206|16=>207|17=>208|18=>209|30=>250|31=>222|32=>223|33=>251|34=>252|35=>172|40=>265|n=>n,λ|23=>22|25=>3|3=>3|32=>204|22=>22|0=>0|44=>256|46=>258|4=>4|36=>250|35=>249|41=>166|5=>5|9=>9|53=>292|57=>296|63=>313|64=>314|n=>n,λ|n=>n⟩
theorem layI:Go.Proofs.SlLaysM.n5 Tryz.prog layI_ren:={ mixed:=by kernel_rfl,f5:=⟨Tryz.f101.name,by decide,Tryz.func101.trans bJ⟩,f7:=⟨Tryz.f150.name,by decide,Tryz.func150.trans bJ⟩,f8:=Tryz.func123.trans bJ,f10:=⟨Tryz.f201.name,by decide,Tryz.func201.trans bJ⟩,f11:=⟨Tryz.f202.name,by decide,Tryz.func202.trans bJ⟩,f12:=⟨Tryz.f203.name,by decide,Tryz.func203.trans bJ⟩,f13:=⟨Tryz.f204.name,by decide,Tryz.func204.trans bJ⟩,f14:=⟨Tryz.f205.name,by decide,Tryz.func205.trans bJ⟩,f15:=⟨Tryz.f206.name,by decide,Tryz.func206.trans bJ⟩,f16:=⟨Tryz.f207.name,by decide,Tryz.func207.trans bJ⟩,f17:=⟨Tryz.f208.name,by decide,Tryz.func208.trans bJ⟩,f18:=⟨Tryz.f209.name,by decide,Tryz.func209.trans bJ⟩,f19:=Tryz.func170.trans bJ,f20:=Tryz.func171.trans bJ,f30:=⟨Tryz.f250.name,by decide,Tryz.func250.trans bJ⟩,f31:=Tryz.func222.trans bJ,f32:=Tryz.func223.trans bJ,f33:=⟨Tryz.f251.name,by decide,Tryz.func251.trans bJ⟩,f34:=⟨Tryz.f252.name,by decide,Tryz.func252.trans bJ⟩,f35:=⟨Tryz.f172.name,by decide,Tryz.func172.trans bJ⟩,f40:=⟨Tryz.f265.name,by decide,Tryz.func265.trans bJ⟩,t0:=Tryz.underlying0,a0:=Tryz.isAgg0,z0:=Tryz.sizeOf0,v0:=Tryz.zeroValue0,t3:=Tryz.underlying3,a3:=Tryz.isAgg3,z3:=Tryz.sizeOf3,v3:=Tryz.zeroValue3,t4:=Tryz.underlying4,a4:=Tryz.isAgg4,z4:=Tryz.sizeOf4,v4:=Tryz.zeroValue4,t5:=Tryz.underlying5,a5:=Tryz.isAgg5,z5:=Tryz.sizeOf5,v5:=Tryz.zeroValue5,t9:=Tryz.underlying9,a9:=Tryz.isAgg9,z9:=Tryz.sizeOf9,v9:=Tryz.zeroValue9,t22:=Tryz.underlying22,a22:=Tryz.isAgg22,z22:=Tryz.sizeOf22,v22:=Tryz.zeroValue22,t23:=Tryz.underlying22,a23:=Tryz.isAgg22,z23:=Tryz.sizeOf22,v23:=Tryz.zeroValue22,t25:=Tryz.underlying3,a25:=Tryz.isAgg3,z25:=Tryz.sizeOf3,v25:=Tryz.zeroValue3,t32:=Tryz.underlying204,a32:=Tryz.isAgg204,z32:=Tryz.sizeOf204,v32:=Tryz.zeroValue204,t35:=Tryz.underlying249,a35:=Tryz.isAgg249,z35:=Tryz.sizeOf249,v35:=Tryz.zeroValue249,t36:=Tryz.underlying250,a36:=Tryz.isAgg250,z36:=Tryz.sizeOf250,v36:=Tryz.zeroValue250,t41:=Tryz.underlying166,a41:=Tryz.isAgg166,z41:=Tryz.sizeOf166,v41:=Tryz.zeroValue166,t44:=Tryz.underlying256,a44:=Tryz.isAgg256,z44:=Tryz.sizeOf256,v44:=Tryz.zeroValue256,t46:=Tryz.underlying258,a46:=Tryz.isAgg258,z46:=Tryz.sizeOf258,v46:=Tryz.zeroValue258,t53:=Tryz.underlying292,a53:=Tryz.isAgg292,z53:=Tryz.sizeOf292,v53:=Tryz.zeroValue292,t57:=Tryz.underlying296,a57:=Tryz.isAgg296,z57:=Tryz.sizeOf296,v57:=Tryz.zeroValue296,t63:=Tryz.underlying313,a63:=Tryz.isAgg313,z63:=Tryz.sizeOf313,v63:=Tryz.zeroValue313,t64:=Tryz.underlying314,a64:=Tryz.isAgg314,z64:=Tryz.sizeOf314,v64:=Tryz.zeroValue314 }
end Go.Proofs.YtlecnobdfhlmnaaGreat
end
