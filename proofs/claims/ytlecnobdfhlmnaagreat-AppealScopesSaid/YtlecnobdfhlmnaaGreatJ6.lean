/- Seeds and suspensions; the last mark counts where nobody is suspended (plain). -/
import Derived.Test.YtlecnobdfhlmnaaGreatJ5
import Derived.Test.YtlecnobdfhlmnaaGreatJ4
import Derived.Test.YtlecnobdfhlmnaaGreatXAnn
import Derived.Test.YtlecnobdfhlmnaaGreatAb10
set_option linter.unusedSimpArgs false
set_option linter.unusedVariables false
noncomputable section
namespace Go.Proofs.YtlecnobdfhlmnaaGreat
open Go.Ab
theorem zAV{κ ν:Type}[DecidableEq κ](key:zac->κ)(val:zac->ν)(k:κ):∀(l:List zac) (m:List (κ×ν)),mfind k (l.foldl (λm e=>mput (key e) (val e) m) m)=match(l.filter (λe=>decide (key e=k))).getLast? with
  |some e=>some (val e)
  |none=>mfind k m
 |[],m=>rfl
 |e::r,m=>by
   rw[zcJ,zAV key val k r];rw[zcn];by_cases h:key e=k
   · rw[if_pos (by simpa using h),List.getLast?_cons,h,zc5]
     grind
   ·rw[if_neg (by simpa using h),zdr _ (λq=>h q.symm)]
def key3(e:zac):Int×Int×Int:=(e.Script,e.Part,e.Stamp.Source)
def keyG(g:za5):Int×Int×Int:=(g.Script,g.Part,g.Marker)
theorem seats_some{ms:List za3}{m:za3}(hm:m∈ms):∃d,seats ms m.ID.toNat=some d:=by
 have stay:∀(l:List za3) (ds:Desks) (i:Nat),(∃d,ds i=some d)->∃d,(l.foldl (λds m=>upd ds m.ID.toNat (desk0 m.Level)) ds) i=some d:=by
  intro l
  induction l with
  |nil=>intro ds i h;exact h
  |cons x r ih =>
    intro ds i h;refine ih _ i ?_;by_cases hi:i=x.ID.toNat
    ·exact⟨_,by rw[hi];exact zsC _ _ _⟩
    ·obtain⟨d,hd⟩:=h;exact⟨d,(ztj ds (desk0 x.Level) hi).trans hd⟩
 have key:∀(l:List za3) (ds:Desks),m∈l->∃d,(l.foldl (λds m=>upd ds m.ID.toNat (desk0 m.Level)) ds) m.ID.toNat=some d:=by
  intro l
  induction l with
  |nil=>intro _ h;cases h
  |cons x r ih =>
    intro ds h;rcases za4.1 h with rfl|h
    ·exact stay r _ _ ⟨_,zsC _ _ _⟩
    ·exact ih _ h
 exact key ms _ hm
def keepM(d:zay)(R:Reop)(e:zac):Bool:=!(decide (d.level<2)&&reopB R e)
def zxm(d:zay):List zac:=(d.marks.filter λx=>!x.void).map (·.event)
theorem countS_eq(d:zay)(R:Reop):countS d R=((zxm d).filter (keepM d R)).foldl (λm e=>mput (⟨e.Script,e.Part⟩:zaP) e m) []:=by
 have key:∀(l:List zb5) (m:Counts),l.foldl (zgB d R) m=(((l.filter λx=>!x.void).map (·.event)).filter (keepM d R)).foldl (λm e=>mput (⟨e.Script,e.Part⟩:zaP) e m) m:=by
  intro l
  induction l with
  |nil=>intro m;rfl
  |cons x r ih =>
    intro m;rw[zcJ,ih];unfold zgB
    cases hv:x.void with
    |true=>simp_all
    |false =>
      rw[iNs,zcn,if_pos (show(!x.void)=true by rw[hv];rfl)];simp only[zbJ];rw[zcn];by_cases hk:d.level<2/\reopB R x.event=true
      ·rw[if_pos hk,if_neg (by unfold keepM;simp[hk.1,hk.2])]
      · rw[if_neg hk,if_pos,zcJ];unfold keepM
        grind
 exact key d.marks []
theorem living_asc{s:zan}{ev:List zac}(ha:ev.Pairwise (λa b=>lessS a.Stamp b.Stamp=true)){i:Nat}{d:zay}(h:(walkS s ev).1 i=some d):(zxm d).Pairwise (λa b=>lessS a.Stamp b.Stamp=true):=by
 have h1:(d.marks.map (·.event)).Pairwise (λa b=>lessS a.Stamp b.Stamp=true):=by rw[zuo h];exact ha.filter _
 unfold zxm
 grind
theorem asc_unique{a b:List zac}(h:∀e,e∈a↔e∈b)(ha:a.Pairwise (λa b=>lessS a.Stamp b.Stamp=true))(hb:b.Pairwise (λa b=>lessS a.Stamp b.Stamp=true)):a=b:=by
 have nd:∀l:List zac,l.Pairwise (λa b=>lessS a.Stamp b.Stamp=true)->l.Nodup:=λl hl=>hl.imp λ{x y} h q=>by rw[q,zrw]at h;cases h
 have hp:=(zcN (nd a ha) (nd b hb)).2 h;refine zkL (lt:=λa b:zac=>lessS a.Stamp b.Stamp) hp (ha.imp λh=>zj1 h) (hb.imp λh=>zj1 h) ?_;intro x hx y hy h1 h2;obtain⟨i,hi,rfl⟩:=zbz.1 hx;obtain⟨j,hj,rfl⟩:=zbz.1 hy;have:=zcj.1 ha
 grind
set_option maxRecDepth 20000
structure PutG(l:List za5)(x:za5)(r:List za5):Prop where
 asc:r.Pairwise (λa b=>zbW a b=true)
 mem:∀g,g∈r↔g=x\/(g∈l/\keyG g≠keyG x)
 len:r.length<=l.length+1
theorem zFe{a b c:za5}(h1:zbW a b=true)(h2:zbW b c=true):zbW a c=true:=by
 unfold zbW at *
 grind
theorem zCs(a:za5):zbW a a=false:=by unfold zbW;simp
theorem zCt{a b:za5}(h:keyG a=keyG b)(c:za5):zbW a c=zbW b c/\zbW c a=zbW c b:=by
 unfold keyG at h;simp only[zav]at h;obtain⟨h1,h2,h3⟩:=h;unfold zbW
 simp_all
theorem keyG_ne{a b:za5}(h:zbW a b=true\/zbW b a=true):keyG a≠keyG b:=λq=>by
 have:=zCt q b;rw[zCs]at this
 simp_all
theorem put_fin{l:List za5}{x:za5}{a b:Nat}(hl:l.Pairwise (λa b=>zbW a b=true))(hab:a<=b)(hbl:b<=a+1)(h1:∀(j:Nat) (g:za5),l[j]?=some g->j<a->zbW g x=true)(h2:∀(j:Nat) (g:za5),l[j]?=some g->b<=j->zbW x g=true)
  (h3:∀(j:Nat) (g:za5),l[j]?=some g->a<=j->j<b->keyG g=keyG x):PutG l x (l.take a++x::l.drop b):=by
 have t1:∀g∈l.take a,zbW g x=true:=λg hg=>by
  obtain⟨j,hj⟩:=zcm hg
  grind
 have t2:∀g∈l.drop b,zbW x g=true:=λg hg=>by
  obtain⟨j,hj⟩:=zcm hg
  grind
 refine⟨?_,λg=>?_,?_⟩
 · refine List.pairwise_append.2 ⟨hl.sublist (List.take_sublist _ _),zcR.2 ⟨t2,hl.sublist (List.drop_sublist _ _)⟩,λg hg f hf=>?_⟩;rcases za4.1 hf with rfl|hf
   ·exact t1 g hg
   ·exact zFe (t1 g hg) (t2 f hf)
 · rw[zbh,za4];constructor
   · rintro(h|rfl|h)
     ·exact .inr ⟨zeE h,keyG_ne (.inl (t1 g h))⟩
     ·exact .inl rfl
     ·exact .inr ⟨zhb h,keyG_ne (.inr (t2 g h))⟩
   · rintro(rfl|⟨h,hk⟩)
     ·exact .inr (.inl rfl)
     · obtain⟨j,hj⟩:=zcm h;by_cases ha:j<a
       ·exact .inl (zaq (i:=j) (by simp_all))
       by_cases hb:b<=j
       ·exact .inr (.inr (zaq (i:=j-b) (by simp_all)))
       grind
 grind
theorem zAq(a b:za5):cw zrm [.agg (zaC a),.agg (zaC b)] []=some (zap (zbW a b)):=by
 refine zJf ?_;unfold zbW;by_cases h1:a.Script=b.Script
 · by_cases h2:a.Part=b.Part
   ·simp only[h1,h2,bne_self_eq_false,zaz];simp[zap]
   ·simp only[h1,h2,show(a.Part !=b.Part)=true by simpa using h2,bne_self_eq_false,zaz,zaV];simp[h2,zap]
 ·simp only[show(a.Script !=b.Script)=true by simpa using h1,zaV];simp[h1,zap]
theorem c_put{l:List za5}(hl:l.length<=100000)(ha:l.Pairwise (λa b=>zbW a b=true))(x:za5):∃r,cw zsG [.row 950 8 0 (List.length (mF l)),.agg (zaC x)] [(950,gE (mF l))]=some (zlF r)/\PutG l x r:=by
 let Q:AV×Mem->Prop:=λy=>∃r,y=zlF r/\PutG l x r
 suffices H:Sat Q (cw zsG [.row 950 8 0 (List.length (mF l)),.agg (zaC x)] [(950,gE (mF l))])by obtain⟨y,e,r,rfl,h⟩:=H;exact⟨r,e,h⟩
 have hp:=zcj.1 ha
 let Up:Nat->Prop:=λk=>∀(j:Nat) (g:za5),l[j]?=some g->k<=j->zbW x g=true
 have m1007:∀k:Nat,k<=l.length->Up k->(∀(j:Nat) (g:za5),l[j]?=some g->j<k->zbW g x=true)->Sat Q (zmR l x k):=by
  intro k hk hup hlo;refine sat_of (λy=>zD1) ?_;have hraw:mF l++[[I x.Script,I x.Part,I x.Marker,I x.Level,I x.Value,I x.Stamp.Time,I x.Stamp.Source,I x.Stamp.Seq]]=mF (l++[x]):=by simp only[<-zd3 zaC];rfl
  have hraw2:[I x.Script,I x.Part,I x.Marker,I x.Level,I x.Value,I x.Stamp.Time,I x.Stamp.Source,I x.Stamp.Seq]=zaC x:=rfl;have hk1:((k:Int)+1).toNat=k+1:=by omega
  have hA:(l++[x]).length=l.length+1:=by simp
  simp(disch:=omega)only[hraw,hraw2,zd3 zaC,w64_id,hk1,zah,zaY,zad,hA,zao,zbx,<-List.map_take,<-ziY,<-zcC,zgE zaC,zeR];generalize hX:(List.take (k+1) (l++[x])++List.take (l.length+1-(k+1)) (List.take (l.length+1-k) (List.drop k (l++[x])))++List.drop (k+1+Min.min (List.take (l.length+1-k) (List.drop k (l++[x]))).length (l.length+1-(k+1))) (l++[x]))=X
  have hXl:X.length=l.length+1:=by rw[<-hX];simp only[zcb,zeC,zhQ,zcP,zcZ];omega
  have hkX:k<X.length:=by omega
  have hfin:X.set k x=l.take k++x::l.drop k:=by
   have e1:(List.take (l.length+1-k) (List.drop k (l++[x]))).length=l.length+1-k:=by simp
   have e2:List.take (k+1) (l++[x])=l.take k++[(l++[x])[k]'(by simp;omega)]:=by rw[zco (by simp;omega),List.take_append_of_le_length hk]
   have e3:List.take (l.length+1-(k+1)) (List.take (l.length+1-k) (List.drop k (l++[x])))=l.drop k:=by grind
   have e4:List.drop (k+1+Min.min (List.take (l.length+1-k) (List.drop k (l++[x]))).length (l.length+1-(k+1))) (l++[x])=[]:=zcd (by rw[e1];simp;omega);rw[<-hX,e2,e3,e4,zdx,zdC,List.set_append_right _ _ (by simp_all),zeC,zhp hk,Nat.sub_self];rfl
  simp(disch:=omega)only[zf5,zaa hkX,zae,hXl,zbx,zao];rw[hfin];exact zqk ⟨_,rfl,put_fin ha (zaX _) (by omega) hlo hup (λj g hj h1 h2=>absurd h2 (by omega))⟩
 have m1004:∀k:Nat,k<=l.length->Up k->(∀g,0<k->l[k-1]?=some g->zbW x g=false)->Sat Q (zmQ l x k):=by
  intro k hk hup hlo;refine sat_of (λy=>zD0) ?_;by_cases h0:0<k
  · have hkl:k-1<l.length:=by omega
    have hk1:((k:Int)-1).toNat=k-1:=by omega
    have hlo':=hlo _ h0 (zaa hkl);simp(disch:=omega)only[zaB,w64_id,hk1,zaY,zad,zao,zf5,zaa hkl,zae,zAq,zKA]
    have below:∀(j:Nat) (g:za5),l[j]?=some g->j<k-1->zbW g l[k-1]=true:=λj g hj hjk=>by grind
    cases hv:zbW l[k-1] x with
    |true =>
      simp only[zaF,zaz];refine m1007 k hk hup (λj g hj hjk=>?_);by_cases hj2:j<k-1
      ·exact zFe (below j g hj hj2) hv
      grind
    |false =>
      have hkey:keyG l[k-1]=keyG x:=by obtain⟨q1,q2,q3⟩:=zyw hv hlo';unfold keyG;rw[q1,q2,q3]
      simp(disch:=omega)only[zbe,zaV,zeR,zad,zao,zbx,zgE zaC]
      have hset:l.set (k-1) x=l.take (k-1)++x::l.drop k:=by rw[List.set_eq_take_append_cons_drop,if_pos hkl,show k-1+1=k by omega]
      rw[hset];refine zqk ⟨_,rfl,put_fin ha (by omega) (by omega) (λj g hj hjk=>?_) hup (λj g hj h1 h2=>?_)⟩
      ·rw[<-(zCt hkey g).2];exact below j g hj hjk
      grind
  ·simp(disch:=omega)only[zaN];exact m1007 k hk hup (λj g _ h=>absurd h (by omega))
 have m1:∀k:Nat,k<=l.length->Up k->Sat Q (zp1 l x k):=by
  intro k
  induction k with
  |zero =>
    intro hk hup;refine sat_of (λy=>zzd) ?_;simp(disch:=omega)only[zaN]
    grind
  |succ k ih =>
    intro hk hup;have hkl:k<l.length:=by omega
    have hk1:((k+1:Nat):Int)-1=k:=by omega
    refine sat_of (λy=>zzd) ?_;simp(disch:=omega)only[zaB,w64_id,hk1,zah,zaY,zad,zao,zf5,zaa hkl,zae,zAq,zKA]
    cases hv:zbW x l[k]with
    |true =>
      simp only[zaV]
      grind
    |false =>
      simp only[zaz];refine m1004 (k+1) hk hup (λg _ hg=>?_)
      simp_all
 refine sat_of (λy=>zJY) ?_
 grind
def stopB(lv:Int)(e:zac)(r:List zac):Bool:=r.any λf=>lv==1&&(f.Kind==2&&(f.Script==e.Script&&(f.Part==-1||f.Part==e.Part)))
theorem c_stopped(s:zan)(hs:zb3 s)(l:List zac)(hl:l.length<=100000)(i:Nat)(hi:i<l.length):cw zrn [.agg (zas s),.sl 9 (mA l),I i] []=some (zap (stopB (zg7 (zgl s.Markers l[i].Stamp.Source)).1.Level l[i] (l.drop (i+1)))):=by
 have hm16:=hs.markers.1;refine zE5 ?_;simp(disch:=omega)only[zao,zah,zcs,zaa hi,zae,zq0 s.Markers _ (show s.Markers.length<=1000000 by omega),zkb,w64_id];generalize zg7 (zgl s.Markers l[i].Stamp.Source)=mk
 have loop:∀(m:Nat) (k:Nat),k+m=l.length->zg2 l i mk k=some (zap (stopB mk.1.Level l[i] (l.drop k))):=by
  intro m
  induction m with
  |zero=>intro k hk;refine zt0 ?_;simp(disch:=omega)only[zad,zaN];rw[zcd (by omega)];rfl
  |succ m ih =>
    intro k hk;have hkl:k<l.length:=by omega
    have ih':=ih (k+1) (by omega);refine zt0 ?_;rw[zbd hkl];unfold stopB at ih' ⊢;rw[zfp];simp(disch:=omega)only[zad,zaB,zao,zah,zcs,zaa hi,zaa hkl,zae,w64_id,show((k:Int)+1)=((k+1:Nat):Int)by omega,ih'];simp only[zeL]
    repeat' split
    all_goals simp_all[zap]
 exact loop (l.length-(i+1)) (i+1) (by omega)
def orTo(j:Nat)(void v:List Bool):List Bool:=void.mapIdx λk b=>if k<j then b||v.getD k false else b
theorem orTo_zero(void v:List Bool):orTo 0 void v=void:=by
 unfold orTo;apply zcI
 simp_all
theorem zDT(j:Nat)(void v:List Bool):(orTo j void v).length=void.length:=by unfold orTo;simp
theorem zxu{j k:Nat}{void v:List Bool}:(orTo j void v)[k]?=(void[k]?).map λb=>if k<j then b||v.getD k false else b:=by
 unfold orTo
 grind
theorem orTo_step{j:Nat}{void v:List Bool}(hj:j<(orTo j void v).length)(hjv:j<v.length):(orTo j void v).set j ((orTo j void v)[j]||v[j])=orTo (j+1) void v:=by
 apply zcI;intro k;rw[zxu];have hj':j<void.length:=by rw[zDT]at hj;exact hj
 by_cases hk:j=k
 · subst hk;rw[zeq hj,zaa hj']
   have:(orTo j void v)[j]=void[j]:=by
    have h:=zxu (j:=j) (k:=j) (void:=void) (v:=v)
    rw[zaa hj,zaa hj']at h;simpa using h
   grind
 · rw[zdy hk,zxu]
   grind
def deskOf(s:zan)(l:List zac)(m:za3):zay:=l.foldl (deskE s m.ID.toNat) (desk0 m.Level)
theorem zGE{s:zan}(hs:zb3 s){mk:Nat}:∀(l:List zac) (k:Nat) (d:zay),DeskOk s.Monitor k d->DeskOk s.Monitor (k+l.length) (l.foldl (deskE s mk) d)
 |[],k,d,h=>h
 |e::r,k,d,h=>by rw[zcJ,zcP,show k+(r.length+1)=(k+1)+r.length by omega];exact zGE hs r (k+1) _ (deskOk_E hs h e)
theorem zJU{s:zan}(hs:zb3 s)(l:List zac)(m:za3):(deskOf s l m).suspensions.length<=l.length:=by have:=(zGE hs (mk:=m.ID.toNat) l 0 _ (DeskOk.zero hs.monitor m.Level)).susp;unfold deskOf;omega
theorem zoh(s:zan)(l:List zac)(m:za3):(deskOf s l m).marks.map (·.event)=l.filter (markEv s m.ID.toNat):=by
 obtain⟨h1,h2⟩:=zv6 s l (λi=>if i=m.ID.toNat then some (desk0 m.Level)else none,[]) m.ID.toNat
 obtain⟨d',e1,e2,_⟩:=h1 (desk0 m.Level) (if_pos rfl);rw[zyX]at e1;simp only[if_true,zbg,zaf]at e1;unfold deskOf;rw[e1,e2];simp[desk0]
structure AllV(s:zan)(l:List zac)(ms:List za3)(void:List Bool):Prop where
 len:void.length=l.length
 at_:∀m∈ms,∀x∈(deskOf s l m).marks,∀k:Nat,l[k]?=some x.event->void[k]?=some x.void
 off:∀(k:Nat) (e:zac),l[k]?=some e->(∀m∈ms,m.ID≠e.Stamp.Source)->void[k]?=some false
theorem AllV.step{s:zan}{l:List zac}(hv:∀e∈l,eventB e=true){ms:List za3}{void v:List Bool}(h:AllV s l ms void){m:za3}(hm:1<=m.ID)(hne:∀m'∈ms,m'.ID≠m.ID)(hms:∀m'∈ms,1<=m'.ID)
  (h1:v.length=l.length) (h2:Oth l m.ID.toNat v) (h3:∀x∈(deskOf s l m).marks,∀k:Nat,l[k]?=some x.event->v[k]?=some x.void):AllV s l (ms++[m]) (orTo v.length void v):=by
 have src:∀{m':za3} {x:zb5},1<=m'.ID->x∈(deskOf s l m').marks->x.event.Stamp.Source=m'.ID:=λ{m' x} hm' hx=>by
  have hmem:x.event∈l.filter (markEv s m'.ID.toNat):=by rw[<-zoh];exact zef hx
  obtain⟨q1,q2⟩:=zcc.1 hmem;unfold markEv at q2
  grind
 refine⟨by rw[zDT];exact h.len,λm' hm' x hx k hk=>?_,λk e hk hno=>?_⟩
 · have hkl:=(zam.1 hk).1;rw[zxu];rcases zbh.1 hm' with hm'|hm'
   ·rw[h.at_ m' hm' x hx k hk,zbg,iPQ];have:=h2 k x.event hk (by grind);simp[this]
   ·rw[zcr.1 hm']at hx;rw[h.off k x.event hk (λm'' h''=>by grind),zbg,iPQ];simp[h3 x hx k hk]
 ·have hkl:=(zam.1 hk).1;rw[zxu,h.off k e hk (λm' h'=>hno m' (zf9 _ h')),zbg,iPQ];have:=h2 k e hk (by grind);simp[this]
theorem c_all{s:zan}(hs:zb3 s){l:List zac}(hl:l.length<=2000)(hv:∀e∈l,eventB e=true)(ha:l.Pairwise (λa b=>lessS a.Stamp b.Stamp=true)):∃void,cw zsF [.agg (zas s),.sl 9 (mA l)] []=some (zny (s.Markers.flatMap (λm=>(deskOf s l m).suspensions),void))/\AllV s l s.Markers void:=by
 let Q:AV×Mem->Prop:=λy=>∃void,y=zny (s.Markers.flatMap (λm=>(deskOf s l m).suspensions),void)/\AllV s l s.Markers void
 suffices H:Sat Q (cw zsF [.agg (zas s),.sl 9 (mA l)] [])by obtain⟨y,e,r,rfl,h⟩:=H;exact⟨r,e,h⟩
 have hm16:=hs.markers.1;refine sat_of (λy=>zJX) ?_;simp(disch:=omega)only[zad,zao,zbx,zah,zxn nBool]
 have loop:∀(n i:Nat),i+n=s.Markers.length->∀(out:List zbS) (void:List Bool),out=(s.Markers.take i).flatMap (λm=>(deskOf s l m).suspensions)->out.length<=2000*i->AllV s l (s.Markers.take i) void->Sat Q (zp0 s l (mC out) (List.map nBool void) i):=by
  intro n
  induction n with
  |zero=>intro i hi out void ho hol hva;have hvl:=hva.len;refine sat_of (λy=>zzb) ?_;simp(disch:=omega)only[zad,zcf,zah,zaN,zao];rw[zaJ (by simp),zaJ (by simp;omega)];rw[zaJ (by omega)]at ho hva;exact zqk ⟨void,by rw[ho];rfl,hva⟩
  |succ n ih =>
    intro i hi out void ho hol hva;have hil:i<s.Markers.length:=by omega
    have hvl:=hva.len;have hmk:=(hs.markers.2.1 _ (zar hil)).1.1;have hid:((s.Markers[i].ID.toNat:Nat):Int)=s.Markers[i].ID:=by omega
    obtain⟨v,er,r1,r2,r3⟩:=c_watch hs hl hv ha (mk:=s.Markers[i].ID.toNat) (by omega) s.Markers[i].Level;rw[hid]at er;have hsl:(l.foldl (deskE s s.Markers[i].ID.toNat) (desk0 s.Markers[i].Level)).suspensions.length<=l.length:=zJU hs l s.Markers[i];refine sat_of (λy=>zzb) ?_;simp(disch:=omega)only[zad,zaB,zao,zbx,zah,zfB,zaa hil,zae,er,zvH,eq_self]
    have hstep:AllV s l (s.Markers.take (i+1)) (orTo v.length void v):=by
     rw[zco hil];refine hva.step hv hmk.1 (λm' hm'=>?_) (λm' hm'=>(hs.markers.2.1 _ (zeE hm')).1.1.1) r1 r2 r3;obtain⟨j,hj⟩:=zcm hm';rw[zch]at hj;split at hj
     ·rename_i hji;obtain⟨_,rfl⟩:=zam.1 hj;have:=asc_lt hs.markers.2.2 j i hil hji;omega
     ·cases hj
    have hout:out++(l.foldl (deskE s s.Markers[i].ID.toNat) (desk0 s.Markers[i].Level)).suspensions=(s.Markers.take (i+1)).flatMap (λm=>(deskOf s l m).suspensions):=by rw[zco hil,zfC,ho];simp[deskOf]
    have loop2:∀(m j:Nat),j+m=v.length->Sat Q (znl s l (mC out) i ((l.foldl (deskE s s.Markers[i].ID.toNat) (desk0 s.Markers[i].Level)).suspensions,v) (List.map nBool (orTo j void v)) j):=by
     intro m
     induction m with
     |zero =>
       intro j hj;refine sat_of (λy=>zzc) ?_;simp(disch:=omega)only[zad,zaN,w64_id,<-zcC]
       grind
     |succ m ih2 =>
       intro j hj;have hj1:j<(orTo j void v).length:=by rw[zDT];omega
       have hj2:j<v.length:=by omega
       refine sat_of (λy=>zzc) ?_;have key:=ih2 (j+1) (by omega);rw[<-orTo_step hj1 hj2]at key;simp(disch:=omega)only[zad,zcf,zah,zaY,zaB,zao,zoT,zaa hj1,zaa hj2,zae,zgE nBool,w64_id]
       cases hb:(orTo j void v)[j]with
       |true=>simp_all
       |false=>simp_all
    have:=loop2 v.length 0 (by omega);rw[orTo_zero]at this;exact this
 exact loop s.Markers.length 0 (by omega) [] _ (by simp) (by simp) ⟨by simp,by simp,λk e hk _=>by grind⟩
theorem c_Has(l:List Int)(n:Int)(hl:l.length<=1000000):cw zwy [.sl 1 (List.map zai l),I n] []=some (zap (dec (n∈l))):=by
 refine zJW ?_;have key:=any_bool l.length (λj hj=>l[j]=n) (λi=>zpZ l n i) (λb=>zap b) ?_ ?_ ?_
 ·rw[key];congr 2;refine zhE ⟨λ⟨j,hj,h⟩=>h▸zar hj,λh=>?_⟩;obtain⟨j,hj,rfl⟩:=zbz.1 h;exact⟨j,hj,rfl⟩
 ·exact ztG (by simp(disch:=omega) [zaN]<;>rfl)
 ·intro i hi h;refine ztG ?_;simp(disch:=omega) [zaB,zao,h];rfl
 ·intro i hi y h hk;refine ztG ?_;simp(disch:=omega) [zaB,zao,w64_id,show(l[i]==n)=false by simpa using h,hk]
theorem zh0(a b c:Int):cw zh4 [I a,I b,I c] []=some (zap (dec (b<=a/\a<=c))):=by
 refine e_ref24_in ?_;simp only[zeL,decide_eq_true_eq];split
 ·rw[show decide (a<=c)=dec (b<=a/\a<=c)from zfG (by simp_all)];rfl
 ·rw[zbB (by omega)];rfl
theorem zHB(l:List za3)(hs:∀m∈l,m.Papers.length<=1000000)(hok:zqp l):cw ztx [.sl 5 (mH l)] []=some (zbm 0):=by
 obtain⟨hl,hm,ha⟩:=hok;refine zHO ?_;simp(disch:=omega)only[zad,zaN];refine zcl l (λi r=>zk6 l i=some (zbm 0)) ?_ ?_
 ·exact zvV (by simp(disch:=omega) [zaN]<;>rfl)
 · intro i hi r hr ih;have hp:=hs _ (zar hi);obtain⟨⟨a1,a2,a3,a4,a5⟩,a6⟩:=hm _ (zar hi)
   have last:∀j:Nat,l[i].Papers.length<=j->zjt l i l[i] j=some (zbm 0):=by
    intro j hj;refine zvX ?_;by_cases h:0<i
    ·have:=zr7.2 ha i hi h;simp(disch:=omega) [zaB,zaN,zao,w64_id,zfo h,ih]
    ·simp(disch:=omega) [zaN,w64_id,ih]
   have third:zjt l i l[i] 1=some (zbm 0):=by
    by_cases h1:1<=l[i].Papers.length
    · have H:=zoQ (l[i].Papers.length-1) (λj hj=>l[i].Papers[j]<l[i].Papers[j+1]) (λj=>zjt l i l[i] (j+1)) (λ_=>True) (zbm 0) (λ_=>by grind)
       (λj hj _ hn=>absurd (a6 j (by omega)) hn)
       (λj hj z hg hz=>by
        have hg':l[i].Papers[j]<l[i].Papers[j+1]:=hg;refine zvX ?_;have e1:((j:Int)+1).toNat=j+1:=by omega
        simp(disch:=omega) [zaB,zaN,zao,w64_id,e1,hz])
      rcases H with⟨_,h⟩|⟨⟨j,hj,hn⟩,_⟩
      ·exact h
      ·exact absurd (a6 j (by omega)) hn
    ·have:=last 1 (by omega);simpa using this
   have second:zk7 l i l[i] 0=some (zbm 0):=by
    refine zcl l[i].Papers (λj r=>zk7 l i l[i] j=some (zbm 0)) ?_ ?_
    · refine zvW ?_
      simp_all
    ·intro j hj r hr ih2;refine zvW ?_;simp(disch:=omega) [zaB,zao,w64_id,zh0,zbj (a5 _ (zar hj)),ih2]
   refine zvV ?_;simp(disch:=omega) [zaB,zao,zh0,zbj a1,zbj a2,zbj a3,zbj a4,second]
theorem zx7(l:List zaT):∃e,cw zmL [.sl 7 (mI l)] []=some (zbm e)/\(e=0↔zkM l):=by
 by_cases hl:l.length<=60
 · have H:=all_err l.length (λj hj=>zmu l[j]/\∀h:0<j,(l[j-1]'(by omega)).Number<l[j].Number) (λi=>zhk l i) (λe=>zbm e) ?_ ?_ ?_
   ·obtain⟨e,h1,h2⟩:=H;exact⟨e,zq5 (by simp(disch:=omega) [zaN,h1]),h2.trans (zza hl)⟩
   ·exact zek (by simp(disch:=omega) [zaN]<;>rfl)
   · intro i hi hg;by_cases a1:(0<=l[i].Paper/\l[i].Paper<=31)
     case neg=>refine⟨2,by omega,zek ?_⟩;simp(disch:=omega) [zaB,zao,zh0,zbB a1];rfl
     by_cases a2:(0<=l[i].Candidate/\l[i].Candidate<=9999)
     case neg=>refine⟨2,by omega,zek ?_⟩;simp(disch:=omega) [zaB,zao,zh0,zbj a1,zbB a2];rfl
     by_cases a3:(0<=l[i].Centre/\l[i].Centre<=99)
     case neg=>refine⟨2,by omega,zek ?_⟩;simp(disch:=omega) [zaB,zao,zh0,zbj a1,zbj a2,zbB a3];rfl
     by_cases a4:(0<=l[i].Variant/\l[i].Variant<=31)
     case neg=>refine⟨2,by omega,zek ?_⟩;simp(disch:=omega) [zaB,zao,zh0,zbj a1,zbj a2,zbj a3,zbB a4];rfl
     by_cases a5:l[i].Number=l[i].Paper*10000+l[i].Candidate
     case neg=>refine⟨1,by omega,zek ?_⟩;simp(disch:=omega) [zaB,zao,zh0,zbj a1,zbj a2,zbj a3,zbj a4,w64_id,show(l[i].Number !=l[i].Paper*10000+l[i].Candidate)=true by simpa using a5];rfl
     by_cases a6:l[i].Pages.length<=12
     case neg=>refine⟨1,by omega,zek ?_⟩;simp(disch:=omega) [zaB,zao,zh0,zbj a1,zbj a2,zbj a3,zbj a4,w64_id,<-a5];rfl
     have h1:zmu l[i]:=⟨a1,a2,a3,a4,a5,a6⟩
     have h0:0<i:=by
      apply ze4
      rintro rfl
      exact hg ⟨h1,λh=>absurd h (by omega)⟩
     have h3:¬(l[i-1].Number<l[i].Number):=λh=>hg ⟨h1,λ_=>h⟩
     refine⟨43,by omega,zek ?_⟩;simp(disch:=omega) [zaB,zaN,zao,w64_id,zfo h0,zh0,zbj a1,zbj a2,zbj a3,zbj a4,<-a5];rfl
   · intro i hi y hg hk;obtain⟨h1,h3⟩:=hg;refine zek ?_;obtain⟨a1,a2,a3,a4,a5,a6⟩:=h1;by_cases h0:0<i
     ·have h4:=h3 h0;simp(disch:=omega) [zaB,zaN,zao,w64_id,zfo h0,zh0,zbj a1,zbj a2,zbj a3,zbj a4,<-a5,hk]
     ·simp(disch:=omega) [zaB,zaN,zao,w64_id,zh0,zbj a1,zbj a2,zbj a3,zbj a4,<-a5,hk]
 ·refine⟨3,zq5 ?_,by omega,λh=>absurd h.1 hl⟩;simp(disch:=omega) [zaB];rfl
theorem zEG(p:zaM)(s:zbu)(hs:Short s)(hp:ze8 p s)(j:Nat)(hj:j<p.Parts.length)(hj1:j<s.Keys.length)(h2:p.Parts[j].Kind=2)(v:Int):cw zri [.agg (zaQ p),.agg (zbL s),I j,I v] []=some (zap (accB p.Parts[j] s.Keys[j] v)):=by
 refine zE3 ?_;have hkl:=hs _ (zar hj1);unfold accB;by_cases h:s.Keys[j]=[]
 ·simp(disch:=omega) [zjA p s hs,zbj hp,zaN,zao,h2,h];rfl
 · have hne:(((s.Keys[j]).length:Int)==0)=false:=by simpa using h
   simp(disch:=omega) [zjA p s hs,zbj hp,zaN,zao,h2,h,c_Has _ _ hkl];rw[hne,zaz];rfl
theorem zF4(p:zaM)(s:zbu)(a:List Int)(hs:Short s):∃r:List Int×Int,cw zoW [.agg (zaQ p),.agg (zbL s),.sl 1 (List.map zai a)] []=some (zdc r)/\(r.2=0↔ze8 p s/\OkAns p a)/\(r.2=0->r.1=zjo p s a):=by
 by_cases hp:ze8 p s
 case neg=>refine⟨([],1),zsd ?_,by simp[hp],by simp⟩;simp only[zjA p s hs,zKA,zbB hp];rfl
 obtain⟨hP,hk,hw,hall⟩:=id hp;have hpl:=hP.2.2.1;by_cases ha:a.length=p.Parts.length
 case neg=>refine⟨([],22),zsd ?_,by simp[OkAns,ha],by simp⟩;simp only[zjA p s hs,zKA,zbj hp,zaF,zaz,zad,show((a.length:Int) !=p.Parts.length)=true by grind,zaV];rfl
 have start:∀y,zhD p s a (List.map zai []) 0=some y->cw zoW [.agg (zaQ p),.agg (zbL s),.sl 1 (List.map zai a)] []=some y:=by intro y hy;refine zsd ?_;simp only[zjA p s hs,zKA,zbj hp,zaF,zaz,zad,ha,bne_self_eq_false];exact hy
 have H:=zoQ p.Parts.length (λj hj=>p.Parts[j].Kind≠1->-2<=a[j]'(by omega)/\a[j]'(by omega)<p.Parts[j].Options) (λi=>zhD p s a (List.map zai ((List.range i.toNat).map (zen p s a))) i) (λy=>y=zdc ([],2)) (zdc (zjo p s a,0)) ?_ ?_ ?_
 · rcases H with⟨h1,h2⟩|⟨⟨j,hj,h1⟩,y,rfl,h3⟩
   · refine⟨_,start _ h2,⟨λ_=>⟨hp,ha,λj x v q1 q2 q3=>?_⟩,λ_=>rfl⟩,λ_=>rfl⟩
     grind
   ·refine⟨_,start _ h3,⟨λh=>by simp at h,λh=>?_⟩,λh=>by simp at h⟩;exact absurd (λq3=>h.2.2 j _ _ (zaa hj) (zaa (by omega)) q3) h1
 ·intro _;refine zql ?_;simp(disch:=omega)only[zad,zaN,zao,zah,zdZ];rw[show List.take p.Parts.length (List.map zai (List.map (zen p s a) (List.range p.Parts.length)))=List.map zai (zjo p s a)from zaJ (by simp)];rfl
 · intro i hi _ hn;have hi2:i<a.length:=by omega
   refine⟨_,rfl,zql ?_⟩;rcases kind2 (hP.2.2.2.1 _ (zar hi))with h1|h1
   ·omega
   · have h2:¬(-2<=a[i]/\a[i]<p.Parts[i].Options):=λh=>hn (λ_=>h)
     by_cases h5:a[i] < -2
     ·simp(disch:=omega) [zaB,zao,h1];rfl
     ·simp(disch:=omega) [zaB,zaN,zao,h1];rfl
 · intro i hi y hg hk';have hi1:i<s.Keys.length:=by omega
   have hi2:i<a.length:=by omega
   have e1:((i:Int)+1).toNat=i+1:=by omega
   have hc:zen p s a i=if p.Parts[i].Kind=1 then -2 else if accB p.Parts[i] s.Keys[i] a[i]=true then p.Parts[i].Max else if a[i]=-1 then -1 else 0:=by simp[zen,hi,hi1,hi2]
   simp only[e1,zeT,zcC,zbJ,ze1]at hk';have hx:=hP.2.2.2.1 _ (zar hi);refine zql ?_;rcases kind2 hx with h1|h1
   ·rw[hc,if_pos h1]at hk';simp(disch:=omega)only[zad,zdZ,zcb,zcP,zcZ,zaB,zao,zbx,zah,zej,zaa hi,zae,h1,beq_self_eq_true,zaV,w64_id];exact hk'
   · rw[hc,iNQ]at hk';have h2:=hg (by omega);have hacc:=zEG p s hs hp i hi hi1 h1 a[i];have hk2:(p.Parts[i].Kind==1)=false:=by rw[h1];rfl
     have fin:∀v:Int,v=(if accB p.Parts[i] s.Keys[i] a[i]=true then p.Parts[i].Max else if a[i]=-1 then -1 else 0)->zjs p s a (List.map zai ((List.range i).map (zen p s a))) i v=some y:=by intro v hv;refine zxF ?_;simp(disch:=omega)only[zad,zdZ,zcb,zcP,zcZ,zao,zbx,w64_id];rw[hv];exact hk'
     have noacc:a[i]=-1->accB p.Parts[i] s.Keys[i] a[i]=false:=by
      intro h;unfold accB;have hks:=(hall i _ _ (s.Withdrawn[i]'(by omega)) (zaa hi) (zaa hi1) (zaa (by omega))).1;split
      · have:0<=p.Parts[i].Key:=by unfold OkPart at hx;omega
        grind
      ·exact zbB (λhm=>by have:=hks.1 _ hm;omega)
     have e16:∀v:Int,zkt p s a (List.map zai ((List.range i).map (zen p s a))) i=some y\/a[i]≠-1:=by
      intro _;by_cases h3:a[i]=-1
      · left;refine zzH ?_;simp(disch:=omega)only[zad,zdZ,zcb,zcP,zcZ,zao,zbx,w64_id]
        simp_all
      ·exact .inr h3
     simp(disch:=omega)only[zad,zaB,zaN,zao,zah,zej,zce,zaa hi,zaa hi2,zae,hk2,zaz,hacc,zKA]
     cases hb:accB p.Parts[i] s.Keys[i] a[i]with
     |true =>
       have h3:a[i]≠-1:=λh=>by simp_all
       rw[zaV];refine zzG ?_;simp(disch:=omega)only[zao,zah,zce,zaa hi2,zae,show(a[i]==-1)=false by simpa using h3,zaz]
       simp_all
     |false =>
       rw[zaz];refine zxE ?_;by_cases h3:a[i]=-1
       ·simp_all
       · simp(disch:=omega)only[zao,zah,zce,zaa hi2,zae,show(a[i]==-1)=false by simpa using h3,zaz]
         simp_all
theorem zAl(p:zaM)(m:List Int)(hl:p.Parts.length<=1000000)(h:zlZ p m):cw zuY [.agg (zaQ p),.sl 1 (List.map zai m)] []=some (zap true):=by
 obtain⟨h1,h2⟩:=h;refine zI6 ?_;simp only[zad,h1,bne_self_eq_false,zaz];refine zcl m (λi r=>zo3 p m i=some (zap true)) ?_ ?_
 ·exact zxG (by simp(disch:=omega) [zaN]<;>rfl)
 · intro i hi r hr ih;have hi2:i<p.Parts.length:=by omega
   have:=h2 i _ _ (zaa hi2) (zaa hi);refine zxG ?_;simp(disch:=omega) [zaB,zaN,zao,w64_id,ih]
theorem zHE{s:zan}(h:zb3 s):cw ztA [.agg (zas s)] []=some (zbm 0):=by
 obtain⟨e2,h3,h4⟩:=zx7 s.Scripts;have g2:=h4.2 h.scripts;subst g2;have hp:=h.papers;have hl:=h.len;have hsd:=h.seeds;have hsl:=h.scripts.1
 have third:zju s 0=some (zbm 0):=by
  refine zcl s.Seeds (λi r=>zju s i=some (zbm 0)) ?_ ?_
  ·exact zv1 (by simp(disch:=omega) [zaN]<;>rfl)
  · intro i hi r hr ih;obtain⟨k,p,q1,q2⟩:=h.seed _ (zar hi);have hpk:=zuf q1;have hpl:=(h.okPaper hpk).2.2.1;refine zv1 ?_;by_cases h0:0<i
    ·have:=zr7.2 h.asc i hi h0;simp(disch:=omega) [zaB,zaN,zao,w64_id,zfo h0,zq1 s _ (by omega) (by omega),q1,ixR,hpk,zAl _ _ (by omega) q2,ih]
    ·simp(disch:=omega) [zaB,zaN,zao,w64_id,zq1 s _ (by omega) (by omega),q1,ixR,hpk,zAl _ _ (by omega) q2,ih]
 have second:zlb s 0=some (zbm 0):=by
  refine zcl s.Scripts (λi r=>zlb s i=some (zbm 0)) ?_ ?_
  ·exact zv0 (by simp_all)
  ·intro i hi r hr ih;obtain⟨k,p,c,q1,q2,q3⟩:=h.script _ (zar hi);have hpk:=(zfl q1).1;obtain⟨w,hw,hw1,hw2⟩:=zF4 p c s.Scripts[i].Answers (h.short _ (zaq q2));have hw0:w.2=0:=hw1.2 ⟨h.schemes k p c hpk q2,q3⟩;refine zv0 ?_;simp(disch:=omega) [zaB,zao,w64_id,ztn _ _ (show s.Papers.length<=1000000 by omega),q1,ixR,hpk,q2,hw,hw0,ih]
 have first:zla s 0=some (zbm 0):=by
  refine zcl s.Papers (λi r=>zla s i=some (zbm 0)) ?_ ?_
  ·exact zvZ (by simp_all)
  · intro i hi r hr ih;have hi2:i<s.Schemes.length:=by omega
    have hv:=h.schemes i _ _ (zaa hi) (zaa hi2);refine zvZ ?_;simp(disch:=omega) [zaB,zao,w64_id,zjA _ _ (h.short _ (zar hi2)),zbj hv,ih]
 refine zHU ?_;simp(disch:=omega) [zHB _ h.short2 h.markers,h3,zto _ h.monitor,hl,zaN,first]
set_option maxRecDepth 20000
theorem zGN{s:zan}{n:Int}{k:Nat}{m:za3}(h:zgl s.Markers n=some (k,m)):s.Markers[k]?=some m/\m.ID=n:=by
 obtain⟨a1,a2,_⟩:=fnd_at h
 simp_all
theorem seat_of{s:zan}(hs:zb3 s){m:za3}(hm:m∈s.Markers):seats s.Markers m.ID.toNat=some (desk0 m.Level):=by
 obtain⟨d,hd⟩:=seats_some hm;obtain⟨m',h1,h2,h3⟩:=zvT _ _ _ hd;obtain⟨i,hi,rfl⟩:=zbz.1 hm;obtain⟨j,hj,rfl⟩:=zbz.1 h1;have q1:=(hs.markers.2.1 _ hm).1.1;have q2:=(hs.markers.2.1 _ h1).1.1;have:j=i:=zBl hs.markers.2.2 hj hi (by omega)
 grind
theorem zBo{s:zan}(hs:zb3 s)(l:List zac){m:za3}(hm:m∈s.Markers):(walkS s l).1 m.ID.toNat=some (deskOf s l m):=by rw[walk_at,seat_of hs hm];rfl
theorem desk_is{s:zan}(hs:zb3 s){l:List zac}{i:Nat}{d:zay}(h:(walkS s l).1 i=some d):∃m∈s.Markers,m.ID.toNat=i/\d=deskOf s l m:=by
 rw[walk_at]at h
 cases hs0:seats s.Markers i with
 |none=>rw[hs0]at h;cases h
 |some d0 =>
   obtain⟨m,h1,h2,h3⟩:=zvT _ _ _ hs0;refine⟨m,h1,h2,?_⟩;have:=zBo hs l h1;rw[walk_at,h2,hs0]at this
   simp_all
theorem zuR(s:zan)(l:List zac)(m:za3):(deskOf s l m).level=m.Level:=by
 obtain⟨h1,_⟩:=zv6 s l (λi=>if i=m.ID.toNat then some (desk0 m.Level)else none,[]) m.ID.toNat
 obtain⟨d',e1,_,e3⟩:=h1 (desk0 m.Level) (if_pos rfl);rw[zyX]at e1;simp only[if_true,zbg,zaf]at e1;unfold deskOf;rw[e1,e3];rfl
theorem susp_all{s:zan}(hs:zb3 s)(l:List zac):s.Markers.flatMap (λm=>(deskOf s l m).suspensions)=suspTo (walkS s l).1 100:=by
 have key:∀(n:Nat),(s.Markers.filter λm=>decide (m.ID.toNat<n)).flatMap (λm=>(deskOf s l m).suspensions)=suspTo (walkS s l).1 n:=by
  intro n
  induction n with
  |zero=>simp[suspTo]
  |succ n ih =>
    have hstep:suspTo (walkS s l).1 (n+1)=suspTo (walkS s l).1 n++(match(walkS s l).1 n with|some d=>d.suspensions|none=>[]):=by unfold suspTo;rw[zeT,zfC];simp only[zhn,List.flatMap_nil,zdx];rfl
    rw[hstep,<-ih]
    have split:∀(ms:List za3),AscBy za3.ID ms->(∀m∈ms,1<=m.ID)->(ms.filter λm=>decide (m.ID.toNat<n+1))=(ms.filter λm=>decide (m.ID.toNat<n))++(ms.filter λm=>decide (m.ID.toNat=n)):=by
     intro ms h1 h2;have hp:ms.Pairwise (λa b=>a.ID<b.ID):=zcj.2 λi j hi hj hij=>asc_lt h1 i j hj hij
     clear h1
     induction ms with
     |nil=>rfl
     |cons m r ihm =>
       obtain⟨p1,p2⟩:=zcR.1 hp;have ih':=ihm (λx hx=>h2 x (zc7 _ hx)) p2;have hm:=h2 m (by simp);rcases zho m.ID.toNat n with h|h|h
       ·grind
       · have e1:r.filter (λm=>decide (m.ID.toNat<n))=[]:=zgL.2 λx hx=>by grind
         grind
       grind
    rw[split _ hs.markers.2.2 (λm hm=>(hs.markers.2.1 m hm).1.1.1),zfC];congr 1
    cases hd:(walkS s l).1 n with
    |none =>
      have:s.Markers.filter (λm=>decide (m.ID.toNat=n))=[]:=zgL.2 λm hm q=>by
       simp only[decide_eq_true_eq]at q;have:=zBo hs l hm
       simp_all
      rw[this];rfl
    |some d =>
      obtain⟨m,h1,h2,h3⟩:=desk_is hs hd
      have:s.Markers.filter (λx=>decide (x.ID.toNat=n))=[m]:=by
       have hu:∀x∈s.Markers,x.ID.toNat=n->x=m:=λx hx hxn=>by
        obtain⟨i,hi,rfl⟩:=zbz.1 hx;obtain⟨j,hj,rfl⟩:=zbz.1 h1;have q1:=(hs.markers.2.1 _ hx).1.1;have q2:=(hs.markers.2.1 _ h1).1.1;have:i=j:=zBl hs.markers.2.2 hi hj (by omega)
        simp_all
       have hnd:(s.Markers.filter (λx=>decide (x.ID.toNat=n))).Nodup:=by
        have hp:s.Markers.Pairwise (λa b=>a.ID<b.ID):=zcj.2 λi j hi hj hij=>asc_lt hs.markers.2.2 i j hj hij
        exact(hp.imp λ{a b} h q=>by rw[q]at h;omega:s.Markers.Nodup).filter _
       have hmem:∀x,x∈s.Markers.filter (λx=>decide (x.ID.toNat=n))↔x=m:=λx=>by grind
       cases hf:s.Markers.filter (λx=>decide (x.ID.toNat=n))with
       |nil=>simp_all
       |cons x r =>
         rw[hf]at hnd hmem;have hx:=(hmem x).1 (by simp);subst hx
         cases r with
         |nil=>rfl
         |cons y t=>simp_all
      simp_all
 rw[<-key 100];congr 1;symm;exact List.filter_eq_self.2 λm hm=>by have:=(hs.markers.2.1 m hm).1.1;simpa using by omega
def KeptE(s:zan)(l:List zac)(e:zac):Prop:=∃m∈s.Markers,∃x∈(deskOf s l m).marks,x.event=e/\x.void=false/\keepM (deskOf s l m) (walkS s l).2 e=true
def keptB(s:zan)(l:List zac)(e:zac):Bool:=dec (KeptE s l e)
def gOf(s:zan)(e:zac):za5:=⟨e.Script,e.Part,e.Stamp.Source,(zg7 (zgl s.Markers e.Stamp.Source)).1.Level,e.Value,e.Stamp⟩
def LastG(s:zan)(K:List zac)(g:za5):Prop:=∃e,(K.filter λf=>decide (key3 f=key3 e)).getLast?=some e/\g=gOf s e
theorem last_key{K:List zac}{k:Int×Int×Int}{e:zac}(h:(K.filter λf=>decide (key3 f=k)).getLast?=some e):e∈K/\key3 e=k:=by grind
theorem zyx(s:zan)(e:zac):keyG (gOf s e)=key3 e:=rfl
theorem LastG.snoc{s:zan}{K:List zac}{e:zac}{g:za5}:LastG s (K++[e]) g↔g=gOf s e\/(LastG s K g/\keyG g≠keyG (gOf s e)):=by
 unfold LastG;constructor
 · rintro⟨f,h1,rfl⟩
   rw[List.filter_append,List.getLast?_append]at h1;by_cases hk:key3 e=key3 f
   ·simp_all
   ·right;simp only[zcn,hk,decide_false,zeQ,zbt,if_false,List.getLast?_nil,Option.none_or]at h1;exact⟨⟨f,h1,rfl⟩,by rw[zyx,zyx];grind⟩
 · rintro(rfl|⟨⟨f,h1,rfl⟩,h2⟩)
   ·grind
   · rw[zyx,zyx]at h2
     grind
theorem kept_desk{s:zan}(hs:zb3 s){l:List zac}(hv:∀e∈l,eventB e=true)(ha:l.Pairwise (λa b=>lessS a.Stamp b.Stamp=true)){m:za3}(hm:m∈s.Markers):(zxm (deskOf s l m)).filter (keepM (deskOf s l m) (walkS s l).2)=(l.filter (keptB s l)).filter (λe=>decide (e.Stamp.Source=m.ID)):=by
 have src:∀{m':za3} {x:zb5},m'∈s.Markers->x∈(deskOf s l m').marks->x.event∈l/\x.event.Stamp.Source=m'.ID:=λ{m' x} hm' hx=>by
  have hmem:x.event∈l.filter (markEv s m'.ID.toNat):=by rw[<-zoh];exact zef hx
  obtain⟨q1,q2⟩:=zcc.1 hmem;unfold markEv at q2;simp only[zaO,beq_iff_eq]at q2;have:=(zqD (hv _ q1)).1.2.1;have:=(hs.markers.2.1 m' hm').1.1
  grind
 refine asc_unique (λe=>?_) ((living_asc ha (zBo hs l hm)).filter _) ((ha.filter _).filter _);simp only[zxm,zcc,zbs,decide_eq_true_eq,keptB,zns];constructor
 · rintro⟨⟨x,⟨x1,x2⟩,rfl⟩,hk⟩
   obtain⟨q1,q2⟩:=src hm x1;exact⟨⟨q1,m,hm,x,x1,rfl,by simpa using x2,hk⟩,q2⟩
 · rintro⟨⟨q1,m',hm',x,x1,rfl,x2,hk⟩,q2⟩
   have q3:=(src hm' x1).2
   have:m'=m:=by obtain⟨i,hi,rfl⟩:=zbz.1 hm;obtain⟨j,hj,rfl⟩:=zbz.1 hm';have:j=i:=zBl hs.markers.2.2 hj hi (by rw[<-q3,q2]);subst this;rfl
   grind
theorem zAY{s:zan}(hs:zb3 s){m:za3}(hm:m∈s.Markers):∃k,zgl s.Markers m.ID=some (k,m):=by obtain⟨i,hi,rfl⟩:=zbz.1 hm;refine⟨i,fnd_of (zaa hi) (by simp) (λk y hk hy=>?_)⟩;obtain⟨q,rfl⟩:=zam.1 hy;have:=asc_lt hs.markers.2.2 k i hi hk;simpa using by omega
theorem given_last{s:zan}(hs:zb3 s){l:List zac}(g:za5):g∈(foldS s l).Given↔LastG s ((canonS l).filter (keptB s (canonS l))) g:=by
 have hv:∀e∈canonS l,eventB e=true:=zCl;have ha:=zGy l;generalize hc:canonS l=c at *;rw[zxi,hc,(zht (lt:=zbW) _).mem_iff,zpE]
 have key:∀(m:za3),m∈s.Markers->∀k:zaP,mfind k (countS (deskOf s c m) (walkS s c).2)=((c.filter (keptB s c)).filter λf=>decide (key3 f=(k.script,k.part,m.ID))).getLast?:=by
  intro m hm k;rw[countS_eq,kept_desk hs hv ha hm,zAV (λe=>(⟨e.Script,e.Part⟩:zaP)) (λe=>e),List.filter_filter (l:=c.filter (keptB s c))]
  have:(λe:zac=>decide ((⟨e.Script,e.Part⟩:zaP)=k)&&decide (e.Stamp.Source=m.ID))=(λf=>decide (key3 f=(k.script,k.part,m.ID))):=by funext e;cases k;simp only[key3,zaP.mk.injEq,zav];rw[<-Bool.decide_and];congr 1;rw[and_assoc]
  rw[this];cases((c.filter (keptB s c)).filter λf=>decide (key3 f=(k.script,k.part,m.ID))).getLast?<;>rfl
 have lev:∀(m:za3),m∈s.Markers->∀e:zac,e.Stamp.Source=m.ID->gOf s e=zdv m.ID.toNat (deskOf s c m) e:=λm hm e he=>by have:=(hs.markers.2.1 m hm).1.1;obtain⟨k,hk⟩:=zAY hs hm;unfold gOf zdv;rw[he,hk,zuR];simp only[zg7];congr 1;omega
 constructor
 · rintro⟨i,hi,d,hd,p,hp,rfl⟩
   obtain⟨m,hm,rfl,rfl⟩:=desk_is hs hd;have h1:=zry (zuP _ _).1 hp;rw[key m hm]at h1;obtain⟨_,h2⟩:=last_key h1;refine⟨p.2,by rw[h2];exact h1,?_⟩;rw[lev m hm p.2 (by injection h2 with _ h;injection h with _ h)]
 · rintro⟨e,h1,rfl⟩
   obtain⟨q1,_⟩:=last_key h1;obtain⟨q2,q3⟩:=zcc.1 q1;obtain⟨m,hm,x,x1,rfl,x2,_⟩:=zns.1 q3;have hmem:x.event∈c.filter (markEv s m.ID.toNat):=by rw[<-zoh];exact zef x1
   have q4:=(zcc.1 hmem).2;unfold markEv at q4;simp only[zaO,beq_iff_eq]at q4;have h99:=(hs.markers.2.1 m hm).1.1;have:=(zqD (hv _ q2)).1.2.1;have hsrc:x.event.Stamp.Source=m.ID:=by omega
   refine⟨m.ID.toNat,by omega,_,zBo hs c hm,(⟨x.event.Script,x.event.Part⟩,x.event),zjh ?_,lev m hm _ hsrc⟩;rw[key m hm,<-hsrc];exact h1
theorem zH6:∀{a b:List za5},(∀g,g∈a↔g∈b)->a.Pairwise (λa b=>zbW a b=true)->b.Pairwise (λa b=>zbW a b=true)->a=b:=by
 intro a b h ha hb
 have nd:∀l:List za5,l.Pairwise (λa b=>zbW a b=true)->l.Nodup:=λl hl=>hl.imp λ{x y} h q=>by rw[q,zCs]at h;cases h
 refine zkL (lt:=zbW) ((zcN (nd a ha) (nd b hb)).2 h) (ha.imp λh=>zpY h) (hb.imp λh=>zpY h) ?_;intro x hx y hy h1 h2;obtain⟨i,hi,rfl⟩:=zbz.1 hx;obtain⟨j,hj,rfl⟩:=zbz.1 hy;have:=zcj.1 ha
 grind
theorem zG0(c:List zac)(k:zaP):mfind k (c.foldl reopE [])=(((c.filter λe=>e.Kind==2).filter λe=>decide ((⟨e.Script,e.Part⟩:zaP)=k)).getLast?).map (·.Stamp):=by
 have h1:∀(l:List zac) (R:Reop),l.foldl reopE R=(l.filter λe=>e.Kind==2).foldl (λm e=>mput (⟨e.Script,e.Part⟩:zaP) e.Stamp m) R:=by
  intro l
  induction l with
  |nil=>intro R;rfl
  |cons e r ih =>
    intro R;rw[zcJ,ih];unfold reopE
    grind
 rw[h1,zAV (λe=>(⟨e.Script,e.Part⟩:zaP)) (λe=>e.Stamp)];cases((c.filter λe=>e.Kind==2).filter λe=>decide ((⟨e.Script,e.Part⟩:zaP)=k)).getLast?<;>rfl
def laterO(a:za6):Option za6->Bool
 |some x=>lessS a x
 |none=>false
theorem zFk{K:List zac}(ha:K.Pairwise (λa b=>lessS a.Stamp b.Stamp=true))(a:za6):laterO a (K.getLast?.map (·.Stamp))=K.any λf=>lessS a f.Stamp:=by
 rcases List.eq_nil_or_concat K with rfl|⟨r,e,rfl⟩
 ·rfl
 rw[List.concat_eq_append]at ha ⊢;rw[List.getLast?_append,List.any_append];simp only[List.getLast?_singleton,Option.some_or,zbg,zfp,zjm,zga,laterO]
 cases h:lessS a e.Stamp with
 |true=>rw[Bool.or_true]
 |false=>rw[zga];symm;rw[List.any_eq_false];intro f hf q;have:=(List.pairwise_append.1 ha).2.2 f hf e (by simp);rw[lessS_tr q this]at h;cases h
theorem drop_later{c:List zac}(ha:c.Pairwise (λa b=>lessS a.Stamp b.Stamp=true)){i:Nat}(hi:i<c.length)(p:zac->Bool):((c.drop (i+1)).any p)=c.any λf=>p f&&lessS c[i].Stamp f.Stamp:=by
 rw[zdB,zfN,zfN];constructor
 · rintro⟨f,hf,hp⟩
   obtain⟨j,hj⟩:=zcm hf;rw[zb4]at hj;refine⟨f,zaq hj,?_⟩;rw[hp,pl_less ha (zaa hi) hj (by omega)];rfl
 · rintro⟨f,hf,hp⟩
   simp only[zaO]at hp;obtain⟨j,hj⟩:=zcm hf
   have hij:i<j:=by
    rcases zho i j with h|h|h
    ·exact h
    ·subst h;rw[zaa hi]at hj;injection hj with hj;rw[hj,zrw]at hp;cases hp.2
    ·have:=pl_less ha hj (zaa hi) h;rw[zj1 this]at hp;cases hp.2
   exact⟨f,zaq (i:=j-(i+1)) (by grind),hp.1⟩
theorem zG9{s:zan}{c:List zac}(ha:c.Pairwise (λa b=>lessS a.Stamp b.Stamp=true)){i:Nat}(hi:i<c.length){lv:Int}(hlv:1<=lv):stopB lv c[i] (c.drop (i+1))=(decide (lv<2)&&reopB (walkS s c).2 c[i]):=by
 unfold stopB;rw[drop_later ha hi];rw[show reopB (walkS s c).2 c[i]=(laterO c[i].Stamp (mfind ⟨c[i].Script,c[i].Part⟩ (walkS s c).2)||laterO c[i].Stamp (mfind ⟨c[i].Script,-1⟩ (walkS s c).2))from rfl,walk_reop,zG0,zG0];rw[zFk ((ha.filter _).filter _),zFk ((ha.filter _).filter _)];by_cases h1:lv=1
 · subst h1;rw[show decide ((1:Int)<2)=true from rfl,zcx,zdB];simp only[zfN,zfd,zaO,beq_iff_eq,decide_eq_true_eq,zcc,zaP.mk.injEq,true_and]
   grind
 grind
theorem fits_all{s:zan}(hs:zb3 s)(e:zac):dec (FitsE s e)=(e.Kind==0&&(fitS s e).isSome):=by
 by_cases hk:e.Kind=0
 ·rw[fits_iff hs hk,hk];rfl
 ·rw[show(e.Kind==0)=false by simpa using hk,zcF];exact zbB λ⟨_,_,h,_⟩=>hk h
theorem kept_test{s:zan}(hs:zb3 s){c:List zac}(hv:∀e∈c,eventB e=true)(ha:c.Pairwise (λa b=>lessS a.Stamp b.Stamp=true)){void:List Bool}(h:AllV s c s.Markers void){i:Nat}(hi:i<c.length)(hiv:i<void.length):keptB s c c[i]=(!(seedS s c[i].Script).isSome&&(!void[i]&&(dec (FitsE s c[i])&&!stopB (zg7 (zgl s.Markers c[i].Stamp.Source)).1.Level c[i] (c.drop (i+1))))):=by
 have he:c[i]?=some c[i]:=zaa hi;have hb:=zqD (hv _ (zar hi));rw[fits_all hs,zdB];unfold keptB;rw[zns];simp only[zaO,zc4,beq_iff_eq];constructor
 · rintro⟨m,hm,x,x1,x2,x3,x4⟩
   have hmem:x.event∈c.filter (markEv s m.ID.toNat):=by rw[<-zoh];exact zef x1
   have q4:=(zcc.1 hmem).2;rw[x2]at q4;unfold markEv at q4;simp only[zaO,beq_iff_eq,Option.isNone_iff_eq_none]at q4;obtain⟨⟨⟨k0,k1⟩,k2⟩,k3⟩:=q4;have hM:=(hs.markers.2.1 m hm).1;have hsrc:c[i].Stamp.Source=m.ID:=by have:=hb.1.2.1;have:=hM.1;omega
   have hvo:=h.at_ m hm x x1 i (by rw[x2];exact he);rw[zaa hiv,x3]at hvo;injection hvo with hvo;obtain⟨k,hk⟩:=zAY hs hm;refine⟨by rw[k3];rfl,hvo,⟨k0,k2⟩,?_⟩;rw[hsrc,hk,zG9 (s:=s) ha hi (by simpa only[zg7]using hM.2.2.1.1)];unfold keepM at x4;rw[zuR,zc4]at x4;exact x4
 · rintro⟨k3,hvo,⟨k0,k2⟩,hst⟩
   obtain⟨q,hq⟩:=zaI.1 k2;obtain⟨x,p,y,_,h2,_⟩:=zqE hq;unfold eligB at h2
   cases hmi:zgl s.Markers c[i].Stamp.Source with
   |none=>grind
   |some km =>
     obtain⟨k,m⟩:=km;obtain⟨a1,a2⟩:=zGN hmi;have hm:=zaq a1;have hM:=(hs.markers.2.1 m hm).1
     have hmem:c[i]∈c.filter (markEv s m.ID.toNat):=zcc.2 ⟨zar hi,by
      unfold markEv
      simp_all⟩
     rw[<-zoh]at hmem;obtain⟨z,z1,z2⟩:=zbs.1 hmem;have hvz:=h.at_ m hm z z1 i (by rw[z2];exact he);rw[zaa hiv,hvo]at hvz;injection hvz with hvz;refine⟨m,hm,z,z1,z2,hvz.symm,?_⟩;rw[hmi,zG9 (s:=s) ha hi (by simpa only[zg7]using hM.2.2.1.1)]at hst;unfold keepM;rw[zuR,zc4];exact hst
theorem zIT{s:zan}(hs:zb3 s){l:List zac}(hl:l.length<=2000)(hp:∀e∈l,e.Pages.length<=1000000):cw zu2 [.agg (zas s),.sl 9 (mA l)] []=some (zme (foldS s l,0)):=by
 have hsd:=hs.seeds;have hm16:=hs.markers.1;have hv:∀e∈canonS l,eventB e=true:=zCl;have ha:=zGy l;have hcp:∀e∈canonS l,e∈l:=λe he=>(zGz.1 he).1
 have hcl:(canonS l).length<=l.length:=by rw[(zhr l).length_eq,<-(zEK l).length_eq];exact zAz
 obtain⟨void,e2,av⟩:=c_all hs (l:=canonS l) (by omega) hv ha;refine zJd ?_;simp only[zHE hs,za7,bne_self_eq_false,zaz,zIN l hl hp,zKN,e2,zvH];have hgl:=given_last hs (l:=l);have hga:=given_asc s l;have hfs:(foldS s l).Suspensions=s.Markers.flatMap (λm=>(deskOf s (canonS l) m).suspensions):=by rw[susp_all hs,zxi]
 generalize hc:canonS l=c at *;have hvl:=av.len
 have loop:∀(n i:Nat),i+n=c.length->∀out:List za5,out.length<=i->out.Pairwise (λa b=>zbW a b=true)->(∀g,g∈out↔LastG s ((c.take i).filter (keptB s c)) g)->zgP s (c,0) (s.Markers.flatMap (λm=>(deskOf s c m).suspensions),void) (mF out) i=some (zme (foldS s l,0)):=by
  intro n
  induction n with
  |zero=>intro i hi out ho hpa hmem;refine zxJ ?_;simp(disch:=omega)only[zad,zaN,zao];rw[zaJ (by simp)];rw[zaJ (by omega)]at hmem;have:out=(foldS s l).Given:=zH6 (λg=>by rw[hmem,hgl]) hpa hga;rw[this,<-hfs];rfl
  |succ n ih =>
    intro i hi out ho hpa hmem;have hil:i<c.length:=by omega
    have hiv:i<void.length:=by omega
    have hkt:=kept_test hs hv ha av hil hiv
    have htk:(c.take (i+1)).filter (keptB s c)=(c.take i).filter (keptB s c)++(if keptB s c c[i]=true then[c[i]]else[]):=by rw[zco hil,List.filter_append];congr 1;rw[zcn];split<;>simp_all
    have stay:keptB s c c[i]=false->zgP s (c,0) (s.Markers.flatMap (λm=>(deskOf s c m).suspensions),void) (mF out) ((i:Int)+1)=some (zme (foldS s l,0)):=λhf=>ih (i+1) (by omega) out (by omega) hpa (λg=>by grind)
    refine zxJ ?_;simp(disch:=omega)only[zad,zaB,zao,zah,zcs,zaa hil,zae,zod s.Seeds _ (show s.Seeds.length<=1000000 by omega) (zyN hs),ziZ,zoT,zaa hiv,zAo s hs c[i] hs.short2 (hp _ (hcp _ (zar hil))),zKA,c_stopped s hs c (by omega) i hil,zKA,zq0 s.Markers _ (show s.Markers.length<=1000000 by omega),zkb,w64_id]
    have hsr:(seedR (seedOf s.Seeds c[i].Script)).2=(seedS s c[i].Script).isSome:=by unfold seedS;cases seedOf s.Seeds c[i].Script<;>rfl
    rw[hsr]
    cases b1:(seedS s c[i].Script).isSome with
    |true=>simp_all
    |false =>
      simp only[zaz]
      cases b2:void[i]with
      |true=>simp_all
      |false =>
        simp only[zaz]
        cases b3:dec (FitsE s c[i])with
        |false=>simp_all
        |true =>
          simp only[zaF,zaz]
          cases b4:stopB (zg7 (zgl s.Markers c[i].Stamp.Source)).1.Level c[i] (c.drop (i+1))with
          |true=>simp_all
          |false =>
            simp only[zaz,eq_self,zbx];have hk:keptB s c c[i]=true:=by rw[hkt,b1,b2,b3,b4];rfl
            have hgo:(⟨c[i].Script,c[i].Part,(zg7 (zgl s.Markers c[i].Stamp.Source)).1.ID,(zg7 (zgl s.Markers c[i].Stamp.Source)).1.Level,c[i].Value,⟨c[i].Stamp.Time,c[i].Stamp.Source,c[i].Stamp.Seq⟩⟩:za5)=gOf s c[i]:=by
             rw[fits_all hs,zaO]at b3;obtain⟨q,hq⟩:=zaI.1 b3.2;obtain⟨x,p,y,_,h2,_⟩:=zqE hq;unfold eligB at h2
             cases hmi:zgl s.Markers c[i].Stamp.Source with
             |none=>grind
             |some km=>obtain⟨k,m⟩:=km;unfold gOf;rw[hmi];simp only[zg7];rw[(zGN hmi).2]
            obtain⟨r,er,pg⟩:=c_put (l:=out) (by omega) hpa (gOf s c[i]);simp only[zad]at er;simp only[hgo,er,zvI];refine ih (i+1) (by omega) r (by have:=pg.len;omega) pg.asc (λg=>?_);rw[pg.mem,hmem,htk,if_pos hk,LastG.snoc]
 exact loop c.length 0 (by omega) [] (by simp) List.Pairwise.nil (λg=>by simp[LastG])
set_option maxRecDepth 100000
theorem re0(r:zbp)(q:zbG)(s:zan)(ev:List zac)(l:List zaA):tReg zKB zT 0 ⟨[(0,AV.agg [I r.Days,I r.Fails,I r.Tolerance]),(1,AV.agg [B q.Double,I q.Tolerance]),(2,AV.agg [sE s.Markers,sH s.Scripts,sG s.Papers,sP s.Schemes,sN s.Seeds,I s.Monitor.Part,I s.Monitor.Total,I s.Monitor.Window,I s.Monitor.Fails]),(3,sC ev),(4,sD l)],[]⟩=(some ⟨[(3,sC ev),(4,sD l),(5,gQ 5 3),(6,gQ 6 2),(7,gQ 7 9)],[(5,pQ r),(6,pW q),(7,pJ s)]⟩):=by kernel_rfl
theorem re1(r:zbp)(q:zbG)(s:zan)(ev:List zac)(l:List zaA):tReg zKB zT 1 ⟨[(3,sC ev),(4,sD l),(5,gQ 5 3),(6,gQ 6 2),(7,gQ 7 9)],[(5,pQ r),(6,pW q),(7,pJ s)]⟩=(callD zeh (cw zp8 [pD r,pA q,sS s,sC ev,sD l] []) λ(r0:(List Int)×Int)=>some ⟨[(3,sC ev),(4,sD l),(5,gQ 5 3),(7,gQ 7 9),(12,AV.sl 1 (List.map zai r0.1)),(13,I r0.2)],[(5,pQ r),(7,pJ s)]⟩):=by kernel_rfl
theorem re2(r:zbp)(s:zan)(ev:List zac)(l:List zaA)(ch:List Int)(e:Int):tReg zKB zT 2 ⟨[(3,sC ev),(4,sD l),(5,gQ 5 3),(7,gQ 7 9),(12,AV.sl 1 (List.map zai ch)),(13,I e)],[(5,pQ r),(7,pJ s)]⟩=(some ⟨[(3,sC ev),(4,sD l),(5,gQ 5 3),(7,gQ 7 9),(12,AV.sl 1 (List.map zai ch)),(13,I e),(39,B (e !=0))],[(5,pQ r),(7,pJ s)]⟩):=by kernel_rfl
theorem re3(e:Int):tReg zKB zT 3 ⟨[(13,I e)],[]⟩=(some ⟨[(10,bH),(11,I e)],[]⟩):=by kernel_rfl
theorem re4(r:zbp)(s:zan)(ev:List zac)(l:List zaA)(ch:List Int):tReg zKB zT 4 ⟨[(3,sC ev),(4,sD l),(5,gQ 5 3),(7,gQ 7 9),(12,AV.sl 1 (List.map zai ch))],[(5,pQ r),(7,pJ s)]⟩=(callD zgH (cw zd0 [sD l] []) λ(r0:(List zaA)×Int)=>some ⟨[(3,sC ev),(5,gQ 5 3),(7,gQ 7 9),(12,AV.sl 1 (List.map zai ch)),(13,I r0.2),(14,sD r0.1)],[(5,pQ r),(7,pJ s)]⟩):=by kernel_rfl
theorem re5(r:zbp)(s:zan)(ev:List zac)(ch:List Int)(c:List zaA)(e:Int):tReg zKB zT 5 ⟨[(3,sC ev),(5,gQ 5 3),(7,gQ 7 9),(12,AV.sl 1 (List.map zai ch)),(13,I e),(14,sD c)],[(5,pQ r),(7,pJ s)]⟩=(some ⟨[(3,sC ev),(5,gQ 5 3),(7,gQ 7 9),(12,AV.sl 1 (List.map zai ch)),(13,I e),(14,sD c),(47,B (e !=0))],[(5,pQ r),(7,pJ s)]⟩):=by kernel_rfl
theorem re7(r:zbp)(s:zan)(ev:List zac)(ch:List Int)(c:List zaA):tReg zKB zT 7 ⟨[(3,sC ev),(5,gQ 5 3),(7,gQ 7 9),(12,AV.sl 1 (List.map zai ch)),(14,sD c)],[(5,pQ r),(7,pJ s)]⟩=(callD zkj (cw zdY [sS s,sC ev] []) λ(r0:za9×Int)=>some ⟨[(3,sC ev),(5,gQ 5 3),(7,gQ 7 9),(12,AV.sl 1 (List.map zai ch)),(13,I r0.2),(14,sD c),(15,gQ 15 2)],[(5,pQ r),(7,pJ s),(15,pR r0.1)]⟩):=by kernel_rfl
theorem re8(r:zbp)(s:zan)(ev:List zac)(ch:List Int)(c:List zaA)(m:za9)(e:Int):tReg zKB zT 8 ⟨[(3,sC ev),(5,gQ 5 3),(7,gQ 7 9),(12,AV.sl 1 (List.map zai ch)),(13,I e),(14,sD c),(15,gQ 15 2)],[(5,pQ r),(7,pJ s),(15,pR m)]⟩=(some ⟨[(3,sC ev),(5,gQ 5 3),(7,gQ 7 9),(12,AV.sl 1 (List.map zai ch)),(13,I e),(14,sD c),(15,gQ 15 2),(56,B (e !=0))],[(5,pQ r),(7,pJ s),(15,pR m)]⟩):=by kernel_rfl
theorem re10(r:zbp)(s:zan)(ev:List zac)(ch:List Int)(c:List zaA)(m:za9):tReg zKB zT 10 ⟨[(3,sC ev),(5,gQ 5 3),(7,gQ 7 9),(12,AV.sl 1 (List.map zai ch)),(14,sD c),(15,gQ 15 2)],[(5,pQ r),(7,pJ s),(15,pR m)]⟩=(some ⟨[(3,sC ev),(5,gQ 5 3),(7,gQ 7 9),(12,AV.sl 1 (List.map zai ch)),(14,sD c),(15,gQ 15 2),(16,AV.map 58)],[(5,pQ r),(7,pJ s),(15,pR m),(58,⟨0,zd2,[],false⟩)]⟩):=by kernel_rfl
theorem re11(r:zbp)(s:zan)(ev:List zac)(ch:List Int)(c:List zaA)(m:za9):tReg zKB zT 11 ⟨[(3,sC ev),(5,gQ 5 3),(7,gQ 7 9),(12,AV.sl 1 (List.map zai ch)),(14,sD c),(15,gQ 15 2),(16,AV.map 58)],[(5,pQ r),(7,pJ s),(15,pR m),(58,⟨0,zd2,[],false⟩)]⟩=(some ⟨[(3,sC ev),(5,gQ 5 3),(7,gQ 7 9),(12,AV.sl 1 (List.map zai ch)),(14,sD c),(15,gQ 15 2),(16,AV.map 58),(17,I 0)],[(5,pQ r),(7,pJ s),(15,pR m),(58,⟨0,zd2,[],false⟩)]⟩):=by kernel_rfl
theorem re12(r:zbp)(s:zan)(ev:List zac)(ch:List Int)(c:List zaA)(m:za9)(g:Int):tReg zKB zT 12 ⟨[(3,sC ev),(5,gQ 5 3),(7,gQ 7 9),(12,AV.sl 1 (List.map zai ch)),(14,sD c),(15,gQ 15 2),(16,AV.map 58),(17,I g)],[(5,pQ r),(7,pJ s),(15,pR m),(58,⟨0,zd2,[],false⟩)]⟩=(some ⟨[(3,sC ev),(5,gQ 5 3),(7,gQ 7 9),(12,AV.sl 1 (List.map zai ch)),(15,gQ 15 2),(16,AV.map 58),(17,I g),(59,sD c),(60,I ((↑(mE c).length:Int))),(61,I 0)],[(5,pQ r),(7,pJ s),(15,pR m),(58,⟨0,zd2,[],false⟩)]⟩):=by kernel_rfl
theorem re13(r:zbp)(s:zan)(ev:List zac)(ch:List Int)(c:List zaA)(m:za9)(M:List (Int×Int))(g:Int)(n:Int)(i:Int):tReg zKB zT 13 ⟨[(3,sC ev),(5,gQ 5 3),(7,gQ 7 9),(12,AV.sl 1 (List.map zai ch)),(15,gQ 15 2),(16,AV.map 58),(17,I g),(59,sD c),(60,I n),(61,I i)],[(5,pQ r),(7,pJ s),(15,pR m),(58,gO (mR M))]⟩=(some ⟨[(3,sC ev),(5,gQ 5 3),(7,gQ 7 9),(12,AV.sl 1 (List.map zai ch)),(15,gQ 15 2),(16,AV.map 58),(17,I g),(59,sD c),(60,I n),(61,I i),(62,B (decide (i<n)))],[(5,pQ r),(7,pJ s),(15,pR m),(58,gO (mR M))]⟩):=by kernel_rfl
theorem re14(r:zbp)(s:zan)(ev:List zac)(ch:List Int)(c:List zaA)(m:za9)(M:List (Int×Int))(g:Int)(n:Int)(i:Int):tReg zKB zT 14 ⟨[(3,sC ev),(5,gQ 5 3),(7,gQ 7 9),(12,AV.sl 1 (List.map zai ch)),(15,gQ 15 2),(16,AV.map 58),(17,I g),(59,sD c),(60,I n),(61,I i)],[(5,pQ r),(7,pJ s),(15,pR m),(58,gO (mR M))]⟩=(chk ((0:Int)<=i)<|
 elemD zcz (mE c) i.toNat λ(c0:zaA) =>
 some ⟨[(3,sC ev),(5,gQ 5 3),(7,gQ 7 9),(12,AV.sl 1 (List.map zai ch)),(15,gQ 15 2),(16,AV.map 58),(17,I g),(19,gQ 19 6),(59,sD c),(60,I n),(61,I i)],[(5,pQ r),(7,pJ s),(15,pR m),(19,pL c0),(58,gO (mR M))]⟩):=by kernel_rfl
theorem re15(r:zbp)(s:zan)(ev:List zac)(ch:List Int)(c:List zaA)(m:za9)(M:List (Int×Int))(g:Int)(n:Int)(i:Int)(x:zaA):tReg zKB zT 15 ⟨[(3,sC ev),(5,gQ 5 3),(7,gQ 7 9),(12,AV.sl 1 (List.map zai ch)),(15,gQ 15 2),(16,AV.map 58),(17,I g),(19,gQ 19 6),(59,sD c),(60,I n),(61,I i)],[(5,pQ r),(7,pJ s),(15,pR m),(19,pL x),(58,gO (mR M))]⟩=(some ⟨[(3,sC ev),(5,gQ 5 3),(7,gQ 7 9),(12,AV.sl 1 (List.map zai ch)),(15,gQ 15 2),(16,AV.map 58),(17,I (if x.Stamp.Time > g then x.Stamp.Time else g)),(19,gQ 19 6),(59,sD c),(60,I n),(61,I i)],[(5,pQ r),(7,pJ s),(15,pR m),(19,pL x),(58,gO (mR M))]⟩):=by kernel_rfl
theorem re16(r:zbp)(s:zan)(ev:List zac)(ch:List Int)(c:List zaA)(m:za9)(M:List (Int×Int))(g:Int)(n:Int)(i:Int)(x:zaA):tReg zKB zT 16 ⟨[(3,sC ev),(5,gQ 5 3),(7,gQ 7 9),(12,AV.sl 1 (List.map zai ch)),(15,gQ 15 2),(16,AV.map 58),(17,I g),(19,gQ 19 6),(59,sD c),(60,I n),(61,I i)],[(5,pQ r),(7,pJ s),(15,pR m),(19,pL x),(58,gO (mR M))]⟩=(callD zeN (cw ziN [sS s,sW m,pC x] []) λ(r0:(List Int))=>some ⟨[(3,sC ev),(5,gQ 5 3),(7,gQ 7 9),(12,AV.sl 1 (List.map zai ch)),(15,gQ 15 2),(16,AV.map 58),(17,I g),(19,gQ 19 6),(59,sD c),(60,I n),(61,I i),(73,AV.sl 1 (List.map zai r0)),(74,I ((↑(List.map zai r0).length:Int))),(75,I 0)],[(5,pQ r),(7,pJ s),(15,pR m),(19,pL x),(58,gO (mR M))]⟩):=by kernel_rfl
theorem re17(r:zbp)(s:zan)(ev:List zac)(ch:List Int)(c:List zaA)(m:za9)(M:List (Int×Int))(g:Int)(n:Int)(i:Int)(x:zaA)(sc:List Int)(k:Int)(j:Int):tReg zKB zT 17 ⟨[(3,sC ev),(5,gQ 5 3),(7,gQ 7 9),(12,AV.sl 1 (List.map zai ch)),(15,gQ 15 2),(16,AV.map 58),(17,I g),(19,gQ 19 6),(59,sD c),(60,I n),(61,I i),(73,AV.sl 1 (List.map zai sc)),(74,I k),(75,I j)],[(5,pQ r),(7,pJ s),(15,pR m),(19,pL x),(58,gO (mR M))]⟩=(some ⟨[(3,sC ev),(5,gQ 5 3),(7,gQ 7 9),(12,AV.sl 1 (List.map zai ch)),(15,gQ 15 2),(16,AV.map 58),(17,I g),(19,gQ 19 6),(59,sD c),(60,I n),(61,I i),(73,AV.sl 1 (List.map zai sc)),(74,I k),(75,I j),(76,B (decide (j<k)))],[(5,pQ r),(7,pJ s),(15,pR m),(19,pL x),(58,gO (mR M))]⟩):=by kernel_rfl
theorem re18(r:zbp)(s:zan)(ev:List zac)(ch:List Int)(c:List zaA)(m:za9)(M:List (Int×Int))(g:Int)(n:Int)(i:Int)(x:zaA)(sc:List Int)(k:Int)(j:Int):tReg zKB zT 18 ⟨[(3,sC ev),(5,gQ 5 3),(7,gQ 7 9),(12,AV.sl 1 (List.map zai ch)),(15,gQ 15 2),(16,AV.map 58),(17,I g),(19,gQ 19 6),(59,sD c),(60,I n),(61,I i),(73,AV.sl 1 (List.map zai sc)),(74,I k),(75,I j)],[(5,pQ r),(7,pJ s),(15,pR m),(19,pL x),(58,gO (mR M))]⟩=(chk ((0:Int)<=j)<|
 elemD zbi (List.map zai sc) j.toNat λ(c0:Int) =>
 some ⟨[(3,sC ev),(5,gQ 5 3),(7,gQ 7 9),(12,AV.sl 1 (List.map zai ch)),(15,gQ 15 2),(16,AV.map 58),(17,I g),(19,gQ 19 6),(21,I c0),(59,sD c),(60,I n),(61,I i),(73,AV.sl 1 (List.map zai sc)),(74,I k),(75,I j)],[(5,pQ r),(7,pJ s),(15,pR m),(19,pL x),(58,gO (mR M))]⟩):=by kernel_rfl
theorem re19(r:zbp)(s:zan)(ev:List zac)(ch:List Int)(c:List zaA)(m:za9)(M:List (Int×Int))(g:Int)(n:Int)(i:Int)(x:zaA)(sc:List Int)(k:Int)(j:Int)(y:Int):tReg zKB zT 19 ⟨[(3,sC ev),(5,gQ 5 3),(7,gQ 7 9),(12,AV.sl 1 (List.map zai ch)),(15,gQ 15 2),(16,AV.map 58),(17,I g),(19,gQ 19 6),(21,I y),(59,sD c),(60,I n),(61,I i),(73,AV.sl 1 (List.map zai sc)),(74,I k),(75,I j)],[(5,pQ r),(7,pJ s),(15,pR m),(19,pL x),(58,gO (mR M))]⟩=(callD zjw (cw zl4 [AV.map 1000,I y,I x.Stamp.Time] [(1000,gO (mR M))]) λ(r0:(List (Int×Int)))=>some ⟨[(3,sC ev),(5,gQ 5 3),(7,gQ 7 9),(12,AV.sl 1 (List.map zai ch)),(15,gQ 15 2),(16,AV.map 58),(17,I g),(19,gQ 19 6),(59,sD c),(60,I n),(61,I i),(73,AV.sl 1 (List.map zai sc)),(74,I k),(75,I j)],[(5,pQ r),(7,pJ s),(15,pR m),(19,pL x),(58,gO (mR r0))]⟩):=by kernel_rfl
theorem re20(r:zbp)(s:zan)(ev:List zac)(ch:List Int)(c:List zaA)(m:za9)(M:List (Int×Int))(g:Int)(n:Int)(i:Int)(x:zaA)(sc:List Int)(k:Int)(j:Int):tReg zKB zT 20 ⟨[(3,sC ev),(5,gQ 5 3),(7,gQ 7 9),(12,AV.sl 1 (List.map zai ch)),(15,gQ 15 2),(16,AV.map 58),(17,I g),(19,gQ 19 6),(59,sD c),(60,I n),(61,I i),(73,AV.sl 1 (List.map zai sc)),(74,I k),(75,I j)],[(5,pQ r),(7,pJ s),(15,pR m),(19,pL x),(58,gO (mR M))]⟩=(some ⟨[(3,sC ev),(5,gQ 5 3),(7,gQ 7 9),(12,AV.sl 1 (List.map zai ch)),(15,gQ 15 2),(16,AV.map 58),(17,I g),(19,gQ 19 6),(59,sD c),(60,I n),(61,I i),(73,AV.sl 1 (List.map zai sc)),(74,I k),(75,I (w64 (j+1)))],[(5,pQ r),(7,pJ s),(15,pR m),(19,pL x),(58,gO (mR M))]⟩):=by kernel_rfl
theorem re21(r:zbp)(s:zan)(ev:List zac)(ch:List Int)(c:List zaA)(m:za9)(M:List (Int×Int))(g:Int)(n:Int)(i:Int):tReg zKB zT 21 ⟨[(3,sC ev),(5,gQ 5 3),(7,gQ 7 9),(12,AV.sl 1 (List.map zai ch)),(15,gQ 15 2),(16,AV.map 58),(17,I g),(59,sD c),(60,I n),(61,I i)],[(5,pQ r),(7,pJ s),(15,pR m),(58,gO (mR M))]⟩=(some ⟨[(3,sC ev),(5,gQ 5 3),(7,gQ 7 9),(12,AV.sl 1 (List.map zai ch)),(15,gQ 15 2),(16,AV.map 58),(17,I g),(59,sD c),(60,I n),(61,I (w64 (i+1)))],[(5,pQ r),(7,pJ s),(15,pR m),(58,gO (mR M))]⟩):=by kernel_rfl
theorem re22(r:zbp)(s:zan)(ev:List zac)(ch:List Int)(c:List zaA)(m:za9)(M:List (Int×Int))(g:Int):tReg zKB zT 22 ⟨[(3,sC ev),(5,gQ 5 3),(7,gQ 7 9),(12,AV.sl 1 (List.map zai ch)),(15,gQ 15 2),(16,AV.map 58),(17,I g)],[(5,pQ r),(7,pJ s),(15,pR m),(58,gO (mR M))]⟩=(callD ziS (cw zsg [sS s] []) λ(r0:(List (Int×Bool)))=>some ⟨[(3,sC ev),(5,gQ 5 3),(7,gQ 7 9),(12,AV.sl 1 (List.map zai ch)),(15,gQ 15 2),(16,AV.map 58),(17,I g),(22,AV.map 88)],[(5,pQ r),(7,pJ s),(15,pR m),(58,gO (mR M)),(88,gN (mO r0))]⟩):=by kernel_rfl
theorem re23(r:zbp)(s:zan)(ev:List zac)(ch:List Int)(c:List zaA)(m:za9)(M:List (Int×Int))(g:Int)(sd:List (Int×Bool)):tReg zKB zT 23 ⟨[(3,sC ev),(5,gQ 5 3),(7,gQ 7 9),(12,AV.sl 1 (List.map zai ch)),(15,gQ 15 2),(16,AV.map 58),(17,I g),(22,AV.map 88)],[(5,pQ r),(7,pJ s),(15,pR m),(58,gO (mR M)),(88,gN (mO sd))]⟩=(callD zhv (cw zra [pD r,sS s,sW m,AV.sl 1 (List.map zai ch)] []) λ(r0:(List Int))=>some ⟨[(3,sC ev),(15,gQ 15 2),(16,AV.map 58),(17,I g),(22,AV.map 88),(93,gR 93 1 (List.map zai r0)),(94,I ((↑(List.map zai r0).length:Int))),(95,I 0)],[(15,pR m),(58,gO (mR M)),(88,gN (mO sd)),(93,⟨1,zcO,List.map zai r0,false⟩)]⟩):=by kernel_rfl
theorem re24(ev:List zac)(m:za9)(M:List (Int×Int))(g:Int)(sd:List (Int×Bool))(bl:List Int)(n:Int)(i:Int):tReg zKB zT 24 ⟨[(3,sC ev),(15,gQ 15 2),(16,AV.map 58),(17,I g),(22,AV.map 88),(93,gR 93 1 (List.map zai bl)),(94,I n),(95,I i)],[(15,pR m),(58,gO (mR M)),(88,gN (mO sd)),(93,⟨1,zcO,List.map zai bl,false⟩)]⟩=(some ⟨[(3,sC ev),(15,gQ 15 2),(16,AV.map 58),(17,I g),(22,AV.map 88),(93,gR 93 1 (List.map zai bl)),(94,I n),(95,I i),(96,B (decide (i<n)))],[(15,pR m),(58,gO (mR M)),(88,gN (mO sd)),(93,⟨1,zcO,List.map zai bl,false⟩)]⟩):=by kernel_rfl
theorem re25(ev:List zac)(m:za9)(M:List (Int×Int))(g:Int)(sd:List (Int×Bool))(bl:List Int)(n:Int)(i:Int):tReg zKB zT 25 ⟨[(3,sC ev),(15,gQ 15 2),(16,AV.map 58),(17,I g),(22,AV.map 88),(93,gR 93 1 (List.map zai bl)),(94,I n),(95,I i)],[(15,pR m),(58,gO (mR M)),(88,gN (mO sd)),(93,⟨1,zcO,List.map zai bl,false⟩)]⟩=(chk ((0:Int)<=i)<|
 chk ((i:Int)<((↑(List.map zai bl).length:Int)))<|
 elemD zbi (List.map zai bl) (0+i.toNat) λ(c0:Int) =>
 some ⟨[(3,sC ev),(15,gQ 15 2),(16,AV.map 58),(17,I g),(22,AV.map 88),(24,I c0),(93,gR 93 1 (List.map zai bl)),(94,I n),(95,I i)],[(15,pR m),(58,gO (mR M)),(88,gN (mO sd)),(93,⟨1,zcO,List.map zai bl,false⟩)]⟩):=by kernel_rfl
theorem re26(ev:List zac)(m:za9)(M:List (Int×Int))(g:Int)(sd:List (Int×Bool))(bl:List Int)(n:Int)(i:Int)(id:Int):tSeg zKB zT 26 0 3 ⟨[(3,sC ev),(15,gQ 15 2),(16,AV.map 58),(17,I g),(22,AV.map 88),(24,I id),(93,gR 93 1 (List.map zai bl)),(94,I n),(95,I i)],[(15,pR m),(58,gO (mR M)),(88,gN (mO sd)),(93,⟨1,zcO,List.map zai bl,false⟩)]⟩=(callD ziS (cw zlN [sW m,I id] []) λ(r0:(List (Int×Bool)))=>some ⟨[(101,AV.map 101),(100,I id),(99,AV.agg [sM m.Given,sI m.Suspensions]),(3,sC ev),(15,gQ 15 2),(16,AV.map 58),(17,I g),(22,AV.map 88),(24,I id),(93,gR 93 1 (List.map zai bl)),(94,I n),(95,I i)],[(101,gN (mO r0)),(15,pR m),(58,gO (mR M)),(88,gN (mO sd)),(93,⟨1,zcO,List.map zai bl,false⟩)]⟩):=by kernel_rfl
theorem re28(ev:List zac)(m:za9)(M:List (Int×Int))(g:Int)(sd:List (Int×Bool))(bl:List Int)(n:Int)(i:Int)(p:Addr)(k:Int)(v:Bool):tSeg zKB zT 28 1 2 ⟨[(3,sC ev),(15,gQ 15 2),(16,AV.map 58),(17,I g),(22,AV.map 88),(93,gR 93 1 (List.map zai bl)),(94,I n),(95,I i),(102,AV.v (.pointer (some p))),(105,AV.tup [I k,B v])],[(15,pR m),(58,gO (mR M)),(88,gN (mO sd)),(93,⟨1,zcO,List.map zai bl,false⟩)]⟩=(some ⟨[(25,I k),(106,I k),(3,sC ev),(15,gQ 15 2),(16,AV.map 58),(17,I g),(22,AV.map 88),(93,gR 93 1 (List.map zai bl)),(94,I n),(95,I i),(102,AV.v (.pointer (some p))),(105,AV.tup [I k,B v])],[(15,pR m),(58,gO (mR M)),(88,gN (mO sd)),(93,⟨1,zcO,List.map zai bl,false⟩)]⟩):=by kernel_rfl
theorem re29(ev:List zac)(m:za9)(M:List (Int×Int))(g:Int)(sd:List (Int×Bool))(bl:List Int)(n:Int)(i:Int)(p:Addr)(k:Int):tReg zKB zT 29 ⟨[(3,sC ev),(15,gQ 15 2),(16,AV.map 58),(17,I g),(22,AV.map 88),(25,I k),(93,gR 93 1 (List.map zai bl)),(94,I n),(95,I i),(102,AV.v (.pointer (some p)))],[(15,pR m),(58,gO (mR M)),(88,gN (mO sd)),(93,⟨1,zcO,List.map zai bl,false⟩)]⟩=(mapD zP 3 false dBool (B false) (mO sd) (I k) λ(c0:Bool) (b1:Bool)=>some ⟨[(3,sC ev),(15,gQ 15 2),(16,AV.map 58),(17,I g),(22,AV.map 88),(25,I k),(93,gR 93 1 (List.map zai bl)),(94,I n),(95,I i),(102,AV.v (.pointer (some p))),(110,B (!c0))],[(15,pR m),(58,gO (mR M)),(88,gN (mO sd)),(93,⟨1,zcO,List.map zai bl,false⟩)]⟩):=by kernel_rfl
theorem re30(ev:List zac)(m:za9)(M:List (Int×Int))(g:Int)(sd:List (Int×Bool))(bl:List Int)(n:Int)(i:Int)(p:Addr)(k:Int):tReg zKB zT 30 ⟨[(3,sC ev),(15,gQ 15 2),(16,AV.map 58),(17,I g),(22,AV.map 88),(25,I k),(93,gR 93 1 (List.map zai bl)),(94,I n),(95,I i),(102,AV.v (.pointer (some p)))],[(15,pR m),(58,gO (mR M)),(88,gN (mO sd)),(93,⟨1,zcO,List.map zai bl,false⟩)]⟩=(callD zjw (cw zl4 [AV.map 1000,I k,I g] [(1000,gO (mR M))]) λ(r0:(List (Int×Int)))=>some ⟨[(3,sC ev),(15,gQ 15 2),(16,AV.map 58),(17,I g),(22,AV.map 88),(93,gR 93 1 (List.map zai bl)),(94,I n),(95,I i),(102,AV.v (.pointer (some p)))],[(15,pR m),(58,gO (mR r0)),(88,gN (mO sd)),(93,⟨1,zcO,List.map zai bl,false⟩)]⟩):=by kernel_rfl
theorem re31(ev:List zac)(m:za9)(M:List (Int×Int))(g:Int)(sd:List (Int×Bool))(bl:List Int)(n:Int)(i:Int):tReg zKB zT 31 ⟨[(3,sC ev),(15,gQ 15 2),(16,AV.map 58),(17,I g),(22,AV.map 88),(93,gR 93 1 (List.map zai bl)),(94,I n),(95,I i)],[(15,pR m),(58,gO (mR M)),(88,gN (mO sd)),(93,⟨1,zcO,List.map zai bl,false⟩)]⟩=(some ⟨[(3,sC ev),(15,gQ 15 2),(16,AV.map 58),(17,I g),(22,AV.map 88),(93,gR 93 1 (List.map zai bl)),(94,I n),(95,I (w64 (i+1)))],[(15,pR m),(58,gO (mR M)),(88,gN (mO sd)),(93,⟨1,zcO,List.map zai bl,false⟩)]⟩):=by kernel_rfl
theorem re32(ev:List zac)(M:List (Int×Int)):tReg zKB zT 32 ⟨[(3,sC ev),(16,AV.map 58)],[(58,gO (mR M))]⟩=(callD zjF (cw zgN [AV.mp (mR M)] []) λ(r0:(List zac))=>some ⟨[(3,sC ev),(26,sC r0)],[]⟩):=by kernel_rfl
theorem re33(ev:List zac)(o:List zac):tReg zKB zT 33 ⟨[(3,sC ev),(26,sC o)],[]⟩=(callD zjF (cw ztu [sC ev,sC o] []) λ(r0:(List zac)) =>
 callD zgk (cw zcB [sC r0] []) λ(r1:(List zac)×Int) =>
 some ⟨[(26,sC o),(28,I r1.2)],[]⟩):=by kernel_rfl
theorem re34(o:List zac)(e:Int):tReg zKB zT 34 ⟨[(26,sC o),(28,I e)],[]⟩=(some ⟨[(26,sC o),(28,I e),(126,B (e !=0))],[]⟩):=by kernel_rfl
theorem re36(o:List zac):tReg zKB zT 36 ⟨[(26,sC o)],[]⟩=(some ⟨[(10,sC o),(11,I 0)],[]⟩):=by kernel_rfl
end Go.Proofs.YtlecnobdfhlmnaaGreat
end
