/- Plain facts on walking: which marks lie at a desk, how many there are, what counts. -/
import Derived.Test.YtlecnobdfhlmnaaGreatJ3
import Derived.Test.YtlecnobdfhlmnaaGreatXAnn
import Derived.Test.YtlecnobdfhlmnaaGreatAb10
import Derived.Control
set_option linter.unusedSimpArgs false
set_option linter.unusedVariables false
set_option linter.unusedSectionVars false
noncomputable section
namespace Go.Proofs.YtlecnobdfhlmnaaGreat
open Go.Ab
def markEv (s:zak) (i:Nat) (e:zab):Bool:=e.Kind == 0 && e.Stamp.Source.toNat == i && (fitS s e).isSome && (seedS s e.Script).isNone
theorem zu2 (ds:Desks) (i:Nat) (d:zat):upd ds i d i=some d:=by simp [upd]
theorem zsf (ds:Desks) {i j:Nat} (d:zat) (h:j≠i):upd ds i d j=ds j:=by simp [upd,h]
theorem zES (a:zbe) (d:zat):(reinS a d).marks=d.marks:=by unfold reinS; split <;> rfl
theorem zER (a:zbe) (d:zat):(reinS a d).level=d.level:=by unfold reinS; split <;> rfl
theorem zwP (p:Int) (f:Bool) (g:zbe) (i:Nat) (m:zbC):(voidIf p f g i m).event=m.event:=by unfold voidIf; split <;> rfl
theorem zEX (id:Int) (a:zbe) (d:zat):(suspS id a d).marks.map (·.event)=d.marks.map (·.event):=by
 unfold suspS; simp only; apply zk7; intro j; rw [zcQ,zcQ,zla]
 cases d.marks[j]? with
 | none=>rfl
 | some m=>simp [zwP]
theorem zEG (s:zak) (p:zaJ) (sd:GSeed) (e:zab) (d:zat):(noteS s p sd e d).marks.map (·.event)=d.marks.map (·.event):=by
 unfold noteS; split
 · rfl
 · simp only; split
   · rfl
   · split
     · rfl
     · split
       · rw [zEX]
       · split <;> rfl
theorem zEF (s:zak) (p:zaJ) (sd:GSeed) (e:zab) (d:zat):(noteS s p sd e d).level=d.level:=by
 unfold noteS; split
 · rfl
 · simp only; split
   · rfl
   · split
     · rfl
     · split
       · rfl
       · split <;> rfl
theorem evS_desk (s:zak) (st:Desks×Reop) (e:zab) (i:Nat):(∀ d,st.1 i=some d→∃ d',(evS s st e).1 i=some d'∧d'.marks.map (·.event)=d.marks.map (·.event)++(if markEv s i e then [e] else [])∧d'.level=d.level)∧(st.1 i=none→(evS s st e).1 i=none):=by
 have same:(evS s st e).1 i=st.1 i→markEv s i e=false→(∀ d,st.1 i=some d→∃ d',(evS s st e).1 i=some d'∧d'.marks.map (·.event)=d.marks.map (·.event)++(if markEv s i e then [e] else [])∧d'.level=d.level)∧(st.1 i=none→(evS s st e).1 i=none):=fun h1 h2=>⟨fun d hd=>⟨d,by rw [h1,hd],by rw [h2]; simp,rfl⟩,fun hn=>by rw [h1,hn]⟩
 by_cases k1:e.Kind=1
 · have hm:markEv s i e=false:=by unfold markEv; simp [k1]
   cases hd:st.1 e.Marker.toNat with
   | none=>exact same (by unfold evS; rw [if_pos k1]; simp only [hd]) hm
   | some d =>
     have he:(evS s st e).1=upd st.1 e.Marker.toNat (reinS e.Stamp d):=by unfold evS; rw [if_pos k1]; simp only [hd]
     by_cases hi:i=e.Marker.toNat
     · subst hi; refine ⟨fun d' hd'=>⟨_,by rw [he,zu2],?_,?_⟩,fun hn=>by rw [hn] at hd; cases hd⟩
       · rw [hd] at hd'; injection hd' with hd'; subst hd'; rw [hm,zES]; simp
       · rw [hd] at hd'; injection hd' with hd'; subst hd'; exact zER _ _
     · exact same (by rw [he,zsf _ _ hi]) hm
 by_cases k2:e.Kind=2
 · have hm:markEv s i e=false:=by unfold markEv; simp [k2]
   exact same (by unfold evS; rw [if_neg k1,if_pos k2]) hm
 by_cases k0:e.Kind=0
 case neg =>
  have hm:markEv s i e=false:=by unfold markEv; simp [k0]
  exact same (by unfold evS; rw [if_neg k1,if_neg k2,if_neg k0]) hm
 cases hd:st.1 e.Stamp.Source.toNat with
 | none =>
   have he:(evS s st e).1=st.1:=by unfold evS; rw [if_neg k1,if_neg k2,if_pos k0]; simp only [hd]
   refine ⟨fun d hd'=>⟨d,by rw [he,hd'],?_,rfl⟩,fun hn=>by rw [he,hn]⟩
   have:markEv s i e=false:=by
    unfold markEv
    have:(e.Stamp.Source.toNat == i)=false:=by rw [beq_eq_false_iff_ne]; intro h; rw [h] at hd; rw [hd] at hd'; cases hd'
    simp [this]
   rw [this]; simp
 | some d =>
   cases hf:fitS s e with
   | none =>
     have he:(evS s st e).1=st.1:=by unfold evS; rw [if_neg k1,if_neg k2,if_pos k0]; simp only [hd,hf]
     exact same (by rw [he]) (by unfold markEv; simp [hf])
   | some q =>
     obtain ⟨x,p,y,h1,h2,h3,h4,h5,h6,h7,h8⟩:=zw9 hf; have hp:s.Papers[q]?=some p:=(zeG h3).1
     cases hs:seedS s e.Script with
     | some sd =>
       have he:(evS s st e).1=upd st.1 e.Stamp.Source.toNat (noteS s p sd e d):=by unfold evS; rw [if_neg k1,if_neg k2,if_pos k0]; simp only [hd,hf,hs,hp]
       have hm:markEv s i e=false:=by unfold markEv; simp [hs]
       by_cases hi:i=e.Stamp.Source.toNat
       · subst hi; refine ⟨fun d' hd'=>⟨_,by rw [he,zu2],?_,?_⟩,fun hn=>by rw [hn] at hd; cases hd⟩
         · rw [hd] at hd'; injection hd' with hd'; subst hd'; rw [hm,zEG]; simp
         · rw [hd] at hd'; injection hd' with hd'; subst hd'; exact zEF _ _ _ _ _
       · exact same (by rw [he,zsf _ _ hi]) hm
     | none =>
       have he:(evS s st e).1=upd st.1 e.Stamp.Source.toNat { d with marks:=d.marks++[⟨e,d.watch.Suspended⟩] }:=by unfold evS; rw [if_neg k1,if_neg k2,if_pos k0]; simp only [hd,hf,hs]
       by_cases hi:i=e.Stamp.Source.toNat
       · subst hi; have hm:markEv s e.Stamp.Source.toNat e=true:=by unfold markEv; simp [k0,hf,hs]
         refine ⟨fun d' hd'=>⟨_,by rw [he,zu2],?_,?_⟩,fun hn=>by rw [hn] at hd; cases hd⟩
         · rw [hd] at hd'; injection hd' with hd'; subst hd'; rw [hm]; simp
         · rw [hd] at hd'; injection hd' with hd'; subst hd'; rfl
       · exact same (by rw [he,zsf _ _ hi]) (by unfold markEv; simp [show ¬ e.Stamp.Source.toNat=i from fun h=>hi h.symm])
theorem zCn (s:zak):∀ (ev:List zab) (st:Desks×Reop) (i:Nat),(∀ d,st.1 i=some d→∃ d',(ev.foldl (evS s) st).1 i=some d'∧d'.marks.map (·.event)=d.marks.map (·.event)++ev.filter (markEv s i)∧d'.level=d.level)∧(st.1 i=none→(ev.foldl (evS s) st).1 i=none)
 | [],st,i=>⟨fun d hd=>⟨d,hd,by simp,rfl⟩,fun h=>h⟩
 | e :: r,st,i=>by obtain ⟨h1,h2⟩:=evS_desk s st e i; obtain ⟨h3,h4⟩:=zCn s r (evS s st e) i; refine ⟨fun d hd=>?_,fun hn=>h4 (h2 hn)⟩; obtain ⟨d',e1,e2,e3⟩:=h1 d hd; obtain ⟨d'',e4,e5,e6⟩:=h3 d' e1; refine ⟨d'',e4,?_,e6.trans e3⟩; rw [e5,e2,zi9,zgb]; split <;> simp
theorem zCf (ms:List zbk) (i:Nat):∀ d,seats ms i=some d→∃ m∈ms,m.ID.toNat=i∧d=desk0 m.Level:=by
 have key:∀ (ms:List zbk) (ds:Desks) d,(ms.foldl (fun ds m=>upd ds m.ID.toNat (desk0 m.Level)) ds) i=some d→ds i=some d∨∃ m∈ms,m.ID.toNat=i∧d=desk0 m.Level:=by
  intro ms
  induction ms with
  | nil=>intro ds d h; exact .inl h
  | cons m ms ih =>
    intro ds d h; rcases ih _ d h with h | ⟨m',h1,h2⟩
    · replace h:upd ds m.ID.toNat (desk0 m.Level) i=some d:=h; by_cases hi:i=m.ID.toNat
      · rw [hi,zu2] at h; injection h with h; exact .inr ⟨m,by simp,hi.symm,h.symm⟩
      · rw [zsf _ _ hi] at h; exact .inl h
    · exact .inr ⟨m',by simp [h1],h2⟩
 intro d h; rcases key ms (fun _=>none) d h with h | h
 · cases h
 · exact h
theorem zu3 {s:zak} {ev:List zab} {i:Nat} {d:zat} (h:(walkS s ev).1 i=some d):d.marks.map (·.event)=ev.filter (markEv s i):=by
 obtain ⟨h1,h2⟩:=zCn s ev (seats s.Markers,[]) i
 cases hs:seats s.Markers i with
 | none=>rw [show (walkS s ev).1 i=none from h2 hs] at h; cases h
 | some d0=>obtain ⟨d',e1,e2,_⟩:=h1 d0 hs; obtain ⟨m,_,_,hd0⟩:=zCf _ _ _ hs; rw [show (walkS s ev).1 i=some d' from e1] at h; injection h with h; subst h; rw [e2,hd0]; simp [desk0]
theorem filters_le {α:Type} (p:Nat→α→Bool) (hp:∀ x i j,p i x=true→p j x=true→i=j):∀ (n:Nat) (l:List α),((List.range n).map fun i=>(l.filter (p i)).length).sum≤l.length:=by
 intro n l
 induction l with
 | nil =>
   simp only [zoA,zqR]
   induction n with
   | zero=>simp
   | succ n ih=>rw [zqZ,zga,zq0]; simp; omega
 | cons x r ih =>
   have:((List.range n).map fun i=>((x :: r).filter (p i)).length).sum≤((List.range n).map fun i=>(r.filter (p i)).length).sum+1:=by
    have key:∀ n,((List.range n).map fun i=>((x :: r).filter (p i)).length).sum=((List.range n).map fun i=>(r.filter (p i)).length).sum+(if ∃ i,i < n∧p i x=true then 1 else 0):=by
     intro n
     induction n with
     | zero=>simp
     | succ n ihn =>
       rw [zqZ,zga,zga,zq0,zq0,ihn]; simp only [zdo,zoF,List.sum_cons,List.sum_nil,zlM,zgb]; by_cases hn:p n x=true
       · rw [if_pos hn,if_neg (fun ⟨i,h1,h2⟩=>by have:=hp x i n h2 hn; omega),if_pos ⟨n,by omega,hn⟩]; simp only [zgc]; omega
       · rw [if_neg hn]; by_cases h:∃ i,i < n∧p i x=true
         · rw [if_pos h,if_pos (by obtain ⟨i,h1,h2⟩:=h; exact ⟨i,by omega,h2⟩)]; omega
         · rw [if_neg h,if_neg (fun ⟨i,h1,h2⟩=>by
            by_cases hi:i=n
            · rw [hi] at h2; exact hn h2
            · exact h ⟨i,by omega,h2⟩)]
           omega
    rw [key n]; split <;> omega
   simp only [zgc]; omega
theorem zxT (d:zat) (R:Reop):∀ (l:List zbC) (m:Counts),(l.foldl (zfj d R) m).length≤m.length+l.length
 | [],m=>by simp
 | x :: r,m=>by
   have h1:=zxT d R r (zfj d R m x)
   have h2:(zfj d R m x).length≤m.length+1:=by
    unfold zfj; split
    · omega
    · split
      · omega
      · exact zoZ
   simp only [zlL,zgc]; omega
theorem countS_len (d:zat) (R:Reop):(countS d R).length≤d.marks.length:=by have:=zxT d R d.marks []; simpa [countS] using this
theorem sum_flat {α:Type} (f:Nat→List α):∀ n,((List.range n).flatMap f).length=((List.range n).map fun i=>(f i).length).sum:=by intro n; rw [List.length_flatMap]
theorem sum_le_sum {f g:Nat→Nat} (h:∀ i,f i≤g i):∀ n,((List.range n).map f).sum≤((List.range n).map g).sum:=by
 intro n
 induction n with
 | zero=>simp
 | succ n ih=>rw [zqZ,zga,zga,zq0,zq0]; have:=h n; simp; omega
theorem zsJ (s:zak) (ev:List zab) (R:Reop) (n:Nat):(zcR (walkS s ev).1 R n).length≤ev.length:=by
 unfold zcR; rw [sum_flat]; refine zeI (sum_le_sum (g:=fun i=>(ev.filter (markEv s i)).length) (fun i=>?_) n) (filters_le (markEv s) (fun x i j h1 h2=>?_) n ev)
 · cases hd:(walkS s ev).1 i with
   | none=>simp
   | some d=>simp only [zaq]; have h1:=countS_len d R; have h2:=congrArg List.length (zu3 hd); simp only [zaq] at h2; omega
 · unfold markEv at h1 h2; simp only [zcw,beq_iff_eq] at h1 h2; omega
def KeyedC (m:Counts):Prop:=(m.map (·.1)).Nodup∧∀ p∈m,p.1=⟨p.2.Script,p.2.Part⟩
theorem zDH (d:zat) (R:Reop):KeyedC (countS d R):=by
 have key:∀ (l:List zbC) (m:Counts),KeyedC m→KeyedC (l.foldl (zfj d R) m):=by
  intro l
  induction l with
  | nil=>intro m h; exact h
  | cons x r ih =>
    intro m h; refine ih _ ?_; unfold zfj; split
    · exact h
    · split
      · exact h
      · refine ⟨(zjA h.1).1,fun p hp=>?_⟩; rcases zlu hp with rfl | hp
        · rfl
        · exact h.2 p hp
 exact key _ [] ⟨by simp,by simp⟩
theorem zr4 {d:zat} {R:Reop}:∀ {l:List zbC} {m:Counts} {p:zaL×zab},p∈l.foldl (zfj d R) m→p∈m∨∃ x∈l,p.2=x.event∧x.void=false∧¬ (d.level < 2∧reopB R x.event=true)
 | [],m,p,h=>.inl h
 | x :: r,m,p,h=>by
   rcases zr4 (l:=r) (m:=zfj d R m x) h with h | ⟨y,h1,h2⟩
   · unfold zfj at h; split at h
     · exact .inl h
     · split at h
       · exact .inl h
       · rename_i hv hr; rcases zlu h with rfl | h
         · exact .inr ⟨x,by simp,rfl,by simpa using hv,hr⟩
         · exact .inl h
   · exact .inr ⟨y,by simp [h1],h2⟩
theorem countS_mem {d:zat} {R:Reop} {p:zaL×zab} (h:p∈countS d R):∃ x∈d.marks,p.2=x.event∧x.void=false∧¬ (d.level < 2∧reopB R x.event=true):=by
 rcases zr4 h with h | h
 · cases h
 · exact h
theorem zsK {ds:Desks} {R:Reop} {n:Nat} {g:zbb}:g∈zcR ds R n↔∃ i,i < n∧∃ d,ds i=some d∧∃ p∈countS d R,g=zcJ i d p.2:=by
 unfold zcR; rw [zeq]; constructor
 · rintro ⟨i,hi,hg⟩
   cases hd:ds i with
   | none=>rw [hd] at hg; cases hg
   | some d=>rw [hd] at hg; obtain ⟨p,hp,rfl⟩:=zce.1 hg; exact ⟨i,zja.1 hi,d,hd,p,hp,rfl⟩
 · rintro ⟨i,hi,d,hd,p,hp,rfl⟩
   refine ⟨i,zja.2 hi,?_⟩; rw [hd]; exact zce.2 ⟨p,hp,rfl⟩
theorem given_inj {ds:Desks} {R:Reop} {n:Nat} {a b:zbb} (ha:a∈zcR ds R n) (hb:b∈zcR ds R n) (h1:a.Script=b.Script) (h2:a.Part=b.Part) (h3:a.Marker=b.Marker):a=b:=by
 obtain ⟨i,hi,d,hd,p,hp,rfl⟩:=zsK.1 ha; obtain ⟨j,hj,f,hf,q,hq,rfl⟩:=zsK.1 hb; unfold zcJ at h1 h2 h3; simp only at h1 h2 h3; have:i=j:=by omega
 subst this; rw [hd] at hf; injection hf with hf; subst hf; obtain ⟨k1,k2⟩:=zDH d R; have e:p.1=q.1:=by rw [k2 p hp,k2 q hq,h1,h2]
 have:p=q:=by
  have:∀ {l:Counts},(l.map (·.1)).Nodup→p∈l→q∈l→p=q:=by
   intro l
   induction l with
   | nil=>intro _ h; cases h
   | cons x r ih =>
     intro hn h1 h2; obtain ⟨n1,n2⟩:=zqy.1 hn; rcases zbV.1 h1 with e1 | h1
     · rcases zbV.1 h2 with e2 | h2
       · rw [e1,e2]
       · exact absurd (zce.2 ⟨q,h2,by rw [← e,e1]⟩) n1
     · rcases zbV.1 h2 with e2 | h2
       · exact absurd (zce.2 ⟨p,h1,by rw [e,e2]⟩) n1
       · exact ih n2 h1 h2
  exact this k1 hp hq
 rw [this]
set_option maxRecDepth 10000
theorem ev_inj {l l':List zab} (h:List.map zaa l=List.map zaa l'):l=l':=Eq.mp (TyD.minj zaV) h
theorem canon_ok:CallOK zP (single zbG zOrc):=by
 intro f args ms r ms' h; unfold single at h; split at h
 case isFalse=>cases h
 rename_i hf; subst hf
 cases ms with
 | nil =>
   have hz:zOrc zbG args []=ztE args:=by unfold zOrc; simp (decide:=true) only [if_false,if_true]
   rw [hz] at h; clear hz; unfold ztE at h; split at h
   case isFalse=>cases h
   rename_i hex; have hsp:=hex.choose_spec; generalize hex.choose=l at h hsp; obtain ⟨rfl,hl⟩:=hsp; injection h with h; injection h with h1 h2; subst h1 h2; refine ⟨zBQ,fun w S κ vals hvl hS hv hms hinj=>?_⟩; exact cn_calls (cnLegs false hl) w S κ vals hvl hS hv hms hinj
 | cons a m =>
   have hz:zOrc zbG args (a :: m)=oCanon args (a :: m):=by unfold zOrc; simp (decide:=true) only [if_false,if_true]
   rw [hz] at h; clear hz; unfold oCanon at h; split at h
   case isFalse=>cases h
   rename_i hex; have hsp:=hex.choose_spec; generalize hex.choose=l at h hsp; obtain ⟨⟨ha,hm⟩,hl⟩:=hsp; subst ha; rw [hm] at h ⊢; injection h with h; injection h with h1 h2; subst h1 h2; refine ⟨zBQ,fun w S κ vals hvl hS hv hms hinj=>?_⟩; exact cn_calls (cnLegs true hl) w S κ vals hvl hS hv hms hinj
theorem c_canon (b:Bool) {l:List zab} (h:FewEv l):cw zbG [frA b 1000 l] (frM b 1000 l)=some (bif b then zeY ((canonS l,0),l) else zek (canonS l,0)):=by
 cases b with
 | true =>
   refine zft canon_ok ?_; show zOrc zbG [(lentEv 1000 l).1] (lentEv 1000 l).2=_
   have hz:zOrc zbG [(lentEv 1000 l).1] (lentEv 1000 l).2=oCanon [(lentEv 1000 l).1] (lentEv 1000 l).2:=by unfold zOrc; simp (decide:=true) only [if_false,if_true]; rfl
   rw [hz]; unfold oCanon; have hex:∃ l',([(lentEv 1000 l).1]=[(lentEv 1000 l').1]∧(lentEv 1000 l).2=(lentEv 1000 l').2)∧FewEv l':=⟨l,⟨rfl,rfl⟩,h⟩
   rw [dif_pos hex]; have hsp:=hex.choose_spec; generalize hex.choose=l' at hsp
   have:l=l':=by have h2:=hsp.1.2; unfold lentEv at h2; simp only [zbq,zbl,Ent.mk.injEq,true_and,and_true] at h2; exact ev_inj h2
   subst this; rfl
 | false =>
   refine zft canon_ok ?_; show zOrc zbG [.sl 9 (List.map zaa l)] []=_
   have hz:zOrc zbG [.sl 9 (List.map zaa l)] []=ztE [.sl 9 (List.map zaa l)]:=by unfold zOrc; simp (decide:=true) only [if_false,if_true]
   rw [hz]; unfold ztE; have hex:∃ l',[AV.sl 9 (List.map zaa l)]=[AV.sl 9 (List.map zaa l')]∧FewEv l':=⟨l,rfl,h⟩
   rw [dif_pos hex]; have hsp:=hex.choose_spec; generalize hex.choose=l' at hsp
   have:l=l':=by have h2:=hsp.1; simp only [zbq,AV.sl.injEq,true_and,and_true] at h2; exact ev_inj h2
   subst this; rfl
theorem c_walk {s:zak} {ev:List zab} (h:OkRun s ev):cw zed [.agg (zaj s),.sl 9 (List.map zaa ev)] []=some (zjl (deskL (walkS s ev).1,(walkS s ev).2)):=by
 refine zft (walk_ok ci_ok cb_ok) ?_; show zOrc zed [.agg (zaj s),.sl 9 (List.map zaa ev)] []=_
 have hz:zOrc zed [.agg (zaj s),.sl 9 (List.map zaa ev)] []=oWalk [.agg (zaj s),.sl 9 (List.map zaa ev)]:=by unfold zOrc; simp (decide:=true) only [if_false,if_true]
 rw [hz]; unfold oWalk; have hex:∃ s' ev',[AV.agg (zaj s),AV.sl 9 (List.map zaa ev)]=[.agg (zaj s'),.sl 9 (List.map zaa ev')]∧OkRun s' ev':=⟨s,ev,rfl,h⟩
 rw [dif_pos hex]; have hsp:=hex.choose_spec.choose_spec; generalize hex.choose_spec.choose=ev' at hsp; generalize hex.choose=s' at hsp; obtain ⟨h1,_⟩:=hsp; simp only [zbq,AV.agg.injEq,AV.sl.injEq,true_and,and_true] at h1; obtain ⟨h1,h2⟩:=h1; have e1:s=s':=zlT.inj h1; have e2:ev=ev':=ev_inj h2; subst e1 e2; rfl
theorem zDD (R:Reop) (e:zab):cw zjO [.mp (List.map zax R),.agg (zaa e)] []=some (zas (reopB R e)):=by
 refine zuy R e ?_; have last:zee R e 2=some (zas false):=ziS _ _ _ (by rw [zaW (by omega)]; rfl)
 have one:zee R e 1=some (zas (match mfind ⟨e.Script,-1⟩ R with | some a=>lessS e.Stamp a | none=>false)):=by
  refine ziS _ _ _ ?_; rw [zaC (by omega),cPQ,show [zbi.enc e.Part,zbi.enc (-1)]=List.map zaf [e.Part,-1] from rfl,zbX]; simp only [show (1:Int).toNat=1 from rfl,zwU,zh7,zaS]; rw [ziU,w6Q,show (1:Int)+1=2 from rfl,last]
  cases mfind ⟨e.Script,-1⟩ R with
  | none=>rfl
  | some a=>simp only [zk8,zaZ,zeV]; rw [ztk,za3,zyU]; cases lessS e.Stamp a <;> rfl
 refine ziS _ _ _ ?_; rw [zaC (by omega),cPQ,show [zbi.enc e.Part,zbi.enc (-1)]=List.map zaf [e.Part,-1] from rfl,zbX]; simp only [show (0:Int).toNat=0 from rfl,zh7,zaS]; rw [ziU,w6Q,show (0:Int)+1=1 from rfl,one]; unfold reopB
 cases mfind ⟨e.Script,e.Part⟩ R with
 | none=>rw [zs9]; rfl
 | some a =>
   simp only [zk8,zaZ,zeV]; rw [ztk,za3,zyU]
   cases lessS e.Stamp a with
   | true=>rfl
   | false=>rw [zs9]; rfl
theorem c_counting (d:zat) (R:Reop) (hl:d.marks.length≤1000000):cw zeJ [.fp (zd9 d),.mp (List.map zax R)] []=some (zdv (countS d R)):=by
 refine zrO d R ?_
 have key:∀ (n i:Nat) (m:Counts),i+n=d.marks.length→zcN d R (List.map zcy m) i=some (zdv ((d.marks.drop i).foldl (zfj d R) m)):=by
  intro n
  induction n with
  | zero=>intro i m hi; refine zk1 _ _ _ _ ?_; rw [zaq,zaW (by omega),zmW (by omega)]; rfl
  | succ n ih =>
    intro i m hi; have hlt:i < d.marks.length:=by omega
    refine zk1 _ _ _ _ ?_; rw [zaq,zaC (by omega),cPQ,zbf,zlh,zau hlt,zaS,w6Q,show ((i:Int)+1)=((i+1:Nat):Int) by omega,zhX hlt,zlL]
    have put:msetD zP 181 85 (.agg (zdX.enc ⟨d.marks[i].event.Script,d.marks[i].event.Part⟩)) (.agg (zaa d.marks[i].event)) (List.map zcy m) (fun m4=>zcN d R m4 ((i+1:Nat):Int)) =
      some (zdv ((d.marks.drop (i+1)).foldl (zfj d R) (mput ⟨d.marks[i].event.Script,d.marks[i].event.Part⟩ d.marks[i].event m))):=by
     rw [show (AV.agg (zdX.enc ⟨d.marks[i].event.Script,d.marks[i].event.Part⟩))=.agg (zbI ⟨d.marks[i].event.Script,d.marks[i].event.Part⟩) from rfl,zmG]; exact ih (i+1) _ (by omega)
    unfold zfj
    cases hv:d.marks[i].void with
    | true=>rw [zaZ,if_pos rfl]; exact ih (i+1) m (by omega)
    | false =>
      rw [zaB,iNs,zdR]; by_cases hlv:d.level < 2
      · rw [if_pos hlv,zDD,zaw]
        cases hr:reopB R d.marks[i].event with
        | true=>rw [zaZ,if_pos ⟨hlv,rfl⟩]; exact ih (i+1) m (by omega)
        | false=>rw [zaB,iNs]; exact put
      · rw [if_neg hlv,if_neg (fun h=>hlv h.1)]; exact put
 exact key d.marks.length 0 [] (by omega)
theorem zBn [Dr] (a b:zbb):∃ v:Int,cw zda [.agg (za7 a),.agg (za7 b)] []=some (zbw v)∧decide (v < 0)=zcx a b:=by
 refine ⟨zkt [cmpI a.Script b.Script,cmpI a.Part b.Part,cmpI a.Marker b.Marker],zsC a b ?_,?_⟩
 · rw [c_cmp,za3,c_cmp,za3,c_cmp,za3,c_Or _ (by simp),za3]; rfl
 · unfold cmpI zcx; simp only [zkt]
   repeat' split
   all_goals first | omega | (simp_all; done) | (simp_all; omega) | (simp; omega)
theorem zCT {a b:zbb} (h:zcx a b=true):zcx b a=false:=by
 unfold zcx at h ⊢
 grind
theorem ztw {a b c:zbb} (h1:zcx b a=false) (h2:zcx c b=false):zcx c a=false:=by
 unfold zcx at h1 h2 ⊢
 grind
theorem givenLt_eq {a b:zbb} (h1:zcx a b=false) (h2:zcx b a=false):a.Script=b.Script∧a.Part=b.Part∧a.Marker=b.Marker:=by
 unfold zcx at h1 h2
 grind
theorem swoG:Go.Sort.SWO zcx where
 irrefl:=fun x=>by unfold zcx; simp
 trans:=fun x y z h1 h2=>by unfold zcx at h1 h2 ⊢; grind
 ntrans:=fun x y z h1 h2=>ztw h2 h1
theorem cmpG [Dr] (x y:zbb):∃ v:Int,cw zda [.agg (za7 x),.agg (za7 y)] []=some (.v (.int .i64 v),[])∧decide (v < 0)=zcx x y:=zBn x y
theorem sortG_ok:CallOK zP (single zcu zOrc):=
 zzp (C:=zC) (A:=zA) (ty:=zbg) (nT:=za7) layG rfl (by kernel_rfl) aggG sizeG (by decide) (fun _=>rfl) (by kernel_rfl) swoG (@cmpG drOn) (fun args ms=>by unfold zOrc; simp (decide:=true) only [if_false,if_true])
theorem c_sortG (l:List zbb) (h:l.length < 1000000):cw zcu [.row 1000 8 0 (List.map za7 l).length,.fn zda []] [(1000,⟨8,zbg,List.map za7 l,false⟩)]=some (zds (sortS zcx l)):=by
 rw [zaq]; refine zft sortG_ok ?_; have hz:∀ args ms,zOrc zcu args ms=oSort 8 zbg zda za7 zcx args ms:=fun args ms=>by unfold zOrc; simp (decide:=true) only [if_false,if_true]
 exact (hz _ _).trans (zwH (fun x y h=>zc6.inj h) h)
theorem okRun {s:zak} (hs:zbP s) {l:List zab} (h:FewEv l):OkRun s (canonS l):=
 ⟨hs,fun e he=>(keep_mem ((zgu l).mem_iff.1 he)).1,by have:=(zgu l).length_eq; have:=h.2.1; omega⟩
theorem desk_ok {s:zak} (hs:zbP s):∀ (ev:List zab) {i:Nat} {d:zat},(walkS s ev).1 i=some d→DeskOk s.Monitor ev.length d:=by
 have key:∀ (ev:List zab) (k:Nat) (st:Desks×Reop),(∀ i d,st.1 i=some d→DeskOk s.Monitor k d)→∀ i d,(ev.foldl (evS s) st).1 i=some d→DeskOk s.Monitor (k+ev.length) d:=by
  intro ev
  induction ev with
  | nil=>intro k st h; exact h
  | cons e r ih =>
    intro k st h i d hd; have:=ih (k+1) (evS s st e) ?_ i d hd
    · rw [zgc,show k+(r.length+1)=k+1+r.length by omega]; exact this
    · intro j f hj; have up:∀ x,(∀ g,st.1 x=some g→DeskOk s.Monitor (k+1) g):=fun x g hg=>(h x g hg).up
      unfold evS at hj; split at hj
      · split at hj
        · rename_i d0 hd0; unfold upd at hj; simp only at hj; split at hj
          · injection hj with hj; rw [← hj]; exact (h _ _ hd0).rein hs.monitor _
          · exact up _ _ hj
        · exact up _ _ hj
      · split at hj
        · exact up _ _ hj
        · split at hj
          · split at hj
            · rename_i d0 q hd0 _; split at hj
              · unfold upd at hj; simp only at hj; split at hj
                · injection hj with hj; rw [← hj]; exact (h _ _ hd0).note rfl _ _ _
                · exact up _ _ hj
              · unfold upd at hj; simp only at hj; split at hj
                · injection hj with hj; rw [← hj]; exact (h _ _ hd0).app _
                · exact up _ _ hj
              · exact up _ _ hj
            · exact up _ _ hj
          · exact up _ _ hj
 intro ev i d hd
 have:=key ev 0 (seats s.Markers,[]) (fun i d h=>by
  obtain ⟨m,_,_,rfl⟩:=zCf _ _ _ h
  exact DeskOk.zero hs.monitor _) i d hd
 simpa using this
theorem suspTo_len {s:zak} (hs:zbP s) (ev:List zab):∀ n,(suspTo (walkS s ev).1 n).length≤n*ev.length:=by
 intro n
 induction n with
 | zero=>simp [suspTo]
 | succ n ih =>
   rw [zmH,zeU,zqv]
   cases hd:(walkS s ev).1 n with
   | none=>simp; omega
   | some d=>have:=(desk_ok hs ev hd).susp; simp; omega
theorem foLegs (b:Bool) {s:zak} (hs:zbP s) {l:List zab} (h:FewEv l):FoLegs b s l (walkS s (canonS l)).1 (walkS s (canonS l)).2 where
 cCheck:=znF hs
 cCanon:=c_canon b h
 cWalk:=c_walk (okRun hs h)
 cCount:=fun i d hd=>c_counting d _ (by
  have h1:=(desk_ok hs _ hd).marks; have h2:=(okRun hs h).2.2
  omega)
 cSort:=fun gs hp=>by
  have h1:=zsJ s (canonS l) (walkS s (canonS l)).2 100; have h2:=(zgu l).length_eq; have h3:=h.2.1; have h4:=hp.length_eq; have e1:=c_sortG gs (by omega); have e2:=zqm swoG gs
  have:sortS zcx gs=isort zcx (zcR (walkS s (canonS l)).1 (walkS s (canonS l)).2 100):=
   zmQ (lt:=zcx) ((e2.trans hp).trans (ze8 _).symm) (zrB swoG gs) (znZ (lt:=zcx) (fun _ _ _ h1 h2=>ztw h1 h2) (fun _ _ h=>zCT h) _) (fun a ha b hb h1 h2=>by
    have q:=givenLt_eq h1 h2
    exact given_inj ((e2.trans hp).mem_iff.1 ha) ((e2.trans hp).mem_iff.1 hb) q.1 q.2.1 q.2.2)
  rw [this] at e1; exact e1
 few:=by have h1:=zsJ s (canonS l) (walkS s (canonS l)).2 100; have h2:=(zgu l).length_eq; have h3:=h.2.1; omega
 fewS:=by have h1:=suspTo_len hs (canonS l) 100; have h2:=(zgu l).length_eq; have h3:=h.2.1; omega
theorem zxa (s:zak) (l:List zab):foldS s l=⟨isort zcx (zcR (walkS s (canonS l)).1 (walkS s (canonS l)).2 100),suspTo (walkS s (canonS l)).1 100⟩:=rfl
theorem fold_ok:CallOK zP (single zcF zOrc):=by
 intro f args ms r ms' h; unfold single at h; split at h
 case isFalse=>cases h
 rename_i hf; subst hf
 cases ms with
 | nil =>
   have hz:zOrc zcF args []=oFoldD args:=by unfold zOrc; simp (decide:=true) only [if_false,if_true]
   rw [hz] at h; clear hz; unfold oFoldD at h; split at h
   case isFalse=>cases h
   rename_i hex; have hsp:=hex.choose_spec.choose_spec; generalize hex.choose_spec.choose=l at h hsp; generalize hex.choose=s at h hsp; obtain ⟨rfl,hs,hl⟩:=hsp; injection h with h; injection h with h1 h2; subst h1 h2; refine ⟨zBU,fun w S κ vals hvl hS hv hms hinj=>?_⟩; exact fo_calls (foLegs false hs hl) (ze8 _).length_eq w S κ vals hvl hS hv hms hinj
 | cons a m =>
   have hz:zOrc zcF args (a :: m)=oFold args (a :: m):=by unfold zOrc; simp (decide:=true) only [if_false,if_true]
   rw [hz] at h; clear hz; unfold oFold at h; split at h
   case isFalse=>cases h
   rename_i hex; have hsp:=hex.choose_spec.choose_spec; generalize hex.choose_spec.choose=l at h hsp; generalize hex.choose=s at h hsp; obtain ⟨⟨ha,hm⟩,hs,hl⟩:=hsp; subst ha; rw [hm] at h ⊢; injection h with h; injection h with h1 h2; subst h1 h2; refine ⟨zBU,fun w S κ vals hvl hS hv hms hinj=>?_⟩; exact fo_calls (foLegs true hs hl) (ze8 _).length_eq w S κ vals hvl hS hv hms hinj
theorem c_fold {s:zak} (hs:zbP s) {l:List zab} (h:FewEv l):cw zcF [.agg (zaj s),.row 1001 9 0 (List.map zaa l).length] [(1001,⟨9,zah,List.map zaa l,false⟩)]=some (zo4 ((foldS s l,0),l)):=by
 refine zft fold_ok ?_; show zOrc zcF [.agg (zaj s),(lentEv 1001 l).1] (lentEv 1001 l).2=_
 have hz:zOrc zcF [.agg (zaj s),(lentEv 1001 l).1] (lentEv 1001 l).2=oFold [.agg (zaj s),(lentEv 1001 l).1] (lentEv 1001 l).2:=by unfold zOrc; simp (decide:=true) only [if_false,if_true]; rfl
 rw [hz]; unfold oFold; have hex:∃ s' l',([.agg (zaj s),(lentEv 1001 l).1]=[.agg (zaj s'),(lentEv 1001 l').1]∧(lentEv 1001 l).2=(lentEv 1001 l').2)∧zbP s'∧FewEv l':=⟨s,l,⟨rfl,rfl⟩,hs,h⟩
 rw [dif_pos hex]; have hsp:=hex.choose_spec.choose_spec; generalize hex.choose_spec.choose=l' at hsp; generalize hex.choose=s' at hsp; obtain ⟨⟨h1,h2⟩,_⟩:=hsp
 have e2:l=l':=by unfold lentEv at h2; simp only [zbq,zbl,Ent.mk.injEq,true_and,and_true] at h2; exact ev_inj h2
 simp only [zbq,AV.agg.injEq] at h1; have e1:s=s':=zlT.inj h1.1; subst e1 e2; rfl
theorem c_fold_d {s:zak} (hs:zbP s) {l:List zab} (h:FewEv l):cw zcF [.agg (zaj s),.sl 9 (List.map zaa l)] []=some (zrA (foldS s l,0)):=by
 refine zft fold_ok ?_; show zOrc zcF [.agg (zaj s),.sl 9 (List.map zaa l)] []=_
 have hz:zOrc zcF [.agg (zaj s),.sl 9 (List.map zaa l)] []=oFoldD [.agg (zaj s),.sl 9 (List.map zaa l)]:=by unfold zOrc; simp (decide:=true) only [if_false,if_true]
 rw [hz]; unfold oFoldD; have hex:∃ s' l',[.agg (zaj s),AV.sl 9 (List.map zaa l)]=[.agg (zaj s'),AV.sl 9 (List.map zaa l')]∧zbP s'∧FewEv l':=⟨s,l,rfl,hs,h⟩
 rw [dif_pos hex]; have hsp:=hex.choose_spec.choose_spec; generalize hex.choose_spec.choose=l' at hsp; generalize hex.choose=s' at hsp; obtain ⟨h1,_⟩:=hsp; simp only [zbq,AV.agg.injEq,AV.sl.injEq,true_and,and_true] at h1; have e1:s=s':=zlT.inj h1.1; have e2:l=l':=ev_inj h1.2; subst e1 e2; rfl
set_option maxRecDepth 10000
abbrev idE (e:zab):Int×Int:=(e.Stamp.Source,e.Stamp.Seq)
theorem zeT {κ ν:Type} [DecidableEq κ] (k:κ) (v:ν):∀ l:List (κ×ν),mfind k (mput k v l)=some v
 | []=>by simp [mput,mfind]
 | p :: r=>by
   unfold mput; split
   · simp [mfind]
   · rename_i h; unfold mfind; rw [if_neg h]; exact zeT k v r
theorem zhz {κ ν:Type} [DecidableEq κ] {k j:κ} (v:ν) (h:j≠k):∀ l:List (κ×ν),mfind j (mput k v l)=mfind j l
 | []=>by simp [mput,mfind,Ne.symm h]
 | p :: r=>by
   unfold mput; split
   · rename_i hp; simp only [mfind]; rw [if_neg (Ne.symm h),if_neg (fun e=>h (by rw [← e,hp]))]
   · simp only [mfind]; rw [zhz v h r]
theorem zrt {κ ν:Type} [DecidableEq κ]:∀ {l:List (κ×ν)} {p:κ×ν},(l.map (·.1)).Nodup→p∈l→mfind p.1 l=some p.2
 | [],_,_,h=>by cases h
 | x :: r,p,hn,h=>by
   obtain ⟨n1,n2⟩:=zqy.1 hn; unfold mfind; rcases zbV.1 h with e | h
   · rw [e,if_pos rfl]
   · rw [if_neg (fun e=>n1 (zce.2 ⟨p,h,e.symm⟩))]; exact zrt n2 h
def Said (l:List zab) (i:Nat) (m:zel):Prop:=∀ k,match mfind k m with
 | none=>∀ j e,j < i→l[j]?=some e→eventB e=true→idE e≠k
 | some g=>g.disputed=true↔∃ j e,j < i∧l[j]?=some e∧eventB e=true∧idE e=k∧l[g.first.toNat]?≠some e
theorem zBF {l:List zab} {m:zel} {i:Nat} {e:zab} (h:Said l i m) (he:l[i]?=some e):Said l (i+1) (zeQ l m i e):=by
 intro k; have hk:=h k; unfold zeQ; by_cases hv:eventB e=true
 case neg =>
  rw [if_neg hv]
  cases hf:mfind k m with
  | none =>
    rw [hf] at hk; intro j f hj hjf hvf; by_cases hji:j=i
    · subst hji; rw [he] at hjf; injection hjf with hjf; subst hjf; exact absurd hvf hv
    · exact hk j f (by omega) hjf hvf
  | some g =>
    rw [hf] at hk; refine hk.trans ⟨fun ⟨j,f,h1,h2⟩=>⟨j,f,by omega,h2⟩,fun ⟨j,f,h1,h2,h3,h4⟩=>⟨j,f,?_,h2,h3,h4⟩⟩; by_cases hji:j=i
    · subst hji; rw [he] at h2; injection h2 with h2; subst h2; exact absurd h3 hv
    · omega
 rw [if_pos hv]; by_cases hke:k=idE e
 · subst hke
   cases hf:mfind (idE e) m with
   | none =>
     simp only; rw [show (e.Stamp.Source,e.Stamp.Seq)=idE e from rfl,zeT]; rw [hf] at hk; simp only [zdH,false_iff]
     rintro ⟨j,f,h1,h2,h3,h4,h5⟩
     by_cases hji:j=i
     · subst hji; exact h5 (by rw [show ((j:Int)).toNat=j from rfl]; exact h2)
     · exact hk j f (by omega) h2 h3 h4
   | some g =>
     simp only; rw [show (e.Stamp.Source,e.Stamp.Seq)=idE e from rfl,zeT]; rw [hf] at hk; simp only; by_cases hs:l[g.first.toNat]?=some e
     · rw [if_pos hs]; refine hk.trans ⟨fun ⟨j,f,h1,h2⟩=>⟨j,f,by omega,h2⟩,fun ⟨j,f,h1,h2,h3,h4,h5⟩=>⟨j,f,?_,h2,h3,h4,h5⟩⟩; by_cases hji:j=i
       · subst hji; rw [he] at h2; exact absurd (hs.trans h2) h5
       · omega
     · rw [if_neg hs]; exact ⟨fun _=>⟨i,e,by omega,he,hv,rfl,hs⟩,fun _=>rfl⟩
 · have other:∀ v:zbx,mfind k (mput (e.Stamp.Source,e.Stamp.Seq) v m)=mfind k m:=fun v=>zhz v hke m
   have goal:∀ m':zel,mfind k m'=mfind k m→(match mfind k m' with
     | none=>∀ j e,j < i+1→l[j]?=some e→eventB e=true→idE e≠k
     | some g=>g.disputed=true↔∃ j e,j < i+1∧l[j]?=some e∧eventB e=true∧idE e=k∧l[g.first.toNat]?≠some e):=by
    intro m' hm; rw [hm]
    cases hf:mfind k m with
    | none =>
      rw [hf] at hk; intro j f hj hjf hvf; by_cases hji:j=i
      · subst hji; rw [he] at hjf; injection hjf with hjf; subst hjf; exact fun h=>hke h.symm
      · exact hk j f (by omega) hjf hvf
    | some g =>
      rw [hf] at hk; refine hk.trans ⟨fun ⟨j,f,h1,h2⟩=>⟨j,f,by omega,h2⟩,fun ⟨j,f,h1,h2,h3,h4⟩=>⟨j,f,?_,h2,h3,h4⟩⟩; by_cases hji:j=i
      · subst hji; rw [he] at h2; injection h2 with h2; subst h2; exact absurd h4.1.symm hke
      · omega
   cases mfind (e.Stamp.Source,e.Stamp.Seq) m with
   | none=>exact goal _ (other _)
   | some g=>exact goal _ (other _)
theorem zr5 {l:List zab}:∀ {r:List zab} {i:Nat} {m:zel},Said l i m→l.drop i=r→Said l (i+r.length) (zdO l r i m)
 | [],i,m,h,_=>h
 | e :: r,i,m,h,hd=>by
   unfold zdO
   have he:l[i]?=some e:=by have:=congrArg (·[0]?) hd; simpa using this
   have:=zr5 (zBF h he) (r:=r) (by
    have:=congrArg (List.drop 1) hd
    simpa [List.drop_drop] using this)
   rw [zgc,show i+(r.length+1)=i+1+r.length by omega]; exact this
theorem zEC (l:List zab):Said l l.length (zcj l):=by have:=zr5 (l:=l) (r:=l) (i:=0) (m:=[]) (fun k=>by simp [mfind]) rfl; rw [zb9] at this; exact this
def Stays (l:List zab) (e:zab):Prop:=e∈l∧eventB e=true∧∀ f∈l,eventB f=true→idE f=idE e→f=e
theorem keep_iff {l:List zab} {e:zab}:e∈keepS l↔Stays l e:=by
 have hK:=zrp l; have hS:=zEC l; constructor
 · intro h; obtain ⟨p,hp,hpe⟩:=zoE.1 (show e∈(zcj l).filterMap (pickG l) from h); obtain ⟨e',h1,h2,h3⟩:=hK.2 p hp; unfold pickG at hpe; split at hpe
   · cases hpe
   rename_i hd; rw [h1] at hpe; injection hpe with hpe; subst hpe; refine ⟨zb1 h1,h3,fun f hf hvf hid=>?_⟩; have:=hS p.1; rw [zrt hK.1 hp] at this; simp only at this; obtain ⟨j,hj,hjf⟩:=zfB.1 hf; by_cases hfe:l[p.2.first.toNat]?=some f
   · rw [h1] at hfe; injection hfe with hfe; exact hfe.symm
   · exact absurd (this.2 ⟨j,f,hj,by rw [zau hj,hjf],hvf,by rw [hid]; exact h2,hfe⟩) hd
 · rintro ⟨h1,h2,h3⟩
   obtain ⟨j,hj,hje⟩:=zfB.1 h1; have hje':l[j]?=some e:=by rw [zau hj,hje]
   have:=hS (idE e)
   cases hf:mfind (idE e) (zcj l) with
   | none=>rw [hf] at this; exact absurd rfl (this j e hj hje' h2)
   | some g =>
     rw [hf] at this; simp only at this; have hp:=zlt hf; obtain ⟨e',q1,q2,q3⟩:=hK.2 _ hp; have he':e'=e:=h3 e' (zb1 q1) q3 q2; subst he'; show e'∈(zcj l).filterMap (pickG l); refine zoE.2 ⟨_,hp,?_⟩; unfold pickG; rw [if_neg]
     · exact q1
     · intro hd; obtain ⟨i,f,r1,r2,r3,r4,r5⟩:=this.1 hd; have:=h3 f (zb1 r2) r3 r4; subst this; exact r5 q1
theorem zAF (l:List zab):(keepS l).Nodup:=by refine List.Pairwise.imp ?_ (keep_ids l); intro a b h e; exact h (by rw [e])
theorem canon_same {l r:List zab} (h:∀ e,Stays l e↔Stays r e):canonS l=canonS r:=by have hp:List.Perm (keepS l) (keepS r):=(zoz (zAF l) (zAF r)).2 (fun e=>by rw [keep_iff,keep_iff]; exact h e); exact canon_of ((zgu l).trans hp) (zwh l)
theorem stays_set {l r:List zab} (h:∀ e,e∈l↔e∈r) (e:zab):Stays l e↔Stays r e:=by unfold Stays; rw [h e]; exact and_congr_right fun _=>and_congr_right fun _=>⟨fun q f hf=>q f ((h f).2 hf),fun q f hf=>q f ((h f).1 hf)⟩
structure ApInv (p:List zai) (st:List ((Int×Int)×zai)×List ((Int×Int)×Bool)):Prop where
 nd:(st.1.map (·.1)).Nodup
 val:∀ q∈st.1,q.2∈p∧zeX q.2=true∧q.1=idA q.2
 has:∀ a∈p,zeX a=true→∃ b,mfind (idA a) st.1=some b
 dis:∀ k,(mfind k st.2).getD false=true↔∃ a∈p,∃ b,zeX a=true∧idA a=k∧mfind k st.1=some b∧a≠b
theorem ApInv.step {p:List zai} {st:List ((Int×Int)×zai)×List ((Int×Int)×Bool)} (h:ApInv p st) (a:zai):ApInv (p++[a]) (apStep st a):=by
 unfold apStep; by_cases ha:zeX a=true
 case neg =>
  rw [if_neg ha]; refine ⟨h.nd,fun q hq=>⟨by simp [(h.val q hq).1],(h.val q hq).2⟩,fun x hx hv=>?_,fun k=>(h.dis k).trans ⟨fun ⟨x,hx,r⟩=>⟨x,by simp [hx],r⟩,fun ⟨x,hx,b,hv,r⟩=>?_⟩⟩
  · rcases zb3.1 hx with hx | hx
    · exact h.has x hx hv
    · rw [zcV.1 hx] at hv; exact absurd hv ha
  · rcases zb3.1 hx with hx | hx
    · exact ⟨x,hx,b,hv,r⟩
    · rw [zcV.1 hx] at hv; exact absurd hv ha
 rw [if_pos ha]
 cases hf:mfind (idA a) st.1 with
 | none =>
   have hnew:∀ x∈p,zeX x=true→idA x≠idA a:=fun x hx hv e=>by obtain ⟨b,hb⟩:=h.has x hx hv; rw [e,hf] at hb; cases hb
   have hsame:∀ k b,k≠idA a→(mfind k (mput (idA a) a st.1)=some b↔mfind k st.1=some b):=fun k b hk=>by rw [zhz a hk]
   refine ⟨(zjA h.nd).1,fun q hq=>?_,fun x hx hv=>?_,fun k=>(h.dis k).trans ⟨fun ⟨x,hx,b,hv,he,hm,hne⟩=>?_,fun ⟨x,hx,b,hv,he,hm,hne⟩=>?_⟩⟩
   · rcases zlu hq with rfl | hq
     · exact ⟨by simp,ha,rfl⟩
     · exact ⟨by simp [(h.val q hq).1],(h.val q hq).2⟩
   · rcases zb3.1 hx with hx | hx
     · obtain ⟨b,hb⟩:=h.has x hx hv; exact ⟨b,(hsame _ _ (hnew x hx hv)).2 hb⟩
     · rw [zcV.1 hx]; exact ⟨a,zeT _ _ _⟩
   · exact ⟨x,by simp [hx],b,hv,he,(hsame _ _ (by rw [← he]; exact hnew x hx hv)).2 hm,hne⟩
   · rcases zb3.1 hx with hx | hx
     · exact ⟨x,hx,b,hv,he,(hsame _ _ (by rw [← he]; exact hnew x hx hv)).1 hm,hne⟩
     · rw [zcV.1 hx] at he hne; rw [← he,zeT] at hm; injection hm with hm; exact absurd hm hne
 | some b =>
   have hval:∀ q∈st.1,q.2∈p++[a]∧zeX q.2=true∧q.1=idA q.2:=fun q hq=>⟨by simp [(h.val q hq).1],(h.val q hq).2⟩
   have hhas:∀ x∈p++[a],zeX x=true→∃ b,mfind (idA x) st.1=some b:=fun x hx hv=>by
    rcases zb3.1 hx with hx | hx
    · exact h.has x hx hv
    · rw [zcV.1 hx]; exact ⟨b,hf⟩
   simp only; by_cases hab:a=b
   · rw [if_pos hab]; refine ⟨h.nd,hval,hhas,fun k=>(h.dis k).trans ⟨fun ⟨x,hx,r⟩=>⟨x,by simp [hx],r⟩,fun ⟨x,hx,b',hv,he,hm,hne⟩=>?_⟩⟩; rcases zb3.1 hx with hx | hx
     · exact ⟨x,hx,b',hv,he,hm,hne⟩
     · rw [zcV.1 hx] at he hne; rw [← he,hf] at hm; injection hm with hm; exact absurd (hab.trans hm) hne
   · rw [if_neg hab]; refine ⟨h.nd,hval,hhas,fun k=>?_⟩; by_cases hk:k=idA a
     · subst hk; simp only [zeT,zeV,true_iff]; exact ⟨a,by simp,b,ha,rfl,hf,hab⟩
     · simp only [zhz true hk]; refine (h.dis k).trans ⟨fun ⟨x,hx,r⟩=>⟨x,by simp [hx],r⟩,fun ⟨x,hx,b',hv,he,r⟩=>?_⟩; rcases zb3.1 hx with hx | hx
       · exact ⟨x,hx,b',hv,he,r⟩
       · rw [zcV.1 hx] at he; exact absurd he.symm hk
theorem zzZ:∀ (r p:List zai) (st:List ((Int×Int)×zai)×List ((Int×Int)×Bool)),ApInv p st→ApInv (p++r) (r.foldl apStep st)
 | [],p,st,h=>by simpa using h
 | a :: r,p,st,h=>by have:=zzZ r (p++[a]) (apStep st a) (h.step a); simpa using this
theorem apInv (l:List zai):ApInv l (apMaps l):=by have:=zzZ l [] ([],[]) ⟨by simp,by simp,by simp,by simp [mfind]⟩; rw [zoy] at this; exact this
theorem zuf {l:List zai} {x:zai}:x∈apKeep l↔x∈l∧zeX x=true∧∀ y∈l,zeX y=true→idA y=idA x→y=x:=by
 have h:=apInv l; unfold apKeep; rw [zoE]; constructor
 · rintro ⟨q,hq,he⟩
   split at he
   · cases he
   rename_i hd; injection he with he; subst he; obtain ⟨v1,v2,v3⟩:=h.val q hq; refine ⟨v1,v2,fun y hy hv hi=>?_⟩; apply zq1; intro hne; exact hd ((h.dis q.1).2 ⟨y,hy,q.2,hv,hi.trans v3.symm,zrt h.nd hq,hne⟩)
 · rintro ⟨h1,h2,h3⟩
   obtain ⟨b,hb⟩:=h.has x h1 h2; have hq:=zlt hb; obtain ⟨v1,v2,v3⟩:=h.val _ hq; have hbx:b=x:=h3 b v1 v2 v3.symm; subst hbx; refine ⟨_,hq,?_⟩; rw [if_neg]; intro hd; obtain ⟨y,hy,b',hv,hi,hm,hne⟩:=(h.dis _).1 hd; rw [hb] at hm; injection hm with hm; subst hm; exact hne (h3 y hy hv hi)
theorem zz0 (l:List zai):(apKeep l).Pairwise fun a b=>idA a≠idA b:=by
 have h:=apInv l; unfold apKeep; refine List.Pairwise.filterMap _ (R:=fun p q=>p∈(apMaps l).1∧q∈(apMaps l).1∧p.1≠q.1) (fun p q hpq x hx y hy=>?_) ?_
 · split at hx
   · cases hx
   split at hy
   · cases hy
   injection hx with hx; injection hy with hy; rw [← hx,← hy,← (h.val p hpq.1).2.2,← (h.val q hpq.2.1).2.2]; exact hpq.2.2
 · have hnd:=h.nd; rw [List.Nodup,zoG] at hnd; exact List.Pairwise.imp_of_mem (fun ha hb hr=>⟨ha,hb,hr⟩) hnd
theorem ap_inj {l:List zai} {a b:zai} (ha:a∈apKeep l) (hb:b∈apKeep l) (e:a.Stamp=b.Stamp):a=b:=zwJ (f:=idA) (zz0 l) ha hb (by simp only [idA,e])
theorem zv6 (l:List zai):(isort apLt (apKeep l)).Pairwise (fun a b=>lessS b.Stamp a.Stamp=false):=
 znZ (lt:=apLt) (fun _ _ _ h1 h2=>zmD h1 h2) (fun _ _ h=>zmC h) _
theorem ap_of {l r:List zai} (hp:List.Perm r (apKeep l)) (hs:r.Pairwise (fun a b=>lessS b.Stamp a.Stamp=false)):r=isort apLt (apKeep l):=
 zmQ (lt:=apLt) (hp.trans (ze8 _).symm) hs (zv6 l) (fun _ ha _ hb h1 h2=>ap_inj (hp.mem_iff.1 ha) (hp.mem_iff.1 hb) (lessS_eq h1 h2))
theorem appS_same {l r:List zai} (h:∀ a,a∈l↔a∈r):appS l=appS r:=by
 have nd:∀ l,(apKeep l).Nodup:=fun l=>(zz0 l).imp fun h e=>h (by rw [e])
 have hp:List.Perm (apKeep l) (apKeep r):=(zoz (nd l) (nd r)).2 fun a=>by rw [zuf,zuf]; simp only [h]
 have h1:isort apLt (apKeep l)=isort apLt (apKeep r):=ap_of ((ze8 _).trans hp) (zv6 l); unfold appS; rw [h1,hp.length_eq]
theorem zl3 {κ ν:Type} [DecidableEq κ] {k:κ}:∀ {l:List (κ×ν)},mfind k l=none↔k ∉ l.map (·.1)
 | []=>by simp [mfind]
 | p :: r=>by
   rw [mfind,zdo,zbV,not_or]; by_cases h:p.1=k
   · rw [if_pos h]; simp [h]
   · rw [if_neg h,zl3]; exact ⟨fun q=>⟨fun e=>h e.symm,q⟩,fun q=>q.2⟩
theorem mput_new {κ ν:Type} [DecidableEq κ] {k:κ} {v:ν}:∀ {l:List (κ×ν)},mfind k l=none→mput k v l=l++[(k,v)]
 | [],_=>rfl
 | p :: r,h=>by
   rw [mfind] at h; split at h
   · cases h
   · rename_i hp; rw [mput,if_neg hp,mput_new h,zqS]
theorem zqh {κ ν:Type} [DecidableEq κ] (k j:κ) (v:ν) (l:List (κ×ν)):mfind j (mput k v l)=if j=k then some v else mfind j l:=by
 split
 · rename_i h; rw [h,zeT]
 · rename_i h; rw [zhz v h]
def setM (l:List Int) (m:List (Int×Bool)):List (Int×Bool):=l.foldl (fun m n=>mput n true m) m
theorem zse (k:Int):∀ (l:List Int) (m:List (Int×Bool)),mfind k (setM l m)=if k∈l then some true else mfind k m
 | [],m=>by simp [setM]
 | n :: r,m=>by
   show mfind k (setM r (mput n true m))=_; rw [zse k r,zqh]; by_cases h1:k∈r
   · simp [h1]
   · by_cases h2:k=n <;> simp [h1,h2]
theorem zuZ:∀ (l:List Int) (m:List (Int×Bool)),l.Nodup→(∀ n∈l,mfind n m=none)→setM l m=m++l.map fun n=>(n,true)
 | [],m,_,_=>by simp [setM]
 | n :: r,m,h,hm=>by
   obtain ⟨h1,h2⟩:=zqy.1 h; show setM r (mput n true m)=_
   rw [zuZ r _ h2 (fun j hj=>by
    rw [zqh,if_neg (fun e:j=n=>h1 (e▸hj))]
    exact hm j (by simp [hj])),mput_new (hm n (by simp)),zi9,zdo,zt4]
def addT (n t:Int) (M:List (Int×Int)):List (Int×Int):=match mfind n M with
 | none=>mput n t M
 | some a=>if t < a then mput n t M else M
def addL (l:List Int) (t:Int) (M:List (Int×Int)):List (Int×Int):=l.foldl (fun M n=>addT n t M) M
def schedM (s:zak) (m:zaG) (c:List zai) (M:List (Int×Int)):List (Int×Int):=c.foldl (fun M a=>addL (scopeL s m a) a.Stamp.Time M) M
theorem addT_find {n t:Int} {M:List (Int×Int)} (h:∀ a,mfind n M=some a→a≤t) (k:Int):mfind k (addT n t M)=(mfind k M).or (if k=n then some t else none):=by
 unfold addT
 cases hf:mfind n M with
 | none =>
   simp only; rw [zqh]; by_cases hk:k=n
   · rw [if_pos hk,if_pos hk,hk,hf]; rfl
   · rw [if_neg hk,if_neg hk,Option.or_none]
 | some a =>
   have:=h a hf; simp only; rw [iNQ]; by_cases hk:k=n
   · rw [hk,hf]; rfl
   · rw [if_neg hk,Option.or_none]
theorem zv4 {t:Int} (k:Int):∀ (l:List Int) {M:List (Int×Int)},(∀ k a,mfind k M=some a→a≤t)→mfind k (addL l t M)=(mfind k M).or (if k∈l then some t else none)
 | [],M,_=>by simp [addL]
 | n :: r,M,h=>by
   show mfind k (addL r t (addT n t M))=_; have hh:=addT_find (h n)
   rw [zv4 k r (fun j a hj=>by
    rw [hh] at hj
    cases hm:mfind j M with
    | some b=>rw [hm] at hj; injection hj with hj; rw [← hj]; exact h j b hm
    | none =>
      rw [hm,zgZ] at hj; split at hj
      · injection hj with hj; omega
      · cases hj),hh]
   cases mfind k M with
   | some a=>rfl
   | none =>
     rw [zgZ,zgZ]; by_cases h1:k=n
     · simp [h1]
     · simp [h1]
theorem zrZ:∀ (l:List Int) {t:Int} {M:List (Int×Int)},(M.map (·.1)).Nodup→((addL l t M).map (·.1)).Nodup∧∀ k,k∈(addL l t M).map (·.1)→k∈l∨k∈M.map (·.1)
 | [],t,M,h=>⟨h,fun k hk=>.inr hk⟩
 | n :: r,t,M,h=>by
   have hT:((addT n t M).map (·.1)).Nodup∧∀ k,k∈(addT n t M).map (·.1)→k=n∨k∈M.map (·.1):=by
    unfold addT; split
    · exact zjA h
    · split
      · exact zjA h
      · exact ⟨h,fun k hk=>.inr hk⟩
   obtain ⟨h1,h2⟩:=zrZ r (t:=t) hT.1; refine ⟨h1,fun k hk=>?_⟩; rcases h2 k hk with q | q
   · exact .inl (by simp [q])
   · rcases hT.2 k q with e | q
     · exact .inl (by simp [e])
     · exact .inr q
def AscT (c:List zai):Prop:=c.Pairwise fun a b=>a.Stamp.Time≤b.Stamp.Time
theorem zyb (s:zak) (m:zaG) (k:Int):∀ (c:List zai) {M:List (Int×Int)},AscT c→(∀ k a,mfind k M=some a→∀ x∈c,a≤x.Stamp.Time)→mfind k (schedM s m c M)=(mfind k M).or ((c.find? fun a=>(scopeL s m a).contains k).map (·.Stamp.Time))
 | [],M,_,_=>by simp [schedM]
 | x :: r,M,hc,h=>by
   obtain ⟨h1,h2⟩:=zlb.1 hc; have hx:∀ k a,mfind k M=some a→a≤x.Stamp.Time:=fun k a hk=>h k a hk x (by simp)
   have hL:=fun j=>zv4 j (scopeL s m x) hx
   show mfind k (schedM s m r (addL (scopeL s m x) x.Stamp.Time M))=_
   rw [zyb s m k r h2 (fun j a hj y hy=>by
    rw [hL] at hj
    cases hm:mfind j M with
    | some b=>rw [hm] at hj; injection hj with hj; rw [← hj]; exact h j b hm y (by simp [hy])
    | none =>
      rw [hm,zgZ] at hj; split at hj
      · injection hj with hj; rw [← hj]; exact h1 y hy
      · cases hj),hL]
   cases mfind k M with
   | some a=>rfl
   | none =>
     rw [zgZ,zgZ,List.find?_cons]; by_cases hk:k∈scopeL s m x
     · rw [if_pos hk,show (scopeL s m x).contains k=true by simpa using hk]; rfl
     · rw [if_neg hk,show (scopeL s m x).contains k=false by simpa using hk,zgZ]
theorem zsR (s:zak) (m:zaG):∀ (c:List zai) {M:List (Int×Int)},(M.map (·.1)).Nodup→((schedM s m c M).map (·.1)).Nodup∧∀ k,k∈(schedM s m c M).map (·.1)→(∃ x∈s.Scripts,x.Number=k)∨k∈M.map (·.1)
 | [],M,h=>⟨h,fun k hk=>.inr hk⟩
 | a :: r,M,h=>by
   obtain ⟨h1,h2⟩:=zrZ (scopeL s m a) (t:=a.Stamp.Time) h; obtain ⟨h3,h4⟩:=zsR s m r h1; refine ⟨h3,fun k hk=>?_⟩; rcases h4 k hk with q | q
   · exact .inl q
   · rcases h2 k q with q | q
     · unfold scopeL at q; obtain ⟨x,hx,e⟩:=zce.1 q; exact .inl ⟨x,(zgO.1 hx).1,e⟩
     · exact .inr q
theorem num_inj {s:zak} (hs:zbP s) {x y:zaE} (hx:x∈s.Scripts) (hy:y∈s.Scripts) (e:x.Number=y.Number):x=y:=by obtain ⟨i,hi,rfl⟩:=zfB.1 hx; obtain ⟨j,hj,rfl⟩:=zfB.1 hy; have:=asc_inj hs.scripts.2.2 hi hj e; subst this; rfl
theorem nums_asc {s:zak} (hs:zju s.Scripts):(s.Scripts.map (·.Number)).Pairwise (· < ·):=by rw [zoG,ztV]; intro i j hi hj hij; exact asc_lt hs.2.2 i j hj hij
theorem mem_scopeL {s:zak} (hs:zbP s) (m:zaG) (a:zai) {x:zaE} (hx:x∈s.Scripts):(scopeL s m a).contains x.Number=scopeB s m a x:=by
 unfold scopeL; rw [zw3,aLiAs90,zce]; constructor
 · rintro ⟨y,hy,e⟩
   obtain ⟨h1,h2⟩:=zgO.1 hy
   rwa [← num_inj hs h1 hx e]
 · intro h; exact ⟨x,zgO.2 ⟨hx,h⟩,rfl⟩
theorem sched_time {s:zak} (hs:zbP s) (m:zaG) {c:List zai} (hc:AscT c) {x:zaE} (hx:x∈s.Scripts):mfind x.Number (schedM s m c [])=timeS s m c x:=by rw [zyb s m _ c hc (fun _ _ h=>by simp [mfind] at h)]; unfold timeS; simp only [mem_scopeL hs m _ hx]; rfl
theorem asc_sorted {l:List Int} (h:l.Pairwise (· < ·)):l.mergeSort leI=l:=
 List.mergeSort_of_pairwise (h.imp fun h=>by unfold leI; simp; omega)
theorem sorted_of {l r:List Int} (hl:l.Nodup) (hr:r.Pairwise (· < ·)) (h:∀ k,k∈l↔k∈r):l.mergeSort leI=r:=by have hp:List.Perm l r:=(zoz hl (hr.imp fun h e=>by omega)).2 h; have h1:(l.mergeSort leI).Pairwise (fun a b=>leI a b=true):=List.pairwise_mergeSort (fun a b c=>by unfold leI; simp; omega) (fun a b=>by unfold leI; simp; omega) l; refine List.Perm.eq_of_pairwise (le:=fun a b=>leI a b=true) (fun a b _ _ h1 h2=>?_) h1 (hr.imp fun h=>by unfold leI; simp; omega) ((List.mergeSort_perm l leI).trans hp); unfold leI at h1 h2; simp at h1 h2; omega
theorem zCe {s:zak} (hs:zbP s) (f:zaE→Option Int):((schedL s f).map (·.1)).Pairwise (· < ·):=by unfold schedL; rw [List.map_filterMap]; have h:=nums_asc hs.scripts; rw [zoG] at h; refine List.Pairwise.filterMap _ (fun a b hab x hx y hy=>?_) h; obtain ⟨p,hp,rfl⟩:=zf7.1 hx; obtain ⟨q,hq,rfl⟩:=zf7.1 hy; obtain ⟨t,_,rfl⟩:=zf7.1 hp; obtain ⟨u,_,rfl⟩:=zf7.1 hq; exact hab
theorem zr7 {s:zak} {f:zaE→Option Int} {p:Int×Int}:p∈schedL s f↔∃ x∈s.Scripts,f x=some p.2∧x.Number=p.1:=by
 unfold schedL; rw [zoE]; constructor
 · rintro ⟨x,hx,h⟩
   obtain ⟨t,ht,rfl⟩:=zf7.1 h; exact ⟨x,hx,ht,rfl⟩
 · rintro ⟨x,hx,h1,h2⟩
   exact ⟨x,hx,by rw [h1,zde,h2]⟩
structure Times (s:zak) (f:zaE→Option Int) (M:List (Int×Int)):Prop where
 nd:(M.map (·.1)).Nodup
 num:∀ k∈M.map (·.1),∃ x∈s.Scripts,x.Number=k
 val:∀ x∈s.Scripts,mfind x.Number M=f x
theorem Times.keys {s:zak} {f:zaE→Option Int} {M:List (Int×Int)} (hs:zbP s) (h:Times s f M):(M.map (·.1)).mergeSort leI=(schedL s f).map (·.1):=by
 refine sorted_of h.nd (zCe hs f) (fun k=>?_); constructor
 · intro hk; obtain ⟨x,hx,rfl⟩:=h.num k hk
   cases hf:mfind x.Number M with
   | none=>exact absurd hk (zl3.1 hf)
   | some t=>exact zce.2 ⟨(x.Number,t),zr7.2 ⟨x,hx,by rw [← h.val x hx]; exact hf,rfl⟩,rfl⟩
 · intro hk; obtain ⟨p,hp,rfl⟩:=zce.1 hk; obtain ⟨x,hx,h1,h2⟩:=zr7.1 hp; apply zq1; intro hn; have:=zl3.2 hn; rw [← h2,h.val x hx,h1] at this; cases this
theorem Times.find {s:zak} {f:zaE→Option Int} {M:List (Int×Int)} (h:Times s f M) {p:Int×Int} (hp:p∈schedL s f):mfind p.1 M=some p.2:=by obtain ⟨x,hx,h1,h2⟩:=zr7.1 hp; rw [← h2,h.val x hx,h1]
theorem Times.few {s:zak} {f:zaE→Option Int} {M:List (Int×Int)} (hs:zbP s) (h:Times s f M):M.length≤60:=by have h1:=congrArg List.length (h.keys hs); have h2:(schedL s f).length≤s.Scripts.length:=zmX _ _; have h3:=hs.scripts.1; simp at h1; omega
theorem zyi {s:zak} (hs:zbP s) (m:zaG) {c:List zai} (hc:AscT c):Times s (timeS s m c) (schedM s m c []) where
 nd:=(zsR s m c (M:=[]) (by simp)).1
 num:=fun k hk=>((zsR s m c (M:=[]) (by simp)).2 k hk).resolve_right (by simp)
 val:=fun x hx=>sched_time hs m hc hx
theorem Times.addL {s:zak} {f:zaE→Option Int} {M:List (Int×Int)} (h:Times s f M) {l:List Int} {t:Int} (hl:∀ n∈l,∃ x∈s.Scripts,x.Number=n) (ht:∀ x∈s.Scripts,∀ a,f x=some a→a≤t):Times s (fun x=>(f x).or (if x.Number∈l then some t else none)) (addL l t M) where
 nd:=(zrZ l h.nd).1
 num:=fun k hk=>((zrZ l h.nd).2 k hk).elim (hl k) (h.num k)
 val:=fun x hx=>by
  rw [zv4 _ l (fun k a hk=>?_),h.val x hx]; have hm:k∈M.map (·.1):=zq1 fun q=>by rw [zl3.2 q] at hk; cases hk
  obtain ⟨y,hy,rfl⟩:=h.num k hm; rw [h.val y hy] at hk; exact ht y hy a hk
theorem lessS_time {a b:zbe} (h:lessS b a=false):a.Time≤b.Time:=by
 unfold lessS at h
 grind
theorem appS_asc (l:List zai):AscT (appS l).1:=by
 unfold appS; split
 · exact List.Pairwise.nil
 · exact (zv6 l).imp fun h=>lessS_time h
theorem appS_mem {l:List zai} {x:zai} (h:x∈(appS l).1):x∈apKeep l:=by
 unfold appS at h; split at h
 · simp at h
 · exact (ze8 _).mem_iff.1 h
theorem lastT_ge:∀ (c:List zai) (t:Int),t≤c.foldl (fun t a=>if t < a.Stamp.Time then a.Stamp.Time else t) t∧∀ a∈c,a.Stamp.Time≤c.foldl (fun t a=>if t < a.Stamp.Time then a.Stamp.Time else t) t
 | [],t=>⟨zng _,by simp⟩
 | x :: r,t=>by
   obtain ⟨h1,h2⟩:=lastT_ge r (if t < x.Stamp.Time then x.Stamp.Time else t); refine ⟨Int.le_trans (by split <;> omega) h1,fun a ha=>?_⟩; rcases zbV.1 ha with rfl | ha
   · exact Int.le_trans (by split <;> omega) h1
   · exact h2 a ha
theorem timeS_mem {s:zak} {m:zaG} {c:List zai} {x:zaE} {t:Int} (h:timeS s m c x=some t):∃ a∈c,scopeB s m a x=true∧a.Stamp.Time=t:=by obtain ⟨a,ha,e⟩:=zf7.1 h; exact ⟨a,zqz ha,zqA (p:=fun a=>scopeB s m a x) ha,e⟩
set_option maxRecDepth 100000
theorem ap0 (l:List zai):tReg zbc zT 0 ⟨[(0,AV.sl 6 (List.map zag l))],[]⟩=(some ⟨[(0,AV.sl 6 (List.map zag l))],[]⟩):=by kernel_rfl
theorem ap1 (l:List zai):tReg zbc zT 1 ⟨[(0,AV.sl 6 (List.map zag l))],[]⟩=(some ⟨[(0,AV.sl 6 (List.map zag l)),(4,AV.map 14)],[(14,⟨0,zba,[],false⟩)]⟩):=by kernel_rfl
theorem ap2 (l:List zai):tReg zbc zT 2 ⟨[(0,AV.sl 6 (List.map zag l)),(4,AV.map 14)],[(14,⟨0,zba,[],false⟩)]⟩=(some ⟨[(0,AV.sl 6 (List.map zag l)),(4,AV.map 14),(5,AV.map 15)],[(14,⟨0,zba,[],false⟩),(15,⟨0,zbn,[],false⟩)]⟩):=by kernel_rfl
theorem ap3 (l:List zai):tReg zbc zT 3 ⟨[(0,AV.sl 6 (List.map zag l)),(4,AV.map 14),(5,AV.map 15)],[(14,⟨0,zba,[],false⟩),(15,⟨0,zbn,[],false⟩)]⟩=(some ⟨[(4,AV.map 14),(5,AV.map 15),(16,AV.sl 6 (List.map zag l)),(17,I ((↑(List.map zag l).length:Int))),(18,I 0)],[(14,⟨0,zba,[],false⟩),(15,⟨0,zbn,[],false⟩)]⟩):=by kernel_rfl
theorem ap4 (l:List zai) (m1:List ((Int×Int)×zai)) (m2:List ((Int×Int)×Bool)) (n:Int) (i:Int):tReg zbc zT 4 ⟨[(4,AV.map 14),(5,AV.map 15),(16,AV.sl 6 (List.map zag l)),(17,I n),(18,I i)],[(14,⟨0,zba,List.map zbd m1,false⟩),(15,⟨0,zbn,List.map zbj m2,false⟩)]⟩=(some ⟨[(4,AV.map 14),(5,AV.map 15),(16,AV.sl 6 (List.map zag l)),(17,I n),(18,I i),(19,B (decide (i < n)))],[(14,⟨0,zba,List.map zbd m1,false⟩),(15,⟨0,zbn,List.map zbj m2,false⟩)]⟩):=by kernel_rfl
theorem ap5 (l:List zai) (m1:List ((Int×Int)×zai)) (m2:List ((Int×Int)×Bool)) (n:Int) (i:Int):tReg zbc zT 5 ⟨[(4,AV.map 14),(5,AV.map 15),(16,AV.sl 6 (List.map zag l)),(17,I n),(18,I i)],[(14,⟨0,zba,List.map zbd m1,false⟩),(15,⟨0,zbn,List.map zbj m2,false⟩)]⟩=(chk ((0:Int)≤i)<|
 elemD zbE (List.map zag l) i.toNat fun (c0:zai) =>
 some ⟨[(4,AV.map 14),(5,AV.map 15),(7,AV.loc 7 6 0 0),(16,AV.sl 6 (List.map zag l)),(17,I n),(18,I i)],[(7,⟨6,zaA,[zag c0],true⟩),(14,⟨0,zba,List.map zbd m1,false⟩),(15,⟨0,zbn,List.map zbj m2,false⟩)]⟩):=by kernel_rfl
theorem ap6 (l:List zai) (m1:List ((Int×Int)×zai)) (m2:List ((Int×Int)×Bool)) (n:Int) (i:Int) (x:zai):tReg zbc zT 6 ⟨[(4,AV.map 14),(5,AV.map 15),(7,AV.loc 7 6 0 0),(16,AV.sl 6 (List.map zag l)),(17,I n),(18,I i)],[(7,⟨6,zaA,[zag x],true⟩),(14,⟨0,zba,List.map zbd m1,false⟩),(15,⟨0,zbn,List.map zbj m2,false⟩)]⟩=(callD zad (cw zjf [AV.agg (zag x)] []) fun (r0:Bool)=>some ⟨[(4,AV.map 14),(5,AV.map 15),(7,AV.loc 7 6 0 0),(16,AV.sl 6 (List.map zag l)),(17,I n),(18,I i),(24,B (!r0))],[(7,⟨6,zaA,[zag x],true⟩),(14,⟨0,zba,List.map zbd m1,false⟩),(15,⟨0,zbn,List.map zbj m2,false⟩)]⟩):=by kernel_rfl
theorem ap7 (l:List zai) (m1:List ((Int×Int)×zai)) (m2:List ((Int×Int)×Bool)) (n:Int) (i:Int) (x:zai):tReg zbc zT 7 ⟨[(4,AV.map 14),(5,AV.map 15),(7,AV.loc 7 6 0 0),(16,AV.sl 6 (List.map zag l)),(17,I n),(18,I i)],[(7,⟨6,zaA,[zag x],true⟩),(14,⟨0,zba,List.map zbd m1,false⟩),(15,⟨0,zbn,List.map zbj m2,false⟩)]⟩=(some ⟨[(4,AV.map 14),(5,AV.map 15),(7,AV.loc 7 6 0 0),(8,AV.loc 8 2 0 0),(16,AV.sl 6 (List.map zag l)),(17,I n),(18,I i)],[(7,⟨6,zaA,[zag x],true⟩),(8,⟨2,zex,[zbB (x.Stamp.Source,x.Stamp.Seq)],true⟩),(14,⟨0,zba,List.map zbd m1,false⟩),(15,⟨0,zbn,List.map zbj m2,false⟩)]⟩):=by kernel_rfl
theorem ap8 (l:List zai) (m1:List ((Int×Int)×zai)) (m2:List ((Int×Int)×Bool)) (n:Int) (i:Int) (x:zai) (k:Int×Int):tReg zbc zT 8 ⟨[(4,AV.map 14),(5,AV.map 15),(7,AV.loc 7 6 0 0),(8,AV.loc 8 2 0 0),(16,AV.sl 6 (List.map zag l)),(17,I n),(18,I i)],[(7,⟨6,zaA,[zag x],true⟩),(8,⟨2,zex,[zbB k],true⟩),(14,⟨0,zba,List.map zbd m1,false⟩),(15,⟨0,zbn,List.map zbj m2,false⟩)]⟩=(mapD zP 137 true zbE (AV.agg (zag (⟨⟨0,0,0⟩,0,0,0⟩))) (List.map zbd m1) (AV.agg (zbB k)) fun (c0:zai) (b1:Bool)=>some ⟨[(4,AV.map 14),(5,AV.map 15),(7,AV.loc 7 6 0 0),(8,AV.loc 8 2 0 0),(9,AV.loc 9 6 0 0),(10,B b1),(16,AV.sl 6 (List.map zag l)),(17,I n),(18,I i)],[(7,⟨6,zaA,[zag x],true⟩),(8,⟨2,zex,[zbB k],true⟩),(9,⟨6,zaA,[zag c0],true⟩),(14,⟨0,zba,List.map zbd m1,false⟩),(15,⟨0,zbn,List.map zbj m2,false⟩)]⟩):=by kernel_rfl
theorem ap9 (l:List zai) (m1:List ((Int×Int)×zai)) (m2:List ((Int×Int)×Bool)) (n:Int) (i:Int) (x:zai) (k:Int×Int) (z:zai) (b:Bool):tReg zbc zT 9 ⟨[(4,AV.map 14),(5,AV.map 15),(7,AV.loc 7 6 0 0),(8,AV.loc 8 2 0 0),(9,AV.loc 9 6 0 0),(10,B b),(16,AV.sl 6 (List.map zag l)),(17,I n),(18,I i)],[(7,⟨6,zaA,[zag x],true⟩),(8,⟨2,zex,[zbB k],true⟩),(9,⟨6,zaA,[zag z],true⟩),(14,⟨0,zba,List.map zbd m1,false⟩),(15,⟨0,zbn,List.map zbj m2,false⟩)]⟩=(some ⟨[(4,AV.map 14),(5,AV.map 15),(7,AV.loc 7 6 0 0),(8,AV.loc 8 2 0 0),(9,AV.loc 9 6 0 0),(16,AV.sl 6 (List.map zag l)),(17,I n),(18,I i),(39,B (!b))],[(7,⟨6,zaA,[zag x],true⟩),(8,⟨2,zex,[zbB k],true⟩),(9,⟨6,zaA,[zag z],true⟩),(14,⟨0,zba,List.map zbd m1,false⟩),(15,⟨0,zbn,List.map zbj m2,false⟩)]⟩):=by kernel_rfl
theorem ap10 (l:List zai) (m1:List ((Int×Int)×zai)) (m2:List ((Int×Int)×Bool)) (n:Int) (i:Int) (x:zai) (k:Int×Int):tReg zbc zT 10 ⟨[(4,AV.map 14),(5,AV.map 15),(7,AV.loc 7 6 0 0),(8,AV.loc 8 2 0 0),(16,AV.sl 6 (List.map zag l)),(17,I n),(18,I i)],[(7,⟨6,zaA,[zag x],true⟩),(8,⟨2,zex,[zbB k],true⟩),(14,⟨0,zba,List.map zbd m1,false⟩),(15,⟨0,zbn,List.map zbj m2,false⟩)]⟩=(msetD zP 137 62 (AV.agg (zbB k)) (AV.agg (zag x)) (List.map zbd m1) fun (m0:List (List AV))=>some ⟨[(4,AV.map 14),(5,AV.map 15),(16,AV.sl 6 (List.map zag l)),(17,I n),(18,I i)],[(14,⟨0,zba,m0,false⟩),(15,⟨0,zbn,List.map zbj m2,false⟩)]⟩):=by kernel_rfl
theorem ap11 (l:List zai) (m1:List ((Int×Int)×zai)) (m2:List ((Int×Int)×Bool)) (n:Int) (i:Int) (x:zai) (k:Int×Int) (z:zai):tReg zbc zT 11 ⟨[(4,AV.map 14),(5,AV.map 15),(7,AV.loc 7 6 0 0),(8,AV.loc 8 2 0 0),(9,AV.loc 9 6 0 0),(16,AV.sl 6 (List.map zag l)),(17,I n),(18,I i)],[(7,⟨6,zaA,[zag x],true⟩),(8,⟨2,zex,[zbB k],true⟩),(9,⟨6,zaA,[zag z],true⟩),(14,⟨0,zba,List.map zbd m1,false⟩),(15,⟨0,zbn,List.map zbj m2,false⟩)]⟩=(some ⟨[(4,AV.map 14),(5,AV.map 15),(8,AV.loc 8 2 0 0),(16,AV.sl 6 (List.map zag l)),(17,I n),(18,I i),(45,B (!(x.Stamp.Time == z.Stamp.Time && (x.Stamp.Source == z.Stamp.Source && (x.Stamp.Seq == z.Stamp.Seq && true)) && (x.Kind == z.Kind && (x.Candidate == z.Candidate && (x.Marker == z.Marker && true))))))],[(8,⟨2,zex,[zbB k],true⟩),(14,⟨0,zba,List.map zbd m1,false⟩),(15,⟨0,zbn,List.map zbj m2,false⟩)]⟩):=by kernel_rfl
theorem ap12 (l:List zai) (m1:List ((Int×Int)×zai)) (m2:List ((Int×Int)×Bool)) (n:Int) (i:Int) (x:zai) (k:Int×Int):tReg zbc zT 12 ⟨[(4,AV.map 14),(5,AV.map 15),(8,AV.loc 8 2 0 0),(16,AV.sl 6 (List.map zag l)),(17,I n),(18,I i)],[(8,⟨2,zex,[zbB k],true⟩),(14,⟨0,zba,List.map zbd m1,false⟩),(15,⟨0,zbn,List.map zbj m2,false⟩)]⟩=(msetD zP 137 4 (AV.agg (zbB k)) (B true) (List.map zbj m2) fun (m0:List (List AV))=>some ⟨[(4,AV.map 14),(5,AV.map 15),(16,AV.sl 6 (List.map zag l)),(17,I n),(18,I i)],[(14,⟨0,zba,List.map zbd m1,false⟩),(15,⟨0,zbn,m0,false⟩)]⟩):=by kernel_rfl
theorem ap13 (l:List zai) (m1:List ((Int×Int)×zai)) (m2:List ((Int×Int)×Bool)) (n:Int) (i:Int):tReg zbc zT 13 ⟨[(4,AV.map 14),(5,AV.map 15),(16,AV.sl 6 (List.map zag l)),(17,I n),(18,I i)],[(14,⟨0,zba,List.map zbd m1,false⟩),(15,⟨0,zbn,List.map zbj m2,false⟩)]⟩=(some ⟨[(4,AV.map 14),(5,AV.map 15),(16,AV.sl 6 (List.map zag l)),(17,I n),(18,I (w64 (i+1)))],[(14,⟨0,zba,List.map zbd m1,false⟩),(15,⟨0,zbn,List.map zbj m2,false⟩)]⟩):=by kernel_rfl
theorem ap14 (m1:List ((Int×Int)×zai)) (m2:List ((Int×Int)×Bool)):tReg zbc zT 14 ⟨[(4,AV.map 14),(5,AV.map 15)],[(14,⟨0,zba,List.map zbd m1,false⟩),(15,⟨0,zbn,List.map zbj m2,false⟩)]⟩=(some ⟨[(4,AV.map 14),(5,AV.map 15),(11,AV.row 11 6 0 0)],[(11,⟨6,zaA,[],false⟩),(14,⟨0,zba,List.map zbd m1,false⟩),(15,⟨0,zbn,List.map zbj m2,false⟩)]⟩):=by kernel_rfl
theorem ap15 (m1:List ((Int×Int)×zai)) (m2:List ((Int×Int)×Bool)):tSeg zbc zT 15 0 1 ⟨[(4,AV.map 14),(5,AV.map 15),(11,AV.row 11 6 0 0)],[(11,⟨6,zaA,[],false⟩),(14,⟨0,zba,List.map zbd m1,false⟩),(15,⟨0,zbn,List.map zbj m2,false⟩)]⟩=(some ⟨[(49,AV.map 14),(4,AV.map 14),(5,AV.map 15),(11,AV.row 11 6 0 0)],[(11,⟨6,zaA,[],false⟩),(14,⟨0,zba,List.map zbd m1,false⟩),(15,⟨0,zbn,List.map zbj m2,false⟩)]⟩):=by kernel_rfl
theorem ap17 (c:List zai) (m2:List ((Int×Int)×Bool)) (p:Addr) (k:Int×Int) (x:zai):tSeg zbc zT 17 1 6 ⟨[(5,AV.map 15),(11,AV.row 11 6 0 (List.length (List.map zag c))),(50,AV.v (.pointer (some p))),(53,AV.tup [AV.agg [I k.fst,I k.snd],AV.agg [I x.Stamp.Time,I x.Stamp.Source,I x.Stamp.Seq,I x.Kind,I x.Candidate,I x.Marker]])],[(11,⟨6,zaA,List.map zag c,false⟩),(15,⟨0,zbn,List.map zbj m2,false⟩)]⟩=(some ⟨[(13,AV.loc 13 6 0 0),(12,AV.loc 12 2 0 0),(55,AV.agg [I x.Stamp.Time,I x.Stamp.Source,I x.Stamp.Seq,I x.Kind,I x.Candidate,I x.Marker]),(54,AV.agg [I k.fst,I k.snd]),(5,AV.map 15),(11,AV.row 11 6 0 (List.length (List.map zag c))),(50,AV.v (.pointer (some p))),(53,AV.tup [AV.agg [I k.fst,I k.snd],AV.agg [I x.Stamp.Time,I x.Stamp.Source,I x.Stamp.Seq,I x.Kind,I x.Candidate,I x.Marker]])],[(13,⟨6,zaA,[zag x],true⟩),(12,⟨2,zex,[zbB k],true⟩),(11,⟨6,zaA,List.map zag c,false⟩),(15,⟨0,zbn,List.map zbj m2,false⟩)]⟩):=by kernel_rfl
theorem ap18 (c:List zai) (m2:List ((Int×Int)×Bool)) (p:Addr) (k:Int×Int) (x:zai):tReg zbc zT 18 ⟨[(5,AV.map 15),(11,AV.row 11 6 0 (List.length (List.map zag c))),(12,AV.loc 12 2 0 0),(13,AV.loc 13 6 0 0),(50,AV.v (.pointer (some p)))],[(11,⟨6,zaA,List.map zag c,false⟩),(12,⟨2,zex,[zbB k],true⟩),(13,⟨6,zaA,[zag x],true⟩),(15,⟨0,zbn,List.map zbj m2,false⟩)]⟩=(mapD zP 137 false dBool (B false) (List.map zbj m2) (AV.agg (zbB k)) fun (c0:Bool) (b1:Bool)=>some ⟨[(5,AV.map 15),(11,AV.row 11 6 0 (List.length (List.map zag c))),(13,AV.loc 13 6 0 0),(50,AV.v (.pointer (some p))),(59,B (!c0))],[(11,⟨6,zaA,List.map zag c,false⟩),(13,⟨6,zaA,[zag x],true⟩),(15,⟨0,zbn,List.map zbj m2,false⟩)]⟩):=by kernel_rfl
theorem ap19 (c:List zai) (m2:List ((Int×Int)×Bool)) (p:Addr) (k:Int×Int) (x:zai):tReg zbc zT 19 ⟨[(5,AV.map 15),(11,AV.row 11 6 0 (List.length (List.map zag c))),(13,AV.loc 13 6 0 0),(50,AV.v (.pointer (some p)))],[(11,⟨6,zaA,List.map zag c,false⟩),(13,⟨6,zaA,[zag x],true⟩),(15,⟨0,zbn,List.map zbj m2,false⟩)]⟩=(chk ((List.map zag c).length=(List.map zag c).length)<|
 chk (((List.map zag c).length+1)*(48+1)≤1099511627776)<|
 chk ((List.map zag c++[[AV.v (Go.Value.int IntKind.i64 x.Stamp.Time),AV.v (Go.Value.int IntKind.i64 x.Stamp.Source),AV.v (Go.Value.int IntKind.i64 x.Stamp.Seq),AV.v (Go.Value.int IntKind.i64 x.Kind),AV.v (Go.Value.int IntKind.i64 x.Candidate),AV.v (Go.Value.int IntKind.i64 x.Marker)]]).length=(List.map zag c++[[AV.v (Go.Value.int IntKind.i64 x.Stamp.Time),AV.v (Go.Value.int IntKind.i64 x.Stamp.Source),AV.v (Go.Value.int IntKind.i64 x.Stamp.Seq),AV.v (Go.Value.int IntKind.i64 x.Kind),AV.v (Go.Value.int IntKind.i64 x.Candidate),AV.v (Go.Value.int IntKind.i64 x.Marker)]]).length)<|
 some ⟨[(5,AV.map 15),(11,AV.row 11 6 0 (List.length ((List.map zag c)++([[I x.Stamp.Time,I x.Stamp.Source,I x.Stamp.Seq,I x.Kind,I x.Candidate,I x.Marker]])))),(50,AV.v (.pointer (some p)))],[(11,⟨6,zaA,(List.map zag c)++([zag x]),false⟩),(15,⟨0,zbn,List.map zbj m2,false⟩)]⟩):=by kernel_rfl
theorem ap20 (c:List zai):tReg zbc zT 20 ⟨[(11,AV.row 11 6 0 (List.length (List.map zag c)))],[(11,⟨6,zaA,List.map zag c,false⟩)]⟩=(some ⟨[(11,AV.row 11 6 0 (List.length (List.map zag c))),(66,B (decide (24 < (↑(List.map zag c).length:Int))))],[(11,⟨6,zaA,List.map zag c,false⟩)]⟩):=by kernel_rfl
theorem ap21 (u:Unit):tReg zbc zT 21 ⟨[],[]⟩=(some ⟨[(2,AV.v (.slice none 0 0)),(3,I 3)],[]⟩):=by kernel_rfl
theorem ap22 (c:List zai):tReg zbc zT 22 ⟨[(11,AV.row 11 6 0 (List.length (List.map zag c)))],[(11,⟨6,zaA,List.map zag c,false⟩)]⟩=(callD zdj (cw zci [AV.row 1000 6 0 (List.length (List.map zag c)),AV.fn zd6 []] [(1000,⟨6,zaA,List.map zag c,false⟩)]) fun (r0:(List zai))=>some ⟨[(11,AV.row 11 6 0 ((List.map zag c).length))],[(11,⟨6,zaA,List.map zag r0,false⟩)]⟩):=by kernel_rfl
theorem ap23 (c:List zai):tReg zbc zT 23 ⟨[(11,AV.row 11 6 0 (List.length (List.map zag c)))],[(11,⟨6,zaA,List.map zag c,false⟩)]⟩=(some ⟨[(2,AV.row 11 6 0 (List.length (List.map zag c))),(3,I 0)],[(11,⟨6,zaA,List.map zag c,false⟩)]⟩):=by kernel_rfl
set_option maxRecDepth 20000
theorem zyS (a:zai):cw zjf [.agg (zag a)] []=some (zas (zeX a)):=by
 refine zBw a ?_; rw [zra,zaw]; unfold zeX
 cases stampB a.Stamp with
 | false=>rfl
 | true =>
   simp only [zb6,zaB,zfi,decide_eq_true_eq,beq_iff_eq,zhn]
   repeat' split
   all_goals refine congrArg (fun b=>some (zas b)) ?_
   all_goals (rw [zw3]; simp; try grind)
theorem swoA:Go.Sort.SWO apLt where
 irrefl:=fun x=>by unfold apLt lessS; simp
 trans:=fun x y z h1 h2=>by unfold apLt lessS at h1 h2 ⊢; grind
 ntrans:=fun x y z h1 h2=>zmD h2 h1
theorem cmpA [Dr] (x y:zai):∃ v:Int,cw zd6 [.agg (zag x),.agg (zag y)] []=some (.v (.int .i64 v),[])∧decide (v < 0)=apLt x y:=
 ⟨_,zut x y (by rw [ztk,za3]),cmpS_neg _ _⟩
theorem sortA_ok:CallOK zP (single zci zOrc):=
 zzp (C:=zC) (A:=zA) (ty:=zaA) (nT:=zag) (lt:=apLt) layA rfl (by kernel_rfl) aggA sizeA (by decide) (fun _=>rfl) (by kernel_rfl) swoA (@cmpA drOn) (fun args ms=>by unfold zOrc; simp (decide:=true) only [if_false,if_true])
theorem c_sortA (l:List zai) (h:l.length < 1000000):cw zci [.row 1000 6 0 (List.map zag l).length,.fn zd6 []] [(1000,⟨6,zaA,List.map zag l,false⟩)]=some (zdi (sortS apLt l)):=by
 rw [zaq]; refine zft sortA_ok ?_; have hz:∀ args ms,zOrc zci args ms=oSort 6 zaA zd6 zag apLt args ms:=fun args ms=>by unfold zOrc; simp (decide:=true) only [if_false,if_true]
 exact (hz _ _).trans (zwH (fun x y h=>zbE.inj h) h)
set_option maxRecDepth 100000
def acC:Code:=(zbc.fn.body).getD .skip
def acO (j:Nat):Array Oper:=opsAt j acC
def acD (j:Nat):Bool:=zoN j acC
theorem ac_hb:zbc.fn.body=some acC:=by kernel_rfl
theorem ac_shape:acC=(.seq (.region 0 (acO 0) (acD 0)) (.seq (.region 1 (acO 1) (acD 1)) (.seq (.region 2 (acO 2) (acD 2)) (.seq (.seq (.region 3 (acO 3) (acD 3)) (.block 0 (.loop (.seq (.region 4 (acO 4) (acD 4)) (.seq (.cond (.tmp 19) .skip (.exit 0)) (.seq (.block 1 (.seq (.region 5 (acO 5) (acD 5)) (.seq (.seq (.region 6 (acO 6) (acD 6)) (.cond (.tmp 24) (.exit 1) .skip)) (.seq (.region 7 (acO 7) (acD 7)) (.seq (.region 8 (acO 8) (acD 8)) (.seq (.region 9 (acO 9) (acD 9)) (.cond (.tmp 39) (.region 10 (acO 10) (acD 10)) (.seq (.region 11 (acO 11) (acD 11)) (.cond (.tmp 45) (.region 12 (acO 12) (acD 12)) .skip))))))))) (.region 13 (acO 13) (acD 13)))))))) (.seq (.region 14 (acO 14) (acD 14)) (.seq (.seq (.region 15 (acO 15) false) (.block 2 (.loop (.seq (.region 16 (acO 16) false) (.seq (.cond (.tmp 52) .skip (.exit 2)) (.block 3 (.seq (.region 17 (acO 17) false) (.seq (.region 18 (acO 18) (acD 18)) (.cond (.tmp 59) (.region 19 (acO 19) (acD 19)) .skip))))))))) (.seq (.seq (.region 20 (acO 20) (acD 20)) (.cond (.tmp 66) (.seq (.region 21 (acO 21) (acD 21)) .ret) .skip)) (.seq (.region 22 (acO 22) (acD 22)) (.seq (.region 23 (acO 23) (acD 23)) .ret))))))))):=by kernel_rfl
theorem ac_r0:regOf 0 acC=some (.region 0 (acO 0) (acD 0)):=by kernel_rfl
theorem ac_r1:regOf 1 acC=some (.region 1 (acO 1) (acD 1)):=by kernel_rfl
theorem ac_r2:regOf 2 acC=some (.region 2 (acO 2) (acD 2)):=by kernel_rfl
theorem ac_r3:regOf 3 acC=some (.region 3 (acO 3) (acD 3)):=by kernel_rfl
theorem ac_r4:regOf 4 acC=some (.region 4 (acO 4) (acD 4)):=by kernel_rfl
theorem ac_r5:regOf 5 acC=some (.region 5 (acO 5) (acD 5)):=by kernel_rfl
theorem ac_r6:regOf 6 acC=some (.region 6 (acO 6) (acD 6)):=by kernel_rfl
theorem ac_r7:regOf 7 acC=some (.region 7 (acO 7) (acD 7)):=by kernel_rfl
theorem ac_r8:regOf 8 acC=some (.region 8 (acO 8) (acD 8)):=by kernel_rfl
theorem ac_r9:regOf 9 acC=some (.region 9 (acO 9) (acD 9)):=by kernel_rfl
theorem ac_r10:regOf 10 acC=some (.region 10 (acO 10) (acD 10)):=by kernel_rfl
theorem ac_r11:regOf 11 acC=some (.region 11 (acO 11) (acD 11)):=by kernel_rfl
theorem ac_r12:regOf 12 acC=some (.region 12 (acO 12) (acD 12)):=by kernel_rfl
theorem ac_r13:regOf 13 acC=some (.region 13 (acO 13) (acD 13)):=by kernel_rfl
theorem ac_r14:regOf 14 acC=some (.region 14 (acO 14) (acD 14)):=by kernel_rfl
theorem ac_r15:regOf 15 acC=some (.region 15 (acO 15) false):=by kernel_rfl
theorem ac_r17:regOf 17 acC=some (.region 17 (acO 17) false):=by kernel_rfl
theorem ac_r18:regOf 18 acC=some (.region 18 (acO 18) (acD 18)):=by kernel_rfl
theorem ac_r19:regOf 19 acC=some (.region 19 (acO 19) (acD 19)):=by kernel_rfl
theorem ac_r20:regOf 20 acC=some (.region 20 (acO 20) (acD 20)):=by kernel_rfl
theorem ac_r21:regOf 21 acC=some (.region 21 (acO 21) (acD 21)):=by kernel_rfl
theorem ac_r22:regOf 22 acC=some (.region 22 (acO 22) (acD 22)):=by kernel_rfl
theorem ac_r23:regOf 23 acC=some (.region 23 (acO 23) (acD 23)):=by kernel_rfl
theorem ac_n:zbc.fn.ntmps≤1000:=by decide
theorem ac_enters:enters zbc.P zcl=true:=by kernel_rfl
noncomputable section
abbrev NA:Nat:=zbc.fn.ntmps
abbrev PA:Program:=zbc.P
abbrev bE3 (m1:List ((Int×Int)×zai)):Nat×Ent:=(14,⟨0,zba,List.map zbd m1,false⟩)
abbrev bD3 (m2:List ((Int×Int)×Bool)):Nat×Ent:=(15,⟨0,zbn,List.map zbj m2,false⟩)
abbrev stL3 (l:List zai) (i:Int) (m:List ((Int×Int)×zai)×List ((Int×Int)×Bool)):St:=
 ⟨[(4,.map 14),(5,.map 15),(16,.sl 6 (List.map zag l)),(17,I (List.map zag l).length),(18,I i)],[bE3 m.1,bD3 m.2]⟩
abbrev stM3 (m:List ((Int×Int)×zai)×List ((Int×Int)×Bool)):St:=⟨[(4,.map 14),(5,.map 15)],[bE3 m.1,bD3 m.2]⟩
section
variable {w0:World} {S0:Nat→Prop} {κ0:Kap} {K:Nat→Prop} {a:Act} {w:World}
theorem acStep {j:Nat} {st st':St} {X:Sat2} (hX:Stable X) (hr:regOf j acC=some (.region j (acO j) (acD j))) (ht:tReg zbc zT j st=some st')
  (h:NowP w0 S0 κ0 K NA X st a w) {Q:Exit→Act→World→Prop} (hQ:∀ a' w',NowP w0 S0 κ0 K NA X st' a' w'→Q .normal a' w'):(Code.region j (acO j) (acD j)).wp PA Q a w:=stepP hX ac_hb ac_n hr ht h hQ
theorem ap_ne (x z:zai):(!(x.Stamp.Time == z.Stamp.Time && (x.Stamp.Source == z.Stamp.Source && (x.Stamp.Seq == z.Stamp.Seq && true)) && (x.Kind == z.Kind && (x.Candidate == z.Candidate && (x.Marker == z.Marker && true)))))=!decide (x=z):=by congr 1; rw [zw3]; obtain ⟨⟨a,b,c⟩,d,e,f⟩:=x; obtain ⟨⟨a',b',c'⟩,d',e',f'⟩:=z; simp only [zcw,beq_iff_eq,and_true,decide_eq_true_eq,zai.mk.injEq,zbe.mk.injEq]
theorem ac_maps {l:List zai} (hl:l.length < 1000000) (h:NowP w0 S0 κ0 K NA X0 ⟨[(0,.sl 6 (List.map zag l)),(4,.map 14),(5,.map 15)],[bE3 [],bD3 []]⟩ a w) {Q:Exit→Act→World→Prop}
  (hQ:∀ a' w',NowP w0 S0 κ0 K NA X0 (stM3 (apMaps l)) a' w'→Q .normal a' w'):(Code.seq (.region 3 (acO 3) (acD 3)) (.block 0 (.loop (.seq (.region 4 (acO 4) (acD 4)) (.seq (.cond (.tmp 19) .skip (.exit 0)) (.seq (.block 1 (.seq (.region 5 (acO 5) (acD 5)) (.seq (.seq (.region 6 (acO 6) (acD 6)) (.cond (.tmp 24) (.exit 1) .skip)) (.seq (.region 7 (acO 7) (acD 7)) (.seq (.region 8 (acO 8) (acD 8)) (.seq (.region 9 (acO 9) (acD 9)) (.cond (.tmp 39) (.region 10 (acO 10) (acD 10)) (.seq (.region 11 (acO 11) (acD 11)) (.cond (.tmp 45) (.region 12 (acO 12) (acD 12)) .skip))))))))) (.region 13 (acO 13) (acD 13)))))))).wp PA Q a w:=by
 refine wp_seq (acStep Stable.none ac_r3 (ap3 l) h (fun a1 w1 h1=>?_)); refine wp_block (wp_loop (fun a w=>∃ k:Nat,k≤l.length∧NowP w0 S0 κ0 K NA X0 (stL3 l k ((l.take k).foldl apStep ([],[]))) a w) (fun a _=>l.length - cnt a 18) ⟨0,zfQ _,h1⟩ ?_)
 rintro a w ⟨k,hk,hn⟩
 have hc0:cnt a 18=k:=by rw [hn.cnt (n:=(k:Int)) rfl]; simp
 generalize hst:(l.take k).foldl apStep ([],[])=st at hn; obtain ⟨m1,m2⟩:=st; refine wp_seq (acStep Stable.none ac_r4 (ap4 l m1 m2 _ _) hn (fun a2 w2 h2=>?_)); refine wp_seq (wp_cond (h2.bool (b:=decide ((k:Int) < (List.map zag l).length)) rfl) ?_); by_cases hlt:k < l.length
 case neg =>
  rw [decide_eq_false (by simp; omega),iNs]
  have e:apMaps l=(m1,m2):=by unfold apMaps; rw [← hst,zcG (by omega)]
  exact wp_exit (hQ _ _ (by rw [e]; exact h2.trim Stable.none [4,5] [] (by kernel_rfl)))
 rw [decide_eq_true (by simp; omega),if_pos rfl]; refine wp_skip ?_; have h3:=h2.trim Stable.none [4,5,16,17,18] [] (st':=stL3 l k (m1,m2)) (by kernel_rfl)
 have hnext:(l.take (k+1)).foldl apStep ([],[])=apStep (m1,m2) l[k]:=by rw [zk9 hlt,zqY,hst]; rfl
 have t5:=ap5 l m1 m2 (List.map zag l).length k; rw [cPQ,zeA,show ((k:Int)).toNat=k from rfl,zau hlt,zaS] at t5; generalize l[k]=x at t5 hnext
 have fin:∀ {Q':Exit→Act→World→Prop} (m:List ((Int×Int)×zai)×List ((Int×Int)×Bool)) (a1:Act) (w1:World),apStep (m1,m2) x=m→NowP w0 S0 κ0 K NA X0 (stL3 l k m) a1 w1→(∀ a' w',((∃ k:Nat,k≤l.length∧NowP w0 S0 κ0 K NA X0 (stL3 l k ((l.take k).foldl apStep ([],[]))) a' w')∧l.length - cnt a' 18 < l.length - cnt a 18)→Q' .normal a' w')→(Code.region 13 (acO 13) (acD 13)).wp PA Q' a1 w1:=by
  intro Q' m a1 w1 hm hh hq; have t:=ap13 l m.1 m.2 (List.map zag l).length k; rw [w6Q] at t; refine acStep Stable.none ac_r13 t hh (fun a6 w6 h6=>hq _ _ ⟨⟨k+1,hlt,?_⟩,?_⟩)
  · rw [hnext,hm]; exact h6
  · have:cnt a6 18=k+1:=by rw [h6.cnt (n:=(k:Int)+1) rfl]; omega
    omega
 refine wp_seq (wp_block (wp_seq (acStep Stable.none ac_r5 t5 h3 (fun a5 w5 h5=>?_)))); have t6:=ap6 l m1 m2 (List.map zag l).length k x; rw [zyS,zaw] at t6; refine wp_seq (wp_seq (acStep Stable.none ac_r6 t6 h5 (fun a6 w6 h6=>?_))); refine wp_cond (h6.bool (b:=!zeX x) rfl) ?_
 cases hv:zeX x with
 | false=>rw [if_pos (by rfl)]; exact wp_exit (fin (m1,m2) _ _ (by unfold apStep; rw [hv]; rfl) (h6.trim Stable.none [4,5,16,17,18] [7] (by kernel_rfl)) (fun _ _ q=>q))
 | true =>
   rw [iNs]; refine wp_skip ?_; have h7:=h6.trim Stable.none [4,5,7,16,17,18] [] (st':=⟨[(4,.map 14),(5,.map 15),(7,.loc 7 6 0 0),(16,.sl 6 (List.map zag l)),(17,I (List.map zag l).length),(18,I k)],[(7,⟨6,zaA,[zag x],true⟩),bE3 m1,bD3 m2]⟩) (by kernel_rfl); refine wp_seq (acStep Stable.none ac_r7 (ap7 l m1 m2 _ k x) h7 (fun a8 w8 h8=>?_)); have t8:=ap8 l m1 m2 (List.map zag l).length k x (idA x); rw [zsM] at t8; refine wp_seq (acStep Stable.none ac_r8 t8 h8 (fun a9 w9 h9=>?_)); refine wp_seq (acStep Stable.none ac_r9 (ap9 l m1 m2 _ k x (idA x) _ _) h9 (fun a10 w10 h10=>?_)); refine wp_cond (h10.bool (b:=!(mfind (idA x) m1).isSome) rfl) ?_
   cases hf:mfind (idA x) m1 with
   | none=>rw [if_pos (by rfl)]; rw [hf] at h10; have h11:=h10.trim Stable.none [4,5,7,8,16,17,18] [9] (st':=⟨[(4,.map 14),(5,.map 15),(7,.loc 7 6 0 0),(8,.loc 8 2 0 0),(16,.sl 6 (List.map zag l)),(17,I (List.map zag l).length),(18,I k)],[(7,⟨6,zaA,[zag x],true⟩),(8,⟨2,zex,[zbB (idA x)],true⟩),bE3 m1,bD3 m2]⟩) (by kernel_rfl); have t10:=ap10 l m1 m2 (List.map zag l).length k x (idA x); rw [zsS] at t10; exact acStep Stable.none ac_r10 t10 h11 (fun a12 w12 h12=>fin (mput (idA x) x m1,m2) _ _ (by unfold apStep; simp only [hv,if_true,hf]) h12 (fun _ _ q=>q))
   | some z =>
     rw [iNs]; rw [hf] at h10; have h11:=h10.trim Stable.none [4,5,7,8,9,16,17,18] [] (st':=⟨[(4,.map 14),(5,.map 15),(7,.loc 7 6 0 0),(8,.loc 8 2 0 0),(9,.loc 9 6 0 0),(16,.sl 6 (List.map zag l)),(17,I (List.map zag l).length),(18,I k)],[(7,⟨6,zaA,[zag x],true⟩),(8,⟨2,zex,[zbB (idA x)],true⟩),(9,⟨6,zaA,[zag z],true⟩),bE3 m1,bD3 m2]⟩) (by kernel_rfl); have t11:=ap11 l m1 m2 (List.map zag l).length k x (idA x) z; rw [ap_ne] at t11; refine wp_seq (acStep Stable.none ac_r11 t11 h11 (fun a12 w12 h12=>?_)); refine wp_cond (h12.bool (b:=!decide (x=z)) rfl) ?_; by_cases hxz:x=z
     · rw [decide_eq_true hxz,iNs]; exact wp_skip (fin (m1,m2) _ _ (by unfold apStep; rw [if_pos hv]; simp only [hf]; rw [if_pos hxz]) (h12.trim Stable.none [4,5,16,17,18] [8] (by kernel_rfl)) (fun _ _ q=>q))
     · rw [decide_eq_false hxz,if_pos (by rfl)]; rw [decide_eq_false hxz] at h12; have h13:=h12.trim Stable.none [4,5,8,16,17,18] [] (st':=⟨[(4,.map 14),(5,.map 15),(8,.loc 8 2 0 0),(16,.sl 6 (List.map zag l)),(17,I (List.map zag l).length),(18,I k)],[(8,⟨2,zex,[zbB (idA x)],true⟩),bE3 m1,bD3 m2]⟩) (by kernel_rfl); have t12:=ap12 l m1 m2 (List.map zag l).length k x (idA x); rw [zzv] at t12; exact acStep Stable.none ac_r12 t12 h13 (fun a14 w14 h14=>fin (m1,mput (idA x) true m2) _ _ (by unfold apStep; simp only [hv,if_true,hf,hxz,if_false]) h14 (fun _ _ q=>q))
def pickA (m2:List ((Int×Int)×Bool)) (p:(Int×Int)×zai):Option zai:=if (mfind p.1 m2).getD false then none else some p.2
def apsOf (m:List ((Int×Int)×zai)×List ((Int×Int)×Bool)) (done:List Nat):List zai:=done.filterMap fun j=>m.1[j]?.bind (pickA m.2)
theorem zEk {l:List zai} {done:List Nat} (hd:done.Nodup) (h1:∀ i∈done,i < (apMaps l).1.length) (h2:∀ i,i < (apMaps l).1.length→i∈done):List.Perm (apsOf (apMaps l) done) (apKeep l):=by
 have hp:List.Perm done (List.range (apMaps l).1.length):=(zoz hd zyz).2 (fun i=>⟨fun h=>zja.2 (h1 i h),fun h=>h2 i (zja.1 h)⟩)
 have e:apKeep l=apsOf (apMaps l) (List.range (apMaps l).1.length):=by
  unfold apKeep apsOf; have:(apMaps l).1=(List.range (apMaps l).1.length).filterMap fun j=>(apMaps l).1[j]?:=(zps _).symm
  conv=>lhs; rw [this]
  rw [List.filterMap_filterMap]; rfl
 rw [e]; exact hp.filterMap _
abbrev sR3 (c:List zai):Nat×AV:=(11,.row 11 6 0 (List.map zag c).length)
abbrev bR3 (c:List zai):Nat×Ent:=(11,⟨6,zaA,List.map zag c,false⟩)
abbrev sP3 (r:Nat):Nat×AV:=(50,.v (.pointer (some ⟨r,0,none⟩)))
theorem ac_range {m:List ((Int×Int)×zai)×List ((Int×Int)×Bool)} (hl:m.1.length < 1000000)
  (h:NowP w0 S0 κ0 K NA X0 ⟨[(4,.map 14),(5,.map 15),(11,.row 11 6 0 0)],[(11,⟨6,zaA,[],false⟩),bE3 m.1,bD3 m.2]⟩ a w) {Q:Exit→Act→World→Prop}
  (hQ:∀ done a' w',done.Nodup→(∀ i∈done,i < m.1.length)→(∀ i,i < m.1.length→i∈done)→NowP w0 S0 κ0 K NA X0 ⟨[sR3 (apsOf m done)],[bR3 (apsOf m done)]⟩ a' w'→Q .normal a' w'):(Code.seq (.region 15 (acO 15) false) (.block 2 (.loop (.seq (.region 16 (acO 16) false) (.seq (.cond (.tmp 52) .skip (.exit 2)) (.block 3 (.seq (.region 17 (acO 17) false) (.seq (.region 18 (acO 18) (acD 18)) (.cond (.tmp 59) (.region 19 (acO 19) (acD 19)) .skip))))))))).wp PA Q a w:=by
 obtain ⟨m1,m2⟩:=m; refine wp_seq (wp_region ?_); have z15:(acO 15).size=2:=by kernel_rfl
 rw [z15,show List.range 2=List.range' 0 1++[1] from rfl]; refine segP Stable.none ac_hb ac_n ac_r15 (ap15 m1 m2) (by rw [z15]; decide) h (fun a1 w1 h1=>?_); have h2:=h1.freeze Stable.none ac_n [14] (by kernel_rfl) (st':=⟨[(49,.mp (List.map zbd m1)),(4,.mp (List.map zbd m1)),(5,.map 15),(11,.row 11 6 0 0)],[(11,⟨6,zaA,[],false⟩),bD3 m2]⟩) (by kernel_rfl); rw [wpOps_cons]; refine zuT (t:=135) (k:=137) (e:=62) (by unfold opIs; kernel_rfl) (by kernel_rfl) (by decide) h2 (m:=49) (d:=50) rfl (fun a3 w3 r q en clock h3=>?_); have h4:=h3.trim Rng.stable [5,11,50] [] (st':=⟨[(5,.map 15),sR3 (apsOf (m1,m2) []),sP3 r],[bR3 (apsOf (m1,m2) []),bD3 m2]⟩) (by kernel_rfl); refine zuV (it:=50) (d1:=51) (d2:=52) (r:=r) (stf:=fun done=>⟨[(5,.map 15),sR3 (apsOf (m1,m2) done),sP3 r],[bR3 (apsOf (m1,m2) done),bD3 m2]⟩) [5,11,50] (by kernel_rfl) (by unfold opIs; kernel_rfl) (by unfold opIs; kernel_rfl) (by decide) (by decide) (fun _=>rfl) (fun _ _ _=>by kernel_rfl) ?_ h4 ?_
 · intro done j k v hd hdl hjd hkv a w hn
   have hj:j < m1.length:=by have:=(zbH.1 hkv).1; simpa using this
   rw [zcQ,zau hj] at hkv
   have hev:apsOf (m1,m2) (done++[j])=apsOf (m1,m2) done++(pickA m2 m1[j]).toList:=by unfold apsOf; rw [zt1]; congr 1; show (List.filterMap _ [j])=_; rw [zyy]; simp only [zau hj,zaS,List.filterMap_nil]; cases pickA m2 m1[j] <;> rfl
   have hlen:(apsOf (m1,m2) done).length < 1000000:=by have:(apsOf (m1,m2) done).length≤done.length:=zmX _ _; have:=zsb hd (n:=m1.length) (fun i hi=>by simpa using hdl i hi); simp only at hl; omega
   simp only [hev]; generalize apsOf (m1,m2) done=c at hn hlen ⊢; generalize hx:m1[j]=x at hkv ⊢; obtain ⟨ky,x⟩:=x; simp only [zde,zaU,zbd,zbq,and_true] at hkv; obtain ⟨rfl,rfl⟩:=hkv; refine wp_block (wp_seq (wp_region ?_)); have z17:(acO 17).size=7:=by kernel_rfl
   rw [z17,show List.range 7=0 :: (List.range' 1 6++[]) from rfl,wpOps_cons]; refine zuD (by unfold opIs; kernel_rfl) (by decide) hn (it:=50) (d:=53) rfl (by rw [zcQ,zau hj,hx]; rfl) (fun a1 w1 h1=>?_); have h2:=h1.trim Rng.stable [5,11,50,53] [] (st':=⟨[(5,.map 15),sR3 c,sP3 r,(53,.tup [.agg (zbB ky),.agg (zag x)])],[bR3 c,bD3 m2]⟩) (by kernel_rfl); refine segP Rng.stable ac_hb ac_n ac_r17 (ap17 c m2 _ ky x) (by rw [z17]; decide) h2 (fun a3 w3 h3=>?_); have h4:=h3.trim Rng.stable [5,11,12,13,50] [] (st':=⟨[(5,.map 15),sR3 c,(12,.loc 12 2 0 0),(13,.loc 13 6 0 0),sP3 r],[bR3 c,(12,⟨2,zex,[zbB ky],true⟩),(13,⟨6,zaA,[zag x],true⟩),bD3 m2]⟩) (by kernel_rfl); have t18:=ap18 c m2 ⟨r,0,none⟩ ky x; rw [zzk] at t18; refine wp_seq (acStep Rng.stable ac_r18 t18 h4 (fun a5 w5 h5=>?_)); refine wp_cond (h5.bool (b:=!(mfind ky m2).getD false) rfl) ?_
   cases hdsp:(mfind ky m2).getD false with
   | true =>
     rw [iNs]; rw [hdsp] at h5; refine wp_skip ⟨rfl,?_⟩; have e:pickA m2 (ky,x)=none:=by unfold pickA; simp [hdsp]
     rw [e]; simp only [Option.toList_none,zmY]; exact h5.trim Rng.stable [5,11,50] [13] (by kernel_rfl)
   | false =>
     rw [if_pos (by simp)]; rw [hdsp] at h5; have h6:=h5.trim Rng.stable [5,11,13,50] [] (st':=⟨[(5,.map 15),sR3 c,(13,.loc 13 6 0 0),sP3 r],[bR3 c,(13,⟨6,zaA,[zag x],true⟩),bD3 m2]⟩) (by kernel_rfl); have t19:=ap19 c m2 ⟨r,0,none⟩ ky x; rw [zam rfl,zam (by simp; omega),zam rfl] at t19; refine acStep Rng.stable ac_r19 t19 h6 (fun a7 w7 h7=>⟨rfl,?_⟩); have e:pickA m2 (ky,x)=some x:=by unfold pickA; simp [hdsp]
     rw [e]; have h8:=h7.trim Rng.stable [5,11,50] [13] (st':=⟨[(5,.map 15),(11,.row 11 6 0 (List.length ((List.map zag c)++[zag x]))),sP3 r],[(11,⟨6,zaA,(List.map zag c)++[zag x],false⟩),bD3 m2]⟩) (by kernel_rfl); simp only [Option.toList_some,sR3,bR3,zga,zdo,zoF]; exact h8
 · intro done hd hdl hall a' w' hn; refine hQ done a' w' hd (fun i hi=>by simpa using hdl i hi) (fun i hi=>hall i (by simpa using hi)) ?_; exact (hn.trim Rng.stable [11] [15] (by kernel_rfl)).drop
theorem ac_sort {l c:List zai} (hl:l.length < 1000000) (hp:List.Perm c (apKeep l)) (hc:c.length < 1000000):cw zci [.row 1000 6 0 (List.map zag c).length,.fn zd6 []] [(1000,⟨6,zaA,List.map zag c,false⟩)]=some (zdi (isort apLt (apKeep l))):=by rw [c_sortA c hc,ap_of ((zqm (lt:=apLt) swoA c).trans hp) (zrB (lt:=apLt) swoA c)]
theorem zz1 (l:List zai):(apKeep l).length≤(apMaps l).1.length:=zmX _ _
theorem zz2 (l:List zai):(apMaps l).1.length≤l.length:=by
 have key:∀ (r:List zai) (st:List ((Int×Int)×zai)×List ((Int×Int)×Bool)),(r.foldl apStep st).1.length≤st.1.length+r.length:=by
  intro r
  induction r with
  | nil=>intro st; simp
  | cons a r ih =>
    intro st; have h1:=ih (apStep st a)
    have h2:(apStep st a).1.length≤st.1.length+1:=by
     unfold apStep; split
     · split
       · exact zoZ
       · split <;> simp
     · simp
    rw [zlL,zgc]; omega
 have:=key l ([],[]); simpa [apMaps] using this
theorem ac_body {l:List zai} (hl:l.length < 1000000) (h:NowP w0 S0 κ0 K NA X0 ⟨[(0,.sl 6 (List.map zag l))],[]⟩ a w):acC.wp PA (PostC w0 S0 κ0 K NA .ret (if 24 < (apKeep l).length then ⟨[(2,.v (.slice none 0 0)),(3,I 3)],[]⟩ else ⟨[(2,.row 11 6 0 (List.map zag (isort apLt (apKeep l))).length),(3,I 0)],[bR3 (isort apLt (apKeep l))]⟩)) a w:=by
 rw [ac_shape]; refine wp_seq (acStep Stable.none ac_r0 (ap0 l) h (fun a1 w1 h1=>?_)); refine wp_seq (acStep Stable.none ac_r1 (ap1 l) h1 (fun a2 w2 h2=>?_)); refine wp_seq (acStep Stable.none ac_r2 (ap2 l) h2 (fun a3 w3 h3=>?_)); refine wp_seq (ac_maps hl h3 (fun a4 w4 h4=>?_)); refine wp_seq (acStep Stable.none ac_r14 (ap14 _ _) h4 (fun a5 w5 h5=>?_)); have hml:=zz2 l; refine wp_seq (ac_range (m:=apMaps l) (by omega) h5 (fun done a6 w6 d1 d2 d3 h6=>?_)); have hp:=zEk d1 d2 d3; generalize apsOf (apMaps l) done=c at h6 hp; have hcl:=hp.length_eq; have hkl:=zz1 l; refine wp_seq (wp_seq (acStep Stable.none ac_r20 (ap20 c) h6 (fun a7 w7 h7=>?_))); refine wp_cond (h7.bool (b:=decide (24 < ((List.map zag c).length:Int))) rfl) ?_; by_cases hfew:24 < (apKeep l).length
 · rw [decide_eq_true (by simp; omega),if_pos rfl,if_pos hfew]; have h8:=h7.trim Stable.none [] [11] (st':=⟨[],[]⟩) (by kernel_rfl); refine wp_seq (acStep Stable.none ac_r21 (ap21 ()) h8 (fun a9 w9 h9=>?_)); refine wp_ret ⟨rfl,?_⟩; obtain ⟨S,κ,hg,_⟩:=h9; exact ⟨S,κ,hg⟩
 · rw [decide_eq_false (by simp; omega),iNs,if_neg hfew]; refine wp_skip ?_; have h8:=h7.trim Stable.none [11] [] (st':=⟨[sR3 c],[bR3 c]⟩) (by kernel_rfl); have t22:=ap22 c; rw [show List.length (List.map zag c)=(List.map zag c).length from rfl,ac_sort hl hp (by omega),ziW] at t22
   have hlen:(List.map zag c).length=(List.map zag (isort apLt (apKeep l))).length:=by rw [zaq,zaq,hcl,(ze8 _).length_eq]
   refine wp_seq (acStep Stable.none ac_r22 t22 h8 (fun a9 w9 h9=>?_)); rw [hlen] at h9; refine wp_seq (acStep Stable.none ac_r23 (ap23 (isort apLt (apKeep l))) h9 (fun a10 w10 h10=>?_)); refine wp_ret ⟨rfl,?_⟩; obtain ⟨S,κ,hg,_⟩:=h10; exact ⟨S,κ,hg⟩
end
theorem appeals_ok:CallOK zP (single zcl zOrc):=by
 intro f args ms r ms' h; unfold single at h; split at h
 case isFalse=>cases h
 rename_i hf; subst hf
 cases ms with
 | cons a m =>
   have hz:zOrc zcl args (a :: m)=none:=by unfold zOrc; simp (decide:=true) only [if_false,if_true]
   rw [hz] at h; cases h
 | nil =>
 have hz:zOrc zcl args []=zrv args:=by unfold zOrc; simp (decide:=true) only [if_false,if_true]
 rw [hz] at h; clear hz; unfold zrv at h; split at h
 case isFalse=>cases h
 rename_i hex; have hsp:=hex.choose_spec; generalize hex.choose=l at h hsp; obtain ⟨rfl,hl⟩:=hsp; injection h with h; injection h with h1 h2; subst h1 h2; refine ⟨ac_enters,fun w S κ vals hvl hS hv hms hinj=>?_⟩; have hf:zbc.P.funcs[zcl]?=some zbc.fn:=by kernel_rfl
 refine zle (args:=[.sl 6 (List.map zag l)]) (frz:=false) (ex:=.ret) hf ac_hb (show 1≤zbc.fn.ntmps by decide) hvl hS hv hms hinj (fun id=>by simp) (fun a hg=>?_) (st:=if 24 < (apKeep l).length then ⟨[(2,.v (.slice none 0 0)),(3,I 3)],[]⟩ else ⟨[(2,.row 11 6 0 (List.map zag (isort apLt (apKeep l))).length),(3,I 0)],[bR3 (isort apLt (apKeep l))]⟩) ?_ ?_ ?_
 · obtain ⟨S,κ,hg⟩:=hg; exact ac_body hl ⟨S,κ,hg,trivial⟩
 · unfold appS bR3; split
   · kernel_rfl
   · generalize List.map zag (isort apLt (apKeep l))=xs; rw [show zgp zbc.P false zbc.fn ⟨[(2,.row 11 6 0 xs.length),(3,I 0)],[(11,⟨6,zaA,xs,false⟩)]⟩=outOf false ([(11,⟨6,zaA,xs,false⟩)]) (.tup [.row 11 6 0 xs.length,I 0]) from by kernel_rfl]; simp [outOf,snap,mapO,Ab.look]
 · split <;> kernel_rfl
 · kernel_rfl
theorem zpj {l:List zai} (hl:l.length < 1000000):cw zcl [.sl 6 (List.map zag l)] []=some (zlw (appS l)):=by
 refine zft appeals_ok ?_; show zOrc zcl [.sl 6 (List.map zag l)] []=_
 have hz:zOrc zcl [.sl 6 (List.map zag l)] []=zrv [.sl 6 (List.map zag l)]:=by unfold zOrc; simp (decide:=true) only [if_false,if_true]
 rw [hz]; unfold zrv; have hex:∃ l',[AV.sl 6 (List.map zag l)]=[.sl 6 (List.map zag l')]∧l'.length < 1000000:=⟨l,rfl,hl⟩
 rw [dif_pos hex]; have hsp:=hex.choose_spec; generalize hex.choose=l' at hsp; have h1:=hsp.1; simp only [zbq,AV.sl.injEq,true_and,and_true] at h1; have:l=l':=Eq.mp (TyD.minj zbE) h1; subst this; rfl
end
end Go.Proofs.YtlecnobdfhlmnaaGreat
namespace Go.Proofs.YtlecnobdfhlmnaaGreat
open Go.Ab Go.Shelf
set_option maxRecDepth 20000
theorem sortsI:AnyZI.SortsIn zP layS_ren Fence.wide 4:=
 ⟨fun blk off cap ss W hH hblk hsz=>callsIn_wide.2 (AnyM.slices_Sort_int layI blk off cap ss W hH hblk hsz),fun p cap W=>callsIn_wide.2 (AnyM.slices_Sort_int_none layI p cap W)⟩
theorem keysK_ok:CallOK zP (single zcp zOrc):=
 keys_ok (fk:=zbs) layK rfl rfl (by kernel_rfl) (fun args ms=>by unfold zOrc; simp (decide:=true) only [if_false,if_true]; cases ms <;> rfl)
theorem keysL_ok:CallOK zP (single zcB zOrc):=
 keys_ok (fk:=zby) layL rfl rfl (by kernel_rfl) (fun args ms=>by unfold zOrc; simp (decide:=true) only [if_false,if_true]; cases ms <;> rfl)
def oOne (fk:FuncId):zbL:=fun _ args ms=>match ms with | []=>zhr fk args | _=>none
theorem sortedK_ok:CallOK zP (single zca (oOne zbs)):=
 zCj layS { layK with } sortsI rfl rfl rfl (by kernel_rfl) (by kernel_rfl) (by kernel_rfl) (fun _ _=>rfl)
theorem sortedL_ok:CallOK zP (single zca (oOne zby)):=
 zCj layS { layL with } sortsI rfl rfl rfl (by kernel_rfl) (by kernel_rfl) (by kernel_rfl) (fun _ _=>rfl)
theorem zAX:CallOK zP (single zca zOrc):=by
 intro g args ms r ms' h; unfold single at h; split at h
 case isFalse=>cases h
 rename_i hg; subst hg; have hz:zOrc zca args ms=match ms with | []=>(zhr zbs args).or (zhr zby args) | _=>none:=by unfold zOrc; simp (decide:=true) only [if_false,if_true]; cases ms <;> rfl
 rw [hz] at h
 cases ms with
 | cons a b=>cases h
 | nil =>
   simp only at h
   cases h1:zhr zbs args with
   | some q=>rw [h1,Option.some_or] at h; injection h with h; subst h; exact sortedK_ok _ args [] r ms' (by unfold single oOne; rw [if_pos rfl]; exact h1)
   | none=>rw [h1,zgZ] at h; exact sortedL_ok _ args [] r ms' (by unfold single oOne; rw [if_pos rfl]; exact h)
def W64 (k:Int):Prop:=-9223372036854775808≤k∧k≤9223372036854775807
theorem keysOf_K:∀ l:List (Int×Bool),keysOf (List.map za4 l)=some (l.map (·.1))
 | []=>rfl
 | (k,v) :: r=>by rw [zdo,zdo,← zde,← keysOf_K r]; rfl
theorem c_keysK (l:List (Int×Bool)):cw zcp [.mp (List.map za4 l)] []=some (zdd l):=
 zft keysK_ok (show zOrc zcp [.mp (List.map za4 l)] []=some (zdd l) by unfold zOrc; simp (decide:=true) only [if_false,if_true]; rfl)
theorem c_sortedK (l:List (Int×Bool)) (hl:l.length≤1000000) (hw:∀ k∈l.map (·.1),W64 k) (hn:(l.map (·.1)).Nodup):cw zca [.fn zbs [.fa 0 [[.mp (List.map za4 l)]]]] []=some (zc0 ((l.map (·.1)).mergeSort leI)):=by
 refine zft zAX ?_; show zOrc zca [.fn zbs [.fa 0 [[.mp (List.map za4 l)]]]] []=some (zc0 ((l.map (·.1)).mergeSort leI))
 have h:zhr zbs [.fn zbs [.fa 0 [[.mp (List.map za4 l)]]]]=some (zc0 ((l.map (·.1)).mergeSort leI)):=by unfold zhr; simp only [keysOf_K]; rw [if_pos ⟨trivial,by rw [zaq]; exact hl,hw,hn⟩]; rfl
 unfold zOrc; simp (decide:=true) only [if_false,if_true]; rw [h]; rfl
theorem zzg:∀ l:List (Int×Int),keysOf (List.map zaF l)=some (l.map (·.1))
 | []=>rfl
 | (k,v) :: r=>by rw [zdo,zdo,← zde,← zzg r]; rfl
theorem c_keysL (l:List (Int×Int)):cw zcB [.mp (List.map zaF l)] []=some (zc1 l):=
 zft keysL_ok (show zOrc zcB [.mp (List.map zaF l)] []=some (zc1 l) by unfold zOrc; simp (decide:=true) only [if_false,if_true]; rfl)
theorem zBP (l:List (Int×Int)) (hl:l.length≤1000000) (hw:∀ k∈l.map (·.1),W64 k) (hn:(l.map (·.1)).Nodup):cw zca [.fn zby [.fa 0 [[.mp (List.map zaF l)]]]] []=some (zc0 ((l.map (·.1)).mergeSort leI)):=by
 refine zft zAX ?_; show zOrc zca [.fn zby [.fa 0 [[.mp (List.map zaF l)]]]] []=some (zc0 ((l.map (·.1)).mergeSort leI))
 have h:zhr zby [.fn zby [.fa 0 [[.mp (List.map zaF l)]]]]=some (zc0 ((l.map (·.1)).mergeSort leI)):=by unfold zhr; simp only [zzg]; rw [if_pos ⟨trivial,by rw [zaq]; exact hl,hw,hn⟩]; rfl
 unfold zOrc; simp (decide:=true) only [if_false,if_true]; rw [h]; unfold zhr; simp only [zzg]; rw [if_neg (fun c=>absurd c.1 (by decide))]; rfl
end Go.Proofs.YtlecnobdfhlmnaaGreat
end
