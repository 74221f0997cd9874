/- The reference of the log of marks: its parts and that it answers. -/
import Derived.Test.YticojpmhlhfhlaaGreatMak
namespace Go.Proofs.YticojpmhlhfhlaaGreat
open Go.Ab
set_option linter.unusedSimpArgs false
def zuF (s:GStamp):Prop:=(0≤s.Time∧s.Time≤1000000)∧(0≤s.Source∧s.Source≤99)∧(0≤s.Seq∧s.Seq≤9999)
theorem zHC (s:GStamp):cw ztg [.agg (zaT s)] []=some (ztJ (dec (zuF s))):=by
 refine zG1 s ?_
 simp only [zb1,decide_eq_true_eq]
 repeat' split
 all_goals first
  | (rw [zaz (by unfold zuF; omega)]; rfl)
  | (rw [show decide (s.Seq≤9999)=dec (zuF s) from zdG (by simp only [decide_eq_true_eq]; unfold zuF; omega)]; rfl)
theorem zut (a b c:Int):cw ziB [I a,I b,I c] []=some (zzb (dec (b≤a∧a≤c))):=by
 refine e_ref28_in a b c ?_
 simp only [zb1,decide_eq_true_eq]
 split
 · rw [show decide (a≤c)=dec (b≤a∧a≤c) from zdG (by simp only [decide_eq_true_eq]; omega)]; rfl
 · rw [zaz (by omega)]; rfl
def OkKind (e:GMarkEvent):Prop:=
 (e.Kind=0∧1≤e.Stamp.Source∧(0≤e.Part∧e.Part≤23)∧(-1≤e.Value∧e.Value≤40)∧e.Marker=0) ∨
 (e.Kind=1∧e.Stamp.Source=0∧e.Script=0∧e.Part=0∧e.Value=0∧(1≤e.Marker∧e.Marker≤99)∧e.Pages.length=0) ∨
 (e.Kind=2∧e.Stamp.Source=0∧e.Value=0∧e.Marker=0∧(-1≤e.Part∧e.Part≤23)∧e.Pages.length=0)
def zBv (e:GMarkEvent):Prop:=
 zuF e.Stamp∧(0≤e.Script∧e.Script≤319999)∧e.Pages.length≤12∧(∀ n∈e.Pages,0≤n∧n≤1152921504606846976)∧OkKind e
theorem zGW (e:GMarkEvent):cw ztm [.agg (zab e)] []=some (zig (dec (zBv e))):=by
 refine zHH e ?_
 simp only [zHC,zut,zBO,zny,List.length_map]
 by_cases h1:zuF e.Stamp
 · by_cases h2:0≤e.Script∧e.Script≤319999
   · by_cases h3:e.Pages.length≤12
     · simp (disch:=omega) only [zax h1,zax h2,Bool.not_true,zai,zaq]
       have H:=zm0 e.Pages.length (fun j hj=>0≤e.Pages[j]∧e.Pages[j]≤1152921504606846976) (fun i=>zma e i) (fun b=>zig (b && dec (OkKind e))) ?_ ?_ ?_
       · rw [H]
         congr 2
         rw [Bool.eq_iff_iff]
         simp only [Bool.and_eq_true,zsw,zBv]
         rw [znu (G:=fun n=>0≤n∧n≤1152921504606846976)]
         exact ⟨fun ⟨a,b⟩=>⟨h1,h2,h3,a,b⟩,fun ⟨_,_,_,a,b⟩=>⟨a,b⟩⟩
       · refine zqU _ _ ?_
         simp (disch:=omega) only [List.length_map,zaq,zut,zny,Bool.true_and]
         simp only [zb1,decide_eq_true_eq,beq_iff_eq,zsw]
         repeat' split
         all_goals first
          | (rw [zaz (by unfold OkKind; omega)]; rfl)
          | (refine congrArg some (congrArg zig (?_:_=dec (OkKind e)):_=zig _)
             refine zdG ?_
             simp only [beq_iff_eq]
             unfold OkKind
             omega)
       · intro i hi hn
         refine zqU _ _ ?_
         simp (disch:=omega) only [List.length_map,zak,zac,Int.toNat_natCast,zbi,List.getElem?_eq_getElem hi,Option.bind_some,zut,zny,zaz hn,Bool.not_false,zap,Bool.false_and]
         rfl
       · intro i hi y hg hk
         refine zqU _ _ ?_
         simp (disch:=omega) only [List.length_map,zak,zac,Int.toNat_natCast,zbi,List.getElem?_eq_getElem hi,Option.bind_some,zut,zny,zax hg,Bool.not_true,zai,w64_id,hk]
     · simp (disch:=omega) only [zax h1,zax h2,Bool.not_true,zai,zak]
       rw [zaz (fun h=>h3 h.2.2.1)]; rfl
   · simp only [zax h1,zaz h2,Bool.not_true,Bool.not_false,zai,zap]
     rw [zaz (fun h=>h2 h.2.1)]; rfl
 · simp only [zaz h1,Bool.not_false,zap]
   rw [zaz (fun h=>h1 h.1)]; rfl
theorem zCU (a b:List Int) (hl:a.length≤1000000):cw zgV [.sl 1 (List.map zaa a),.sl 1 (List.map zaa b)] []=some (zjG (dec (a=b))):=by
 refine zB5 a b ?_
 by_cases h:a.length=b.length
 · simp only [List.length_map,h,bne_self_eq_false,zai]
   have H:=zm0 a.length (fun j hj=>a[j]=b[j]'(by omega)) (fun i=>zh0 a b i) zjG ?_ ?_ ?_
   · rw [H,zfM]
     exact ⟨fun hh=>List.ext_getElem h (fun i h1 h2=>hh i h1),fun hh=>by subst hh; intros; rfl⟩
   · exact zlY _ _ _ (by simp (disch:=omega) only [List.length_map,zaq]; rfl)
   · intro i hi hn
     refine zlY _ _ _ ?_
     simp (disch:=omega) only [List.length_map,zak,zac,Int.toNat_natCast,zbi,List.getElem?_eq_getElem hi,List.getElem?_eq_getElem (show i < b.length by omega),Option.bind_some,show (a[i] != b[i]'(by omega))=true by simpa using hn,zap]
     rfl
   · intro i hi y hn hk
     refine zlY _ _ _ ?_
     simp (disch:=omega) only [List.length_map,zak,zac,Int.toNat_natCast,zbi,List.getElem?_eq_getElem hi,List.getElem?_eq_getElem (show i < b.length by omega),Option.bind_some,show (a[i] != b[i]'(by omega))=false by simpa using hn,zai,w64_id,hk]
 · rw [zaz (fun hh=>h (by rw [hh]))]
   simp only [List.length_map,show ((a.length:Int) != (b.length:Int))=true by simp only [bne_iff_ne,ne_eq]; omega,zap]
   rfl
theorem zIh (a b:GMarkEvent) (hl:a.Pages.length≤1000000):cw zvs [.agg (zab a),.agg (zab b)] []=some (zmw (dec (a=b))):=by
 refine zJo a b ?_
 obtain ⟨⟨a1,a2,a3⟩,a4,a5,a6,a7,a8,a9⟩:=a
 obtain ⟨⟨b1,b2,b3⟩,b4,b5,b6,b7,b8,b9⟩:=b
 simp only [zb1,beq_iff_eq,Bool.and_eq_true,Bool.and_true,zCU _ _ hl,zpN]
 repeat' split
 all_goals first
  | (rw [zaz (by simp only [GMarkEvent.mk.injEq,GStamp.mk.injEq]; omega)]; rfl)
  | (refine congrArg some (congrArg zmw (zfM ?_):_=zmw _)
     simp only [GMarkEvent.mk.injEq,GStamp.mk.injEq]
     simp [*])
def lessS (a b:GStamp):Bool:=if a.Time≠b.Time then decide (a.Time < b.Time) else if a.Source≠b.Source then decide (a.Source < b.Source) else decide (a.Seq < b.Seq)
theorem zq2 (a b:GStamp):cw zf9 [.agg (zaT a),.agg (zaT b)] []=some (zvv (lessS a b)):=by
 refine zIb a b ?_
 unfold lessS
 simp only [zb1,bne_iff_ne]
 split
 · rfl
 · split <;> rfl
theorem zGe (a b:GMarkEvent):cw zrX [.agg (zab a),.agg (zab b)] []=some (zr9 (lessS a.Stamp b.Stamp)):=by
 refine zFN a b ?_
 simp only [zq2,zle]
 rfl
end Go.Proofs.YticojpmhlhfhlaaGreat
namespace Go.Proofs.YticojpmhlhfhlaaGreat
open Go.Ab
set_option linter.unusedSimpArgs false
def leE (a b:GMarkEvent):Bool:=!lessS b.Stamp a.Stamp
theorem merge_loop (a b:List GMarkEvent) (ha:a.length≤100000) (hb:b.length≤100000):∀ (n i j:Nat) (out:List GMarkEvent),(a.length - i)+(b.length - j)=n→i≤a.length→j≤b.length→out.length≤i+j →
  zkf a b (List.map zab out) i j=some (zhP (out++List.merge (a.drop i) (b.drop j) leE)):=by
 intro n
 induction n with
 | zero =>
   intro i j out hn hi hj ho
   refine zxx _ _ _ _ _ ?_
   simp (disch:=omega) only [List.length_map,zaq,zaC]
   rw [List.drop_eq_nil_of_le (show a.length≤i by omega),List.drop_eq_nil_of_le (show b.length≤j by omega)]
   simp only [List.merge,List.append_nil]
   rfl
 | succ n ih =>
   intro i j out hn hi hj ho
   have ta:∀ hlt:i < a.length,List.merge (a.drop i) (b.drop j) leE=a[i] :: List.merge (a.drop (i+1)) (b.drop j) leE→zjC a b (List.map zab out) i j=some (zhP (out++List.merge (a.drop i) (b.drop j) leE)):=by
    intro hlt hm
    refine zBz _ _ _ _ _ ?_
    have h2:=ih (i+1) j (out++[a[i]]) (by omega) (by omega) hj (by simp; omega)
    rw [List.append_assoc,List.singleton_append,← hm] at h2
    simp (disch:=omega) only [List.length_map,zac,Int.toNat_natCast,Nat.zero_add,zbv,List.getElem?_eq_getElem hlt,Option.bind_some,zaC,zbu zab,w64_id]
    exact h2
   have tb:∀ hlt:j < b.length,List.merge (a.drop i) (b.drop j) leE=b[j] :: List.merge (a.drop i) (b.drop (j+1)) leE→zjx a b (List.map zab out) i j=some (zhP (out++List.merge (a.drop i) (b.drop j) leE)):=by
    intro hlt hm
    refine zCs _ _ _ _ _ ?_
    have h2:=ih i (j+1) (out++[b[j]]) (by omega) hi (by omega) (by simp; omega)
    rw [List.append_assoc,List.singleton_append,← hm] at h2
    simp (disch:=omega) only [List.length_map,zac,Int.toNat_natCast,Nat.zero_add,zbv,List.getElem?_eq_getElem hlt,Option.bind_some,zaC,zbu zab,w64_id]
    exact h2
   have mid:zjz a b (List.map zab out) i j=some (zhP (out++List.merge (a.drop i) (b.drop j) leE)):=by
    refine zCe _ _ _ _ _ ?_
    by_cases hjb:j=b.length
    · simp only [List.length_map,show ((j:Int) == (b.length:Int))=true by simp [hjb],zap]
      refine ta (by omega) ?_
      rw [List.drop_eq_nil_of_le (show b.length≤j by omega),List.drop_eq_getElem_cons (show i < a.length by omega)]
      simp [List.merge]
    · have hjl:j < b.length:=by omega
      have hne:((j:Int) == (b.length:Int))=false:=by simp only [beq_eq_false_iff_ne,ne_eq]; omega
      by_cases hia:i < a.length
      · have hm:=List.drop_eq_getElem_cons hia
        have hm2:=List.drop_eq_getElem_cons hjl
        simp (disch:=omega) only [List.length_map,hne,zai,zak,zac,Int.toNat_natCast,Nat.zero_add,zbv,List.getElem?_eq_getElem hia,List.getElem?_eq_getElem hjl,Option.bind_some,zGe,zBf]
        cases hls:lessS b[j].Stamp a[i].Stamp with
        | false =>
          simp only [Bool.not_false,zap]
          refine ta hia ?_
          rw [hm,hm2,List.merge,if_pos (by simp [leE,hls])]
        | true =>
          simp only [Bool.not_true,zai]
          refine tb hjl ?_
          rw [hm,hm2,List.merge,if_neg (by simp [leE,hls])]
      · simp (disch:=omega) only [List.length_map,hne,zai,zaq]
        refine tb hjl ?_
        rw [List.drop_eq_nil_of_le (show a.length≤i by omega),List.drop_eq_getElem_cons hjl]
        simp [List.merge]
   refine zxx _ _ _ _ _ ?_
   by_cases hia:i < a.length
   · simp (disch:=omega) only [List.length_map,zak]
     exact mid
   · simp (disch:=omega) only [List.length_map,zaq,zak]
     exact mid
end Go.Proofs.YticojpmhlhfhlaaGreat
namespace Go.Proofs.YticojpmhlhfhlaaGreat
open Go.Ab
set_option linter.unusedSimpArgs false
theorem zKk {a b c:GStamp} (h1:lessS b a=false) (h2:lessS c b=false):lessS c a=false:=by
 unfold lessS at *
 repeat' split at h1
 all_goals repeat' split at h2
 all_goals repeat' split
 all_goals simp only [decide_eq_false_iff_not] at *
 all_goals omega
theorem zKp (a b:GStamp):lessS a b=false∨lessS b a=false:=by
 unfold lessS
 repeat' split
 all_goals simp only [decide_eq_false_iff_not]
 all_goals omega
theorem leE_trans (a b c:GMarkEvent) (h1:leE a b=true) (h2:leE b c=true):leE a c=true:=by
 simp only [leE,Bool.not_eq_true'] at *
 exact zKk h1 h2
theorem leE_total (a b:GMarkEvent):(leE a b || leE b a)=true:=by
 simp only [leE,Bool.or_eq_true,Bool.not_eq_true']
 exact zKp _ _
theorem zIZ:∀ (n:Nat) (l:List GMarkEvent),l.length≤n→l.length≤100000→∃ r,cw zmN [.sl 9 (List.map zab l)] []=some (zhP r)∧r.Perm l∧r.Pairwise (fun a b=>leE a b=true):=by
 intro n
 induction n with
 | zero =>
   intro l hl _
   have:l=[]:=List.eq_nil_of_length_eq_zero (by omega)
   subst this
   refine ⟨[],zvt _ ?_,List.Perm.refl _,List.Pairwise.nil⟩
   simp (disch:=omega) only [List.length_map,List.length_nil,zak,zac,zaC]
   rfl
 | succ n ih =>
   intro l hl h5
   by_cases h2:l.length < 2
   · refine ⟨l,zvt _ ?_,List.Perm.refl _,?_⟩
     · simp (disch:=omega) only [List.length_map,zak,zac,zaC]
       rfl
     · match l,h2 with
       | [],_=>exact List.Pairwise.nil
       | [x],_=>simp
       | _ :: _ :: _,h=>simp only [List.length_cons] at h; omega
   · have ht:(l.length:Int).tdiv 2=((l.length / 2:Nat):Int):=by rw [Int.tdiv_eq_ediv_of_nonneg (by omega)]; omega
     obtain ⟨a,ea,pa,sa⟩:=ih (l.take (l.length / 2)) (by simp; omega) (by simp; omega)
     obtain ⟨b,eb,pb,sb⟩:=ih (l.drop (l.length / 2)) (by simp; omega) (by simp; omega)
     have la:=pa.length_eq
     have lb:=pb.length_eq
     simp only [List.length_take,List.length_drop] at la lb
     refine ⟨List.merge a b leE,zvt _ ?_,?_,List.pairwise_merge leE_trans leE_total a b sa sb⟩
     · rw [List.map_take] at ea
       rw [List.map_drop] at eb
       have hloop:=merge_loop a b (by omega) (by omega) _ 0 0 [] rfl (by omega) (by omega) (by simp)
       simp only [List.drop_zero,List.nil_append,List.map_nil] at hloop
       have e1:List.take (List.length l) (List.map zab l)=List.map zab l:=List.take_of_length_le (by simp)
       simp (disch:=omega) only [List.length_map,zaq,ht,w64_id,zac,Int.toNat_natCast,ea,zuQ,e1,eb]
       exact hloop
     · refine (List.merge_perm_append leE).trans ?_
       have:=pa.append pb
       rwa [List.take_append_drop] at this
abbrev dKey (e:GMarkEvent):Int×Int:=(e.Stamp.Source,e.Stamp.Seq)
abbrev DMap:=List ((Int×Int)×Int)×List ((Int×Int)×Bool)
open Classical in
noncomputable def dstep (l:List GMarkEvent) (i:Nat) (e:GMarkEvent) (fb:DMap):DMap:=
 if zBv e then
  match mfind (dKey e) fb.1 with
  | none=>(mput (dKey e) (i:Int) fb.1,fb.2)
  | some n=>if l[n.toNat]?=some e then fb else (fb.1,mput (dKey e) true fb.2)
 else fb
noncomputable def dfold (l:List GMarkEvent):List GMarkEvent→Nat→DMap→DMap
 | [],_,fb=>fb
 | e :: r,i,fb=>dfold l r (i+1) (dstep l i e fb)
theorem zza {κ ν:Type} [DecidableEq κ] {k:κ} {v:ν}:∀ {l:List (κ×ν)} {p:κ×ν},p∈mput k v l→p=(k,v)∨p∈l
 | [],p,h=>by simpa [mput] using h
 | q :: r,p,h=>by
   unfold mput at h
   split at h
   · rcases List.mem_cons.1 h with h | h
     · exact Or.inl h
     · exact Or.inr (List.mem_cons_of_mem _ h)
   · rcases List.mem_cons.1 h with h | h
     · exact Or.inr (by simp [h])
     · rcases zza h with h | h
       · exact Or.inl h
       · exact Or.inr (List.mem_cons_of_mem _ h)
theorem zp0 {κ ν:Type} [DecidableEq κ] {k:κ}:∀ {l:List (κ×ν)} {v:ν},mfind k l=some v→(k,v)∈l
 | [],v,h=>by simp [mfind] at h
 | q :: r,v,h=>by
   unfold mfind at h
   split at h
   · injection h with h
     subst h
     rename_i hk
     subst hk
     simp
   · exact List.mem_cons_of_mem _ (zp0 h)
theorem disp_loop (l:List GMarkEvent) (hl:l.length≤100000) (hp:∀ e∈l,e.Pages.length≤1000000):∀ (n i:Nat) (fb:DMap),i+n=l.length→(∀ p∈fb.1,0≤p.2∧p.2 < i) →
  zcY l (List.map zdn fb.1) (List.map zdM fb.2) i=some (zhE (dfold l (l.drop i) i fb)):=by
 intro n
 induction n with
 | zero =>
   intro i fb hi hf
   refine zsM _ _ _ _ ?_
   rw [List.drop_eq_nil_of_le (by omega),dfold]
   simp (disch:=omega) only [List.length_map,zaq]
   rfl
 | succ n ih =>
   intro i fb hi hf
   have hlt:i < l.length:=by omega
   refine zsM _ _ _ _ ?_
   rw [List.drop_eq_getElem_cons hlt,dfold]
   simp (disch:=omega) only [List.length_map,zak,zac,Int.toNat_natCast,zbv,List.getElem?_eq_getElem hlt,Option.bind_some,zGW,zCn]
   have stay:zcY l (List.map zdn fb.1) (List.map zdM fb.2) ((i:Int)+1)=some (zhE (dfold l (l.drop (i+1)) (i+1) fb)):=ih (i+1) fb (by omega) (fun p hp=>by have:=hf p hp; omega)
   by_cases hv:zBv l[i]
   · simp (disch:=omega) only [zax hv,Bool.not_true,zai,zvO,zEV,zDB]
     unfold dstep
     rw [if_pos hv]
     cases hm:mfind (dKey l[i]) fb.1 with
     | none =>
       simp (disch:=omega) only [hm,Option.isSome_none,Bool.not_false,zap,w64_id]
       exact ih (i+1) (mput (dKey l[i]) (i:Int) fb.1,fb.2) (by omega) (by
        intro p hp
        rcases zza hp with rfl | hp
        · dsimp only; omega
        · have:=hf p hp; omega)
     | some m =>
       have hb:=hf _ (zp0 hm)
       have hml:m.toNat < l.length:=by have:=hb.2; simp only at this; omega
       have hm0:0≤m:=hb.1
       simp (disch:=omega) only [hm,Option.isSome_some,Option.getD_some,Bool.not_true,zai,zac,zbv,List.getElem?_eq_getElem hml,List.getElem?_eq_getElem hlt,Option.bind_some,Int.toNat_natCast,zIh _ _ (hp _ (List.getElem_mem hml)),zDU]
       by_cases he:l[m.toNat]=l[i]
       · simp (disch:=omega) only [zax he,Bool.not_true,zai,w64_id]
         rw [if_pos (by rw [List.getElem?_eq_getElem hml,he])]
         exact stay
       · simp (disch:=omega) only [zaz he,Bool.not_false,zap,w64_id]
         rw [if_neg (fun h=>he (by rw [List.getElem?_eq_getElem hml] at h; injection h))]
         exact ih (i+1) (fb.1,mput (dKey l[i]) true fb.2) (by omega) (fun p hp=>by have:=hf p hp; omega)
   · simp (disch:=omega) only [zaz hv,Bool.not_false,zap,w64_id]
     unfold dstep
     rw [if_neg hv]
     exact stay
noncomputable def dispF (l:List GMarkEvent):DMap:=dfold l l 0 ([],[])
theorem c_disputes (l:List GMarkEvent) (hl:l.length≤100000) (hp:∀ e∈l,e.Pages.length≤1000000):cw zpn [.sl 9 (List.map zab l)] []=some (zhE (dispF l)):=
 zDc l (disp_loop l hl hp l.length 0 ([],[]) (by omega) (by simp))
def ckeep (fb:DMap):List GMarkEvent→Nat→List GMarkEvent
 | [],_=>[]
 | e :: r,i=>if mfind (dKey e) fb.1=some (i:Int)∧(mfind (dKey e) fb.2).getD false=false then e :: ckeep fb r (i+1) else ckeep fb r (i+1)
theorem zAg {fb:DMap}:∀ {l:List GMarkEvent} {i:Nat} {e:GMarkEvent},e∈ckeep fb l i→e∈l
 | [],_,_,h=>by simp [ckeep] at h
 | x :: r,i,e,h=>by
   unfold ckeep at h
   split at h
   · rcases List.mem_cons.1 h with h | h
     · simp [h]
     · exact List.mem_cons_of_mem _ (zAg h)
   · exact List.mem_cons_of_mem _ (zAg h)
theorem zBq {fb:DMap}:∀ {l:List GMarkEvent} {i:Nat},(ckeep fb l i).length≤l.length
 | [],_=>by simp [ckeep]
 | x :: r,i=>by
   unfold ckeep
   have:=zBq (fb:=fb) (l:=r) (i:=i+1)
   split <;> simp <;> omega
theorem zJS (l:List GMarkEvent) (hl:l.length≤2000) (hp:∀ e∈l,e.Pages.length≤1000000) :
  ∃ r,cw zoj [.sl 9 (List.map zab l)] []=some (zgP (r,0))∧r.Perm (ckeep (dispF l) l 0)∧r.Pairwise (fun a b=>leE a b=true):=by
 have hlen:=zBq (fb:=dispF l) (l:=l) (i:=0)
 obtain ⟨r,er,pr,sr⟩:=zIZ _ (ckeep (dispF l) l 0) (Nat.le_refl _) (by omega)
 have hrl:=pr.length_eq
 refine ⟨r,zB3 l ?_,pr,sr⟩
 simp only [c_disputes l (by omega) hp,zzn]
 have loop:∀ (n i:Nat) (out:List GMarkEvent),i+n=l.length→out.length≤i→out++ckeep (dispF l) (l.drop i) i=ckeep (dispF l) l 0→zcH l (dispF l) (List.map zab out) i=some (zgP (r,0)):=by
  intro n
  induction n with
  | zero =>
    intro i out hi ho hk
    rw [List.drop_eq_nil_of_le (by omega),ckeep,List.append_nil] at hk
    subst hk
    refine zrH _ _ _ _ ?_
    simp (disch:=omega) only [List.length_map,zaq,Nat.zero_add,Nat.le_refl,zaC]
    rw [List.take_of_length_le (by simp)]
    simp (disch:=omega) only [er,zuQ,List.length_map,Nat.le_refl,zaC]
    rw [List.take_of_length_le (by simp)]
    rfl
  | succ n ih =>
    intro i out hi ho hk
    have hlt:i < l.length:=by omega
    have hpg:=hp _ (List.getElem_mem hlt)
    rw [List.drop_eq_getElem_cons hlt,ckeep] at hk
    refine zrH _ _ _ _ ?_
    simp (disch:=omega) only [List.length_map,zak,zac,Int.toNat_natCast,zbv,List.getElem?_eq_getElem hlt,Option.bind_some,zvO,zDn]
    have stay:¬ (mfind (dKey l[i]) (dispF l).1=some (i:Int)∧(mfind (dKey l[i]) (dispF l).2).getD false=false)→zcH l (dispF l) (List.map zab out) ((i:Int)+1)=some (zgP (r,0)):=by
     intro hn
     rw [if_neg hn] at hk
     exact ih (i+1) out (by omega) (by omega) hk
    cases hm:mfind (dKey l[i]) (dispF l).1 with
    | none =>
      simp (disch:=omega) only [hm,Option.isSome_none,zai,w64_id]
      exact stay (by rw [hm]; simp)
    | some m =>
      by_cases hmi:m=i
      · subst hmi
        simp (disch:=omega) only [hm,Option.isSome_some,Option.getD_some,zap,beq_self_eq_true]
        cases hb:(mfind (dKey l[i]) (dispF l).2).getD false with
        | true =>
          simp (disch:=omega) only [hb,Bool.not_true,zai,w64_id]
          exact stay (by rw [hb]; simp)
        | false =>
          rw [if_pos ⟨hm,hb⟩] at hk
          have h2:=ih (i+1) (out++[l[i]]) (by omega) (by simp; omega) (by rw [List.append_assoc]; exact hk)
          rw [← zbu zab] at h2
          simp (disch:=omega) only [hb,Bool.not_false,zap,zac,Int.toNat_natCast,zbv,List.getElem?_eq_getElem hlt,Option.bind_some,List.length_map,Nat.zero_add,Nat.le_refl,zaC,w64_id]
          rw [List.take_of_length_le (by simp)]
          exact h2
      · simp (disch:=omega) only [hm,Option.isSome_some,Option.getD_some,zap,show (m == (i:Int))=false by simpa using hmi,zai,w64_id]
        exact stay (by rw [hm]; intro h; exact hmi (by injection h.1))
 exact loop l.length 0 [] (by omega) (by simp) rfl
end Go.Proofs.YticojpmhlhfhlaaGreat
