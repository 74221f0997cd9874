/- The parts of the reference of marking. -/
import Derived.Test.YticojpmhlhfhlaaGreatR28
namespace Go.Proofs.YticojpmhlhfhlaaGreat
open Go.Ab
set_option linter.unusedSimpArgs false
def seedOf (l:List GSeed) (n:Int):Option (Nat×GSeed):=fnd (fun y=>y.Script == n) 0 l
def seedR:Option (Nat×GSeed)→List Int×Bool
 | some (_,y)=>(y.Marks,true)
 | none=>([],false)
theorem zgf (l:List GSeed) (n:Int) (hl:l.length≤1000000) (hm:∀ y∈l,y.Marks.length≤1000000):cw zdJ [.sl 2 (List.map zbT l),I n] []=some (zik (seedR (seedOf l n))):=by
 refine zAi l n ?_
 refine zhH l (fun y=>y.Script == n) (fun i=>zg1 l n i) (fun o=>zik (seedR o)) ?_ ?_ ?_
 · refine zkW _ _ _ ?_
   simp (disch:=omega) only [List.length_map,zaq,Nat.zero_add,Nat.le_refl,zaC]
   rfl
 · intro i hi h
   have:=hm _ (List.getElem_mem hi)
   refine zkW _ _ _ ?_
   simp (disch:=omega) only [List.length_map,zak,zac,Int.toNat_natCast,zsr,List.getElem?_eq_getElem hi,Option.bind_some,h,zap,Nat.zero_add,Nat.le_refl,zaC]
   rw [List.take_of_length_le (by simp)]
   rfl
 · intro i hi y h hk
   refine zkW _ _ _ ?_
   simp (disch:=omega) only [List.length_map,zak,zac,Int.toNat_natCast,zsr,List.getElem?_eq_getElem hi,Option.bind_some,h,zai,w64_id,hk]
def zr4 (l:List GMarker) (n:Int):Option (Nat×GMarker):=fnd (fun y=>y.ID == n) 0 l
def zJy:GMarker:=⟨0,0,0,0,[]⟩
def zrW:Option (Nat×GMarker)→GMarker×Bool
 | some (_,y)=>(y,true)
 | none=>(zJy,false)
theorem zu1 (l:List GMarker) (n:Int) (hl:l.length≤1000000):cw zmx [.sl 5 (List.map zaO l),I n] []=some (zrs (zrW (zr4 l n))):=by
 refine zIF l n ?_
 refine zhH l (fun y=>y.ID == n) (fun i=>znt l n i) (fun o=>zrs (zrW o)) ?_ ?_ ?_
 · refine zrV _ _ _ ?_
   simp (disch:=omega) only [List.length_map,zaq]
   rfl
 · intro i hi h
   refine zrV _ _ _ ?_
   simp (disch:=omega) only [List.length_map,zak,zac,Int.toNat_natCast,zfr,List.getElem?_eq_getElem hi,Option.bind_some,h,zap]
   rfl
 · intro i hi y h hk
   refine zrV _ _ _ ?_
   simp (disch:=omega) only [List.length_map,zak,zac,Int.toNat_natCast,zfr,List.getElem?_eq_getElem hi,Option.bind_some,h,zai,w64_id,hk]
def FitsM (m:GMarker) (x:GScript):Prop:=x.Paper∈m.Papers∧m.Centre≠x.Centre
theorem zJn (m:GMarker) (x:GScript) (hl:m.Papers.length≤1000000):cw zvx [.agg (zaO m),.agg (zaw x)] []=some (zrp (dec (FitsM m x))):=by
 refine zIA m x ?_
 have H:=any_bool m.Papers.length (fun j hj=>m.Papers[j]=x.Paper) (fun i=>znm m x i) (fun b=>zrp (b && (m.Centre != x.Centre))) ?_ ?_ ?_
 · rw [H]
   congr 2
   rw [Bool.eq_iff_iff]
   simp only [Bool.and_eq_true,zsw,FitsM,bne_iff_ne]
   refine and_congr_left' ⟨fun ⟨j,hj,e⟩=>e▸List.getElem_mem hj,fun h=>?_⟩
   obtain ⟨j,hj,e⟩:=List.mem_iff_getElem.1 h
   exact ⟨j,hj,e⟩
 · exact zr0 _ _ _ (by simp (disch:=omega) only [List.length_map,zaq]; rfl)
 · intro i hi h
   refine zr0 _ _ _ ?_
   simp (disch:=omega) only [List.length_map,zak,zac,Int.toNat_natCast,zbi,List.getElem?_eq_getElem hi,Option.bind_some,show (m.Papers[i] == x.Paper)=true by simpa using h,zap,Bool.true_and]
   rfl
 · intro i hi y h hk
   refine zr0 _ _ _ ?_
   simp (disch:=omega) only [List.length_map,zak,zac,Int.toNat_natCast,zbi,List.getElem?_eq_getElem hi,Option.bind_some,show (m.Papers[i] == x.Paper)=false by simpa using h,zai,w64_id,hk]
def Elig (l:List GMarker) (n:Int) (x:GScript):Prop:=∃ k m,zr4 l n=some (k,m)∧FitsM m x
theorem zC3 (l:List GMarker) (n:Int) (x:GScript) (hl:l.length≤1000000) (hm:∀ m∈l,m.Papers.length≤1000000) :
  cw zpH [.sl 5 (List.map zaO l),I n,.agg (zaw x)] []=some (zpB (dec (Elig l n x))):=by
 refine zDm l n x ?_
 simp only [zu1 l n hl,zpc]
 cases h:zr4 l n with
 | none =>
   simp only [zrW,zai]
   rw [zaz (by rintro ⟨k,m,h2,_⟩; rw [h] at h2; cases h2)]
   rfl
 | some q =>
   obtain ⟨k,m⟩:=q
   have hmem:=List.mem_of_getElem? (fnd_at h).1
   simp only [zrW,zap,zJn m x (hm m hmem),zDb]
   rw [show dec (Elig l n x)=dec (FitsM m x) from zfM ⟨by rintro ⟨k',m',h2,h3⟩; rw [h] at h2; cases h2; exact h3,fun h3=>⟨k,m,h,h3⟩⟩]
   rfl
def PermP (x:GPart) (v:Int):Prop:=if x.Kind=2 then v=-1∨v=0∨v=x.Max else -1≤v∧v≤x.Max
theorem zBE (p:GPaper) (c:GScheme) (j:Nat) (x:GPart) (v:Int) (hs:Short c) (hok:zdu p c) (hx:p.Parts[j]?=some x) :
  cw zn9 [.agg (zas p),.agg (zaW c),I j,I v] []=some (zn1 (dec (PermP x v))):=by
 obtain ⟨hj,hx⟩:=List.getElem?_eq_some_iff.1 hx
 refine zBI p c j v ?_
 simp (disch:=omega) only [zgG p c hs,zjv,zax hok,Bool.not_true,zai,List.length_map,zaq,zac,Int.toNat_natCast,zdk,List.getElem?_eq_getElem hj,Option.bind_some,hx]
 simp only [zb1,decide_eq_true_eq,beq_iff_eq]
 by_cases h:x.Kind=2
 · rw [if_pos h,show dec (PermP x v)=dec (v=-1∨v=0∨v=x.Max) from zfM (by unfold PermP; rw [if_pos h])]
   repeat' split
   all_goals first
    | (rw [zax (by omega)]; rfl)
    | (rw [show (v == x.Max)=dec (v=-1∨v=0∨v=x.Max) from zdG (by simp only [beq_iff_eq]; omega)]; rfl)
 · rw [if_neg h,show dec (PermP x v)=dec (-1≤v∧v≤x.Max) from zfM (by unfold PermP; rw [if_neg h])]
   split
   · rw [show decide (v≤x.Max)=dec (-1≤v∧v≤x.Max) from zdG (by simp only [decide_eq_true_eq]; omega)]; rfl
   · rw [zaz (by omega)]; rfl
def OpenP (p:GPaper) (n:Int):Prop:=0≤n∧∃ x,p.Parts[n.toNat]?=some x∧x.Kind=1
theorem zvr (p:GPaper) (n:Int):cw zm6 [.agg (zas p),I n] []=some (zvb (dec (OpenP p n))):=by
 refine zI4 p n ?_
 by_cases h0:0≤n
 · by_cases h1:n.toNat < p.Parts.length
   · simp (disch:=omega) only [zak,List.length_map,zac,zdk,List.getElem?_eq_getElem h1,Option.bind_some]
     rw [show (p.Parts[n.toNat].Kind == 1)=dec (OpenP p n) from zdG (by
      simp only [beq_iff_eq]
      exact ⟨fun h=>⟨h0,_,List.getElem?_eq_getElem h1,h⟩,fun ⟨_,x,h2,h3⟩=>by rw [List.getElem?_eq_getElem h1] at h2; cases h2; exact h3⟩)]
     rfl
   · simp (disch:=omega) only [zak,List.length_map,zaq]
     rw [zaz (by rintro ⟨_,x,h2,_⟩; exact h1 (List.getElem?_eq_some_iff.1 h2).1)]
     rfl
 · simp (disch:=omega) only [zaq]
   rw [zaz (fun h=>h0 h.1)]
   rfl
def FitsE (s:GSetup) (e:GMarkEvent):Prop:=
 ∃ x,zd0 s.Scripts e.Script=some x∧e.Kind=0∧Elig s.Markers e.Stamp.Source x∧∃ k p y,zhu s.Papers x=some (k,p)∧0≤e.Part∧p.Parts[e.Part.toNat]?=some y∧y.Kind=1∧(-1≤e.Value∧e.Value≤y.Max)∧e.Pages=x.Pages
theorem zuW (s:GSetup) (hs:OkSetup s) (e:GMarkEvent) (hm:∀ m∈s.Markers,m.Papers.length≤1000000) (hp:e.Pages.length≤1000000) :
  cw zm5 [.agg (zat s),.agg (zab e)] []=some (zvo (dec (FitsE s e))):=by
 have hm16:=hs.markers.1
 have hx60:=hs.scripts.1
 have hp32:=hs.papers
 refine zIV s e ?_
 simp only [zsc s.Scripts e.Script (by omega),zm8]
 cases h1:zd0 s.Scripts e.Script with
 | none =>
   simp only [scR,Bool.not_false,zap]
   rw [zaz (by rintro ⟨x,h2,_⟩; rw [h1] at h2; cases h2)]
   rfl
 | some x =>
   have hmem:=(zwV h1).1
   obtain ⟨k,p,c,hk,hc,_⟩:=hs.script x hmem
   simp only [scR,Bool.not_true,zai]
   by_cases h2:e.Kind=0
   · simp only [show (e.Kind != 0)=false by simp [h2],zai,zC3 s.Markers e.Stamp.Source x (by omega) hm,zzi]
     by_cases h3:Elig s.Markers e.Stamp.Source x
     · have hpk:=(ziI hk).1
       have hlt:=(List.getElem?_eq_some_iff.1 hpk).1
       simp (disch:=omega) only [zax h3,Bool.not_true,zai,ztK s.Papers x (by omega),hk,ixR,zt3,zac,Int.toNat_natCast,zdN,hpk,Option.bind_some,zvr,zpx,zo4,hc]
       by_cases h4:OpenP p e.Part
       · obtain ⟨h0,y,hy,hyk⟩:=h4
         have hy1:1≤y.Max:=((hs.okPaper hpk).2.2.2.1 y (List.mem_of_getElem? hy)).1.1
         have hje:((e.Part.toNat:Nat):Int)=e.Part:=by omega
         have hperm:=zBE p c e.Part.toNat y e.Value (hs.short c (List.mem_of_getElem? hc)) (hs.schemes k p c hpk hc) hy
         rw [hje] at hperm
         have hiff:FitsE s e↔(-1≤e.Value∧e.Value≤y.Max)∧e.Pages=x.Pages:=by
          constructor
          · rintro ⟨x',a1,_,_,k',p',y',a2,_,a3,_,a4,a5⟩
            rw [h1] at a1
            cases a1
            rw [hk] at a2
            cases a2
            rw [hy] at a3
            cases a3
            exact ⟨a4,a5⟩
          · rintro ⟨a4,a5⟩
            exact ⟨x,h1,h2,h3,k,p,y,hk,h0,hy,hyk,a4,a5⟩
         rw [zfM hiff]
         simp only [zax (show OpenP p e.Part from ⟨h0,y,hy,hyk⟩),zap,zCU e.Pages x.Pages hp,zpN,hperm,zx2]
         by_cases h5:e.Value=-1
         · simp only [show (e.Value == -1)=true by simp [h5],zap]
           rw [show dec ((-1≤e.Value∧e.Value≤y.Max)∧e.Pages=x.Pages)=dec (e.Pages=x.Pages) from zfM ⟨fun h=>h.2,fun h=>⟨by omega,h⟩⟩]
           rfl
         · simp only [show (e.Value == -1)=false by simpa using h5,zai]
           by_cases h6:-1≤e.Value∧e.Value≤y.Max
           · rw [zax (show PermP y e.Value by unfold PermP; rw [if_neg (by omega)]; exact h6),zap,
              show dec ((-1≤e.Value∧e.Value≤y.Max)∧e.Pages=x.Pages)=dec (e.Pages=x.Pages) from zfM ⟨fun h=>h.2,fun h=>⟨h6,h⟩⟩]
             rfl
           · rw [zaz (show ¬ PermP y e.Value by unfold PermP; rw [if_neg (by omega)]; exact h6),zai,zaz (fun h=>h6 h.1)]
             rfl
       · simp only [zaz h4,zai]
         rw [zaz (by
          rintro ⟨x',a1,_,_,k',p',y',a2,a0,a3,a6,_⟩
          rw [h1] at a1
          cases a1
          rw [hk] at a2
          cases a2
          exact h4 ⟨a0,y',a3,a6⟩)]
         rfl
     · simp only [zaz h3,Bool.not_false,zap]
       rw [zaz (by
        rintro ⟨x',a1,_,a3,_⟩
        rw [h1] at a1
        cases a1
        exact h3 a3)]
       rfl
   · simp only [show (e.Kind != 0)=true by simpa using h2,zap]
     rw [zaz (by rintro ⟨_,_,a,_⟩; exact h2 a)]
     rfl
end Go.Proofs.YticojpmhlhfhlaaGreat
namespace Go.Proofs.YticojpmhlhfhlaaGreat
open Go.Ab
set_option linter.unusedSimpArgs false
def failsN (l:List Bool):Int:=((l.filter (!·)).length:Nat)
theorem ztA (l:List Bool) (hl:l.length≤1000000):cw zlz [.sl 1 (List.map nBool l)] []=some (zoM (failsN l)):=by
 refine zHF l ?_
 have loop:=zaZ l (fun i r=>∀ x:Int,0≤x→x≤i→zim l x i=some (zoM (x+failsN r))) ?_ ?_ 0 (by omega) (by omega)
 · rw [loop,Int.zero_add]
 · intro x _ _
   refine zv7 _ _ _ ?_
   simp (disch:=omega) only [List.length_map,zaq]
   simp only [failsN,List.filter_nil,List.length_nil,Int.natCast_zero,Int.add_zero]
   rfl
 · intro i hi r hr ih x h0 h1
   refine zv7 _ _ _ ?_
   simp (disch:=omega) only [List.length_map,zak,zac,Int.toNat_natCast,zkR,List.getElem?_eq_getElem hi,Option.bind_some]
   cases hb:l[i] with
   | true =>
     simp (disch:=omega) only [Bool.not_true,zai,w64_id]
     rw [ih x h0 (by omega),show failsN (true :: r)=failsN r by simp [failsN]]
   | false =>
     simp (disch:=omega) only [Bool.not_false,zap,w64_id]
     rw [ih (x+1) (by omega) (by omega),show failsN (false :: r)=1+failsN r by simp [failsN]; omega,Int.add_assoc]
def zlE (r:GMonitorRule) (w:GWatch):Prop:=(w.Last.length:Int)≤r.Window∧w.Suspended=decide (r.Fails≤failsN w.Last)
theorem zHW (r:GMonitorRule) (w:GWatch) (hr:OkMon r):cw ztn [.agg (zba r),.agg (za7 w)] []=some (ztG (dec (zlE r w))):=by
 have hw:=hr.2.2.1
 refine zHc r w ?_
 simp only [ztB r hr,zt0,beq_self_eq_true,zap,List.length_map]
 by_cases h:(w.Last.length:Int)≤r.Window
 · simp (disch:=omega) only [zak,ztA,zoa]
   rw [show (w.Suspended == decide (r.Fails≤failsN w.Last))=dec (zlE r w) from zdG (by simp only [beq_iff_eq,zlE]; exact ⟨fun h2=>⟨h,h2⟩,fun h2=>h2.2⟩)]
   rfl
 · simp (disch:=omega) only [zaq]
   rw [zaz (fun h2=>h h2.1)]
   rfl
def lastW (r:GMonitorRule) (w:GWatch) (b:Bool):List Bool:=if r.Window < ((w.Last++[b]).length:Nat) then (w.Last++[b]).drop 1 else w.Last++[b]
def stepW (r:GMonitorRule) (w:GWatch) (b:Bool):GWatch:=⟨lastW r w b,decide (r.Fails≤failsN (lastW r w b))⟩
theorem stepW_ok (r:GMonitorRule) (w:GWatch) (b:Bool) (h:zlE r w):zlE r (stepW r w b):=by
 refine ⟨?_,rfl⟩
 have:=h.1
 show ((lastW r w b).length:Int)≤r.Window
 unfold lastW
 split
 · simp at *; omega
 · simp at *; omega
theorem zAL (r:GMonitorRule) (w:GWatch) (b:Bool) (hr:OkMon r) (hw:zlE r w) (hs:w.Suspended=false) :
  cw zqJ [.agg (zba r),.agg (za7 w),B b] []=some (zuM (stepW r w b,0)):=by
 have h1:=hr.2.2.1
 have h2:=hw.1
 refine zII r w b ?_
 have hsnoc:List.map nBool w.Last++[[AV.v (Go.Value.bool b)]]=List.map nBool (w.Last++[b]):=by simp [nBool]
 have hsnoc2:List.map nBool w.Last++[nBool b]=List.map nBool (w.Last++[b]):=by simp
 have hsnoc3:List.map nBool w.Last++[[B b]]=List.map nBool (w.Last++[b]):=by simp [nBool]
 have hlen:(w.Last++[b]).length=w.Last.length+1:=by simp
 simp (disch:=omega) only [zHW r w hr,zCt,zax hw,Bool.not_true,zai,hs,List.length_map,zac,zaC,hsnoc]
 by_cases hb:r.Window < ((w.Last++[b]).length:Nat)
 · simp (disch:=omega) only [zak,zac,zaC,Nat.le_refl]
   refine zBT _ _ _ ?_
   have hdrop:List.take ((w.Last++[b]).length - Int.toNat 1) (List.drop (0+Int.toNat 1) (List.map nBool (w.Last++[b])))=List.map nBool (lastW r w b):=by
    rw [show 0+Int.toNat 1=1 from rfl,← List.map_drop,List.take_of_length_le (by simp)]
    unfold lastW
    rw [if_pos hb]
   have hll:(lastW r w b).length≤1000000:=by
    unfold lastW
    rw [if_pos hb]
    simp
    omega
   simp (disch:=omega) only [hsnoc,hsnoc2,hsnoc3,List.length_map,hdrop,zac,ztA _ hll,zoa]
   rfl
 · simp (disch:=omega) only [zaq]
   refine zz4 _ _ _ ?_
   have hdrop:List.take (w.Last++[b]).length (List.map nBool (w.Last++[b]))=List.map nBool (lastW r w b):=by
    rw [List.take_of_length_le (by simp)]
    unfold lastW
    rw [if_neg hb]
   have hll:(lastW r w b).length≤1000000:=by
    unfold lastW
    rw [if_neg hb]
    simp
    omega
   simp (disch:=omega) only [hsnoc,hsnoc2,hsnoc3,List.length_map,hdrop,zac,ztA _ hll,zoa]
   rfl
theorem zBi (n:Int):∃ m,cw zqA [I n] []=some (zuV m):=by
 by_cases h:n < 0
 · exact ⟨_,zAT n (by simp (disch:=omega) only [zak]; rfl)⟩
 · exact ⟨_,zAT n (by simp (disch:=omega) only [zaq]; rfl)⟩
theorem zJf (r:GMonitorRule) (a b:List Int) (hr:OkMon r):∃ v,cw zrv [.agg (zba r),.sl 1 (List.map zaa a),.sl 1 (List.map zaa b)] []=some (zqD v):=by
 let Q:AV×Mem→Prop:=fun y=>∃ v,y=zqD v
 suffices H:Sat Q (cw zrv [.agg (zba r),.sl 1 (List.map zaa a),.sl 1 (List.map zaa b)] []) by
  obtain ⟨y,e,v,rfl⟩:=H
  exact ⟨v,e⟩
 have no:Sat Q (some (B false,[])):=zer ⟨false,rfl⟩
 refine sat_of (fun y=>zJu _ _ _) ?_
 simp only [ztB r hr,zt0,bne_self_eq_false,zai,List.length_map]
 by_cases h1:a.length=b.length
 · simp only [h1,bne_self_eq_false,zai]
   by_cases h2:b.length≤24
   · simp (disch:=omega) only [zaq]
     refine zaZ a (fun i _=>∀ x,Sat Q (znB r a b x i)) ?_ ?_ 0
     · intro x
       obtain ⟨m,em⟩:=zBi x
       refine sat_of (fun y=>zxJ _ _ _ _ _) ?_
       simp (disch:=omega) only [List.length_map,zaq,em,zvc]
       exact zer ⟨_,rfl⟩
     · intro i hi rr _ ih x
       have hi2:i < b.length:=by omega
       refine sat_of (fun y=>zxJ _ _ _ _ _) ?_
       simp (disch:=omega) only [List.length_map,zak,zac,Int.toNat_natCast,zbi,List.getElem?_eq_getElem hi,List.getElem?_eq_getElem hi2,Option.bind_some,w64_id (n:=(i:Int)+1)]
       obtain ⟨m,em⟩:=zBi (w64 ((if 0 > a[i] then 0 else a[i]) - if 0 > b[i] then 0 else b[i]))
       simp only [em,zvc]
       simp only [zb1]
       repeat' split
       all_goals first
        | exact no
        | exact ih _
   · simp (disch:=omega) only [zak]
     exact no
 · simp only [show ((a.length:Int) != (b.length:Int))=true by simp only [bne_iff_ne,ne_eq]; omega,zap]
   exact no
theorem c_judge (s:GSetup) (hs:OkSetup s) (k:Nat) (p:GPaper) (i:Nat) (y:GSeed) (n:Int) (l:List Gref29Noted) (hk:zgy s n=some (k,p)) (hy:seedOf s.Seeds n=some (i,y)) (hm:zpT p y.Marks)
  (hl:l.length≤100000):∃ v,cw zll [.agg (zat s),I n,.sl 2 (List.map zaD l)] []=some (zo2 v):=by
 let Q:AV×Mem→Prop:=fun y=>∃ v,y=zo2 v
 suffices H:Sat Q (cw zll [.agg (zat s),I n,.sl 2 (List.map zaD l)] []) by
  obtain ⟨y,e,v,rfl⟩:=H
  exact ⟨v,e⟩
 have hx60:=hs.scripts.1
 have hp32:=hs.papers
 have hsd:=hs.seeds
 have hpk:=zqq hk
 have hparts:p.Parts.length≤24:=(hs.okPaper hpk).2.2.1.2
 have hmarks:∀ y∈s.Seeds,y.Marks.length≤1000000:=by
  intro y hy
  obtain ⟨k',p',h1,h2⟩:=hs.seed y hy
  have:=(hs.okPaper (zqq h1)).2.2.1
  have:=h2.1
  omega
 refine sat_of (fun y=>zHl _ _ _) ?_
 simp (disch:=omega) only [zms s n (by omega) (by omega),hk,ixR,zrM,zgf s.Seeds n (by omega) hmarks,hy,seedR,zee]
 refine zaZ p.Parts (fun q _=>∀ (a b:List Int),(a.length:Int)≤100000*q→(b.length:Int)≤100000*q→Sat Q (zi8 s l ((k:Int),true) (y.Marks,true) (List.map zaa a) (List.map zaa b) q)) ?_ ?_ [] [] (by simp) (by simp)
 · intro a b ha hb
   refine sat_of (fun y=>zv6 _ _ _ _ _ _ _) ?_
   simp (disch:=omega) only [zac,Int.toNat_natCast,zdN,hpk,Option.bind_some,List.length_map,zaq,Nat.zero_add,Nat.le_refl,zaC]
   rw [List.take_of_length_le (by simp),List.take_of_length_le (by simp)]
   obtain ⟨v,ev⟩:=zJf s.Monitor a b hs.monitor
   simp only [ev,zC7]
   exact zer ⟨(true,v),rfl⟩
 · intro q hq r _ ih a b ha hb
   refine sat_of (fun y=>zv6 _ _ _ _ _ _ _) ?_
   simp (disch:=omega) only [zac,Int.toNat_natCast,zdN,hpk,Option.bind_some,List.length_map,zak,zvr,zpx]
   cases dec (OpenP p (q:Int)) with
   | false =>
     simp (disch:=omega) only [Bool.not_false,zap,w64_id]
     exact ih a b (by omega) (by omega)
   | true =>
     simp only [Bool.not_true,zai]
     have hqm:q < y.Marks.length:=by have:=hm.1; omega
     refine zaZ l (fun j _=>∀ (a b:List Int) (f:Bool),(a.length:Int)≤100000*q+j→(b.length:Int)≤100000*q+j→Sat Q (zit s l ((k:Int),true) (y.Marks,true) q (List.map zaa a) (List.map zaa b) f j)) ?_ ?_ a b false (by omega) (by omega)
     · intro a b f ha hb
       refine sat_of (fun y=>zvR _ _ _ _ _ _ _ _ _) ?_
       cases f with
       | false =>
         simp (disch:=omega) only [List.length_map,zaq,Bool.not_false,zap]
         exact zer ⟨(false,false),rfl⟩
       | true =>
         simp (disch:=omega) only [List.length_map,zaq,Bool.not_true,zai,w64_id]
         exact ih a b (by omega) (by omega)
     · intro j hj r _ ih2 a b f ha hb
       refine sat_of (fun y=>zvR _ _ _ _ _ _ _ _ _) ?_
       simp (disch:=omega) only [List.length_map,zak,zac,zaC,Int.toNat_natCast,zoh,List.getElem?_eq_getElem hj,Option.bind_some,zbi,List.getElem?_eq_getElem hqm,zbu zaa,w64_id]
       cases l[j].part == (q:Int) with
       | true =>
         simp only [zap]
         exact ih2 _ _ true (by simp; omega) (by simp; omega)
       | false =>
         simp only [zai]
         exact ih2 a b f (by omega) (by omega)
end Go.Proofs.YticojpmhlhfhlaaGreat
namespace Go.Proofs.YticojpmhlhfhlaaGreat
open Go.Ab
set_option linter.unusedSimpArgs false
structure WInv (s:GSetup) (l:List GMarkEvent) (i:Nat) (out:List GSuspension) (w:GWatch) (void:List Bool) (notes:List (Int×List Gref29Noted)):Prop where
 olen:out.length≤i
 ow:zlE s.Monitor w
 os:w.Suspended=true→1≤out.length
 vlen:void.length=l.length
 nlen:∀ q∈notes,q.2.length≤i
theorem WInv.up {s:GSetup} {l:List GMarkEvent} {i:Nat} {out:List GSuspension} {w:GWatch} {void:List Bool} {notes:List (Int×List Gref29Noted)} (h:WInv s l i out w void notes):WInv s l (i+1) out w void notes:=
 ⟨by have:=h.olen; omega,h.ow,h.os,h.vlen,fun q hq=>by have:=h.nlen q hq; omega⟩
theorem zyV {r:GMonitorRule} (h:OkMon r):zlE r ⟨[],false⟩:=by
 have h1:=h.2.2.1
 have h2:=h.2.2.2
 refine ⟨by simp; omega,?_⟩
 have:¬ r.Fails≤failsN []:=by simp [failsN]; omega
 simp [this]
def QW (l:List GMarkEvent):AV×Mem→Prop:=fun y=>∃ r,y=zoL r∧r.2.length=l.length∧r.1.length≤l.length
theorem zuo {s:GSetup} (hs:OkSetup s) {n:Int} {i:Nat} {y:GSeed} (h:seedOf s.Seeds n=some (i,y)):∃ k p,zgy s n=some (k,p)∧zpT p y.Marks:=by
 obtain ⟨h1,h2,_⟩:=fnd_at h
 obtain ⟨k,p,h3,h4⟩:=hs.seed y (List.mem_of_getElem? h1)
 simp only [beq_iff_eq] at h2
 rw [h2] at h3
 exact ⟨k,p,h3,h4⟩
theorem zuj {s:GSetup} (hs:OkSetup s):∀ y∈s.Seeds,y.Marks.length≤1000000:=by
 intro y hy
 obtain ⟨k',p',h1,h2⟩:=hs.seed y hy
 have:=(hs.okPaper (zqq h1)).2.2.1
 have:=h2.1
 omega
theorem watch2 (s:GSetup) (hs:OkSetup s) (l:List GMarkEvent) (hl:l.length≤2000) (hp:∀ e∈l,e.Pages.length≤1000000) (mk:Int) :
  ∀ (n i:Nat),i+n=l.length→∀ (good:GStamp) (first:Bool) (begin:Int) (out:List GSuspension) (w:GWatch) (void:List Bool) (notes:List (Int×List Gref29Noted)) (ol:Nat),0≤begin→begin≤i→ol=out.length→WInv s l i out w void notes →
    Sat (QW l) (zcl s l mk good first begin (List.map zaJ out) w (List.map nBool void) (List.map zaK notes) ol i):=by
 have hsd:=hs.seeds
 intro n
 induction n with
 | zero =>
   intro i hi good first begin out w void notes ol h0 h1 ho inv
   have hvl:=inv.vlen
   have hol:=inv.olen
   subst ho
   refine sat_of (fun y=>zub _ _ _ _ _ _ _ _ _ _ _ _) ?_
   simp (disch:=omega) only [List.length_map,List.length_replicate,Int.toNat_natCast,zaq,zac]
   rw [List.take_of_length_le (by simp),List.take_of_length_le (by simp; omega)]
   exact zer ⟨(out,void),rfl,hvl,by dsimp only; omega⟩
 | succ n ih =>
   intro i hi good first begin out w void notes ol h0 h1 ho inv
   have hvl:=inv.vlen
   have hol:=inv.olen
   subst ho
   have hlt:i < l.length:=by omega
   have hltv:i < void.length:=by omega
   have go:∀ (good:GStamp) (first:Bool) (begin:Int) (out:List GSuspension) (w:GWatch) (void:List Bool) (notes:List (Int×List Gref29Noted)) (ol:Nat),0≤begin→begin≤i→ol=out.length→WInv s l (i+1) out w void notes →
     Sat (QW l) (zcl s l mk good first begin (List.map zaJ out) w (List.map nBool void) (List.map zaK notes) ol (w64 ((i:Int)+1))):=by
    intro good first begin out w void notes ol h0 h1 ho inv
    rw [w64_id (by omega) (by omega)]
    exact ih (i+1) (by omega) good first begin out w void notes ol h0 (by omega) ho inv
   have m1008:∀ (good:GStamp) (first:Bool) (begin:Int) (out:List GSuspension) (w:GWatch) (void:List Bool) (notes:List (Int×List Gref29Noted)) (ol:Nat),0≤begin→begin≤i→ol=out.length→WInv s l (i+1) out w void notes →
     Sat (QW l) (zex s l mk (List.map zaJ out) w good (List.map nBool void) (List.map zaK notes) ol first begin i):=by
    intro good first begin out w void notes ol h0 h1 ho inv
    refine sat_of (fun y=>zsJ _ _ _ _ _ _ _ _ _ _ _ _) ?_
    exact go good first begin out w void notes ol h0 h1 ho inv
   have m1029:∀ (w':GWatch) (notes':List (Int×List Gref29Noted)) (r:Bool×Bool),zlE s.Monitor w'→(∀ q∈notes',q.2.length≤i+1) →
     Sat (QW l) (zk5 s l mk good first begin (List.map zaJ out) (List.map nBool void) out.length i l[i] (List.map zaK notes') r (w',0)):=by
    intro w' notes' r hw' hn'
    have loop:∀ (m:Nat) (j:Int) (void':List Bool),0≤j→j+m=i+1→void'.length=l.length →
      Sat (QW l) (zjD s l mk good first begin (List.map zaJ out) (List.map nBool void) out.length i l[i] (List.map zaK notes') r (w',0) (List.map nBool void') j):=by
     intro m
     induction m with
     | zero =>
       intro j void' hj hjm hv'
       refine sat_of (fun y=>zt7 _ _ _ _ _ _ _ _ _ _ _ _ _ _ _ _) ?_
       simp (disch:=omega) only [zaq]
       refine sat_of (fun y=>zxD _ _ _ _ _ _ _ _ _ _ _ _ _ _ _ _) ?_
       rw [zbu zaJ]
       refine go _ _ _ _ _ _ _ _ h0 h1 (by simp) ⟨by simp; omega,hw',fun _=>by simp,hv',hn'⟩
     | succ m ih3 =>
       intro j void' hj hjm hv'
       have hj1:j.toNat < l.length:=by omega
       have hj2:j.toNat < void'.length:=by omega
       have m1033:∀ (b:Bool),Sat (QW l) (zcx s l mk good first begin (List.map zaJ out) (List.map nBool void) out.length i l[i] (List.map zaK notes') r (w',0) j (List.map nBool (void'.set j.toNat b))):=by
        intro b
        refine sat_of (fun y=>zyu _ _ _ _ _ _ _ _ _ _ _ _ _ _ _ _) ?_
        rw [w64_id (by omega) (by omega)]
        exact ih3 (j+1) (void'.set j.toNat b) (by omega) (by omega) (by simpa using hv')
       refine sat_of (fun y=>zt7 _ _ _ _ _ _ _ _ _ _ _ _ _ _ _ _) ?_
       simp (disch:=omega) only [List.length_map,List.length_replicate,Int.toNat_natCast,Nat.zero_add,zak,zac,zkR,zbv,List.getElem?_eq_getElem hj1,List.getElem?_eq_getElem hj2,Option.bind_some,zq2,zle,zc6 nBool]
       simp only [zb1]
       repeat' split
       all_goals exact m1033 _
    refine sat_of (fun y=>zyc _ _ _ _ _ _ _ _ _ _ _ _ _ _) ?_
    cases hsus:w'.Suspended with
    | true =>
      simp (disch:=omega) only [zap,eq_self,zaC,List.length_map,zac]
      exact loop (i+1 - begin.toNat) begin void h0 (by omega) hvl
    | false =>
      simp only [zai]
      cases r.2 with
      | true =>
        simp only [zap]
        exact m1008 _ _ _ _ _ _ _ _ h0 h1 rfl ⟨by omega,hw',by simp [hsus],hvl,hn'⟩
      | false =>
        simp only [zai]
        refine sat_of (fun y=>zxT _ _ _ _ _ _ _ _ _ _ _ _ _) ?_
        exact go _ _ _ _ _ _ _ _ h0 h1 rfl ⟨by omega,hw',by simp [hsus],hvl,hn'⟩
   have m1025:∀ (c:List Gref29Noted) (q:Nat) (y:GSeed),w.Suspended=false→c.length≤i→seedOf s.Seeds l[i].Script=some (q,y) →
     Sat (QW l) (zk7 s l mk good first begin (List.map zaJ out) w (List.map nBool void) (List.map zaK notes) out.length i l[i] c):=by
    intro c q y hsus hc hsd
    obtain ⟨k,p,hk,hm⟩:=zuo hs hsd
    refine sat_of (fun y=>zyA _ _ _ _ _ _ _ _ _ _ _ _ _ _) ?_
    have hlen:(List.map zaD c++[[I l[i].Part,I l[i].Value]]).length=c.length+1:=by simp
    have htk:List.take (c.length+1) (List.map zaD c++[zaD ⟨l[i].Part,l[i].Value⟩])=List.map zaD (c++[⟨l[i].Part,l[i].Value⟩]):=by
     rw [zbu zaD,List.take_of_length_le (by simp)]
    simp (disch:=omega) only [hlen,List.length_map,zac,zaC,htk,zop]
    have hnn:∀ q∈mput l[i].Script (c++[⟨l[i].Part,l[i].Value⟩]) notes,q.2.length≤i+1:=by
     intro q hq
     rcases zza hq with rfl | hq
     · simp; omega
     · have:=inv.nlen q hq; omega
    refine sat_of (fun y=>zyd _ _ _ _ _ _ _ _ _ _ _ _ _) ?_
    simp only [zfR]
    have hlk:((mfind l[i].Script (mput l[i].Script (c++[⟨l[i].Part,l[i].Value⟩]) notes)).getD []).length≤100000:=by
     cases hf:mfind l[i].Script (mput l[i].Script (c++[⟨l[i].Part,l[i].Value⟩]) notes) with
     | none=>simp
     | some v=>have:=hnn _ (zp0 hf); simp only [Option.getD_some]; simp only at this; omega
    obtain ⟨v,ev⟩:=c_judge s hs k p q y l[i].Script _ hk hsd hm hlk
    simp only [ev,zt5]
    cases v.1 with
    | false =>
      simp only [Bool.not_false,zap]
      refine sat_of (fun y=>zzk _ _ _ _ _ _ _ _ _ _ _ _ _ _) ?_
      exact go _ _ _ _ _ _ _ _ h0 h1 rfl ⟨by omega,inv.ow,inv.os,hvl,hnn⟩
    | true =>
      simp only [Bool.not_true,zai]
      refine sat_of (fun y=>zy4 _ _ _ _ _ _ _ _ _ _ _ _ _ _) ?_
      simp only [zAL s.Monitor w v.2 hs.monitor inv.ow hsus,zvu]
      exact m1029 _ _ _ (stepW_ok _ _ _ inv.ow) hnn
   have m1019:∀ (q:Nat) (y:GSeed),w.Suspended=false→seedOf s.Seeds l[i].Script=some (q,y) →
     Sat (QW l) (zkx s l mk good first begin (List.map zaJ out) w (List.map nBool void) (List.map zaK notes) out.length i l[i]):=by
    intro q y hsus hsd
    refine sat_of (fun y=>zyb _ _ _ _ _ _ _ _ _ _ _ _ _) ?_
    simp only [zfR]
    have hc:((mfind l[i].Script notes).getD []).length≤i:=by
     cases hf:mfind l[i].Script notes with
     | none=>simp
     | some v=>have:=inv.nlen _ (zp0 hf); simpa using this
    generalize (mfind l[i].Script notes).getD []=c at hc
    refine zaZ c (fun j _=>∀ b,Sat (QW l) (zgT s l mk good first begin (List.map zaJ out) w (List.map nBool void) (List.map zaK notes) out.length i l[i] c b j)) ?_ ?_ false
    · intro b
      refine sat_of (fun y=>ztS _ _ _ _ _ _ _ _ _ _ _ _ _ _ _ _) ?_
      simp (disch:=omega) only [List.length_map,zaq]
      cases b with
      | true =>
        simp only [zap]
        refine sat_of (fun y=>zyy _ _ _ _ _ _ _ _ _ _ _ _ _ _) ?_
        exact go _ _ _ _ _ _ _ _ h0 h1 rfl inv.up
      | false =>
        simp only [zai]
        exact m1025 c q y hsus hc hsd
    · intro j hj r _ ih2 b
      refine sat_of (fun y=>ztS _ _ _ _ _ _ _ _ _ _ _ _ _ _ _ _) ?_
      simp (disch:=omega) only [List.length_map,zak,zac,Int.toNat_natCast,zoh,List.getElem?_eq_getElem hj,Option.bind_some,w64_id]
      cases b with
      | true=>simp only [zap]; exact ih2 _
      | false=>simp only [zai]; exact ih2 _
   have m1014:Sat (QW l) (ze2 s l mk good first begin (List.map zaJ out) w (List.map nBool void) (List.map zaK notes) out.length i l[i]):=by
    have stay:Sat (QW l) (zhi s l mk good first begin (List.map zaJ out) w (List.map nBool void) (List.map zaK notes) out.length i l[i]):=
     sat_of (fun y=>zyM _ _ _ _ _ _ _ _ _ _ _ _ _) (go _ _ _ _ _ _ _ _ h0 h1 rfl inv.up)
    have stay2:Sat (QW l) (zhj s l mk good first begin (List.map zaJ out) w (List.map nBool void) (List.map zaK notes) out.length i l[i]):=
     sat_of (fun y=>zx5 _ _ _ _ _ _ _ _ _ _ _ _ _) (go _ _ _ _ _ _ _ _ h0 h1 rfl inv.up)
    refine sat_of (fun y=>zys _ _ _ _ _ _ _ _ _ _ _ _ _) ?_
    cases l[i].Kind != 0 with
    | true=>simp only [zap]; exact stay
    | false =>
      simp only [zai]
      cases l[i].Stamp.Source != mk with
      | true=>simp only [zap]; exact stay
      | false =>
        simp only [zai]
        refine sat_of (fun y=>zyl _ _ _ _ _ _ _ _ _ _ _ _ _) ?_
        cases hsus:w.Suspended with
        | true =>
          simp (disch:=omega) only [zap,List.length_map,List.length_replicate,Int.toNat_natCast,Nat.zero_add,zac,zkR,List.getElem?_eq_getElem hltv,Option.bind_some,zc6 nBool]
          exact m1008 _ _ _ _ _ _ _ _ h0 h1 rfl ⟨by omega,inv.ow,inv.os,by simpa using hvl,inv.up.nlen⟩
        | false =>
          simp only [zai]
          refine sat_of (fun y=>zyI _ _ _ _ _ _ _ _ _ _ _ _ _) ?_
          simp (disch:=omega) only [zgf s.Seeds l[i].Script (by omega) (zuj hs),zee]
          cases hq:seedOf s.Seeds l[i].Script with
          | none=>simp only [seedR,Bool.not_false,zap]; exact stay2
          | some qy =>
            obtain ⟨q,y⟩:=qy
            simp only [seedR,Bool.not_true,zai,zuW s hs l[i] hs.short2 (hp _ (List.getElem_mem hlt)),zpG]
            cases dec (FitsE s l[i]) with
            | false=>simp only [Bool.not_false,zap]; exact stay2
            | true=>simp only [Bool.not_true,zai]; exact m1019 q y hsus hq
   refine sat_of (fun y=>zub _ _ _ _ _ _ _ _ _ _ _ _) ?_
   simp (disch:=omega) only [List.length_map,zak,zac,Int.toNat_natCast,zbv,List.getElem?_eq_getElem hlt,Option.bind_some]
   cases l[i].Kind == 1 with
   | false=>simp only [zai]; exact m1014
   | true =>
     simp only [zap]
     cases l[i].Marker == mk with
     | false=>simp only [zai]; exact m1014
     | true =>
       simp only [zap]
       cases hsus:w.Suspended with
       | false=>simp only [zai]; exact m1014
       | true =>
         have hon:=inv.os hsus
         have hoe:((out.length:Int) - 1).toNat=out.length - 1:=by omega
         have hol2:out.length - 1 < out.length:=by omega
         simp (disch:=omega) only [zap,w64_id,hoe,Nat.zero_add,zac,zua,List.getElem?_eq_getElem hol2,Option.bind_some,zc6 zaJ,List.getElem?_set_self hol2]
         exact m1008 _ _ _ _ _ _ [] _ (by omega) (by omega) (by simp) ⟨by simp; omega,zyV hs.monitor,by simp,hvl,by simp⟩
end Go.Proofs.YticojpmhlhfhlaaGreat
namespace Go.Proofs.YticojpmhlhfhlaaGreat
open Go.Ab
set_option linter.unusedSimpArgs false
theorem watch1 (s:GSetup) (hs:OkSetup s) (l:List GMarkEvent) (hl:l.length≤2000) (hp:∀ e∈l,e.Pages.length≤1000000) (mk:Int) :
  ∀ (n i:Nat),i+n=l.length→∀ (good:GStamp) (first:Bool) (out:List GSuspension) (w:GWatch) (void:List Bool) (notes:List (Int×List Gref29Noted)),WInv s l i out w void notes →
    Sat (QW l) (zcs s l mk (List.map zaJ out) w good (List.map nBool void) (List.map zaK notes) first i):=by
 have hsd:=hs.seeds
 intro n
 induction n with
 | zero =>
   intro i hi good first out w void notes inv
   have hvl:=inv.vlen
   have hol:=inv.olen
   refine sat_of (fun y=>zwb _ _ _ _ _ _ _ _ _ _) ?_
   simp (disch:=omega) only [List.length_map,List.length_replicate,Int.toNat_natCast,zaq,zac]
   rw [List.take_of_length_le (by simp),List.take_of_length_le (by simp; omega)]
   exact zer ⟨(out,void),rfl,hvl,by dsimp only; omega⟩
 | succ n ih =>
   intro i hi good first out w void notes inv
   have hvl:=inv.vlen
   have hol:=inv.olen
   have hlt:i < l.length:=by omega
   have hltv:i < void.length:=by omega
   have go:∀ (good:GStamp) (first:Bool) (out:List GSuspension) (w:GWatch) (void:List Bool) (notes:List (Int×List Gref29Noted)),WInv s l (i+1) out w void notes →
     Sat (QW l) (zcs s l mk (List.map zaJ out) w good (List.map nBool void) (List.map zaK notes) first (w64 ((i:Int)+1))):=by
    intro good first out w void notes inv
    rw [w64_id (by omega) (by omega)]
    exact ih (i+1) (by omega) good first out w void notes inv
   have m1008:∀ (good:GStamp) (first:Bool) (out:List GSuspension) (w:GWatch) (void:List Bool) (notes:List (Int×List Gref29Noted)),WInv s l (i+1) out w void notes →
     Sat (QW l) (zgX s l mk (List.map zaJ out) i w good (List.map nBool void) (List.map zaK notes) first):=by
    intro good first out w void notes inv
    refine sat_of (fun y=>zy5 _ _ _ _ _ _ _ _ _ _) ?_
    exact go good first out w void notes inv
   have m1029:∀ (w':GWatch) (notes':List (Int×List Gref29Noted)) (r:Bool×Bool),zlE s.Monitor w'→(∀ q∈notes',q.2.length≤i+1) →
     Sat (QW l) (zmE s l mk (List.map zaJ out) good (List.map nBool void) first i l[i] (List.map zaK notes') r (w',0)):=by
    intro w' notes' r hw' hn'
    have loop:∀ (m:Nat) (j:Int) (void':List Bool),0≤j→j+m=i+1→void'.length=l.length →
      Sat (QW l) (zme s l mk (List.map zaJ out) good (List.map nBool void) first i l[i] (List.map zaK notes') r (w',0) (List.map nBool void') j):=by
     intro m
     induction m with
     | zero =>
       intro j void' hj hjm hv'
       refine sat_of (fun y=>zv3 _ _ _ _ _ _ _ _ _ _ _ _ _ _) ?_
       simp (disch:=omega) only [zaq]
       refine sat_of (fun y=>zxl _ _ _ _ _ _ _ _ _ _ _ _ _ _) ?_
       rw [zbu zaJ]
       refine go _ _ _ _ _ _ ⟨by simp; omega,hw',fun _=>by simp,hv',hn'⟩
     | succ m ih3 =>
       intro j void' hj hjm hv'
       have hj1:j.toNat < l.length:=by omega
       have hj2:j.toNat < void'.length:=by omega
       have m1033:∀ (b:Bool),Sat (QW l) (zcZ s l mk (List.map zaJ out) good (List.map nBool void) first i l[i] (List.map zaK notes') r (w',0) j (List.map nBool (void'.set j.toNat b))):=by
        intro b
        refine sat_of (fun y=>zBo _ _ _ _ _ _ _ _ _ _ _ _ _ _) ?_
        rw [w64_id (by omega) (by omega)]
        exact ih3 (j+1) (void'.set j.toNat b) (by omega) (by omega) (by simpa using hv')
       refine sat_of (fun y=>zv3 _ _ _ _ _ _ _ _ _ _ _ _ _ _) ?_
       simp (disch:=omega) only [List.length_map,List.length_replicate,Int.toNat_natCast,Nat.zero_add,zak,zac,zkR,zbv,List.getElem?_eq_getElem hj1,List.getElem?_eq_getElem hj2,Option.bind_some,zq2,zle,zc6 nBool]
       simp only [zb1]
       repeat' split
       all_goals exact m1033 _
    refine sat_of (fun y=>zAS _ _ _ _ _ _ _ _ _ _ _ _) ?_
    cases hsus:w'.Suspended with
    | true =>
      simp (disch:=omega) only [zap,eq_self,zaC,List.length_map,zac]
      exact loop (i+1) 0 void (by omega) (by omega) hvl
    | false =>
      simp only [zai]
      cases r.2 with
      | true =>
        simp only [zap]
        exact m1008 _ _ _ _ _ _ ⟨by omega,hw',by simp [hsus],hvl,hn'⟩
      | false =>
        simp only [zai]
        refine sat_of (fun y=>zxK _ _ _ _ _ _ _ _ _ _ _) ?_
        exact go _ _ _ _ _ _ ⟨by omega,hw',by simp [hsus],hvl,hn'⟩
   have m1025:∀ (c:List Gref29Noted) (q:Nat) (y:GSeed),w.Suspended=false→c.length≤i→seedOf s.Seeds l[i].Script=some (q,y) →
     Sat (QW l) (zmM s l mk (List.map zaJ out) w good (List.map nBool void) (List.map zaK notes) first i l[i] c):=by
    intro c q y hsus hc hsd
    obtain ⟨k,p,hk,hm⟩:=zuo hs hsd
    refine sat_of (fun y=>zAw _ _ _ _ _ _ _ _ _ _ _ _) ?_
    have hlen:(List.map zaD c++[[I l[i].Part,I l[i].Value]]).length=c.length+1:=by simp
    have htk:List.take (c.length+1) (List.map zaD c++[zaD ⟨l[i].Part,l[i].Value⟩])=List.map zaD (c++[⟨l[i].Part,l[i].Value⟩]):=by
     rw [zbu zaD,List.take_of_length_le (by simp)]
    simp (disch:=omega) only [hlen,List.length_map,zac,zaC,htk,zop]
    have hnn:∀ q∈mput l[i].Script (c++[⟨l[i].Part,l[i].Value⟩]) notes,q.2.length≤i+1:=by
     intro q hq
     rcases zza hq with rfl | hq
     · simp; omega
     · have:=inv.nlen q hq; omega
    refine sat_of (fun y=>zAo _ _ _ _ _ _ _ _ _ _ _) ?_
    simp only [zfR]
    have hlk:((mfind l[i].Script (mput l[i].Script (c++[⟨l[i].Part,l[i].Value⟩]) notes)).getD []).length≤100000:=by
     cases hf:mfind l[i].Script (mput l[i].Script (c++[⟨l[i].Part,l[i].Value⟩]) notes) with
     | none=>simp
     | some v=>have:=hnn _ (zp0 hf); simp only [Option.getD_some]; simp only at this; omega
    obtain ⟨v,ev⟩:=c_judge s hs k p q y l[i].Script _ hk hsd hm hlk
    simp only [ev,zt5]
    cases v.1 with
    | false =>
      simp only [Bool.not_false,zap]
      refine sat_of (fun y=>zyK _ _ _ _ _ _ _ _ _ _ _ _) ?_
      exact go _ _ _ _ _ _ ⟨by omega,inv.ow,inv.os,hvl,hnn⟩
    | true =>
      simp only [Bool.not_true,zai]
      refine sat_of (fun y=>zAz _ _ _ _ _ _ _ _ _ _ _ _) ?_
      simp only [zAL s.Monitor w v.2 hs.monitor inv.ow hsus,zvu]
      exact m1029 _ _ _ (stepW_ok _ _ _ inv.ow) hnn
   have m1019:∀ (q:Nat) (y:GSeed),w.Suspended=false→seedOf s.Seeds l[i].Script=some (q,y) →
     Sat (QW l) (zmC s l mk (List.map zaJ out) w good (List.map nBool void) (List.map zaK notes) first i l[i]):=by
    intro q y hsus hsd
    refine sat_of (fun y=>zAP _ _ _ _ _ _ _ _ _ _ _) ?_
    simp only [zfR]
    have hc:((mfind l[i].Script notes).getD []).length≤i:=by
     cases hf:mfind l[i].Script notes with
     | none=>simp
     | some v=>have:=inv.nlen _ (zp0 hf); simpa using this
    generalize (mfind l[i].Script notes).getD []=c at hc
    refine zaZ c (fun j _=>∀ b,Sat (QW l) (ziG s l mk (List.map zaJ out) w good (List.map nBool void) (List.map zaK notes) first i l[i] c b j)) ?_ ?_ false
    · intro b
      refine sat_of (fun y=>zvN _ _ _ _ _ _ _ _ _ _ _ _ _ _) ?_
      simp (disch:=omega) only [List.length_map,zaq]
      cases b with
      | true =>
        simp only [zap]
        refine sat_of (fun y=>zyJ _ _ _ _ _ _ _ _ _ _ _ _) ?_
        exact go _ _ _ _ _ _ inv.up
      | false =>
        simp only [zai]
        exact m1025 c q y hsus hc hsd
    · intro j hj r _ ih2 b
      refine sat_of (fun y=>zvN _ _ _ _ _ _ _ _ _ _ _ _ _ _) ?_
      simp (disch:=omega) only [List.length_map,zak,zac,Int.toNat_natCast,zoh,List.getElem?_eq_getElem hj,Option.bind_some,w64_id]
      cases b with
      | true=>simp only [zap]; exact ih2 _
      | false=>simp only [zai]; exact ih2 _
   have m1014:Sat (QW l) (zf7 s l mk (List.map zaJ out) w good (List.map nBool void) (List.map zaK notes) first i l[i]):=by
    have stay:Sat (QW l) (zgZ s l mk (List.map zaJ out) w good (List.map nBool void) (List.map zaK notes) first i l[i]):=
     sat_of (fun y=>zzc _ _ _ _ _ _ _ _ _ _ _) (go _ _ _ _ _ _ inv.up)
    have stay2:Sat (QW l) (zg9 s l mk (List.map zaJ out) w good (List.map nBool void) (List.map zaK notes) first i l[i]):=
     sat_of (fun y=>zyp _ _ _ _ _ _ _ _ _ _ _) (go _ _ _ _ _ _ inv.up)
    refine sat_of (fun y=>zAK _ _ _ _ _ _ _ _ _ _ _) ?_
    cases l[i].Kind != 0 with
    | true=>simp only [zap]; exact stay
    | false =>
      simp only [zai]
      cases l[i].Stamp.Source != mk with
      | true=>simp only [zap]; exact stay
      | false =>
        simp only [zai]
        refine sat_of (fun y=>zAG _ _ _ _ _ _ _ _ _ _ _) ?_
        cases hsus:w.Suspended with
        | true =>
          simp (disch:=omega) only [zap,List.length_map,List.length_replicate,Int.toNat_natCast,Nat.zero_add,zac,zkR,List.getElem?_eq_getElem hltv,Option.bind_some,zc6 nBool]
          exact m1008 _ _ _ _ _ _ ⟨by omega,inv.ow,inv.os,by simpa using hvl,inv.up.nlen⟩
        | false =>
          simp only [zai]
          refine sat_of (fun y=>zA1 _ _ _ _ _ _ _ _ _ _ _) ?_
          simp (disch:=omega) only [zgf s.Seeds l[i].Script (by omega) (zuj hs),zee]
          cases hq:seedOf s.Seeds l[i].Script with
          | none=>simp only [seedR,Bool.not_false,zap]; exact stay2
          | some qy =>
            obtain ⟨q,y⟩:=qy
            simp only [seedR,Bool.not_true,zai,zuW s hs l[i] hs.short2 (hp _ (List.getElem_mem hlt)),zpG]
            cases dec (FitsE s l[i]) with
            | false=>simp only [Bool.not_false,zap]; exact stay2
            | true=>simp only [Bool.not_true,zai]; exact m1019 q y hsus hq
   refine sat_of (fun y=>zwb _ _ _ _ _ _ _ _ _ _) ?_
   simp (disch:=omega) only [List.length_map,zak,zac,Int.toNat_natCast,zbv,List.getElem?_eq_getElem hlt,Option.bind_some]
   cases l[i].Kind == 1 with
   | false=>simp only [zai]; exact m1014
   | true =>
     simp only [zap]
     cases l[i].Marker == mk with
     | false=>simp only [zai]; exact m1014
     | true =>
       simp only [zap]
       cases hsus:w.Suspended with
       | false=>simp only [zai]; exact m1014
       | true =>
         have hon:=inv.os hsus
         have hoe:((out.length:Int) - 1).toNat=out.length - 1:=by omega
         have hol2:out.length - 1 < out.length:=by omega
         simp (disch:=omega) only [zap,w64_id,hoe,Nat.zero_add,zac,zua,List.getElem?_eq_getElem hol2,Option.bind_some,zc6 zaJ,List.getElem?_set_self hol2]
         refine sat_of (fun y=>zsJ _ _ _ _ _ _ _ _ _ _ _ _) ?_
         rw [w64_id (by omega) (by omega)]
         exact watch2 s hs l hl hp mk n (i+1) (by omega) _ _ _ _ _ _ [] _ (by omega) (by omega) (by simp) ⟨by simp; omega,zyV hs.monitor,by simp,hvl,by simp⟩
theorem c_watch (s:GSetup) (hs:OkSetup s) (l:List GMarkEvent) (hl:l.length≤2000) (hp:∀ e∈l,e.Pages.length≤1000000) (mk:Int) :
  ∃ r,cw zoT [.agg (zat s),.sl 9 (List.map zab l),I mk] []=some (zoL r)∧r.2.length=l.length∧r.1.length≤l.length:=by
 have H:Sat (QW l) (cw zoT [.agg (zat s),.sl 9 (List.map zab l),I mk] []):=by
  refine sat_of (fun y=>zHa _ _ _) ?_
  simp (disch:=omega) only [List.length_map,zac,zaC,Int.toNat_natCast,zxi nBool]
  exact watch1 s hs l hl hp mk l.length 0 (by omega) ⟨0,0,0⟩ true [] ⟨[],false⟩ (List.replicate l.length false) [] ⟨by simp,zyV hs.monitor,by simp,by simp,by simp⟩
 obtain ⟨y,e,r,rfl,h⟩:=H
 exact ⟨r,e,h⟩
end Go.Proofs.YticojpmhlhfhlaaGreat
namespace Go.Proofs.YticojpmhlhfhlaaGreat
open Go.Ab
set_option linter.unusedSimpArgs false
theorem c_all (s:GSetup) (hs:OkSetup s) (l:List GMarkEvent) (hl:l.length≤2000) (hp:∀ e∈l,e.Pages.length≤1000000) :
  ∃ r,cw zsA [.agg (zat s),.sl 9 (List.map zab l)] []=some (zsq r)∧r.2.length=l.length∧r.1.length≤40000:=by
 let Q:AV×Mem→Prop:=fun y=>∃ r,y=zsq r∧r.2.length=l.length∧r.1.length≤40000
 suffices H:Sat Q (cw zsA [.agg (zat s),.sl 9 (List.map zab l)] []) by
  obtain ⟨y,e,r,rfl,h⟩:=H
  exact ⟨r,e,h⟩
 have hm16:=hs.markers.1
 refine sat_of (fun y=>zJZ _ _) ?_
 simp (disch:=omega) only [List.length_map,zac,zaC,Int.toNat_natCast,zxi nBool]
 refine zaZ s.Markers (fun i _=>∀ (out:List GSuspension) (void:List Bool),(out.length:Int)≤2000*i→void.length=l.length→Sat Q (zo1 s l (List.map zaJ out) (List.map nBool void) i)) ?_ ?_ [] _ (by simp) (by simp)
 · intro out void ho hv
   refine sat_of (fun y=>zzw _ _ _ _ _) ?_
   simp (disch:=omega) only [List.length_map,List.length_replicate,Int.toNat_natCast,zaq,zac]
   rw [List.take_of_length_le (by simp),List.take_of_length_le (by simp; omega)]
   exact zer ⟨(out,void),rfl,hv,by dsimp only; omega⟩
 · intro i hi _ _ ih out void ho hv
   obtain ⟨r,er,r1,r2⟩:=c_watch s hs l hl hp s.Markers[i].ID
   refine sat_of (fun y=>zzw _ _ _ _ _) ?_
   simp (disch:=omega) only [List.length_map,zak,zac,zaC,Int.toNat_natCast,zfr,List.getElem?_eq_getElem hi,Option.bind_some,er,zBN,eq_self]
   refine zaZ r.2 (fun j _=>∀ void:List Bool,void.length=l.length→Sat Q (zlq s l (List.map zaJ out) i r (List.map nBool void) j)) ?_ ?_ void hv
   · intro void hv
     refine sat_of (fun y=>zzu _ _ _ _ _ _ _) ?_
     simp (disch:=omega) only [List.length_map,zaq,w64_id,← List.map_append]
     exact ih (out++r.1) void (by simp; omega) hv
   · intro j hj _ _ ih2 void hv
     have hj1:j < void.length:=by omega
     refine sat_of (fun y=>zzu _ _ _ _ _ _ _) ?_
     simp (disch:=omega) only [List.length_map,List.length_replicate,Int.toNat_natCast,Nat.zero_add,zak,zac,zkR,List.getElem?_eq_getElem hj1,List.getElem?_eq_getElem hj,Option.bind_some,zc6 nBool,w64_id]
     cases void[j] with
     | true=>simp only [zap]; exact ih2 _ (by simpa using hv)
     | false=>simp only [zai]; exact ih2 _ (by simpa using hv)
theorem c_stopped (s:GSetup) (hs:OkSetup s) (l:List GMarkEvent) (hl:l.length≤100000) (i:Nat) (hi:i < l.length) :
  ∃ b,cw zl7 [.agg (zat s),.sl 9 (List.map zab l),I i] []=some (zmt b):=by
 let Q:AV×Mem→Prop:=fun y=>∃ r,y=zmt r
 suffices H:Sat Q (cw zl7 [.agg (zat s),.sl 9 (List.map zab l),I i] []) by
  obtain ⟨y,e,r,rfl⟩:=H
  exact ⟨r,e⟩
 have hm16:=hs.markers.1
 refine sat_of (fun y=>zEw _ _ _) ?_
 simp (disch:=omega) only [zac,Int.toNat_natCast,zbv,List.getElem?_eq_getElem hi,Option.bind_some,zu1 s.Markers _ (show s.Markers.length≤1000000 by omega),zpc,w64_id]
 generalize zrW (zr4 s.Markers l[i].Stamp.Source)=mk
 have loop:∀ (m:Nat) (k:Nat),k+m=l.length→Sat Q (zd4 l i mk k):=by
  intro m
  induction m with
  | zero =>
    intro k hk
    refine sat_of (fun y=>ztW _ _ _ _) ?_
    simp (disch:=omega) only [List.length_map,zaq]
    exact zer ⟨false,rfl⟩
  | succ m ih =>
    intro k hk
    have hkl:k < l.length:=by omega
    refine sat_of (fun y=>ztW _ _ _ _) ?_
    simp (disch:=omega) only [List.length_map,zak,zac,Int.toNat_natCast,zbv,List.getElem?_eq_getElem hi,List.getElem?_eq_getElem hkl,Option.bind_some,w64_id]
    simp only [zb1]
    repeat' split
    all_goals first
     | exact ih (k+1) (by omega)
     | exact zer ⟨true,rfl⟩
 exact loop (l.length - (i+1)) (i+1) (by omega)
theorem zAR (a b:GGiven):∃ v,cw zqj [.agg (zao a),.agg (zao b)] []=some (zuL v):=by
 by_cases h1:a.Script=b.Script
 · by_cases h2:a.Part=b.Part
   · exact ⟨_,zu6 a b (by simp only [h1,h2,bne_self_eq_false,zai]; rfl)⟩
   · exact ⟨_,zu6 a b (by simp only [h1,show (a.Part != b.Part)=true by simpa using h2,bne_self_eq_false,zai,zap]; rfl)⟩
 · exact ⟨_,zu6 a b (by simp only [show (a.Script != b.Script)=true by simpa using h1,zap]; rfl)⟩
theorem c_put (l:List GGiven) (x:GGiven) (hl:l.length≤100000) :
  ∃ r,cw zsx [.row 950 8 0 (List.length (List.map zao l)),.agg (zao x)] [(950,⟨8,za0,List.map zao l,false⟩)]=some (zsm r)∧r.length≤l.length+1∧∀ g∈r,g=x∨g∈l:=by
 let Q:AV×Mem→Prop:=fun y=>∃ r,y=zsm r∧r.length≤l.length+1∧∀ g∈r,g=x∨g∈l
 suffices H:Sat Q (cw zsx [.row 950 8 0 (List.length (List.map zao l)),.agg (zao x)] [(950,⟨8,za0,List.map zao l,false⟩)]) by
  obtain ⟨y,e,r,rfl,h⟩:=H
  exact ⟨r,e,h⟩
 have m1007:∀ k:Nat,k≤l.length→Sat Q (zkA l x k):=by
  intro k hk
  refine sat_of (fun y=>zD2 _ _ _) ?_
  have hraw:List.map zao l++[[I x.Script,I x.Part,I x.Marker,I x.Level,I x.Value,I x.Stamp.Time,I x.Stamp.Source,I x.Stamp.Seq]]=List.map zao (l++[x]):=by rw [← zbu zao]; rfl
  have hraw2:[I x.Script,I x.Part,I x.Marker,I x.Level,I x.Value,I x.Stamp.Time,I x.Stamp.Source,I x.Stamp.Seq]=zao x:=rfl
  have hk1:((k:Int)+1).toNat=k+1:=by omega
  have hA:(l++[x]).length=l.length+1:=by simp
  simp (disch:=omega) only [hraw,hraw2,zbu zao,w64_id,hk1,Int.toNat_natCast,Nat.zero_add,List.length_map,hA,zac,zaC,← List.map_take,← List.map_drop,← List.map_append,zc6 zao,List.length_set]
  generalize hX:(List.take (k+1) (l++[x])++List.take (l.length+1 - (k+1)) (List.take (l.length+1 - k) (List.drop k (l++[x])))++List.drop (k+1+Min.min (List.take (l.length+1 - k) (List.drop k (l++[x]))).length (l.length+1 - (k+1))) (l++[x]))=X
  have hXl:X.length=l.length+1:=by
   rw [← hX]
   simp only [List.length_append,List.length_take,List.length_drop,List.length_cons,List.length_nil]
   omega
  have hXm:∀ g∈X,g=x∨g∈l:=by
   intro g hg
   have:g∈l++[x]:=by
    rw [← hX] at hg
    rcases List.mem_append.1 hg with hg | hg
    · rcases List.mem_append.1 hg with hg | hg
      · exact List.mem_of_mem_take hg
      · exact List.mem_of_mem_drop (List.mem_of_mem_take (List.mem_of_mem_take hg))
    · exact List.mem_of_mem_drop hg
   rcases List.mem_append.1 this with h | h
   · exact Or.inr h
   · exact Or.inl (by simpa using h)
  have hkX:k < X.length:=by omega
  simp (disch:=omega) only [zbP,List.getElem?_eq_getElem hkX,Option.bind_some,hXl,zaC,zac]
  refine zer ⟨X.set k x,rfl,by simp; omega,?_⟩
  intro g hg
  rcases List.mem_or_eq_of_mem_set hg with h | h
  · exact hXm g h
  · exact Or.inl h
 have m1004:∀ k:Nat,k≤l.length→Sat Q (zkV l x k):=by
  intro k hk
  refine sat_of (fun y=>zDF _ _ _) ?_
  by_cases h0:0 < k
  · have hkl:k - 1 < l.length:=by omega
    have hk1:((k:Int) - 1).toNat=k - 1:=by omega
    obtain ⟨v,ev⟩:=zAR l[k - 1] x
    simp (disch:=omega) only [zak,w64_id,hk1,Nat.zero_add,List.length_map,zac,zbP,List.getElem?_eq_getElem hkl,Option.bind_some,ev,zu0]
    cases v with
    | true=>simp only [Bool.not_true,zai]; exact m1007 k hk
    | false =>
      simp (disch:=omega) only [Bool.not_false,zap,List.length_set,List.length_map,zac,zaC,zc6 zao]
      refine zer ⟨l.set (k - 1) x,rfl,by simp,?_⟩
      intro g hg
      rcases List.mem_or_eq_of_mem_set hg with h | h
      · exact Or.inr h
      · exact Or.inl h
  · simp (disch:=omega) only [zaq]
    exact m1007 k hk
 have m1:∀ k:Nat,k≤l.length→Sat Q (zoI l x k):=by
  intro k
  induction k with
  | zero =>
    intro hk
    refine sat_of (fun y=>zzt _ _ _) ?_
    simp (disch:=omega) only [zaq]
    exact m1004 0 hk
  | succ k ih =>
    intro hk
    have hkl:k < l.length:=by omega
    have hk1:((k+1:Nat):Int) - 1=k:=by omega
    refine sat_of (fun y=>zzt _ _ _) ?_
    obtain ⟨v,ev⟩:=zAR x l[k]
    simp (disch:=omega) only [zak,w64_id,hk1,Int.toNat_natCast,Nat.zero_add,List.length_map,zac,zbP,List.getElem?_eq_getElem hkl,Option.bind_some,ev,zu0]
    cases v with
    | true=>simp only [zap]; exact ih (by omega)
    | false=>simp only [zai]; exact m1004 (k+1) hk
 refine sat_of (fun y=>zKh _ _) ?_
 simp only [List.length_map]
 exact m1 l.length (by omega)
def GivenOk (s:GSetup) (g:GGiven):Prop:=∃ e,FitsE s e∧g.Script=e.Script∧g.Part=e.Part∧g.Value=e.Value
theorem zI2 (s:GSetup) (hs:OkSetup s) (l:List GMarkEvent) (hl:l.length≤2000) (hp:∀ e∈l,e.Pages.length≤1000000) :
  ∃ m,cw zq7 [.agg (zat s),.sl 9 (List.map zab l)] []=some (zqK (m,0))∧m.Given.length≤l.length∧(∀ g∈m.Given,GivenOk s g)∧m.Suspensions.length≤40000:=by
 let Q:AV×Mem→Prop:=fun y=>∃ m,y=zqK (m,0)∧m.Given.length≤l.length∧(∀ g∈m.Given,GivenOk s g)∧m.Suspensions.length≤40000
 suffices H:Sat Q (cw zq7 [.agg (zat s),.sl 9 (List.map zab l)] []) by
  obtain ⟨y,e,r,rfl,h⟩:=H
  exact ⟨r,e,h⟩
 have hsd:=hs.seeds
 have hm16:=hs.markers.1
 obtain ⟨c,ec,pc,_⟩:=zJS l hl hp
 have hcl:c.length≤l.length:=by rw [pc.length_eq]; exact zBq
 have hcp:∀ e∈c,e.Pages.length≤1000000:=fun e he=>hp e (zAg (pc.mem_iff.1 he))
 obtain ⟨r2,e2,v1,v2⟩:=c_all s hs c (by omega) hcp
 refine sat_of (fun y=>zIy _ _) ?_
 simp only [ztC hs,znU,bne_self_eq_false,zai,ec,zxL,e2,zEM]
 refine zaZ c (fun i _=>∀ out:List GGiven,(out.length:Int)≤i→(∀ g∈out,GivenOk s g)→Sat Q (zdU s (c,0) r2 (List.map zao out) i)) ?_ ?_ [] (by simp) (by simp)
 · intro out ho hg
   refine sat_of (fun y=>zxo _ _ _ _ _) ?_
   simp (disch:=omega) only [List.length_map,zaq,zac]
   rw [List.take_of_length_le (by simp)]
   exact zer ⟨⟨out,r2.1⟩,rfl,by dsimp only; omega,hg,v2⟩
 · intro i hi _ _ ih out ho hg
   have stay:Sat Q (zdU s (c,0) r2 (List.map zao out) ((i:Int)+1)):=ih out (by omega) hg
   have hiv:i < r2.2.length:=by omega
   refine sat_of (fun y=>zxo _ _ _ _ _) ?_
   obtain ⟨b,eb⟩:=c_stopped s hs c (by omega) i hi
   simp (disch:=omega) only [List.length_map,zak,zac,Int.toNat_natCast,zbv,List.getElem?_eq_getElem hi,Option.bind_some,zgf s.Seeds _ (show s.Seeds.length≤1000000 by omega) (zuj hs),zee,zkR,List.getElem?_eq_getElem hiv,
    zuW s hs c[i] hs.short2 (hcp _ (List.getElem_mem hi)),zpG,eb,zzU,zu1 s.Markers _ (show s.Markers.length≤1000000 by omega),zpc,w64_id]
   cases (seedR (seedOf s.Seeds c[i].Script)).2 with
   | true=>simp only [zap]; exact stay
   | false =>
     simp only [zai]
     cases r2.2[i] with
     | true=>simp only [zap]; exact stay
     | false =>
       simp only [zai]
       by_cases hf:FitsE s c[i]
       · simp only [zax hf,Bool.not_true,zai]
         cases b with
         | true=>simp only [zap]; exact stay
         | false =>
           simp only [zai,eq_self,zaC]
           obtain ⟨r,er,h1,h2⟩:=c_put out ⟨c[i].Script,c[i].Part,(zrW (zr4 s.Markers c[i].Stamp.Source)).1.ID,(zrW (zr4 s.Markers c[i].Stamp.Source)).1.Level,c[i].Value,⟨c[i].Stamp.Time,c[i].Stamp.Source,c[i].Stamp.Seq⟩⟩ (by omega)
           simp only [List.length_map] at er
           simp only [er,zEW]
           refine ih r (by omega) ?_
           intro g hgm
           rcases h2 g hgm with rfl | h
           · exact ⟨c[i],hf,rfl,rfl,rfl⟩
           · exact hg g h
       · simp only [zaz hf,Bool.not_false,zap]
         exact stay
end Go.Proofs.YticojpmhlhfhlaaGreat
