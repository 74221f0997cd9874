/- Conversion in the reference: values and normal forms of curves of any size. -/
import Derived.Test.YtbhkcgaanaelfaaGreatJ0
import Derived.Test.YtbhkcgaanaelfaaGreatAll
import Derived.Test.YtbhkcgaanaelfaaGreatAbTop
import Derived.Sort.AssemblyPlain
namespace Go.Proofs.YtbhkcgaanaelfaaGreat
open Go.Ab Go.Pure
set_option linter.unusedSimpArgs false
set_option linter.unusedVariables false
set_option maxRecDepth 20000
noncomputable abbrev rsE (l:List Rat):List (List AV):=List.map zaa (l.map ofR)
section
variable {l:List Pt} {xs:List Rat}
end
end Go.Proofs.YtbhkcgaanaelfaaGreat
namespace Go.Proofs.YtbhkcgaanaelfaaGreat
open Go.Ab Go.Pure
set_option linter.unusedSimpArgs false
set_option linter.unusedVariables false
set_option maxRecDepth 20000
end Go.Proofs.YtbhkcgaanaelfaaGreat
namespace Go.Proofs.YtbhkcgaanaelfaaGreat
open Go.Ab Go.Sort
set_option linter.unusedVariables false
instance:Inhabited GRatio:=⟨⟨0,0⟩⟩
noncomputable abbrev Er (d:Array GRatio):List (List AV):=List.map zaa d.toList
theorem lenE (d:Array GRatio):(Er d).length=d.size:=by simp
structure Cmp (lt:GRatio→GRatio→Bool) (P:GRatio→Prop):Prop where
 ans:∀ x y,P x→P y→∃ v:Int,cw zad [.agg (zaa x),.agg (zaa y)] []=some (zaz.enc v)∧decide (v < 0)=lt x y
def AllA (P:GRatio→Prop) (d:Array GRatio):Prop:=∀ i,i < d.size→P d[i]!
section
variable {lt:GRatio→GRatio→Bool} {P:GRatio→Prop}
theorem Cmp.step {β:Type} (hc:Cmp lt P) {x y:GRatio} (hx:P x) (hy:P y) (A B:Option β) :
  (callD zaz (cw zad [.agg (zaa x),.agg (zaa y)] []) fun (r:Int)=>brn (decide (r < 0)) A B)=brn (lt x y) A B:=by
 obtain ⟨v,h1,h2⟩:=hc.ans x y hx hy
 rw [zau h1,h2]
theorem Cmp.stepN {β:Type} (hc:Cmp lt P) {x y:GRatio} (hx:P x) (hy:P y) (A B:Option β) :
  (callD zaz (cw zad [.agg (zaa x),.agg (zaa y)] []) fun (r:Int)=>brn (!decide (r < 0)) A B)=brn (lt x y) B A:=by
 obtain ⟨v,h1,h2⟩:=hc.ans x y hx hy
 rw [zau h1,h2,zo3]
theorem rdA {β:Type} {d:Array GRatio} {n i:Nat} (hn:n=d.size) (hi:i < d.size) (K:GRatio→Option β) :
  (chk ((0:Int)≤(i:Int)) <| chk ((i:Int) < (n:Int)) <| elemD zab (Er d) (0+((i:Nat):Int).toNat) K)=K d[i]!:=by
 rw [zaf (by omega),zaf (by omega),Int.toNat_natCast,Nat.zero_add,zgG (D:=zab) (l:=d.toList) (x:=d[i]!) (by simp [hi])]
theorem setA (d:Array GRatio) (i:Nat) (x:GRatio):List.set (Er d) i (zaa x)=Er (d.setIfInBounds i x):=by
 show List.set (List.map zaa d.toList) i (zaa x)=List.map zaa (d.setIfInBounds i x).toList
 rw [Array.toList_setIfInBounds,List.map_set]
theorem rdS {β:Type} {d:Array GRatio} {n i j:Nat} {x:GRatio} (hn:n=d.size) (hj:j < d.size) (K:GRatio→Option β) :
  (chk ((0:Int)≤(j:Int)) <| chk ((j:Int) < (n:Int)) <| elemD zab (List.set (Er d) (0+((i:Nat):Int).toNat) (zaa x)) (0+((j:Nat):Int).toNat) K)=K (d.setIfInBounds i x)[j]!:=by
 rw [Int.toNat_natCast,Nat.zero_add i,setA]
 exact rdA (by rw [Array.size_setIfInBounds]; exact hn) (by rw [Array.size_setIfInBounds]; exact hj) K
theorem swpE (d:Array GRatio) (i j:Nat):List.set (List.set (Er d) (0+((i:Nat):Int).toNat) (zaa d[j]!)) (0+((j:Nat):Int).toNat) (zaa d[i]!)=Er (swp d i j):=by
 rw [Int.toNat_natCast,Int.toNat_natCast,Nat.zero_add,Nat.zero_add,setA,setA]
 rfl
theorem zaD (d:Array GRatio) (i j:Nat):(swp d i j).size=d.size:=by unfold swp; rw [Array.size_setIfInBounds,Array.size_setIfInBounds]
theorem AllA.swp {d:Array GRatio} (h:AllA P d) {i j:Nat} (hi:i < d.size) (hj:j < d.size):AllA P (swp d i j):=by
 intro k hk
 rw [zaD] at hk
 have hP:=swp_permIn d 0 d.size i j (by omega) hi (by omega) hj (Nat.le_refl _)
 exact permIn_all d (Go.Sort.swp d i j) 0 d.size P (Nat.le_refl _) hP (fun k _ hk=>h k hk) k (by omega) hk
theorem AllA.perm {d d':Array GRatio} {a b:Nat} (h:AllA P d) (hab:a≤b) (hb:b≤d.size) (hP:PermIn a b d d'):AllA P d':=by
 intro k hk
 rw [hP.1] at hk
 have hP':=permIn_mono d d' a b 0 d.size (by omega) hb (Nat.le_refl _) hP
 exact permIn_all d d' 0 d.size P (Nat.le_refl _) hP' (fun k _ hk=>h k hk) k (by omega) hk
theorem k_ins2 (hc:Cmp lt P) (a0:List GRatio) (a b i:Nat):∀ (j:Nat) (d:Array GRatio) (y:AV×Mem),a0.length=d.size→AllA P d→j < d.size→d.size≤1000000→i≤1000000 →
  za2 a0 (a:Int) (b:Int) (Er (insInner lt a j d)) ((i+1:Nat):Int)=some y →
  zbR a0 (a:Int) (b:Int) (i:Int) (Er d) (j:Int)=some y:=by
 have ei:∀ i:Nat,i≤1000000→w64 ((i:Int)+1)=((i+1:Nat):Int):=fun i hi=>by rw [w64_id (by omega) (by omega)]; omega
 intro j
 induction j with
 | zero =>
   intro d y hn hP hj hs hi h
   refine zej _ _ _ _ _ _ ?_
   rw [zag,if_neg (by omega),ei i hi]
   exact h
 | succ j ih =>
   intro d y hn hP hj hs hi h
   refine zej _ _ _ _ _ _ ?_
   unfold insInner at h
   have e1:w64 (((j+1:Nat):Int) - 1)=(j:Int):=by rw [w64_id (by omega) (by omega)]; omega
   rw [zag,e1,ei i hi,List.length_map]
   by_cases ha:a < j+1
   · rw [if_pos (by omega),rdA hn hj,rdA hn (by omega),hc.step (hP _ hj) (hP _ (by omega))]
     cases hlt:lt d[j+1]! d[j]! with
     | false =>
       rw [hlt,Bool.and_false,if_neg (by simp)] at h
       rw [zax]; exact h
     | true =>
       rw [hlt,Bool.and_true,if_pos (by simpa using ha)] at h
       rw [zaC,rdA hn (by omega),rdA hn hj,rdA hn hj,rdS hn (by omega),swpE]
       exact ih _ y (by rw [zaD]; exact hn) (hP.swp hj (by omega)) (by rw [zaD]; omega) (by rw [zaD]; exact hs) hi h
   · rw [if_neg (by omega)]
     rw [if_neg (by simp; omega)] at h
     exact h
theorem zkA (a:Nat):∀ (j:Nat) (d:Array GRatio),(insInner lt a j d).size=d.size
 | 0,d=>rfl
 | j+1,d=>by
   unfold insInner
   split
   · rw [zkA a j,zaD]
   · rfl
theorem zrk (a:Nat):∀ (j:Nat) (d:Array GRatio),j < d.size→AllA P d→AllA P (insInner lt a j d)
 | 0,d,_,h=>h
 | j+1,d,hj,h=>by
   unfold insInner
   split
   · exact zrk a j _ (by rw [zaD]; omega) (h.swp hj (by omega))
   · exact h
theorem k_ins1 (hc:Cmp lt P) (a0:List GRatio) (a b:Nat):∀ (k i:Nat) (d:Array GRatio),b≤i+k→a0.length=d.size→AllA P d→b≤d.size→d.size≤1000000→i≤1000000 →
  za2 a0 (a:Int) (b:Int) (Er d) (i:Int)=some (zcf.enc (insOuter lt a b i d).toList):=by
 intro k
 induction k with
 | zero =>
   intro i d hk hn hP hb hs hi
   refine zei _ _ _ _ _ ?_
   unfold insOuter
   rw [zag,if_neg (by omega),if_neg (by omega)]
   rfl
 | succ k ih =>
   intro i d hk hn hP hb hs hi
   refine zei _ _ _ _ _ ?_
   unfold insOuter
   rw [zag]
   by_cases hib:i < b
   · rw [if_pos (by omega),if_pos hib]
     refine k_ins2 hc a0 a b i i d _ hn hP (by omega) hs hi ?_
     exact ih (i+1) _ (by omega) (by rw [zkA]; exact hn) (zrk a i d (by omega) hP) (by rw [zkA]; exact hb) (by rw [zkA]; exact hs) (by omega)
   · rw [if_neg (by omega),if_neg hib]
     rfl
noncomputable abbrev mA (d:Array GRatio):Mem:=[(1000,⟨2,zac,Er d,false⟩)]
noncomputable abbrev rA (d:Array GRatio):AV:=.row 1000 2 0 (List.length (Er d))
theorem zyS (hc:Cmp lt P) (d:Array GRatio) (a b:Nat) (hP:AllA P d) (hab:a≤b) (hb:b≤d.size) (hs:d.size≤100000) :
  cw zc3 [rA d,I (a:Int),I (b:Int),.fn zad []] (mA d)=some (zcf.enc (insertionSort lt d a b).toList):=by
 refine zin d.toList _ _ ?_
 have e:w64 ((a:Int)+1)=((a+1:Nat):Int):=by rw [w64_id (by omega) (by omega)]; omega
 rw [e]
 exact k_ins1 hc d.toList a b b (a+1) d (by omega) (by simp) hP hb (by omega) (by omega)
theorem zq3 (hi first:Nat):∀ (k root:Nat) (d:Array GRatio),hi≤root+k→first+hi≤d.size→AllA P d→AllA P (siftDown lt hi first root d)∧(siftDown lt hi first root d).size=d.size:=by
 intro k
 induction k with
 | zero =>
   intro root d hk hs h
   unfold siftDown
   rw [dif_pos (by omega)]
   exact ⟨h,rfl⟩
 | succ k ih =>
   intro root d hk hs h
   unfold siftDown
   split
   · exact ⟨h,rfl⟩
   · rename_i h1
     split
     · split
       · exact ⟨h,rfl⟩
       · split
         · rename_i h2
           have:=ih (2*root+2) (swp d (first+root) (first+(2*root+2))) (by omega) (by rw [zaD]; exact hs) (h.swp (by omega) (by omega))
           rw [zaD] at this
           exact this
         · exact ⟨h,rfl⟩
     · split
       · exact ⟨h,rfl⟩
       · have:=ih (2*root+1) (swp d (first+root) (first+(2*root+1))) (by omega) (by rw [zaD]; exact hs) (h.swp (by omega) (by omega))
         rw [zaD] at this
         exact this
theorem k_sift (hc:Cmp lt P) (a0:List GRatio) (hi first:Nat):∀ (k root:Nat) (d:Array GRatio),hi≤root+k→first+hi≤d.size→a0.length=d.size→AllA P d→d.size≤100000→root≤100000 →
  zbK a0 (hi:Int) (first:Int) (Er d) (root:Int)=some (za7.enc (siftDown lt hi first root d).toList):=by
 intro k
 induction k with
 | zero =>
   intro root d hk hs hn hP hsz hr
   refine zfn _ _ _ _ _ ?_
   unfold siftDown
   rw [w64_id (n:=2*(root:Int)) (by omega) (by omega),w64_id (n:=2*(root:Int)+1) (by omega) (by omega),zag,if_pos (by omega),dif_pos (by omega)]
   rfl
 | succ k ih =>
   intro root d hk hs hn hP hsz hr
   refine zfn _ _ _ _ _ ?_
   unfold siftDown
   have e1:w64 (w64 (2*(root:Int))+1)=((2*root+1:Nat):Int):=by rw [w64_id (n:=2*(root:Int)) (by omega) (by omega),w64_id (by omega) (by omega)]; omega
   have e2:w64 (((2*root+1:Nat):Int)+1)=((2*root+2:Nat):Int):=by rw [w64_id (by omega) (by omega)]; omega
   have e3:w64 ((first:Int)+((2*root+1:Nat):Int))=((first+(2*root+1):Nat):Int):=by rw [w64_id (by omega) (by omega)]; omega
   have e4:w64 (((first+(2*root+1):Nat):Int)+1)=((first+(2*root+1)+1:Nat):Int):=by rw [w64_id (by omega) (by omega)]; omega
   have e5:w64 ((first:Int)+(root:Int))=((first+root:Nat):Int):=by rw [w64_id (by omega) (by omega)]; omega
   have e6:w64 ((first:Int)+((2*root+2:Nat):Int))=((first+(2*root+2):Nat):Int):=by rw [w64_id (by omega) (by omega)]; omega
   rw [e1,e2,e3,e4,zag,List.length_map]
   by_cases h1:2*root+1 ≥ hi
   · rw [if_pos (by omega),dif_pos h1]
     rfl
   · rw [if_neg (by omega),dif_neg h1,zag]
     have low:zbT a0 (hi:Int) (first:Int) (Er d) (root:Int)=some (za7.enc (if (!lt d[first+root]! d[first+(2*root+1)]!)=true then d else siftDown lt hi first (2*root+1) (swp d (first+root) (first+(2*root+1)))).toList):=by
      refine zhE _ _ _ _ _ ?_
      rw [e1,e3,e5,List.length_map,rdA hn (by omega),rdA hn (by omega),hc.stepN (hP _ (by omega)) (hP _ (by omega))]
      cases hl:lt d[first+root]! d[first+(2*root+1)]! with
      | false=>rw [zax,if_pos (by simp)]; rfl
      | true =>
        rw [zaC,if_neg (by simp),rdA hn (by omega),rdA hn (by omega),rdA hn (by omega),rdS hn (by omega),swpE]
        exact ih (2*root+1) _ (by omega) (by rw [zaD]; exact hs) (by rw [zaD]; exact hn) (hP.swp (by omega) (by omega)) (by rw [zaD]; exact hsz) (by omega)
     by_cases h2:2*root+1+1 < hi
     · rw [if_pos (by omega),rdA hn (by omega),rdA hn (by omega),hc.step (hP _ (by omega)) (hP _ (by omega))]
       cases hl:lt d[first+(2*root+1)]! d[first+(2*root+1)+1]! with
       | false =>
         rw [zax,if_neg (by simp)]
         exact low
       | true =>
         rw [zaC,if_pos (by simpa using h2)]
         refine zib _ _ _ _ _ ?_
         rw [e1,e2,e5,e6,List.length_map,rdA hn (by omega),rdA hn (by omega),hc.stepN (hP _ (by omega)) (hP _ (by omega))]
         cases hl2:lt d[first+root]! d[first+(2*root+2)]! with
         | false=>rw [zax,if_pos (by simp)]; rfl
         | true =>
           rw [zaC,if_neg (by simp),dif_pos (by omega),rdA hn (by omega),rdA hn (by omega),rdA hn (by omega),rdS hn (by omega),swpE]
           exact ih (2*root+2) _ (by omega) (by rw [zaD]; exact hs) (by rw [zaD]; exact hn) (hP.swp (by omega) (by omega)) (by rw [zaD]; exact hsz) (by omega)
     · rw [if_neg (by omega),if_neg (by simp; omega)]
       exact low
theorem c_sift (hc:Cmp lt P) (d:Array GRatio) (root hi first:Nat) (hs:first+hi≤d.size) (hP:AllA P d) (hsz:d.size≤100000) (hr:root≤100000) :
  cw zbW [rA d,I (root:Int),I (hi:Int),I (first:Int),.fn zad []] (mA d)=some (za7.enc (siftDown lt hi first root d).toList):=
 zjU d.toList _ _ _ (k_sift hc d.toList hi first hi root d (by omega) hs (by simp) hP hsz hr)
theorem row_eq {a0:List GRatio} {d:Array GRatio} (h:a0.length=d.size):AV.row 1000 2 0 ((List.map zaa a0).length)=rA d:=by
 show AV.row 1000 2 0 _=AV.row 1000 2 0 _
 rw [List.length_map,lenE,h]
theorem k_heap2 (hc:Cmp lt P) (a0:List GRatio) (first:Nat):∀ (k:Nat) (d:Array GRatio),first+k≤d.size→a0.length=d.size→AllA P d→d.size≤100000 →
  zcA a0 (first:Int) (Er d) ((k:Int) - 1)=some (zbX.enc (heapPop lt first k d).toList):=by
 intro k
 induction k with
 | zero =>
   intro d hs hn hP hsz
   refine zfh _ _ _ _ ?_
   rw [zag,if_neg (by omega)]
   rfl
 | succ k ih =>
   intro d hs hn hP hsz
   refine zfh _ _ _ _ ?_
   have e0:((k+1:Nat):Int) - 1=(k:Int):=by omega
   have e1:w64 ((first:Int)+(k:Int))=((first+k:Nat):Int):=by rw [w64_id (by omega) (by omega)]; omega
   have e2:w64 ((k:Int) - 1)=(k:Int) - 1:=w64_id (by omega) (by omega)
   have hP':=hP.swp (i:=first) (j:=first+k) (by omega) (by omega)
   have hsi:=zq3 (lt:=lt) k first k 0 (swp d first (first+k)) (by omega) (by rw [zaD]; omega) hP'
   rw [e0,zag,if_pos (by omega),e1,e2,List.length_map,rdA hn (by omega),rdA hn (by omega),rdA hn (by omega),rdS hn (by omega),swpE]
   have hrow:AV.row 1000 2 0 a0.length=rA (swp d first (first+k)):=by
    have:=row_eq (a0:=a0) (d:=swp d first (first+k)) (by rw [zaD]; exact hn)
    rwa [List.length_map] at this
   have hcs:cw zbW [rA (swp d first (first+k)),I 0,I (k:Int),I (first:Int),.fn zad []] (mA (swp d first (first+k)))=some (za7.enc (siftDown lt k first 0 (swp d first (first+k))).toList):=
    c_sift hc _ 0 k first (by rw [zaD]; omega) hP' (by rw [zaD]; exact hsz) (by omega)
   rw [hrow,zau hcs]
   have h3:(siftDown lt k first 0 (swp d first (first+k))).size=d.size:=by rw [hsi.2,zaD]
   exact ih _ (by rw [h3]; omega) (by rw [h3]; exact hn) hsi.1 (by rw [h3]; exact hsz)
theorem k_heap1 (hc:Cmp lt P) (a0:List GRatio) (a b:Nat) (hab:a≤b):∀ (k:Nat) (d:Array GRatio),k≤100000→b≤d.size→a0.length=d.size→AllA P d→d.size≤100000 →
  zcB a0 (a:Int) (b:Int) (Er d) ((k:Int) - 1)=some (zbX.enc (heapPop lt a (b - a) (heapBuild lt (b - a) a k d)).toList):=by
 intro k
 induction k with
 | zero =>
   intro d hk hb hn hP hsz
   refine zfk _ _ _ _ _ ?_
   have e:w64 (w64 ((b:Int) - (a:Int)) - 1)=((b - a:Nat):Int) - 1:=by rw [w64_id (n:=(b:Int) - a) (by omega) (by omega),w64_id (by omega) (by omega)]; omega
   rw [zag,if_neg (by omega),e]
   exact k_heap2 hc a0 a (b - a) d (by omega) hn hP hsz
 | succ k ih =>
   intro d hk hb hn hP hsz
   refine zfk _ _ _ _ _ ?_
   have e0:((k+1:Nat):Int) - 1=(k:Int):=by omega
   have e1:w64 ((b:Int) - (a:Int))=((b - a:Nat):Int):=by rw [w64_id (by omega) (by omega)]; omega
   have e2:w64 ((k:Int) - 1)=(k:Int) - 1:=w64_id (by omega) (by omega)
   have hsi:=zq3 (lt:=lt) (b - a) a (b - a) k d (by omega) (by omega) hP
   rw [e0,zag,if_pos (by omega),e1,e2,row_eq hn,zau (c_sift hc d k (b - a) a (by omega) hP hsz (by omega))]
   exact ih _ (by omega) (by rw [hsi.2]; exact hb) (by rw [hsi.2]; exact hn) hsi.1 (by rw [hsi.2]; exact hsz)
theorem c_heap (hc:Cmp lt P) (d:Array GRatio) (a b:Nat) (hP:AllA P d) (hab:a < b) (hb:b≤d.size) (hs:d.size≤100000) :
  cw zdL [rA d,I (a:Int),I (b:Int),.fn zad []] (mA d)=some (zbX.enc (heapSort lt d a b).toList):=by
 refine zjY d.toList _ _ ?_
 have e0:w64 (w64 ((b:Int) - (a:Int)) - 1)=((b - a - 1:Nat):Int):=by rw [w64_id (n:=(b:Int) - a) (by omega) (by omega),w64_id (by omega) (by omega)]; omega
 have e1:(((b - a - 1:Nat):Int)).tdiv 2=(((b - a - 1) / 2:Nat):Int):=rfl
 have e2:w64 (((b - a - 1) / 2:Nat):Int)=(((b - a - 1) / 2+1:Nat):Int) - 1:=by rw [w64_id (by omega) (by omega)]; omega
 rw [zaf (by omega),e0,e1,e2]
 exact k_heap1 hc d.toList a b (by omega) ((b - a - 1) / 2+1) d (by omega) hb (by simp) hP hs
theorem k_reverse (a0:List GRatio):∀ (k i j:Nat) (d:Array GRatio),j≤i+k→j < d.size∨j≤i→a0.length=d.size→d.size≤100000→i≤100000 →
  zb5 a0 (Er d) (i:Int) (j:Int)=some (zbw.enc (reverseLoop i j d).toList):=by
 intro k
 induction k with
 | zero =>
   intro i j d hk hj hn hs hi
   refine zeB _ _ _ _ ?_
   unfold reverseLoop
   rw [zag,if_neg (by omega),if_neg (by omega)]
   rfl
 | succ k ih =>
   intro i j d hk hj hn hs hi
   refine zeB _ _ _ _ ?_
   unfold reverseLoop
   rw [zag]
   by_cases hij:i < j
   · have e1:w64 ((i:Int)+1)=((i+1:Nat):Int):=by rw [w64_id (by omega) (by omega)]; omega
     have e2:w64 ((j:Int) - 1)=((j - 1:Nat):Int):=by rw [w64_id (by omega) (by omega)]; omega
     rw [if_pos (by omega),if_pos hij,List.length_map,rdA hn (by omega),rdA hn (by omega),rdA hn (by omega),rdS hn (by omega),swpE,e1,e2]
     exact ih (i+1) (j - 1) _ (by omega) (by rw [zaD]; omega) (by rw [zaD]; exact hn) (by rw [zaD]; exact hs) (by omega)
   · rw [if_neg (by omega),if_neg hij]
     rfl
theorem zvs (d:Array GRatio) (a b:Nat) (hab:a < b) (hb:b≤d.size) (hs:d.size≤100000) :
  cw zcr [rA d,I (a:Int),I (b:Int),.fn zad []] (mA d)=some (zbw.enc (reverseRange d a b).toList):=by
 refine ziL d.toList _ _ ?_
 have e:w64 ((b:Int) - 1)=((b - 1:Nat):Int):=by rw [w64_id (by omega) (by omega)]; omega
 rw [e]
 exact k_reverse d.toList b a (b - 1) d (by omega) (by omega) (by simp) hs (by omega)
end
end Go.Proofs.YtbhkcgaanaelfaaGreat
namespace Go.Proofs.YtbhkcgaanaelfaaGreat
open Go.Ab Go.Sort
set_option linter.unusedVariables false
section
variable {lt:GRatio→GRatio→Bool} {P:GRatio→Prop}
theorem up1 {i:Nat} (h:i≤1000000):w64 ((i:Int)+1)=((i+1:Nat):Int):=by rw [w64_id (by omega) (by omega)]; omega
theorem dn1 {i:Nat} (h0:1≤i) (h:i≤1000000):w64 ((i:Int) - 1)=((i - 1:Nat):Int):=by rw [w64_id (by omega) (by omega)]; omega
theorem zc8 (p:GRatio→Bool) (d:Array GRatio) (j i:Nat):scanUp p d j i=if (decide (i≤j) && p d[i]!)=true then scanUp p d j (i+1) else i:=by
 conv=>lhs; unfold scanUp
theorem zeK (p:GRatio→Bool) (d:Array GRatio) (i:Nat) {j:Nat} (hj:1≤j):scanDown p d i j=if (decide (i≤j) && p d[j]!)=true then scanDown p d i (j - 1) else j:=by
 obtain ⟨k,rfl⟩:∃ k,j=k+1:=⟨j - 1,by omega⟩
 rfl
theorem zn3 (p:GRatio→Bool) (d:Array GRatio) (j:Nat):∀ (k i:Nat),j≤i+k→i≤j+1→scanUp p d j i≤j+1
 | 0,i,hk,hi=>by
   rw [zc8]
   split
   · rw [zc8]
     rename_i h
     simp only [Bool.and_eq_true,decide_eq_true_eq] at h
     rw [if_neg (by simp; omega)]
     omega
   · exact hi
 | k+1,i,hk,hi=>by
   rw [zc8]
   split
   · rename_i h
     simp only [Bool.and_eq_true,decide_eq_true_eq] at h
     exact zn3 p d j k (i+1) (by omega) (by omega)
   · exact hi
theorem zl4 (p:GRatio→Bool) (d:Array GRatio) (i:Nat) (hi:1≤i):∀ (j:Nat),i≤j+1→i≤scanDown p d i j+1
 | 0,h=>by simpa [scanDown] using h
 | j+1,h=>by
   unfold scanDown
   split
   · rename_i h1
     simp only [Bool.and_eq_true,decide_eq_true_eq] at h1
     exact zl4 p d i hi j (by omega)
   · omega
theorem zl1 (p:GRatio→Bool) (d:Array GRatio) (j:Nat):∀ (k i:Nat),j+1≤i+k→scanUp p d j i≤j→p d[scanUp p d j i]! = false
 | 0,i,hk,h=>by
   rw [zc8,if_neg (by simp; omega)] at h
   omega
 | k+1,i,hk,h=>by
   rw [zc8] at h ⊢
   split
   · rename_i h1
     rw [if_pos h1] at h
     exact zl1 p d j k (i+1) (by omega) h
   · rename_i h1
     rw [if_neg h1] at h
     simp only [Bool.and_eq_true,decide_eq_true_eq,not_and,Bool.not_eq_true] at h1
     exact h1 h
theorem zkt (q:GRatio→Bool) (d:Array GRatio) (i:Nat) (hi:1≤i):∀ (j:Nat),i≤scanDown q d i j→q d[scanDown q d i j]! = false
 | 0,h=>by simp [scanDown] at h; omega
 | j+1,h=>by
   unfold scanDown at h ⊢
   split
   · rename_i h1
     rw [if_pos h1] at h
     exact zkt q d i hi j h
   · rename_i h1
     rw [if_neg h1] at h
     simp only [Bool.and_eq_true,decide_eq_true_eq,not_and,Bool.not_eq_true] at h1
     exact h1 h
noncomputable abbrev rPart (m:Nat) (b:Bool) (d:Array GRatio):Option (AV×Mem):=some (zdD.enc ((( m:Int),b),d.toList))
theorem k_part4 (hc:Cmp lt P) (a0:List GRatio) (a:Nat) (d:Array GRatio) (hn:a0.length=d.size) (hP:AllA P d) (hs:d.size≤100000) (ha:a < d.size) (j:Nat) (hj:j < d.size) (y:AV×Mem) :
  ∀ (k i:Nat),j+1≤i+k→i≤100001 →
    zbx a0 (a:Int) (Er d) (j:Int) ((scanUp (fun x=>lt x d[a]!) d j i:Nat):Int)=some y →
    zcv a0 (a:Int) (Er d) (j:Int) (i:Int)=some y:=by
 intro k
 induction k with
 | zero =>
   intro i hk hi h
   refine ze3 _ _ _ _ _ ?_
   rw [zc8,if_neg (by simp; omega)] at h
   rw [zag,if_neg (by omega)]
   exact h
 | succ k ih =>
   intro i hk hi h
   refine ze3 _ _ _ _ _ ?_
   rw [zc8] at h
   rw [zag,up1 (by omega),List.length_map]
   by_cases hij:i≤j
   · rw [if_pos (by omega),rdA hn (by omega),rdA hn ha,hc.step (hP _ (by omega)) (hP _ ha)]
     cases hl:lt d[i]! d[a]! with
     | true =>
       rw [hl,if_pos (by simpa using hij)] at h
       rw [zaC]
       exact ih (i+1) (by omega) (by omega) h
     | false =>
       rw [hl,if_neg (by simp)] at h
       rw [zax]
       exact h
   · rw [if_neg (by simp; omega)] at h
     rw [if_neg (by omega)]
     exact h
theorem k_part5 (hc:Cmp lt P) (a0:List GRatio) (a:Nat) (d:Array GRatio) (hn:a0.length=d.size) (hP:AllA P d) (hs:d.size≤100000) (ha:a < d.size) (i:Nat) (hi:1≤i) (hi2:i≤100001) (y:AV×Mem) :
  ∀ (j:Nat),j < d.size→i≤j+1 →
    zaT a0 (a:Int) (Er d) (i:Int) ((scanDown (fun x=>!lt x d[a]!) d i j:Nat):Int)=some y →
    zce a0 (a:Int) (Er d) (i:Int) (j:Int)=some y:=by
 intro j
 induction j with
 | zero =>
   intro hj hij h
   refine zeJ _ _ _ _ _ ?_
   rw [zag,if_neg (by omega)]
   exact h
 | succ j ih =>
   intro hj hij h
   refine zeJ _ _ _ _ _ ?_
   rw [zeK _ _ _ (by omega)] at h
   rw [zag,dn1 (by omega) (by omega),List.length_map]
   by_cases hle:i≤j+1
   · rw [if_pos (by omega),rdA hn (by omega),rdA hn ha,hc.stepN (hP _ (by omega)) (hP _ ha)]
     cases hl:lt d[j+1]! d[a]! with
     | false =>
       rw [hl,if_pos (by simpa using hle)] at h
       rw [zax]
       by_cases h0:i≤j+1 - 1+1
       · exact ih (by omega) h0 h
       · omega
     | true =>
       rw [hl,if_neg (by simp)] at h
       rw [zaC]
       exact h
   · rw [if_neg (by simp; omega)] at h
     rw [if_neg (by omega)]
     exact h
theorem k_part5' (hc:Cmp lt P) (a0:List GRatio) (a:Nat) (d:Array GRatio) (hn:a0.length=d.size) (hP:AllA P d) (hs:d.size≤100000) (ha:a < d.size) (i:Nat) (hi:1≤i) (hi2:i≤100001) (y:AV×Mem)
  (j:Nat) (hj:j < d.size) (hij:i≤j+1) (h:zaT a0 (a:Int) (Er d) (i:Int) ((scanDown (fun x=>!lt x d[a]!) d i j:Nat):Int)=some y) :
   zbx a0 (a:Int) (Er d) (j:Int) (i:Int)=some y:=by
 refine zi3 _ _ _ _ _ ?_
 by_cases h0:j=0
 · subst h0
   rw [zag,if_neg (by omega)]
   exact h
 · rw [zeK _ _ _ (by omega)] at h
   rw [zag,dn1 (by omega) (by omega),List.length_map]
   by_cases hle:i≤j
   · rw [if_pos (by omega),rdA hn (by omega),rdA hn ha,hc.stepN (hP _ (by omega)) (hP _ ha)]
     cases hl:lt d[j]! d[a]! with
     | false =>
       rw [hl,if_pos (by simpa using hle)] at h
       rw [zax]
       exact k_part5 hc a0 a d hn hP hs ha i hi hi2 y (j - 1) (by omega) (by omega) h
     | true =>
       rw [hl,if_neg (by simp)] at h
       rw [zaC]
       exact h
   · rw [if_neg (by simp; omega)] at h
     rw [if_neg (by omega)]
     exact h
theorem k_partLoop (hc:Cmp lt P) (a0:List GRatio) (a:Nat):∀ (n i j:Nat) (d:Array GRatio),j+1 - i≤n→a < i→i≤j+1→j < d.size→a0.length=d.size→AllA P d→d.size≤100000 →
  zcw a0 (a:Int) (Er d) (i:Int) (j:Int)=rPart (partLoop lt a i j d).1 false (swp (partLoop lt a i j d).2 (partLoop lt a i j d).1 a):=by
 intro n
 induction n with
 | zero =>
   intro i j d hn hai hij hj hl hP hs
   refine ze4 _ _ _ _ _ ?_
   refine k_part4 hc a0 a d hl hP hs (by omega) j hj _ (j+1) i (by omega) (by omega) ?_
   have hu:scanUp (fun x=>lt x d[a]!) d j i=i:=by rw [zc8,if_neg (by simp; omega)]
   rw [hu]
   refine k_part5' hc a0 a d hl hP hs (by omega) i (by omega) (by omega) _ j hj hij ?_
   have hd:scanDown (fun x=>!lt x d[a]!) d i j=j:=by
    by_cases h0:j=0
    · subst h0; rfl
    · rw [zeK _ _ _ (by omega),if_neg (by simp; omega)]
   rw [hd]
   refine zeo _ _ _ _ _ ?_
   rw [partLoop_eq]
   simp only [hu,hd]
   rw [if_pos (show i > j by omega),zag,if_pos (by omega),List.length_map,rdA hl (by omega),rdA hl (by omega),rdA hl (by omega),rdS hl (by omega),swpE]
   rfl
 | succ n ih =>
   intro i j d hn hai hij hj hl hP hs
   refine ze4 _ _ _ _ _ ?_
   refine k_part4 hc a0 a d hl hP hs (by omega) j hj _ (j+1) i (by omega) (by omega) ?_
   have u1:=scanUp_ge (fun x=>lt x d[a]!) d j i
   have u2:=zn3 (fun x=>lt x d[a]!) d j (j+1) i (by omega) hij
   refine k_part5' hc a0 a d hl hP hs (by omega) _ (by omega) (by omega) _ j hj (by omega) ?_
   have d1:=scanDown_le (fun x=>!lt x d[a]!) d (scanUp (fun x=>lt x d[a]!) d j i) j
   have d2:=zl4 (fun x=>!lt x d[a]!) d (scanUp (fun x=>lt x d[a]!) d j i) (by omega) j (by omega)
   have u3:=zl1 (fun x=>lt x d[a]!) d j (j+1) i (by omega)
   have d3:=zkt (fun x=>!lt x d[a]!) d (scanUp (fun x=>lt x d[a]!) d j i) (by omega) j
   refine zeo _ _ _ _ _ ?_
   rw [partLoop_eq]
   generalize scanUp (fun x=>lt x d[a]!) d j i=i2 at *
   generalize scanDown (fun x=>!lt x d[a]!) d i2 j=j2 at *
   rw [zag]
   by_cases hgt:i2 > j2
   · rw [if_pos (by omega)]
     simp only [hgt,if_true]
     rw [List.length_map,rdA hl (by omega),rdA hl (by omega),rdA hl (by omega),rdS hl (by omega),swpE]
     rfl
   · rw [if_neg (by omega)]
     simp only [hgt,if_false]
     rw [List.length_map,rdA hl (by omega),rdA hl (by omega),rdA hl (by omega),rdS hl (by omega),swpE,up1 (by omega),dn1 (by omega) (by omega)]
     by_cases heq:i2=j2
     · exfalso
       have w1:=u3 (by omega)
       have w2:=d3 (by omega)
       rw [heq] at w1
       rw [w1] at w2
       cases w2
     · exact ih (i2+1) (j2 - 1) _ (by omega) (by omega) (by omega) (by rw [zaD]; omega) (by rw [zaD]; exact hl) (hP.swp (by omega) (by omega)) (by rw [zaD]; exact hs)
theorem k_part1 (hc:Cmp lt P) (d0 d:Array GRatio) (a b pivot:Nat) (c0 c1 c2 c3:GRatio) (hrow:List.set (List.set (Er d0) (0+((a:Nat):Int).toNat) (zaa c0)) (0+((pivot:Nat):Int).toNat) (zaa c1)=Er d)
  (hn:d0.toList.length=d.size) (hP:AllA P d) (hs:d.size≤100000) (hab:a < b) (hb:b≤d.size) (y:AV×Mem) :
  ∀ (k i:Nat),b≤i+k→a < i→i≤100001 →
    zbe d0.toList (a:Int) (b:Int) (pivot:Int) c0 c1 c2 c3 ((scanUp (fun x=>lt x d[a]!) d (b - 1) i:Nat):Int)=some y →
    zcx d0.toList (a:Int) (b:Int) (pivot:Int) c0 c1 c2 c3 (i:Int)=some y:=by
 have eb:w64 ((b:Int) - 1)=((b - 1:Nat):Int):=dn1 (by omega) (by omega)
 intro k
 induction k with
 | zero =>
   intro i hk hai hi h
   refine ze5 _ _ _ _ _ _ _ _ _ ?_
   rw [zc8,if_neg (by simp; omega)] at h
   rw [zag,eb,if_neg (by omega)]
   exact h
 | succ k ih =>
   intro i hk hai hi h
   refine ze5 _ _ _ _ _ _ _ _ _ ?_
   rw [zc8] at h
   rw [zag,eb,up1 (by omega),List.length_map,hrow]
   by_cases hij:i≤b - 1
   · rw [if_pos (by omega),rdA hn (by omega),rdA hn (by omega),hc.step (hP _ (by omega)) (hP _ (by omega))]
     cases hl:lt d[i]! d[a]! with
     | true =>
       rw [hl,if_pos (by simpa using hij)] at h
       rw [zaC]
       exact ih (i+1) (by omega) (by omega) (by omega) h
     | false =>
       rw [hl,if_neg (by simp)] at h
       rw [zax]
       exact h
   · rw [if_neg (by simp; omega)] at h
     rw [if_neg (by omega)]
     exact h
theorem k_part2 (hc:Cmp lt P) (d0 d:Array GRatio) (a b pivot:Nat) (c0 c1 c2 c3:GRatio) (hrow:List.set (List.set (Er d0) (0+((a:Nat):Int).toNat) (zaa c0)) (0+((pivot:Nat):Int).toNat) (zaa c1)=Er d)
  (hn:d0.toList.length=d.size) (hP:AllA P d) (hs:d.size≤100000) (ha:a < d.size) (i:Nat) (hi:1≤i) (hi2:i≤100001) (y:AV×Mem) :
  ∀ (j:Nat),j < d.size→i≤j+1 →
    zaU d0.toList (a:Int) (b:Int) (pivot:Int) c0 c1 c2 c3 (i:Int) ((scanDown (fun x=>!lt x d[a]!) d i j:Nat):Int)=some y →
    zcd d0.toList (a:Int) (b:Int) (pivot:Int) c0 c1 c2 c3 (i:Int) (j:Int)=some y:=by
 intro j
 induction j with
 | zero =>
   intro hj hij h
   refine zeQ _ _ _ _ _ _ _ _ _ _ ?_
   rw [zag,if_neg (by omega)]
   exact h
 | succ j ih =>
   intro hj hij h
   refine zeQ _ _ _ _ _ _ _ _ _ _ ?_
   rw [zeK _ _ _ (by omega)] at h
   rw [zag,dn1 (by omega) (by omega),List.length_map,hrow]
   by_cases hle:i≤j+1
   · rw [if_pos (by omega),rdA hn (by omega),rdA hn ha,hc.stepN (hP _ (by omega)) (hP _ ha)]
     cases hl:lt d[j+1]! d[a]! with
     | false =>
       rw [hl,if_pos (by simpa using hle)] at h
       rw [zax]
       exact ih (by omega) (by omega) h
     | true =>
       rw [hl,if_neg (by simp)] at h
       rw [zaC]
       exact h
   · rw [if_neg (by simp; omega)] at h
     rw [if_neg (by omega)]
     exact h
theorem zy0 (hc:Cmp lt P) (d0:Array GRatio) (a b pivot:Nat) (hP0:AllA P d0) (ha:a≤pivot) (hp:pivot < b) (hb:b≤d0.size) (hs0:d0.size≤100000) (hab:a+1 < b) :
  ∃ flag:Bool,cw zcK [rA d0,I (a:Int),I (b:Int),I (pivot:Int),.fn zad []] (mA d0)=rPart (partition lt d0 a b pivot).1 flag (partition lt d0 a b pivot).2.2:=by
 have hn0:d0.toList.length=d0.size:=by simp
 rw [partition_fst,partition_arr]
 have hrow:=swpE d0 a pivot
 have hP:=hP0.swp (i:=a) (j:=pivot) (by omega) (by omega)
 have hsz:=zaD d0 a pivot
 generalize hd:swp d0 a pivot=d at *
 have hn:d0.toList.length=d.size:=by rw [hn0,hsz]
 have eb:w64 ((b:Int) - 1)=((b - 1:Nat):Int):=dn1 (by omega) (by omega)
 have u1:=scanUp_ge (fun x=>lt x d[a]!) d (b - 1) (a+1)
 have u2:=zn3 (fun x=>lt x d[a]!) d (b - 1) b (a+1) (by omega) (by omega)
 have u3:=zl1 (fun x=>lt x d[a]!) d (b - 1) b (a+1) (by omega)
 rw [partLoop_eq]
 have head:∀ y,zbe d0.toList (a:Int) (b:Int) (pivot:Int) d0[pivot]! d0[a]! d0[a]! (d0.setIfInBounds a d0[pivot]!)[pivot]! ((scanUp (fun x=>lt x d[a]!) d (b - 1) (a+1):Nat):Int)=some y →
   cw zcK [rA d0,I (a:Int),I (b:Int),I (pivot:Int),.fn zad []] (mA d0)=some y:=by
  intro y h
  refine zjD d0.toList _ _ _ ?_
  rw [List.length_map,rdA hn0 (by omega),rdA hn0 (by omega),rdA hn0 (by omega),rdS hn0 (by omega),up1 (by omega)]
  exact k_part1 hc d0 d a b pivot _ _ _ _ hrow hn hP (by omega) (by omega) (by omega) _ b (a+1) (by omega) (by omega) (by omega) h
 generalize scanUp (fun x=>lt x d[a]!) d (b - 1) (a+1)=i at *
 have d1:=scanDown_le (fun x=>!lt x d[a]!) d i (b - 1)
 have d2:=zl4 (fun x=>!lt x d[a]!) d i (by omega) (b - 1) (by omega)
 have d3:=zkt (fun x=>!lt x d[a]!) d i (by omega) (b - 1)
 have mid:∀ y,zaU d0.toList (a:Int) (b:Int) (pivot:Int) d0[pivot]! d0[a]! d0[a]! (d0.setIfInBounds a d0[pivot]!)[pivot]! (i:Int) ((scanDown (fun x=>!lt x d[a]!) d i (b - 1):Nat):Int)=some y →
   zbe d0.toList (a:Int) (b:Int) (pivot:Int) d0[pivot]! d0[a]! d0[a]! (d0.setIfInBounds a d0[pivot]!)[pivot]! (i:Int)=some y:=by
  intro y h
  refine zi5 _ _ _ _ _ _ _ _ _ ?_
  rw [zag,eb,hrow,List.length_map]
  rw [zeK _ _ _ (by omega)] at h
  by_cases hle:i≤b - 1
  · rw [if_pos (by omega),rdA hn (by omega),rdA hn (by omega),hc.stepN (hP _ (by omega)) (hP _ (by omega)),dn1 (by omega) (by omega)]
    cases hl:lt d[b - 1]! d[a]! with
    | false =>
      rw [hl,if_pos (by simpa using hle)] at h
      rw [zax]
      exact k_part2 hc d0 d a b pivot _ _ _ _ hrow hn hP (by omega) (by omega) i (by omega) (by omega) _ (b - 1 - 1) (by omega) (by omega) h
    | true =>
      rw [hl,if_neg (by simp)] at h
      rw [zaC]
      exact h
  · rw [if_neg (by simp; omega)] at h
    rw [if_neg (by omega)]
    exact h
 generalize scanDown (fun x=>!lt x d[a]!) d i (b - 1)=j at *
 by_cases hgt:i > j
 · refine ⟨true,head _ (mid _ (zev _ _ _ _ _ _ _ _ _ _ ?_))⟩
   rw [zag,hrow,List.length_map,if_pos (by omega),if_pos hgt,rdA hn (by omega),rdA hn (by omega),rdA hn (by omega),rdS hn (by omega),swpE]
   rfl
 · refine ⟨false,head _ (mid _ (zev _ _ _ _ _ _ _ _ _ _ ?_))⟩
   have hne:i≠j:=by
    intro heq
    have w1:=u3 (by omega)
    have w2:=d3 (by omega)
    rw [heq] at w1
    rw [w1] at w2
    cases w2
   rw [zag,hrow,List.length_map,if_neg (by omega),if_neg hgt,rdA hn (by omega),rdA hn (by omega),rdA hn (by omega),rdS hn (by omega),swpE,up1 (by omega),dn1 (by omega) (by omega)]
   exact k_partLoop hc d0.toList a (j+1) (i+1) (j - 1) _ (by omega) (by omega) (by omega) (by rw [zaD]; omega) (by rw [zaD]; exact hn) (hP.swp (by omega) (by omega)) (by rw [zaD]; omega)
noncomputable abbrev rEq (m:Nat) (d:Array GRatio):Option (AV×Mem):=some (zb1.enc ((m:Int),d.toList))
theorem k_eq2 (hc:Cmp lt P) (a0:List GRatio) (a:Nat) (d:Array GRatio) (hn:a0.length=d.size) (hP:AllA P d) (hs:d.size≤100000) (ha:a < d.size) (j:Nat) (hj:j < d.size) (y:AV×Mem) :
  ∀ (k i:Nat),j+1≤i+k→i≤100001 →
    zbg a0 (a:Int) (Er d) (j:Int) ((scanUp (fun x=>!lt d[a]! x) d j i:Nat):Int)=some y →
    zbN a0 (a:Int) (Er d) (j:Int) (i:Int)=some y:=by
 intro k
 induction k with
 | zero =>
   intro i hk hi h
   refine zed _ _ _ _ _ ?_
   rw [zc8,if_neg (by simp; omega)] at h
   rw [zag,if_neg (by omega)]
   exact h
 | succ k ih =>
   intro i hk hi h
   refine zed _ _ _ _ _ ?_
   rw [zc8] at h
   rw [zag,up1 (by omega),List.length_map]
   by_cases hij:i≤j
   · rw [if_pos (by omega),rdA hn ha,rdA hn (by omega),hc.stepN (hP _ ha) (hP _ (by omega))]
     cases hl:lt d[a]! d[i]! with
     | false =>
       rw [hl,if_pos (by simpa using hij)] at h
       rw [zax]
       exact ih (i+1) (by omega) (by omega) h
     | true =>
       rw [hl,if_neg (by simp)] at h
       rw [zaC]
       exact h
   · rw [if_neg (by simp; omega)] at h
     rw [if_neg (by omega)]
     exact h
theorem k_eq3 (hc:Cmp lt P) (a0:List GRatio) (a:Nat) (d:Array GRatio) (hn:a0.length=d.size) (hP:AllA P d) (hs:d.size≤100000) (ha:a < d.size) (i:Nat) (hi:1≤i) (hi2:i≤100001) (y:AV×Mem) :
  ∀ (j:Nat),j < d.size→i≤j+1 →
    zaN a0 (a:Int) (Er d) (i:Int) ((scanDown (fun x=>lt d[a]! x) d i j:Nat):Int)=some y →
    zbE a0 (a:Int) (Er d) (i:Int) (j:Int)=some y:=by
 intro j
 induction j with
 | zero =>
   intro hj hij h
   refine zdX _ _ _ _ _ ?_
   rw [zag,if_neg (by omega)]
   exact h
 | succ j ih =>
   intro hj hij h
   refine zdX _ _ _ _ _ ?_
   rw [zeK _ _ _ (by omega)] at h
   rw [zag,dn1 (by omega) (by omega),List.length_map]
   by_cases hle:i≤j+1
   · rw [if_pos (by omega),rdA hn ha,rdA hn (by omega),hc.step (hP _ ha) (hP _ (by omega))]
     cases hl:lt d[a]! d[j+1]! with
     | true =>
       rw [hl,if_pos (by simpa using hle)] at h
       rw [zaC]
       exact ih (by omega) (by omega) h
     | false =>
       rw [hl,if_neg (by simp)] at h
       rw [zax]
       exact h
   · rw [if_neg (by simp; omega)] at h
     rw [if_neg (by omega)]
     exact h
theorem k_eq3' (hc:Cmp lt P) (a0:List GRatio) (a:Nat) (d:Array GRatio) (hn:a0.length=d.size) (hP:AllA P d) (hs:d.size≤100000) (ha:a < d.size) (i:Nat) (hi:1≤i) (hi2:i≤100001) (y:AV×Mem)
  (j:Nat) (hj:j < d.size) (hij:i≤j+1) (h:zaN a0 (a:Int) (Er d) (i:Int) ((scanDown (fun x=>lt d[a]! x) d i j:Nat):Int)=some y) :
   zbg a0 (a:Int) (Er d) (j:Int) (i:Int)=some y:=by
 refine zhz _ _ _ _ _ ?_
 by_cases h0:j=0
 · subst h0
   rw [zag,if_neg (by omega)]
   exact h
 · rw [zeK _ _ _ (by omega)] at h
   rw [zag,dn1 (by omega) (by omega),List.length_map]
   by_cases hle:i≤j
   · rw [if_pos (by omega),rdA hn ha,rdA hn (by omega),hc.step (hP _ ha) (hP _ (by omega))]
     cases hl:lt d[a]! d[j]! with
     | true =>
       rw [hl,if_pos (by simpa using hle)] at h
       rw [zaC]
       exact k_eq3 hc a0 a d hn hP hs ha i hi hi2 y (j - 1) (by omega) (by omega) h
     | false =>
       rw [hl,if_neg (by simp)] at h
       rw [zax]
       exact h
   · rw [if_neg (by simp; omega)] at h
     rw [if_neg (by omega)]
     exact h
theorem k_eqLoop (hc:Cmp lt P) (a0:List GRatio) (a:Nat):∀ (n i j:Nat) (d:Array GRatio),j+1 - i≤n→a < i→i≤j+1→j < d.size→a0.length=d.size→AllA P d→d.size≤100000 →
  zbM a0 (a:Int) (Er d) (i:Int) (j:Int)=rEq (partEqLoop lt a i j d).1 (partEqLoop lt a i j d).2:=by
 intro n
 induction n with
 | zero =>
   intro i j d hn hai hij hj hl hP hs
   refine zea _ _ _ _ _ ?_
   refine k_eq2 hc a0 a d hl hP hs (by omega) j hj _ (j+1) i (by omega) (by omega) ?_
   have hu:scanUp (fun x=>!lt d[a]! x) d j i=i:=by rw [zc8,if_neg (by simp; omega)]
   rw [hu]
   refine k_eq3' hc a0 a d hl hP hs (by omega) i (by omega) (by omega) _ j hj hij ?_
   have hd:scanDown (fun x=>lt d[a]! x) d i j=j:=by
    by_cases h0:j=0
    · subst h0; rfl
    · rw [zeK _ _ _ (by omega),if_neg (by simp; omega)]
   rw [hd]
   refine zdP _ _ _ _ _ ?_
   rw [partEqLoop_eq,hu,hd,if_pos (show i > j by omega),zag,if_pos (by omega)]
   rfl
 | succ n ih =>
   intro i j d hn hai hij hj hl hP hs
   refine zea _ _ _ _ _ ?_
   refine k_eq2 hc a0 a d hl hP hs (by omega) j hj _ (j+1) i (by omega) (by omega) ?_
   have u1:=scanUp_ge (fun x=>!lt d[a]! x) d j i
   have u2:=zn3 (fun x=>!lt d[a]! x) d j (j+1) i (by omega) hij
   refine k_eq3' hc a0 a d hl hP hs (by omega) _ (by omega) (by omega) _ j hj (by omega) ?_
   have d1:=scanDown_le (fun x=>lt d[a]! x) d (scanUp (fun x=>!lt d[a]! x) d j i) j
   have d2:=zl4 (fun x=>lt d[a]! x) d (scanUp (fun x=>!lt d[a]! x) d j i) (by omega) j (by omega)
   have u3:=zl1 (fun x=>!lt d[a]! x) d j (j+1) i (by omega)
   have d3:=zkt (fun x=>lt d[a]! x) d (scanUp (fun x=>!lt d[a]! x) d j i) (by omega) j
   refine zdP _ _ _ _ _ ?_
   rw [partEqLoop_eq]
   generalize scanUp (fun x=>!lt d[a]! x) d j i=i2 at *
   generalize scanDown (fun x=>lt d[a]! x) d i2 j=j2 at *
   rw [zag]
   by_cases hgt:i2 > j2
   · rw [if_pos (by omega),if_pos hgt]
     rfl
   · have hne:i2≠j2:=by
      intro heq
      have w1:=u3 (by omega)
      have w2:=d3 (by omega)
      rw [heq,w2] at w1
      cases w1
     rw [if_neg (by omega),if_neg hgt,List.length_map,rdA hl (by omega),rdA hl (by omega),rdA hl (by omega),rdS hl (by omega),swpE,up1 (by omega),dn1 (by omega) (by omega)]
     exact ih (i2+1) (j2 - 1) _ (by omega) (by omega) (by omega) (by rw [zaD]; omega) (by rw [zaD]; exact hl) (hP.swp (by omega) (by omega)) (by rw [zaD]; exact hs)
theorem znB (hc:Cmp lt P) (d0:Array GRatio) (a b pivot:Nat) (hP0:AllA P d0) (ha:a≤pivot) (hp:pivot < b) (hb:b≤d0.size) (hs0:d0.size≤100000) :
  cw zb4 [rA d0,I (a:Int),I (b:Int),I (pivot:Int),.fn zad []] (mA d0)=rEq (partitionEqual lt d0 a b pivot).1 (partitionEqual lt d0 a b pivot).2:=by
 have hn0:d0.toList.length=d0.size:=by simp
 refine zhQ d0.toList _ _ _ ?_
 rw [List.length_map,rdA hn0 (by omega),rdA hn0 (by omega),rdA hn0 (by omega),rdS hn0 (by omega),up1 (by omega),dn1 (by omega) (by omega),swpE]
 exact k_eqLoop hc d0.toList a b (a+1) (b - 1) _ (by omega) (by omega) (by omega) (by rw [zaD]; omega) (by rw [zaD]; exact hn0) (hP0.swp (by omega) (by omega)) (by rw [zaD]; exact hs0)
theorem rdL {β:Type} {d:Array GRatio} {i:Nat} (hi:i < d.size) (K:GRatio→Option β) :
  (chk ((0:Int)≤(i:Int)) <| elemD zab (Er d) (((i:Nat):Int).toNat) K)=K d[i]!:=by
 rw [zaf (by omega),Int.toNat_natCast,zgG (D:=zab) (l:=d.toList) (x:=d[i]!) (by simp [hi])]
noncomputable abbrev mSw (k:Nat) (s:Int):Mem:=[(k,⟨1,zaF,[zaj s],true⟩)]
theorem zsI (hc:Cmp lt P) (d:Array GRatio) (hP:AllA P d) (a b:Nat) (s:Int) (ha:a < d.size) (hb:b < d.size) (hs0:0≤s) (hs:s≤1000) :
  ∃ (x y:Nat) (s':Int),cw zco [.sl 2 (Er d),I (a:Int),I (b:Int),.loc 1003 1 0 0,.fn zad []] (mSw 1003 s)=some (zcl.enc (((x:Int),(y:Int)),s'))∧((x=a∧y=b)∨(x=b∧y=a))∧0≤s'∧s'≤s+1:=by
 cases hl:lt d[b]! d[a]! with
 | true =>
   refine ⟨b,a,s+1,zf9 d.toList _ _ _ ?_,.inr ⟨rfl,rfl⟩,by omega,by omega⟩
   rw [rdL hb,rdL ha,hc.step (hP _ hb) (hP _ ha),hl,zaC,w64_id (by omega) (by omega)]
   rfl
 | false =>
   refine ⟨a,b,s,zf9 d.toList _ _ _ ?_,.inl ⟨rfl,rfl⟩,by omega,by omega⟩
   rw [rdL hb,rdL ha,hc.step (hP _ hb) (hP _ ha),hl,zax]
   rfl
theorem zsC (hc:Cmp lt P) (d:Array GRatio) (hP:AllA P d) (a b c:Nat) (s:Int) (ha:a < d.size) (hb:b < d.size) (hcc:c < d.size) (hs0:0≤s) (hs:s≤900) :
  ∃ (x:Nat) (s':Int),cw zcn [.sl 2 (Er d),I (a:Int),I (b:Int),I (c:Int),.loc 1004 1 0 0,.fn zad []] (mSw 1004 s)=some (zch.enc ((x:Int),s'))∧(x=a∨x=b∨x=c)∧0≤s'∧s'≤s+3:=by
 obtain ⟨x1,y1,s1,h1,o1,p1,q1⟩:=zsI hc d hP a b s ha hb hs0 (by omega)
 obtain ⟨x2,y2,s2,h2,o2,p2,q2⟩:=zsI hc d hP y1 c s1 (by omega) hcc p1 (by omega)
 obtain ⟨x3,y3,s3,h3,o3,p3,q3⟩:=zsI hc d hP x1 x2 s2 (by omega) (by omega) p2 (by omega)
 refine ⟨y3,s3,zkU d.toList _ _ _ _ ?_,by omega,p3,by omega⟩
 rw [zau h1,zau h2,zau h3]
 rfl
theorem zkS (hc:Cmp lt P) (d:Array GRatio) (hP:AllA P d) (a:Nat) (s:Int) (ha:a+1 < d.size) (ha1:1≤a) (hsz:d.size≤100000) (hs0:0≤s) (hs:s≤900) :
  ∃ (x:Nat) (s':Int),cw zbn [.sl 2 (Er d),I (a:Int),.loc 1002 1 0 0,.fn zad []] (mSw 1002 s)=some (zbl.enc ((x:Int),s'))∧(x=a - 1∨x=a∨x=a+1)∧0≤s'∧s'≤s+3:=by
 obtain ⟨x,s',h,o,p,q⟩:=zsC hc d hP (a - 1) a (a+1) s (by omega) (by omega) ha hs0 hs
 refine ⟨x,s',zhL d.toList _ _ ?_,o,p,q⟩
 rw [dn1 ha1 (by omega),up1 (by omega),zau h]
 rfl
set_option maxHeartbeats 1000000 in
theorem zp7 (hc:Cmp lt P) (d:Array GRatio) (hP:AllA P d) (a b:Nat) (hab:a < b) (hb:b≤d.size) (hsz:d.size≤100000) :
  ∃ (m:Nat) (h:Int),cw zcy [.sl 2 (Er d),I (a:Int),I (b:Int),.fn zad []] []=some (zby.enc ((m:Int),h))∧a≤m∧m < b∧(h=0∨h=1∨h=2):=by
 have e0:w64 ((b:Int) - (a:Int))=((b - a:Nat):Int):=by rw [w64_id (by omega) (by omega)]; omega
 have e1:(((b - a:Nat):Int)).tdiv 4=(((b - a) / 4:Nat):Int):=rfl
 have ew:w64 (((b - a) / 4:Nat):Int)=(((b - a) / 4:Nat):Int):=w64_id (by omega) (by omega)
 have ei:∀ c:Nat,c≤3→w64 ((a:Int)+w64 ((((b - a) / 4:Nat):Int)*(c:Int)))=((a+(b - a) / 4*c:Nat):Int):=fun c hc=>by
  have:(((b - a) / 4:Nat):Int)*(c:Int)=(((b - a) / 4*c:Nat):Int):=by push_cast; rfl
  have h2:(b - a) / 4*c≤(b - a) / 4*3:=Nat.mul_le_mul_left _ hc
  rw [this,w64_id (n:=(((b - a) / 4*c:Nat):Int)) (by omega) (by omega),w64_id (by omega) (by omega)]
  omega
 have ei1:=ei 1 (by omega)
 have ei2:=ei 2 (by omega)
 have ei3:=ei 3 (by omega)
 have c1:((1:Nat):Int)=1:=rfl
 have c2:((2:Nat):Int)=2:=rfl
 have c3:((3:Nat):Int)=3:=rfl
 rw [c1] at ei1
 rw [c2] at ei2
 rw [c3] at ei3
 have fin:∀ (m:Nat) (s:Int),∃ h:Int,(h=0∨h=1∨h=2)∧(brn (s == 0) (some (AV.tup [I (m:Int),I 1],([]:Mem))) (brn (s == 12) (some (.tup [I (m:Int),I 2],[])) (some (.tup [I (m:Int),I 0],[]))))=some (zby.enc ((m:Int),h)):=by
  intro m s
  by_cases hz:s=0
  · exact ⟨1,by omega,by rw [hz]; rfl⟩
  · by_cases hz2:s=12
    · exact ⟨2,by omega,by rw [hz2]; rfl⟩
    · refine ⟨0,by omega,?_⟩
      rw [beq_false_of_ne hz,beq_false_of_ne hz2]; rfl
 by_cases h8:8≤b - a
 · by_cases h50:50≤b - a
   · obtain ⟨x1,s1,g1,o1,p1,q1⟩:=zkS hc d hP (a+(b - a) / 4*1) 0 (by omega) (by omega) hsz (by omega) (by omega)
     have v1:a≤x1∧x1 < b:=by omega
     clear o1
     obtain ⟨x2,s2,g2,o2,p2,q2⟩:=zkS hc d hP (a+(b - a) / 4*2) s1 (by omega) (by omega) hsz p1 (by omega)
     have v2:a≤x2∧x2 < b:=by omega
     clear o2
     obtain ⟨x3,s3,g3,o3,p3,q3⟩:=zkS hc d hP (a+(b - a) / 4*3) s2 (by omega) (by omega) hsz p2 (by omega)
     have v3:a≤x3∧x3 < b:=by omega
     clear o3
     obtain ⟨x4,s4,g4,o4,p4,q4⟩:=zsC hc d hP x1 x2 x3 s3 (by omega) (by omega) (by omega) p3 (by omega)
     have v4:a≤x4∧x4 < b:=by omega
     clear o4
     obtain ⟨h,hh,hf⟩:=fin x4 s4
     refine ⟨x4,h,zdk d.toList _ _ ?_,v4.1,v4.2,hh⟩
     clear hh
     rw [zaf (by omega),zaf (by omega),zaf (by omega),e0,e1,ew,ei1,ei2,ei3,zag,if_pos (by omega),zag,if_pos (by omega),zau g1,zau g2,zau g3]
     refine zhw _ _ _ _ ?_
     rw [zau g4]
     exact hf
   · obtain ⟨x4,s4,g4,o4,p4,q4⟩:=zsC hc d hP (a+(b - a) / 4*1) (a+(b - a) / 4*2) (a+(b - a) / 4*3) 0 (by omega) (by omega) (by omega) (by omega) (by omega)
     have v4:a≤x4∧x4 < b:=by omega
     clear o4
     obtain ⟨h,hh,hf⟩:=fin x4 s4
     refine ⟨x4,h,zdk d.toList _ _ ?_,v4.1,v4.2,hh⟩
     clear hh
     rw [zaf (by omega),zaf (by omega),zaf (by omega),e0,zag,if_pos (by omega),zag,if_neg (by omega)]
     refine zg4 _ _ _ ?_
     rw [e0,e1,ew,ei1,ei2,ei3,zau g4]
     exact hf
 · refine ⟨a+(b - a) / 4*2,1,zdk d.toList _ _ ?_,by omega,by omega,by omega⟩
   rw [zaf (by omega),zaf (by omega),zaf (by omega),e0,e1,ew,ei2,zag,if_neg (by omega)]
   rfl
end
end Go.Proofs.YtbhkcgaanaelfaaGreat
namespace Go.Proofs.YtbhkcgaanaelfaaGreat
open Go.Ab Go.Sort
set_option linter.unusedVariables false
theorem blen_bits:∀ n:Fin 100,blen n.val=bitsLen n.val:=by decide
theorem c_Len64s (n:Nat) (h:n < 100):cw zjy [.v (.int .u64 (n:Int))] []=some (zer ((bitsLen n:Nat):Int)):=by
 rw [c_Len64 n (by omega),blen_bits ⟨n,h⟩]
theorem c_Len (n:Nat) (h:n < 100):cw zmS [.v (.int .u64 (n:Int))] []=some (zmN.enc ((bitsLen n:Nat):Int)):=by
 refine e_bits_Len _ ?_
 rw [c_Len64s n h,znt]
 rfl
theorem zsA {n:Nat} (h:n < 100):bitsLen n≤7:=(bitsLen_le_iff n 7).2 (by omega)
theorem c_nextPow (n:Nat) (h:n < 100):cw zgt [I (n:Int)] []=some (zgw.enc ((2 ^ bitsLen n:Nat):Int)):=by
 refine znO _ ?_
 have hb:=zsA h
 have hp:2 ^ bitsLen n≤2 ^ 7:=Nat.pow_le_pow_right (by omega) hb
 rw [zc9 (n:=(n:Int)) (by omega) (by omega),zau (c_Len n h),zaf (by omega),Int.toNat_natCast,Nat.min_eq_left (by omega)]
 have e:(1:Int)*2 ^ bitsLen n=((2 ^ bitsLen n:Nat):Int):=by push_cast; rw [Int.one_mul]
 rw [e]
 clear e
 have hp':2 ^ bitsLen n≤128:=hp
 clear hp
 generalize 2 ^ bitsLen n=z at hp' ⊢
 rw [zc9 (by omega) (by omega)]
 rfl
theorem c_xor (x:Int):∃ v w:Int,cw zgW [.loc 1000 1 0 0] [(1000,⟨1,zbI,[zll x],true⟩)]=some (zgZ.enc (v,w)):=by
 apply Exists.intro
 apply Exists.intro
 apply zom
 rw [zaf (by omega),zaf (by omega),zaf (by omega)]
 rfl
section
variable {lt:GRatio→GRatio→Bool} {P:GRatio→Prop}
theorem and_bd (v:Nat) (M:Nat) (h1:1≤M) (h2:M≤1000):v &&& (wu64 ((M:Int) - 1) % Int.ofNat (2 ^ 64)).toNat < M:=by
 have e:(wu64 ((M:Int) - 1) % Int.ofNat (2 ^ 64)).toNat=M - 1:=by
  rw [zc9 (by omega) (by omega)]
  show (((M:Int) - 1) % (18446744073709551616:Int)).toNat=M - 1
  omega
 rw [e]
 have:=Nat.and_le_right (n:=v) (m:=M - 1)
 omega
theorem k_break (a0:List GRatio) (a b M:Nat) (hab:a+8≤b) (hM:1≤M) (hM2:M≤2*(b - a)) (hM3:M≤1000) (hbs:b≤100000):∀ (k i:Nat) (x:Int) (d:Array GRatio),a+(b - a) / 4*2+2≤i+k→a≤i→a0.length=d.size→b≤d.size→d.size≤100000 →
  ∃ d',zbj a0 (a:Int) (b:Int) (M:Int) x (Er d) (i:Int)=some (za5.enc d'.toList)∧PermIn a b d d':=by
 have e0:w64 ((b:Int) - (a:Int))=((b - a:Nat):Int):=by rw [w64_id (by omega) (by omega)]; omega
 have e1:(((b - a:Nat):Int)).tdiv 4=(((b - a) / 4:Nat):Int):=rfl
 intro k
 induction k with
 | zero =>
   intro i x d hk hi hn hb hs
   refine ⟨d,zbS _ _ _ _ _ _ _ ?_,permIn_refl _ _ _⟩
   have e2:w64 (w64 ((a:Int)+w64 (w64 (((b - a:Nat):Int).tdiv 4)*2))+1)=((a+(b - a) / 4*2+1:Nat):Int):=by
    rw [e1,w64_id (n:=(((b - a) / 4:Nat):Int)) (by omega) (by omega),w64_id (n:=(((b - a) / 4:Nat):Int)*2) (by omega) (by omega),w64_id (n:=(a:Int)+_) (by omega) (by omega),w64_id (by omega) (by omega)]
    omega
   rw [zaf (by omega),e0,e2,zag,if_neg (by omega)]
   rfl
 | succ k ih =>
   intro i x d hk hi hn hb hs
   have e2:w64 (w64 ((a:Int)+w64 (w64 (((b - a:Nat):Int).tdiv 4)*2))+1)=((a+(b - a) / 4*2+1:Nat):Int):=by
    rw [e1,w64_id (n:=(((b - a) / 4:Nat):Int)) (by omega) (by omega),w64_id (n:=(((b - a) / 4:Nat):Int)*2) (by omega) (by omega),w64_id (n:=(a:Int)+_) (by omega) (by omega),w64_id (by omega) (by omega)]
    omega
   by_cases hle:i≤a+(b - a) / 4*2+1
   · obtain ⟨v,w,hx⟩:=c_xor x
     have hq:=and_bd (v % Int.ofNat (2 ^ 64)).toNat M hM hM3
     have hl2:(b - a) / 4*2+1 < b - a:=by omega
     by_cases hge:b - a≤((v % Int.ofNat (2 ^ 64)).toNat &&& (wu64 ((M:Int) - 1) % Int.ofNat (2 ^ 64)).toNat)
     · obtain ⟨d',g1,g2⟩:=ih (i+1) w (swp d i (a+(((v % Int.ofNat (2 ^ 64)).toNat &&& (wu64 ((M:Int) - 1) % Int.ofNat (2 ^ 64)).toNat) - (b - a)))) (by omega) (by omega) (by rw [zaD]; exact hn) (by rw [zaD]; exact hb) (by rw [zaD]; exact hs)
       refine ⟨d',zbS _ _ _ _ _ _ _ ?_,permIn_trans _ _ _ _ _ (swp_permIn d a b i _ hi (by omega) (by omega) (by omega) hb) g2⟩
       rw [zaf (by omega),e0,e2,zag,if_pos (by omega),zau hx]
       dsimp only
       have hT:∀ y,zbF a0 (a:Int) (b:Int) (M:Int) (Er d) (i:Int) (v,w)=some y→(chk ((4:Int)≠0) <| zbF a0 (a:Int) (b:Int) (M:Int) (Er d) (i:Int) (v,w))=some y:=fun y h=>by rw [zaf (by omega)]; exact h
       have hG:=zg0 a0 (a:Int) (b:Int) (M:Int) (Er d) (i:Int) (v,w) (y:=za5.enc d'.toList)
       dsimp only at hG
       generalize ((v % Int.ofNat (2 ^ 64)).toNat &&& (wu64 ((M:Int) - 1) % Int.ofNat (2 ^ 64)).toNat)=q at hq hge g1 hG ⊢
       rw [zc9 (n:=(q:Int)) (by omega) (by omega),w64_id (n:=(q:Int)) (by omega) (by omega),zag,if_pos (by omega)]
       apply hG
       have ei:w64 ((a:Int)+w64 (w64 (wu64 (q:Int)) - w64 ((b:Int) - (a:Int))))=((a+(q - (b - a)):Nat):Int):=by
        rw [zc9 (n:=(q:Int)) (by omega) (by omega),w64_id (n:=(q:Int)) (by omega) (by omega),e0,w64_id (n:=(q:Int) - _) (by omega) (by omega),w64_id (by omega) (by omega)]
        omega
       rw [ei,List.length_map,rdA hn (by omega),rdA hn (by omega),rdA hn (by omega),rdS hn (by omega),swpE,up1 (by omega)]
       exact g1
     · obtain ⟨d',g1,g2⟩:=ih (i+1) w (swp d i (a+(((v % Int.ofNat (2 ^ 64)).toNat &&& (wu64 ((M:Int) - 1) % Int.ofNat (2 ^ 64)).toNat)))) (by omega) (by omega) (by rw [zaD]; exact hn) (by rw [zaD]; exact hb) (by rw [zaD]; exact hs)
       refine ⟨d',zbS _ _ _ _ _ _ _ ?_,permIn_trans _ _ _ _ _ (swp_permIn d a b i _ hi (by omega) (by omega) (by omega) hb) g2⟩
       rw [zaf (by omega),e0,e2,zag,if_pos (by omega),zau hx]
       dsimp only
       have hG:=zgu a0 (a:Int) (b:Int) (M:Int) (Er d) (i:Int) (v,w) (y:=za5.enc d'.toList)
       dsimp only at hG
       generalize ((v % Int.ofNat (2 ^ 64)).toNat &&& (wu64 ((M:Int) - 1) % Int.ofNat (2 ^ 64)).toNat)=q at hq hge g1 hG ⊢
       rw [zc9 (n:=(q:Int)) (by omega) (by omega),w64_id (n:=(q:Int)) (by omega) (by omega),zag,if_neg (by omega)]
       apply hG
       have ei:w64 ((a:Int)+w64 (wu64 (q:Int)))=((a+q:Nat):Int):=by
        rw [zc9 (n:=(q:Int)) (by omega) (by omega),w64_id (n:=(q:Int)) (by omega) (by omega),w64_id (by omega) (by omega)]
        omega
       rw [ei,List.length_map,rdA hn (by omega),rdA hn (by omega),rdA hn (by omega),rdS hn (by omega),swpE,up1 (by omega)]
       exact g1
   · refine ⟨d,zbS _ _ _ _ _ _ _ ?_,permIn_refl _ _ _⟩
     rw [zaf (by omega),e0,e2,zag,if_neg (by omega)]
     rfl
theorem c_break (d:Array GRatio) (a b:Nat) (hab:a≤b) (hb:b≤d.size) (hs:d.size < 100) :
  ∃ d',cw zc7 [rA d,I (a:Int),I (b:Int),.fn zad []] (mA d)=some (za5.enc d'.toList)∧PermIn a b d d':=by
 have e0:w64 ((b:Int) - (a:Int))=((b - a:Nat):Int):=by rw [w64_id (by omega) (by omega)]; omega
 have e1:(((b - a:Nat):Int)).tdiv 4=(((b - a) / 4:Nat):Int):=rfl
 by_cases h8:8≤b - a
 · have hM2:=two_pow_bitsLen_le (n:=b - a) (by omega)
   have e2:w64 (w64 ((a:Int)+w64 (w64 (((b - a:Nat):Int).tdiv 4)*2)) - 1)=((a+(b - a) / 4*2 - 1:Nat):Int):=by
    rw [e1,w64_id (n:=(((b - a) / 4:Nat):Int)) (by omega) (by omega),w64_id (n:=(((b - a) / 4:Nat):Int)*2) (by omega) (by omega),w64_id (n:=(a:Int)+_) (by omega) (by omega),w64_id (by omega) (by omega)]
    omega
   obtain ⟨d',g1,g2⟩:=k_break d.toList a b (2 ^ bitsLen (b - a)) (by omega) (Nat.one_le_two_pow) hM2 (by omega) (by omega) 100 (a+(b - a) / 4*2 - 1) (wu64 ((b - a:Nat):Int)) d (by omega) (by omega) (by simp) hb (by omega)
   refine ⟨d',zeN d.toList _ _ ?_,g2⟩
   rw [e0,zag,if_pos (by omega),zau (c_nextPow (b - a) (by omega)),zaf (by omega),e2]
   exact g1
 · refine ⟨d,zeN d.toList _ _ ?_,permIn_refl _ _ _⟩
   rw [e0,zag,if_neg (by omega)]
   rfl
theorem zqP:∀ (j:Nat) (d:Array GRatio),j < d.size→(shiftDown lt j d).size=d.size∧(AllA P d→AllA P (shiftDown lt j d))
 | 0,d,_=>⟨rfl,fun h=>h⟩
 | j+1,d,h=>by
   unfold shiftDown
   split
   · exact ⟨rfl,fun h=>h⟩
   · have ih:=zqP j (swp d (j+1) j) (by rw [zaD]; omega)
     rw [zaD] at ih
     exact ⟨ih.1,fun hP=>ih.2 (hP.swp h (by omega))⟩
theorem shiftUp_ok (b:Nat):∀ (k j:Nat) (d:Array GRatio),b≤j+k→b≤d.size→(shiftUp lt b j d).size=d.size∧(AllA P d→AllA P (shiftUp lt b j d)):=by
 intro k
 induction k with
 | zero =>
   intro j d hk _
   rw [shiftUp,if_neg (by omega)]
   exact ⟨rfl,fun h=>h⟩
 | succ k ih =>
   intro j d hk hb
   rw [shiftUp]
   split
   · split
     · exact ⟨rfl,fun h=>h⟩
     · have ih:=ih (j+1) (swp d j (j - 1)) (by omega) (by rw [zaD]; exact hb)
       rw [zaD] at ih
       exact ⟨ih.1,fun hP=>ih.2 (hP.swp (by omega) (by omega))⟩
   · exact ⟨rfl,fun h=>h⟩
theorem k_up (hc:Cmp lt P) (a0:List GRatio) (a b i c:Nat) (y:AV×Mem):∀ (k j:Nat) (d:Array GRatio),b≤j+k→1≤j→b≤d.size→d.size≤100000→a0.length=d.size→AllA P d →
  zat a0 (a:Int) (b:Int) (Er (shiftUp lt b j d)) (i:Int) (w64 ((c:Int)+1))=some y→zaE a0 (a:Int) (b:Int) (c:Int) (i:Int) (Er d) (j:Int)=some y:=by
 intro k
 induction k with
 | zero =>
   intro j d hk hj hb hs hn hP h
   rw [shiftUp,if_neg (by omega)] at h
   refine zdx _ _ _ _ _ _ _ ?_
   rw [zag,if_neg (by omega)]
   exact h
 | succ k ih =>
   intro j d hk hj hb hs hn hP h
   refine zdx _ _ _ _ _ _ _ ?_
   by_cases hjb:j < b
   · rw [shiftUp,if_pos hjb] at h
     rw [zag,if_pos (by omega),dn1 (by omega) (by omega),List.length_map,rdA hn (by omega),rdA hn (by omega),hc.stepN (hP _ (by omega)) (hP _ (by omega))]
     cases hl:lt d[j]! d[j - 1]! with
     | false =>
       rw [hl,Bool.not_false,if_pos rfl] at h
       rw [zax]
       exact h
     | true =>
       rw [hl,Bool.not_true,if_neg (by simp)] at h
       rw [zaC,rdA hn (by omega),rdA hn (by omega),rdA hn (by omega),rdS hn (by omega),swpE,up1 (by omega)]
       exact ih (j+1) (swp d j (j - 1)) (by omega) (by omega) (by rw [zaD]; exact hb) (by rw [zaD]; exact hs) (by rw [zaD]; exact hn) (hP.swp (by omega) (by omega)) h
   · rw [shiftUp,if_neg hjb] at h
     rw [zag,if_neg (by omega)]
     exact h
theorem k_down (hc:Cmp lt P) (a0:List GRatio) (a b i c:Nat) (y:AV×Mem):∀ (j:Nat) (d:Array GRatio),j < d.size→d.size≤100000→a0.length=d.size→AllA P d →
  (brn (decide (2≤w64 ((b:Int) - (i:Int)))) (zaE a0 (a:Int) (b:Int) (c:Int) (i:Int) (Er (shiftDown lt j d)) (w64 ((i:Int)+1)))
   (zat a0 (a:Int) (b:Int) (Er (shiftDown lt j d)) (i:Int) (w64 ((c:Int)+1))))=some y →
  zbo a0 (a:Int) (b:Int) (c:Int) (i:Int) (Er d) (j:Int)=some y:=by
 intro j
 induction j with
 | zero =>
   intro d _ hs hn hP h
   refine zds _ _ _ _ _ _ _ ?_
   rw [zag,if_neg (by omega)]
   exact h
 | succ j ih =>
   intro d hj hs hn hP h
   unfold shiftDown at h
   refine zds _ _ _ _ _ _ _ ?_
   rw [zag,if_pos (by omega),dn1 (by omega) (by omega),Nat.add_sub_cancel,List.length_map,rdA hn (by omega),rdA hn (by omega),hc.stepN (hP _ (by omega)) (hP _ (by omega))]
   cases hl:lt d[j+1]! d[j]! with
   | false =>
     rw [hl,Bool.not_false,if_pos rfl] at h
     rw [zax]
     exact h
   | true =>
     rw [hl,Bool.not_true,if_neg (by simp)] at h
     rw [zaC,rdA hn (by omega),rdA hn (by omega),rdA hn (by omega),rdS hn (by omega),swpE]
     exact ih (swp d (j+1) j) (by rw [zaD]; omega) (by rw [zaD]; exact hs) (by rw [zaD]; exact hn) (hP.swp hj (by omega)) h
theorem k_scan (hc:Cmp lt P) (a0:List GRatio) (a b c:Nat) (d:Array GRatio) (hb:b≤d.size) (hs:d.size≤100000) (hn:a0.length=d.size) (hP:AllA P d) (y:AV×Mem):∀ (k i:Nat),b≤i+k→1≤i →
  zaH a0 (a:Int) (b:Int) (Er d) (c:Int) ((scanSorted lt d b i:Nat):Int)=some y→zbh a0 (a:Int) (b:Int) (Er d) (c:Int) (i:Int)=some y:=by
 intro k
 induction k with
 | zero =>
   intro i hk hi h
   rw [scanSorted,if_neg (by simp; omega)] at h
   refine zdh _ _ _ _ _ _ ?_
   rw [zag,if_neg (by omega)]
   exact h
 | succ k ih =>
   intro i hk hi h
   refine zdh _ _ _ _ _ _ ?_
   by_cases hib:i < b
   · rw [zag,if_pos (by omega),dn1 (by omega) (by omega),List.length_map,rdA hn (by omega),rdA hn (by omega),hc.stepN (hP _ (by omega)) (hP _ (by omega))]
     cases hl:lt d[i]! d[i - 1]! with
     | false =>
       rw [scanSorted,if_pos (by rw [hl]; simp; omega)] at h
       rw [zax,up1 (by omega)]
       exact ih (i+1) (by omega) (by omega) h
     | true =>
       rw [scanSorted,if_neg (by rw [hl]; simp)] at h
       rw [zaC]
       exact h
   · rw [scanSorted,if_neg (by simp; omega)] at h
     rw [zag,if_neg (by omega)]
     exact h
theorem k_scan0 (hc:Cmp lt P) (a0:List GRatio) (a b c:Nat) (d:Array GRatio) (hb:b≤d.size) (hs:d.size≤100000) (hn:a0.length=d.size) (hP:AllA P d) (y:AV×Mem) (i:Nat) (hi:1≤i)
  (h:zaH a0 (a:Int) (b:Int) (Er d) (c:Int) ((scanSorted lt d b i:Nat):Int)=some y):zcj a0 (a:Int) (b:Int) (Er d) (i:Int) (c:Int)=some y:=by
 refine zgc _ _ _ _ _ _ ?_
 by_cases hib:i < b
 · rw [zag,if_pos (by omega),dn1 (by omega) (by omega),List.length_map,rdA hn (by omega),rdA hn (by omega),hc.stepN (hP _ (by omega)) (hP _ (by omega))]
   cases hl:lt d[i]! d[i - 1]! with
   | false =>
     rw [scanSorted,if_pos (by rw [hl]; simp; omega)] at h
     rw [zax,up1 (by omega)]
     exact k_scan hc a0 a b c d hb hs hn hP y b (i+1) (by omega) (by omega) h
   | true =>
     rw [scanSorted,if_neg (by rw [hl]; simp)] at h
     rw [zaC]
     exact h
 · rw [scanSorted,if_neg (by simp; omega)] at h
   rw [zag,if_neg (by omega)]
   exact h
theorem scan_le (d:Array GRatio) (b:Nat):∀ (k i:Nat),b≤i+k→i≤b→i≤scanSorted lt d b i∧scanSorted lt d b i≤b:=by
 intro k
 induction k with
 | zero =>
   intro i hk hi
   rw [scanSorted,if_neg (by simp; omega)]
   omega
 | succ k ih =>
   intro i hk hi
   rw [scanSorted]
   split
   · rename_i hc
     simp only [Bool.and_eq_true,decide_eq_true_eq] at hc
     have:=ih (i+1) (by omega) (by omega)
     omega
   · omega
theorem k_trial (hc:Cmp lt P) (a0:List GRatio) (a b:Nat):∀ (s i c:Nat) (d:Array GRatio),c+s=5→a < i→i≤b→b≤d.size→d.size≤100000→a0.length=d.size→AllA P d →
  zat a0 (a:Int) (b:Int) (Er d) (i:Int) (c:Int)=some (zaS.enc ((partialIns lt a b s i d).2,(partialIns lt a b s i d).1.toList)):=by
 intro s
 induction s with
 | zero =>
   intro i c d hcs ha hi hb hs hn hP
   refine zdA _ _ _ _ _ _ ?_
   rw [zag,if_neg (by omega)]
   rfl
 | succ s ih =>
   intro i c d hcs ha hi hb hs hn hP
   refine zdA _ _ _ _ _ _ ?_
   rw [zag,if_pos (by omega)]
   refine k_scan0 hc a0 a b c d hb hs hn hP _ i (by omega) ?_
   rw [partialIns_succ]
   obtain ⟨hk1,hk2⟩:=scan_le (lt:=lt) d b b i (by omega) hi
   generalize scanSorted lt d b i=k at hk1 hk2 ⊢
   refine zfH _ _ _ _ _ _ ?_
   by_cases hkb:k=b
   · rw [if_pos hkb,hkb,beq_self_eq_true,zaC]
     rfl
   · rw [if_neg hkb,beq_false_of_ne (by omega),zax,w64_id (n:=(b:Int) - (a:Int)) (by omega) (by omega)]
     by_cases h50:b - a < 50
     · rw [if_pos h50,zag,if_pos (by omega)]
       rfl
     · have hkl:k < b:=by omega
       rw [if_neg h50,zag,if_neg (by omega),dn1 (by omega) (by omega),List.length_map,rdA hn (by omega),rdA hn (by omega),rdA hn (by omega),rdS hn (by omega),swpE,w64_id (n:=(k:Int) - (a:Int)) (by omega) (by omega)]
       have hP1:=hP.swp (show k < d.size by omega) (show k - 1 < d.size by omega)
       have z1:(swp d k (k - 1)).size=d.size:=zaD _ _ _
       generalize swp d k (k - 1)=d1 at hP1 z1 ⊢
       have hx:(fixDown lt a k d1).size=d1.size∧AllA P (fixDown lt a k d1):=by
        unfold fixDown
        split
        · have:=zqP (lt:=lt) (P:=P) (k - 1) d1 (by omega)
          exact ⟨this.1,this.2 hP1⟩
        · exact ⟨rfl,hP1⟩
       have hy:(fixUp lt b k (fixDown lt a k d1)).size=d1.size∧AllA P (fixUp lt b k (fixDown lt a k d1)):=by
        unfold fixUp
        split
        · have:=shiftUp_ok (lt:=lt) (P:=P) b b (k+1) (fixDown lt a k d1) (by omega) (by omega)
          exact ⟨by rw [this.1]; exact hx.1,this.2 hx.2⟩
        · exact hx
       have fin:=ih k (c+1) (fixUp lt b k (fixDown lt a k d1)) (by omega) (by omega) (by omega) (by omega) (by omega) (by omega) hy.2
       have tail:(brn (decide (2≤w64 ((b:Int) - (k:Int)))) (zaE a0 (a:Int) (b:Int) (c:Int) (k:Int) (Er (fixDown lt a k d1)) (w64 ((k:Int)+1)))
         (zat a0 (a:Int) (b:Int) (Er (fixDown lt a k d1)) (k:Int) (w64 ((c:Int)+1))))=some (zaS.enc ((partialIns lt a b s k (fixUp lt b k (fixDown lt a k d1))).2,(partialIns lt a b s k (fixUp lt b k (fixDown lt a k d1))).1.toList)):=by
        rw [← up1 (i:=c) (by omega)] at fin
        rw [w64_id (n:=(b:Int) - (k:Int)) (by omega) (by omega)]
        by_cases h2:b - k ≥ 2
        · rw [zag,if_pos (by omega),up1 (i:=k) (by omega)]
          refine k_up hc a0 a b k c _ b (k+1) (fixDown lt a k d1) (by omega) (by omega) (by omega) (by omega) (by omega) hx.2 ?_
          unfold fixUp at fin ⊢
          rw [if_pos h2] at fin ⊢
          exact fin
        · rw [zag,if_neg (by omega)]
          unfold fixUp at fin ⊢
          rw [if_neg h2] at fin ⊢
          exact fin
       by_cases h2:k - a ≥ 2
       · rw [zag,if_pos (by omega)]
         refine k_down hc a0 a b k c _ (k - 1) d1 (by omega) (by omega) (by omega) hP1 ?_
         unfold fixDown at tail ⊢
         rw [if_pos h2] at tail ⊢
         exact tail
       · rw [zag,if_neg (by omega)]
         unfold fixDown at tail ⊢
         rw [if_neg h2] at tail ⊢
         exact tail
theorem c_trial (hc:Cmp lt P) (hW:SWO lt) (d:Array GRatio) (a b:Nat) (hP:AllA P d) (hab:a < b) (hb:b≤d.size) (hs:d.size < 100) (hB:Below lt a b d) :
  ∃ (f:Bool) (d':Array GRatio),cw zbt [rA d,I (a:Int),I (b:Int),.fn zad []] (mA d)=some (zaS.enc (f,d'.toList))∧PermIn a b d d'∧(f=true→SortedIn lt a b d'):=by
 have hsp:=partialInsertionSort_holds hW d a b hab hb hB
 refine ⟨_,_,zgy d.toList _ _ ?_,hsp.1,hsp.2⟩
 rw [up1 (by omega)]
 exact k_trial hc d.toList a b 5 (a+1) 0 d (by omega) (by omega) (by omega) hb (by omega) (by simp) hP
end
end Go.Proofs.YtbhkcgaanaelfaaGreat
namespace Go.Proofs.YtbhkcgaanaelfaaGreat
open Go.Ab Go.Sort
set_option linter.unusedVariables false
section
variable {lt:GRatio→GRatio→Bool} {P:GRatio→Prop}
def PdqOk (lt:GRatio→GRatio→Bool) (P:GRatio→Prop) (n:Nat):Prop:=∀ (a b:Nat) (d:Array GRatio) (a0:List GRatio) (lim:Nat) (wb wp:Bool),b - a < n→a≤b→b≤d.size→d.size < 100→a0.length=d.size→AllA P d→Below lt a b d→lim≤100 →
 ∃ d',za3 a0 (Er d) (a:Int) (b:Int) (lim:Int) wb wp=some (zaA.enc d'.toList)∧PermIn a b d d'∧SortedIn lt a b d'
theorem c_pdq {n:Nat} (h:PdqOk lt P n) (a b:Nat) (d:Array GRatio) (lim:Nat) (h1:b - a < n) (h2:a≤b) (h3:b≤d.size) (h4:d.size < 100) (hP:AllA P d) (hB:Below lt a b d) (hl:lim≤100) :
  ∃ d',cw zca [rA d,I (a:Int),I (b:Int),I (lim:Int),.fn zad []] (mA d)=some (zaA.enc d'.toList)∧PermIn a b d d'∧SortedIn lt a b d':=by
 obtain ⟨d',g1,g2⟩:=h a b d d.toList lim true true h1 h2 h3 h4 (by simp) hP hB hl
 exact ⟨d',zkg d.toList _ _ _ g1,g2⟩
set_option maxHeartbeats 1000000 in
theorem k_1020 (hc:Cmp lt P) (hW:SWO lt) (a0:List GRatio) (a b m lim:Nat) (d:Array GRatio) (wb wp:Bool) (hI:PdqOk lt P (b - a)) (hab:a+1 < b) (hb:b≤d.size) (hs:d.size < 100) (hn:a0.length=d.size) (hP:AllA P d) (hB:Below lt a b d) (hm:a≤m) (hm2:m < b) (hl:lim≤100) :
  ∃ d',za8 a0 (a:Int) (b:Int) wb wp (Er d) (lim:Int) (m:Int)=some (zaA.enc d'.toList)∧PermIn a b d d'∧SortedIn lt a b d':=by
 obtain ⟨flag,hp⟩:=zy0 hc d a b m hP hm hm2 hb (by omega) hab
 have hperm:PermIn a b d (partition lt d a b m).2.2:=(partition_holds lt hW d a b m hm hm2 hb).2.2.1
 generalize hx:partition lt d a b m=r at hp hperm
 obtain ⟨mid,ap,d4⟩:=r
 obtain ⟨q1,q2,q3,q4,q5,q6,q7⟩:=round_part hW (partition_holds lt) hm hm2 hb hB hx
 dsimp only at hp hperm
 have hP4:AllA P d4:=hP.perm (by omega) hb hperm
 have e1:w64 ((mid:Int) - (a:Int))=((mid - a:Nat):Int):=by rw [w64_id (by omega) (by omega)]; omega
 have e2:w64 ((b:Int) - (mid:Int))=((b - mid:Nat):Int):=by rw [w64_id (by omega) (by omega)]; omega
 by_cases hlt:mid - a < b - mid
 · obtain ⟨L,g1,g2,g3⟩:=c_pdq hI a mid d4 lim (by omega) q1 (by omega) (by omega) hP4 q4 hl
   obtain ⟨hBL,hR⟩:=q6 L g2 g3
   have hLs:L.size=d4.size:=g2.1
   obtain ⟨R,r1,r2,r3⟩:=hI (mid+1) b L a0 lim (decide (w64 ((w64 ((b:Int) - (a:Int))).tdiv 8)≤w64 ((mid:Int) - (a:Int)))) flag (by omega) (by omega) (by omega) (by omega) (by omega) (hP4.perm q1 (by omega) g2) hBL hl
   obtain ⟨z1,z2⟩:=hR R r2 r3
   refine ⟨R,zeW _ _ _ _ _ _ _ _ ?_,z1,z2⟩
   rw [row_eq hn,zau hp,zaf (by omega)]
   dsimp only
   rw [show rA d=rA d4 from by rw [rA,rA,lenE,lenE,q3],zag,if_pos (by rw [e1,e2]; omega),zau g1,up1 (by omega)]
   exact r1
 · obtain ⟨L,g1,g2,g3⟩:=c_pdq hI (mid+1) b d4 lim (by omega) (by omega) (by omega) (by omega) hP4 q5 hl
   obtain ⟨hBL,hR⟩:=q7 L g2 g3
   have hLs:L.size=d4.size:=g2.1
   obtain ⟨R,r1,r2,r3⟩:=hI a mid L a0 lim (decide (w64 ((w64 ((b:Int) - (a:Int))).tdiv 8)≤w64 ((b:Int) - (mid:Int)))) flag (by omega) (by omega) (by omega) (by omega) (by omega) (hP4.perm (by omega) (by omega) g2) hBL hl
   obtain ⟨z1,z2⟩:=hR R r2 r3
   refine ⟨R,zeW _ _ _ _ _ _ _ _ ?_,z1,z2⟩
   rw [row_eq hn,zau hp,zaf (by omega)]
   dsimp only
   rw [show rA d=rA d4 from by rw [rA,rA,lenE,lenE,q3],zag,if_neg (by rw [e1,e2]; omega),up1 (by omega),zau g1]
   exact r1
theorem k_1017 (hc:Cmp lt P) (hW:SWO lt) (a0:List GRatio) (a b m lim:Nat) (d:Array GRatio) (wb wp:Bool) (hI:PdqOk lt P (b - a)) (hab:a+1 < b) (hb:b≤d.size) (hs:d.size < 100) (hn:a0.length=d.size) (hP:AllA P d) (hB:Below lt a b d) (hm:a≤m) (hm2:m < b) (hl:lim≤100) :
  ∃ d',zcq a0 (a:Int) (b:Int) wb wp (Er d) (lim:Int) (m:Int)=some (zaA.enc d'.toList)∧PermIn a b d d'∧SortedIn lt a b d':=by
 by_cases ha:0 < a
 · cases hlt:lt d[a - 1]! d[m]! with
   | false =>
     have hp:=znB hc d a b m hP hm hm2 hb (by omega)
     generalize hx:partitionEqual lt d a b m=r at hp
     obtain ⟨mid,d4⟩:=r
     obtain ⟨q1,q2,q3,q4,q5⟩:=round_eq hW (partitionEqual_holds lt) ha hm hm2 hb hB hlt hx
     have hge:∀ i,a≤i→i < b→lt d[i]! d[m]! = false:=fun i hi hi'=>by
      rcases hB with h0 | hB
      · omega
      · exact hW.ntrans _ _ _ (hB i hi hi') hlt
     have hperm:PermIn a b d (partitionEqual lt d a b m).2:=(partitionEqual_holds lt hW d a b m hm hm2 hb hge).2.2.1
     rw [hx] at hperm
     dsimp only at hp hperm
     obtain ⟨R,r1,r2,r3⟩:=hI mid b d4 a0 lim wb wp (by omega) q2 (by omega) (by omega) (by omega) (hP.perm (by omega) hb hperm) q4 hl
     obtain ⟨z1,z2⟩:=q5 R r2 r3
     refine ⟨R,zdc _ _ _ _ _ _ _ _ ?_,z1,z2⟩
     rw [row_eq hn,List.length_map,zag,if_pos (by omega),dn1 (by omega) (by omega),rdA hn (by omega),rdA hn (by omega),hc.stepN (hP _ (by omega)) (hP _ (by omega)),hlt,zax,zau hp]
     exact r1
   | true =>
     obtain ⟨R,r1,r2⟩:=k_1020 hc hW a0 a b m lim d wb wp hI hab hb hs hn hP hB hm hm2 hl
     refine ⟨R,zdc _ _ _ _ _ _ _ _ ?_,r2⟩
     rw [row_eq hn,List.length_map,zag,if_pos (by omega),dn1 (by omega) (by omega),rdA hn (by omega),rdA hn (by omega),hc.stepN (hP _ (by omega)) (hP _ (by omega)),hlt,zaC]
     exact r1
 · obtain ⟨R,r1,r2⟩:=k_1020 hc hW a0 a b m lim d wb wp hI hab hb hs hn hP hB hm hm2 hl
   refine ⟨R,zdc _ _ _ _ _ _ _ _ ?_,r2⟩
   rw [zag,if_neg (by omega)]
   exact r1
theorem k_1017v1 (hc:Cmp lt P) (hW:SWO lt) (a0:List GRatio) (a b m lim:Nat) (d:Array GRatio) (wb wp:Bool) (hI:PdqOk lt P (b - a)) (hab:a+1 < b) (hb:b≤d.size) (hs:d.size < 100) (hn:a0.length=d.size) (hP:AllA P d) (hB:Below lt a b d) (hm:a≤m) (hm2:m < b) (hl:lim≤100) :
  ∃ d',zaO a0 (a:Int) (b:Int) wb wp (Er d) (lim:Int) (m:Int)=some (zaA.enc d'.toList)∧PermIn a b d d'∧SortedIn lt a b d':=by
 by_cases ha:0 < a
 · cases hlt:lt d[a - 1]! d[m]! with
   | false =>
     have hp:=znB hc d a b m hP hm hm2 hb (by omega)
     generalize hx:partitionEqual lt d a b m=r at hp
     obtain ⟨mid,d4⟩:=r
     obtain ⟨q1,q2,q3,q4,q5⟩:=round_eq hW (partitionEqual_holds lt) ha hm hm2 hb hB hlt hx
     have hge:∀ i,a≤i→i < b→lt d[i]! d[m]! = false:=fun i hi hi'=>by
      rcases hB with h0 | hB
      · omega
      · exact hW.ntrans _ _ _ (hB i hi hi') hlt
     have hperm:PermIn a b d (partitionEqual lt d a b m).2:=(partitionEqual_holds lt hW d a b m hm hm2 hb hge).2.2.1
     rw [hx] at hperm
     dsimp only at hp hperm
     obtain ⟨R,r1,r2,r3⟩:=hI mid b d4 a0 lim wb wp (by omega) q2 (by omega) (by omega) (by omega) (hP.perm (by omega) hb hperm) q4 hl
     obtain ⟨z1,z2⟩:=q5 R r2 r3
     refine ⟨R,zcZ _ _ _ _ _ _ _ _ ?_,z1,z2⟩
     rw [row_eq hn,List.length_map,zag,if_pos (by omega),dn1 (by omega) (by omega),rdA hn (by omega),rdA hn (by omega),hc.stepN (hP _ (by omega)) (hP _ (by omega)),hlt,zax,zau hp]
     exact r1
   | true =>
     obtain ⟨R,r1,r2⟩:=k_1020 hc hW a0 a b m lim d wb wp hI hab hb hs hn hP hB hm hm2 hl
     refine ⟨R,zcZ _ _ _ _ _ _ _ _ ?_,r2⟩
     rw [row_eq hn,List.length_map,zag,if_pos (by omega),dn1 (by omega) (by omega),rdA hn (by omega),rdA hn (by omega),hc.stepN (hP _ (by omega)) (hP _ (by omega)),hlt,zaC]
     exact r1
 · obtain ⟨R,r1,r2⟩:=k_1020 hc hW a0 a b m lim d wb wp hI hab hb hs hn hP hB hm hm2 hl
   refine ⟨R,zcZ _ _ _ _ _ _ _ _ ?_,r2⟩
   rw [zag,if_neg (by omega)]
   exact r1
theorem k_1015 (hc:Cmp lt P) (hW:SWO lt) (a0:List GRatio) (a b m lim:Nat) (d:Array GRatio) (wb wp:Bool) (hI:PdqOk lt P (b - a)) (hab:a+1 < b) (hb:b≤d.size) (hs:d.size < 100) (hn:a0.length=d.size) (hP:AllA P d) (hB:Below lt a b d) (hm:a≤m) (hm2:m < b) (hl:lim≤100) :
  ∃ d',za9 a0 (a:Int) (b:Int) wb wp (Er d) (lim:Int) (m:Int)=some (zaA.enc d'.toList)∧PermIn a b d d'∧SortedIn lt a b d':=by
 obtain ⟨R',r1',r2'⟩:=k_1017v1 hc hW a0 a b m lim d wb wp hI hab hb hs hn hP hB hm hm2 hl
 obtain ⟨f,d2,hf,hp2,hfs⟩:=c_trial hc hW d a b hP (by omega) hb hs hB
 have hs2:d2.size=d.size:=hp2.1
 obtain ⟨R,r1,r2⟩:=k_1017 hc hW a0 a b m lim d2 wb wp hI hab (by omega) (by omega) (by omega) (hP.perm (by omega) hb hp2) (hB.perm hb hp2) hm hm2 hl
 have hU:=fun y=>ziM a0 (a:Int) (b:Int) wb wp (Er d) (lim:Int) (m:Int) (y:=y)
 rw [row_eq hn,zau hf,r1'] at hU
 dsimp only at hU
 rw [r1] at hU
 cases wb with
 | false=>exact ⟨R',hU _ rfl,r2'⟩
 | true =>
   cases wp with
   | false=>exact ⟨R',hU _ rfl,r2'⟩
   | true =>
     rw [zaC,zaC] at hU
     cases hh:((1:Nat) == 1) with
     | false =>
       rw [hh,zax] at hU
       exact ⟨R',hU _ rfl,r2'⟩
     | true =>
       rw [hh,zaC] at hU
       cases f with
       | false=>exact ⟨R,hU _ rfl,permIn_trans _ _ _ _ _ hp2 r2.1,r2.2⟩
       | true=>exact ⟨d2,hU _ rfl,hp2,hfs rfl⟩
theorem k_1015v1 (hc:Cmp lt P) (hW:SWO lt) (a0:List GRatio) (a b m lim:Nat) (d:Array GRatio) (wb wp:Bool) (h:Int) (hI:PdqOk lt P (b - a)) (hab:a+1 < b) (hb:b≤d.size) (hs:d.size < 100) (hn:a0.length=d.size) (hP:AllA P d) (hB:Below lt a b d) (hm:a≤m) (hm2:m < b) (hl:lim≤100) :
  ∃ d',zb7 a0 (a:Int) (b:Int) wb wp (Er d) (lim:Int) (m:Int) h=some (zaA.enc d'.toList)∧PermIn a b d d'∧SortedIn lt a b d':=by
 obtain ⟨R',r1',r2'⟩:=k_1017v1 hc hW a0 a b m lim d wb wp hI hab hb hs hn hP hB hm hm2 hl
 obtain ⟨f,d2,hf,hp2,hfs⟩:=c_trial hc hW d a b hP (by omega) hb hs hB
 have hs2:d2.size=d.size:=hp2.1
 obtain ⟨R,r1,r2⟩:=k_1017 hc hW a0 a b m lim d2 wb wp hI hab (by omega) (by omega) (by omega) (hP.perm (by omega) hb hp2) (hB.perm hb hp2) hm hm2 hl
 have hU:=fun y=>zhO a0 (a:Int) (b:Int) wb wp (Er d) (lim:Int) (m:Int) h (y:=y)
 rw [row_eq hn,zau hf,r1'] at hU
 dsimp only at hU
 rw [r1] at hU
 cases wb with
 | false=>exact ⟨R',hU _ rfl,r2'⟩
 | true =>
   cases wp with
   | false=>exact ⟨R',hU _ rfl,r2'⟩
   | true =>
     rw [zaC,zaC] at hU
     cases hh:(h == 1) with
     | false =>
       rw [hh,zax] at hU
       exact ⟨R',hU _ rfl,r2'⟩
     | true =>
       rw [hh,zaC] at hU
       cases f with
       | false=>exact ⟨R,hU _ rfl,permIn_trans _ _ _ _ _ hp2 r2.1,r2.2⟩
       | true=>exact ⟨d2,hU _ rfl,hp2,hfs rfl⟩
theorem ks_1010 (hc:Cmp lt P) (hW:SWO lt) (a0:List GRatio) (a b lim:Nat) (d:Array GRatio) (wb wp:Bool) (hI:PdqOk lt P (b - a)) (hab:a+1 < b) (hb:b≤d.size) (hs:d.size < 100) (hn:a0.length=d.size) (hP:AllA P d) (hB:Below lt a b d) (hl:lim≤100) (hl1:1≤lim) :
  ∃ d',zdd a0 (a:Int) (b:Int) (lim:Int) wb wp d.toList=some (zaA.enc d'.toList)∧PermIn a b d d'∧SortedIn lt a b d':=by
 obtain ⟨m,h,hp,hm,hm2,hh⟩:=zp7 hc d hP a b (by omega) hb (by omega)
 have hU:=fun y=>ziG a0 (a:Int) (b:Int) (lim:Int) wb wp d.toList (y:=y)
 have ht:List.take ((List.map zaa a0).length) (List.map zaa d.toList)=Er d:=List.take_of_length_le (by simp [hn])
 rw [zaf (by simp [hn]),ht,zau hp,row_eq hn] at hU
 dsimp only at hU
 by_cases h2:h=2
 · have hr:=zvs d a b (by omega) hb (by omega)
   have hrp:=reverseRange_holds d a b (by omega) hb
   have e:w64 (w64 ((b:Int) - 1) - w64 ((m:Int) - (a:Int)))=((b - 1 - (m - a):Nat):Int):=by
    rw [w64_id (n:=(b:Int) - 1) (by omega) (by omega),w64_id (n:=(m:Int) - a) (by omega) (by omega),w64_id (by omega) (by omega)]; omega
   obtain ⟨R,r1,r2,r3⟩:=k_1015 hc hW a0 a b (b - 1 - (m - a)) (lim - 1) (reverseRange d a b) wb wp hI hab (by rw [hrp.1]; exact hb) (by rw [hrp.1]; exact hs) (by rw [hrp.1]; exact hn) (hP.perm (by omega) hb hrp) (hB.perm hb hrp) (by omega) (by omega) (by omega)
   rw [h2,zau hr,e] at hU
   refine ⟨R,hU _ ?_,permIn_trans _ _ _ _ _ hrp r2,r3⟩
   show za9 a0 (a:Int) (b:Int) wb wp (Er (reverseRange d a b)) _ _=_
   rw [dn1 hl1 (by omega)]
   exact r1
 · obtain ⟨R,r1,r2⟩:=k_1015v1 hc hW a0 a b m (lim - 1) d wb wp h hI hab hb hs hn hP hB hm hm2 (by omega)
   rw [beq_false_of_ne h2,zax] at hU
   refine ⟨R,hU _ ?_,r2⟩
   rw [dn1 hl1 (by omega)]
   exact r1
theorem k_1010v1 (hc:Cmp lt P) (hW:SWO lt) (a0:List GRatio) (a b lim:Nat) (d:Array GRatio) (wb wp:Bool) (hI:PdqOk lt P (b - a)) (hab:a+1 < b) (hb:b≤d.size) (hs:d.size < 100) (hn:a0.length=d.size) (hP:AllA P d) (hB:Below lt a b d) (hl:lim≤100) :
  ∃ d',zc0 a0 (Er d) (a:Int) (b:Int) (lim:Int) wb wp=some (zaA.enc d'.toList)∧PermIn a b d d'∧SortedIn lt a b d':=by
 obtain ⟨m,h,hp,hm,hm2,hh⟩:=zp7 hc d hP a b (by omega) hb (by omega)
 have hU:=fun y=>zhU a0 (Er d) (a:Int) (b:Int) (lim:Int) wb wp (y:=y)
 have ht:List.take ((List.map zaa a0).length) (List.map zaa d.toList)=Er d:=List.take_of_length_le (by simp [hn])
 rw [zaf (by simp [hn]),ht,zau hp,row_eq hn] at hU
 dsimp only at hU
 by_cases h2:h=2
 · have hr:=zvs d a b (by omega) hb (by omega)
   have hrp:=reverseRange_holds d a b (by omega) hb
   have e:w64 (w64 ((b:Int) - 1) - w64 ((m:Int) - (a:Int)))=((b - 1 - (m - a):Nat):Int):=by
    rw [w64_id (n:=(b:Int) - 1) (by omega) (by omega),w64_id (n:=(m:Int) - a) (by omega) (by omega),w64_id (by omega) (by omega)]; omega
   obtain ⟨R,r1,r2,r3⟩:=k_1015 hc hW a0 a b (b - 1 - (m - a)) (lim) (reverseRange d a b) wb wp hI hab (by rw [hrp.1]; exact hb) (by rw [hrp.1]; exact hs) (by rw [hrp.1]; exact hn) (hP.perm (by omega) hb hrp) (hB.perm hb hrp) (by omega) (by omega) (by omega)
   rw [h2,zau hr,e] at hU
   refine ⟨R,hU _ ?_,permIn_trans _ _ _ _ _ hrp r2,r3⟩
   show za9 a0 (a:Int) (b:Int) wb wp (Er (reverseRange d a b)) _ _=_
   exact r1
 · obtain ⟨R,r1,r2⟩:=k_1015v1 hc hW a0 a b m (lim) d wb wp h hI hab hb hs hn hP hB hm hm2 (by omega)
   rw [beq_false_of_ne h2,zax] at hU
   refine ⟨R,hU _ ?_,r2⟩
   exact r1
theorem k_pdq (hc:Cmp lt P) (hW:SWO lt):∀ n,PdqOk lt P n:=by
 intro n
 induction n with
 | zero=>intro a b d a0 lim wb wp h; omega
 | succ n ih =>
   intro a b d a0 lim wb wp h hab hb hs hn hP hB hl
   have hI:PdqOk lt P (b - a):=fun a' b' d' a0' lim' wb' wp' h'=>ih a' b' d' a0' lim' wb' wp' (by omega)
   have e0:w64 ((b:Int) - (a:Int))=((b - a:Nat):Int):=by rw [w64_id (by omega) (by omega)]; omega
   by_cases h12:b - a≤12
   · have hi:=insertionSort_holds hW d a b hab hb
     refine ⟨insertionSort lt d a b,zcJ _ _ _ _ _ _ _ ?_,hi.1,hi.2⟩
     rw [e0,zag,if_pos (by omega),row_eq hn,zau (zyS hc d a b hP hab hb (by omega))]
     rfl
   · by_cases h0:lim=0
     · have hi:=heapSort_holds hW d a b hab hb
       refine ⟨heapSort lt d a b,zcJ _ _ _ _ _ _ _ ?_,hi.1,hi.2⟩
       rw [e0,zag,if_neg (by omega),h0,row_eq hn,zau (c_heap hc d a b hP (by omega) hb (by omega))]
       rfl
     · cases wb with
       | false =>
         obtain ⟨d1,g1,g2⟩:=c_break d a b hab hb hs
         have hs1:d1.size=d.size:=g2.1
         obtain ⟨R,r1,r2,r3⟩:=ks_1010 hc hW a0 a b lim d1 false wp hI (by omega) (by omega) (by omega) (by omega) (hP.perm hab hb g2) (hB.perm hb g2) hl (by omega)
         refine ⟨R,zcJ _ _ _ _ _ _ _ ?_,permIn_trans _ _ _ _ _ g2 r2,r3⟩
         rw [e0,zag,if_neg (by omega),beq_false_of_ne (by omega),zax,Bool.not_false,zaC,row_eq hn,zau g1]
         exact r1
       | true =>
         obtain ⟨R,r1,r2,r3⟩:=k_1010v1 hc hW a0 a b lim d true wp hI (by omega) (by omega) (by omega) (by omega) hP hB hl
         refine ⟨R,zcJ _ _ _ _ _ _ _ ?_,r2,r3⟩
         rw [e0,zag,if_neg (by omega),beq_false_of_ne (by omega),zax,Bool.not_true,zax]
         exact r1
theorem c_SortFunc (hc:Cmp lt P) (hW:SWO lt) (l:List GRatio) (hP:∀ x∈l,P x) (hs:l.length < 100) :
  ∃ l':List GRatio,cw zbz [.row 1000 2 0 (List.map zaa l).length,.fn zad []] [(1000,⟨2,zac,List.map zaa l,false⟩)]=some (zbd.enc l')∧l'.Perm l∧l'.Pairwise (fun x y=>lt y x=false):=by
 have hPA:AllA P l.toArray:=by
  intro i hi
  have:l.toArray[i]! = l[i]'(by simpa using hi):=by
   rw [getElem!_pos l.toArray i hi]; simp
  rw [this]
  exact hP _ (List.getElem_mem _)
 have hsz:l.toArray.size=l.length:=by simp
 obtain ⟨d',g1,g2,g3⟩:=c_pdq (k_pdq hc hW 100) 0 l.length l.toArray (bitsLen l.length) (by omega) (by omega) (by omega) (by omega) hPA (Or.inl rfl) (by have:=zsA hs; omega)
 refine ⟨d'.toList,zi2 l ?_,?_,?_⟩
 · rw [List.length_map,zc9 (by omega) (by omega),zau (c_Len l.length hs)]
   have hr:rA l.toArray=AV.row 1000 2 0 l.length:=by simp [rA]
   rw [hr] at g1
   rw [show ((0:Nat):Int)=0 from rfl] at g1
   rw [zau g1]
   rfl
 · have h:=g2.2.2
   have e1:d'.extract 0 l.length=d':=by
    have:d'.size=l.length:=by rw [g2.1]; simp
    rw [← this]; simp
   have e2:l.toArray.extract 0 l.length=l.toArray:=by simp
   rw [e1,e2] at h
   simpa using h
 · have hd:d'.size=l.length:=by rw [g2.1]; simp
   rw [List.pairwise_iff_getElem]
   intro i j hi hj hij
   have hi':i < d'.size:=by simpa using hi
   have hj':j < d'.size:=by simpa using hj
   have:=g3 i j (by omega) hij (by omega)
   rw [getElem!_pos d' i hi',getElem!_pos d' j hj'] at this
   simpa using this
end
end Go.Proofs.YtbhkcgaanaelfaaGreat
namespace Go.Proofs.YtbhkcgaanaelfaaGreat
open Go.Ab Go.Sort
set_option linter.unusedVariables false
deriving instance DecidableEq for GRatio
def dq (l:List GRatio):Nat→List GRatio
 | 0=>[]
 | q+1=>dq l q++(if q≠0∧l[q]! = l[q - 1]! then [] else [l[q]!])
theorem eqG (x y:GRatio):(x.Num == y.Num && (x.Den == y.Den && true))=decide (x=y):=by
 cases x; cases y
 rw [Bool.eq_iff_iff]
 simp
theorem getL {l:List GRatio} {i:Nat} (h:i < l.length):l[i]?=some l[i]!:=by
 rw [getElem!_pos l i h,List.getElem?_eq_getElem h]
theorem rdL2 {β:Type} {l:List GRatio} {i:Nat} (hi:i < l.length) (K:GRatio→Option β):elemD zab (List.map zaa l) i K=K l[i]!:=
 zgG (D:=zab) (getL hi) K
noncomputable abbrev rCp (n:Nat) (l:List GRatio):AV×Mem:=zbL.enc (n,l)
theorem k_compact2 (l:List GRatio) (i:Nat) (hl:l.length≤100000) (hi:1≤i):∀ (k q:Nat) (e:List GRatio) (p:Nat),q+k=l.length→i < q→p < q→e.length=l.length→p=(dq l q).length→e.take p=dq l q→(∀ j,p≤j→e[j]! = l[j]!) →
  ∃ l',zbv l (i:Int) (List.map zaa e) (p:Int) ((q - i:Nat):Int)=some (rCp (dq l l.length).length l')∧l'.take (dq l l.length).length=dq l l.length∧l'.length=l.length:=by
 intro k
 induction k with
 | zero =>
   intro q e p hk hiq hpq he hp ht hrest
   have hq:q=l.length:=by omega
   subst hq
   refine ⟨e.take p++List.replicate (l.length - p) ⟨0,0⟩++e.drop (p+(l.length - p)),zde _ _ _ _ _ ?_,?_,?_⟩
   · simp only [List.length_map,Int.toNat_natCast]
     rw [zag,if_neg (by omega),zaf (by omega),zaf (by omega),zaf (by omega),zaf (by omega),zaf (by omega),zaf (by omega),zaf (by omega)]
     rw [← hp]
     simp only [Nat.zero_add,Nat.sub_zero,← List.map_take,← List.map_drop]
     show some (AV.row 1000 2 0 p,_)=some (AV.row 1000 2 0 p,_)
     congr 4
     simp only [List.map_append,List.map_replicate]
   · rw [← hp,List.append_assoc,List.take_append_of_le_length (by simp; omega),List.take_take,Nat.min_self,ht]
   · simp; omega
 | succ k ih =>
   intro q e p hk hiq hpq he hp ht hrest
   have e1:w64 (((q - i:Nat):Int) - 1)=((q - i - 1:Nat):Int):=by rw [w64_id (by omega) (by omega)]; omega
   have e2:w64 (((q - i:Nat):Int)+1)=((q+1 - i:Nat):Int):=by rw [w64_id (by omega) (by omega)]; omega
   have eq1:e[q]! = l[q]!:=hrest q (by omega)
   have eq2:e[q - 1]! = l[q - 1]!:=hrest (q - 1) (by omega)
   by_cases hd:l[q]! = l[q - 1]!
   · have hdq:dq l (q+1)=dq l q:=by simp only [dq]; rw [if_pos ⟨by omega,hd⟩,List.append_nil]
     obtain ⟨l',h1,h2⟩:=ih (q+1) e p (by omega) (by omega) (by omega) he (by rw [hdq]; exact hp) (by rw [hdq]; exact ht) hrest
     refine ⟨l',zde _ _ _ _ _ ?_,h2⟩
     simp only [List.length_map,Int.toNat_natCast,e1,e2]
     rw [zag,if_pos (by omega),zaf (by omega),zaf (by omega),rdL2 (by omega),zaf (by omega),zaf (by omega),rdL2 (by omega),zo3,eqG]
     have a1:0+i+(q - i)=q:=by omega
     have a2:0+i+(q - i - 1)=q - 1:=by omega
     rw [a1,a2,eq1,eq2,hd,decide_eq_true rfl,zaC]
     exact h1
   · have hdq:dq l (q+1)=dq l q++[l[q]!]:=by simp only [dq]; rw [if_neg (fun h=>hd h.2)]
     obtain ⟨l',h1,h2⟩:=ih (q+1) (e.set p l[q]!) (p+1) (by omega) (by omega) (by omega) (by simp [he]) (by rw [hdq,List.length_append,← hp]; rfl) (by
       rw [hdq,List.take_add_one,List.take_set_of_le (Nat.le_refl _),ht,List.getElem?_set_self (by omega)]
       rfl) (fun j hj=>by
       rw [List.getElem!_eq_getElem?_getD,List.getElem?_set_ne (by omega),← List.getElem!_eq_getElem?_getD]
       exact hrest j (by omega))
     refine ⟨l',zde _ _ _ _ _ ?_,h2⟩
     simp only [List.length_map,Int.toNat_natCast,e1,e2]
     rw [zag,if_pos (by omega),zaf (by omega),zaf (by omega),rdL2 (by omega),zaf (by omega),zaf (by omega),rdL2 (by omega),zo3,eqG]
     have a1:0+i+(q - i)=q:=by omega
     have a2:0+i+(q - i - 1)=q - 1:=by omega
     rw [a1,a2,eq1,eq2,decide_eq_false hd,zax,zaf (by omega),zaf (by omega),rdL2 (by omega),zaf (by omega),zaf (by omega),rdL2 (by omega),up1 (by omega),eq1,Nat.zero_add,← List.map_set]
     exact h1
theorem k_compact1 (l:List GRatio) (hl:l.length≤100000):∀ (k i:Nat),i+k=l.length→1≤i→dq l i=l.take i →
  ∃ l',zcs l (i:Int)=some (rCp (dq l l.length).length l')∧l'.take (dq l l.length).length=dq l l.length∧l'.length=l.length:=by
 intro k
 induction k with
 | zero =>
   intro i hk hi hd
   have hq:i=l.length:=by omega
   subst hq
   have hlen:(dq l l.length).length=l.length:=by rw [hd]; simp
   refine ⟨l,zdg _ _ ?_,by rw [hlen,hd],rfl⟩
   rw [List.length_map,zag,if_neg (by omega),hlen]
   rfl
 | succ k ih =>
   intro i hk hi hd
   have e1:=dn1 hi (show i≤1000000 by omega)
   have htk:l.take (i+1)=l.take i++[l[i]!]:=by rw [List.take_add_one,getL (by omega)]; rfl
   by_cases hdd:l[i]! = l[i - 1]!
   · have hdq:dq l (i+1)=dq l i:=by simp only [dq]; rw [if_pos ⟨by omega,hdd⟩,List.append_nil]
     obtain ⟨l',h1,h2⟩:=k_compact2 l i hl hi k (i+1) l i (by omega) (by omega) (by omega) rfl (by rw [hdq,hd]; simp; omega) (by rw [hdq,hd]) (fun _ _=>rfl)
     refine ⟨l',zdg _ _ ?_,h2⟩
     simp only [List.length_map,Int.toNat_natCast,e1]
     rw [zag,if_pos (by omega),zaf (by omega),zaf (by omega),rdL2 (by omega),zaf (by omega),zaf (by omega),rdL2 (by omega),eqG,Nat.zero_add,Nat.zero_add,hdd,decide_eq_true rfl,zaC,zaf (by omega),zaf (by omega),zaf (by omega)]
     have:((i+1 - i:Nat):Int)=1:=by omega
     rw [this] at h1
     exact h1
   · have hdq:dq l (i+1)=dq l i++[l[i]!]:=by simp only [dq]; rw [if_neg (fun h=>hdd h.2)]
     obtain ⟨l',h1,h2⟩:=ih (i+1) (by omega) (by omega) (by rw [hdq,hd,htk])
     refine ⟨l',zdg _ _ ?_,h2⟩
     simp only [List.length_map,Int.toNat_natCast,e1]
     rw [zag,if_pos (by omega),zaf (by omega),zaf (by omega),rdL2 (by omega),zaf (by omega),zaf (by omega),rdL2 (by omega),eqG,Nat.zero_add,Nat.zero_add,decide_eq_false hdd,zax,up1 (by omega)]
     exact h1
theorem c_Compact (l:List GRatio) (hl:l.length≤100000) :
  ∃ l',cw zbG [.row 1000 2 0 (List.map zaa l).length] [(1000,⟨2,zac,List.map zaa l,false⟩)]=some (rCp (dq l l.length).length l')∧l'.take (dq l l.length).length=dq l l.length∧l'.length=l.length:=by
 by_cases h2:l.length < 2
 · have hd:dq l l.length=l:=by
    match l,h2 with
    | [],_=>rfl
    | [x],_=>simp [dq]
   refine ⟨l,zfp l ?_,by rw [hd]; simp,rfl⟩
   rw [List.length_map,zag,if_pos (by omega),hd]
   rfl
 · obtain ⟨l',h1,h3⟩:=k_compact1 l hl (l.length - 1) 1 (by omega) (by omega) (by
    have h0:0 < l.length:=by omega
    simp [dq,List.take_one,List.head?_eq_getElem?,List.getElem?_eq_getElem h0])
   refine ⟨l',zfp l ?_,h3⟩
   rw [List.length_map,zag,if_neg (by omega)]
   exact h1
theorem dq_of (l:List GRatio):∀ q x,x∈dq l q→∃ j,j < q∧x=l[j]!
 | 0,x,h=>by simp [dq] at h
 | q+1,x,h=>by
   simp only [dq,List.mem_append] at h
   rcases h with h | h
   · obtain ⟨j,h1,h2⟩:=dq_of l q x h
     exact ⟨j,by omega,h2⟩
   · split at h
     · cases h
     · exact ⟨q,by omega,List.mem_singleton.1 h⟩
theorem dq_in (l:List GRatio):∀ q j,j < q→l[j]!∈dq l q
 | 0,j,h=>by omega
 | q+1,j,h=>by
   simp only [dq,List.mem_append]
   by_cases hj:j < q
   · exact .inl (dq_in l q j hj)
   · have:j=q:=by omega
     subst this
     split
     · rename_i hc
       rw [hc.2]
       exact .inl (dq_in l j (j - 1) (by omega))
     · exact .inr (by simp)
theorem dq_mem (l:List GRatio) (x:GRatio):x∈dq l l.length↔x∈l:=by
 constructor
 · intro h
   obtain ⟨j,h1,h2⟩:=dq_of l _ x h
   rw [h2]
   exact List.mem_of_getElem? (getL h1)
 · intro h
   obtain ⟨j,hj⟩:=List.getElem?_of_mem h
   have hlt:=(List.getElem?_eq_some_iff.1 hj).1
   rw [getL hlt] at hj
   injection hj with hj
   rw [← hj]
   exact dq_in l _ j hlt
theorem dq_asc (l:List GRatio) (v:GRatio→Rat) (hv:∀ x∈l,∀ y∈l,v x=v y→x=y) (hs:l.Pairwise (fun x y=>v x≤v y)):∀ q,q≤l.length→(dq l q).Pairwise (fun x y=>v x < v y)
 | 0,_=>by simp [dq]
 | q+1,hq=>by
   have ih:=dq_asc l v hv hs q (by omega)
   simp only [dq]
   split
   · rw [List.append_nil]; exact ih
   · rename_i hc
     rw [List.pairwise_append]
     refine ⟨ih,by simp,fun x hx y hy=>?_⟩
     simp at hy
     subst hy
     obtain ⟨j,hj,rfl⟩:=dq_of l q x hx
     have mem:∀ j,j < l.length→l[j]!∈l:=fun j hj=>List.mem_of_getElem? (getL hj)
     have le:∀ i j,i≤j→j < l.length→v l[i]!≤v l[j]!:=by
      intro i j hij hjl
      by_cases he:i=j
      · subst he; exact Rat.le_refl
      · rw [List.pairwise_iff_getElem] at hs
        have:=hs i j (by omega) hjl (by omega)
        rw [getElem!_pos l i (by omega),getElem!_pos l j hjl]
        exact this
     have h1:=le j (q - 1) (by omega) (by omega)
     have h2:=le (q - 1) q (by omega) (by omega)
     have h3:v l[q - 1]!≠v l[q]!:=fun h=>hc ⟨by omega,(hv _ (mem _ (by omega)) _ (mem _ (by omega)) h).symm⟩
     grind
end Go.Proofs.YtbhkcgaanaelfaaGreat
namespace Go.Proofs.YtbhkcgaanaelfaaGreat
open Go.Ab Go.Pure Go.Sort
set_option linter.unusedVariables false
set_option linter.unusedSimpArgs false
set_option maxRecDepth 20000
def vG (x:GRatio):Rat:=mkRat x.Num x.Den.toNat
theorem vG_of (r:Rat):vG (ofR r)=r:=by simp [vG,ofR,Rat.mkRat_self]
def ltG (x y:GRatio):Bool:=decide (vG x < vG y)
def PG (x:GRatio):Prop:=∃ r,x=ofR r∧Fit r
theorem swoG:SWO ltG where
 irrefl:=fun x=>by simp only [ltG,decide_eq_false_iff_not]; grind
 trans:=fun x y z h1 h2=>by simp only [ltG,decide_eq_true_eq] at *; grind
 ntrans:=fun x y z h1 h2=>by simp only [ltG,decide_eq_false_iff_not] at *; grind
theorem cmpG:Cmp ltG PG:=⟨fun x y hx hy=>by
 obtain ⟨a,rfl,ha⟩:=hx
 obtain ⟨b,rfl,hb⟩:=hy
 refine ⟨_,zpe a b ha hb,?_⟩
 have h1:(a < b)↔a.num*b.den < b.num*a.den:=Rat.lt_iff a b
 unfold ltG
 rw [vG_of,vG_of]
 by_cases h:a < b
 · rw [decide_eq_true h,decide_eq_true_eq]
   have:=h1.1 h
   unfold cmpZ
   repeat' split
   all_goals omega
 · rw [decide_eq_false h,decide_eq_false_iff_not]
   have:¬ (a.num*b.den < b.num*a.den):=fun h'=>h (h1.2 h')
   unfold cmpZ
   repeat' split
   all_goals omega⟩
theorem zyo {l:List GRatio} {rs:List Rat} (h:l.Perm (rs.map ofR)):l=(l.map vG).map ofR∧(l.map vG).Perm rs:=by
 constructor
 · rw [List.map_map]
   conv=>lhs; rw [← List.map_id l]
   refine List.map_congr_left (fun x hx=>?_)
   have:=h.mem_iff.1 hx
   obtain ⟨r,_,rfl⟩:=List.mem_map.1 this
   simp [vG_of]
 · have:=h.map vG
   rw [List.map_map] at this
   have e:(vG ∘ ofR)=id:=by funext r; exact vG_of r
   rw [e,List.map_id] at this
   exact this
theorem c_sortR (rs:List Rat) (hv:∀ r∈rs,Fit r) (hl:rs.length < 100) :
  ∃ ss:List Rat,cw zbz [.row 1000 2 0 (List.map zaa (rs.map ofR)).length,.fn zad []] [(1000,⟨2,zac,List.map zaa (rs.map ofR),false⟩)]=some (zbd.enc (ss.map ofR))∧ss.Perm rs∧ss.Pairwise (·≤·):=by
 obtain ⟨l',h1,h2,h3⟩:=c_SortFunc cmpG swoG (rs.map ofR) (fun x hx=>by
  obtain ⟨r,hr,rfl⟩:=List.mem_map.1 hx
  exact ⟨r,rfl,hv r hr⟩) (by simpa using hl)
 obtain ⟨e1,e2⟩:=zyo h2
 refine ⟨l'.map vG,by rw [← e1]; exact h1,e2,?_⟩
 rw [List.pairwise_map]
 refine h3.imp (fun {x y} h=>?_)
 simp only [ltG,decide_eq_false_iff_not] at h
 grind
theorem c_compactR (ss:List Rat) (hl:ss.length≤100000) (hs:ss.Pairwise (·≤·)) :
  ∃ (xs:List Rat) (l':List GRatio),cw zbG [.row 1000 2 0 (List.map zaa (ss.map ofR)).length] [(1000,⟨2,zac,List.map zaa (ss.map ofR),false⟩)]=some (rCp xs.length l') ∧
    l'.take xs.length=xs.map ofR∧xs.Pairwise (· < ·)∧(∀ x,x∈xs↔x∈ss)∧l'.length=ss.length:=by
 obtain ⟨l',h1,h2,h3⟩:=c_Compact (ss.map ofR) (by simpa using hl)
 have hm:∀ x,x∈dq (ss.map ofR) (ss.map ofR).length↔x∈ss.map ofR:=dq_mem _
 have ha:=dq_asc (ss.map ofR) vG (fun x hx y hy h=>by
  obtain ⟨a,_,rfl⟩:=List.mem_map.1 hx
  obtain ⟨b,_,rfl⟩:=List.mem_map.1 hy
  rw [vG_of,vG_of] at h
  rw [h]) (by
  rw [List.pairwise_map]
  refine hs.imp (fun {x y} h=>?_)
  rw [vG_of,vG_of]
  exact h) _ (Nat.le_refl _)
 generalize dq (ss.map ofR) (ss.map ofR).length=m at h1 h2 hm ha
 have e1:m=(m.map vG).map ofR:=by
  rw [List.map_map]
  conv=>lhs; rw [← List.map_id m]
  refine List.map_congr_left (fun x hx=>?_)
  obtain ⟨r,_,rfl⟩:=List.mem_map.1 ((hm x).1 hx)
  simp [vG_of]
 have eL:(m.map vG).length=m.length:=List.length_map _
 refine ⟨m.map vG,l',by rw [eL]; exact h1,by rw [eL,← e1]; exact h2,?_,fun x=>?_,by simpa using h3⟩
 · rw [List.pairwise_map]; exact ha
 · rw [List.mem_map]
   constructor
   · rintro ⟨g,hg,rfl⟩
     obtain ⟨r,hr,rfl⟩:=List.mem_map.1 ((hm g).1 hg)
     rw [vG_of]; exact hr
   · intro hx
     exact ⟨ofR x,(hm _).2 (List.mem_map.2 ⟨x,hx,rfl⟩),vG_of x⟩
theorem ztV:∀ {l m:List Rat},l.Pairwise (· < ·)→m.Pairwise (· < ·)→(∀ x,x∈l↔x∈m)→l=m
 | [],[],_,_,_=>rfl
 | [],y :: m,_,_,h=>absurd ((h y).2 List.mem_cons_self) (by simp)
 | x :: l,[],_,_,h=>absurd ((h x).1 List.mem_cons_self) (by simp)
 | x :: l,y :: m,hl,hm,h=>by
   rw [List.pairwise_cons] at hl hm
   have hxy:x=y:=by
    rcases List.mem_cons.1 ((h x).1 List.mem_cons_self) with h1 | h1
    · exact h1
    · rcases List.mem_cons.1 ((h y).2 List.mem_cons_self) with h2 | h2
      · exact h2.symm
      · have:=hm.1 x h1
        have:=hl.1 y h2
        grind
   subst hxy
   refine congrArg _ (ztV hl.2 hm.2 (fun z=>?_))
   have hz:=h z
   simp only [List.mem_cons] at hz
   constructor
   · intro h1
     rcases hz.1 (.inr h1) with h2 | h2
     · subst h2; have:=hl.1 z h1; grind
     · exact h2
   · intro h1
     rcases hz.2 (.inr h1) with h2 | h2
     · subst h2; have:=hm.1 z h1; grind
     · exact h2
def insA (x:Rat):List Rat→List Rat
 | []=>[x]
 | y :: l=>if x < y then x :: y :: l else if x=y then y :: l else y :: insA x l
theorem zsD (x z:Rat):∀ l,z∈insA x l↔z=x∨z∈l
 | []=>by simp [insA]
 | y :: l=>by
   have ih:=zsD x z l
   unfold insA
   split
   · simp
   · split
     · rename_i h; simp only [List.mem_cons]; grind
     · simp only [List.mem_cons,ih]; grind
theorem insA_asc (x:Rat):∀ l,l.Pairwise (· < ·)→(insA x l).Pairwise (· < ·)
 | [],_=>by simp [insA]
 | y :: l,h=>by
   have h':=List.pairwise_cons.1 h
   have ih:=insA_asc x l h'.2
   unfold insA
   split
   · rename_i hlt
     refine List.pairwise_cons.2 ⟨fun z hz=>?_,h⟩
     rcases List.mem_cons.1 hz with e | hz
     · rw [e]; exact hlt
     · have:=h'.1 z hz; grind
   · split
     · exact h
     · refine List.pairwise_cons.2 ⟨fun z hz=>?_,ih⟩
       rcases (zsD x z l).1 hz with e | hz
       · rw [e]; grind
       · exact h'.1 z hz
theorem insA_len (x:Rat):∀ l,(insA x l).length≤l.length+1
 | []=>by simp [insA]
 | y :: l=>by
   have ih:=insA_len x l
   unfold insA
   split
   · simp
   · split <;> simp <;> omega
end Go.Proofs.YtbhkcgaanaelfaaGreat
namespace Go.Proofs.YtbhkcgaanaelfaaGreat
open Go.Ab Go.Pure Go.Sort
set_option linter.unusedSimpArgs false
set_option linter.unusedVariables false
set_option maxRecDepth 20000
noncomputable abbrev cF (f:List Pt):GCurve:=⟨f.map ofP⟩
theorem zyI (l:List Pt) (hl:l.length≤100000):∀ (k i:Nat) (m:List GPoint),i+k=l.length→m.length=l.length→m.take i=((ex l).take i).map ofP →
  zel (l.map ofP) (List.map zak m) (i:Int)=some (zfb ((ex l).map ofP)):=by
 intro k
 induction k with
 | zero =>
   intro i m hk hm ht
   refine zjw _ _ _ ?_
   have hi:i=l.length:=by omega
   subst hi
   rw [List.take_of_length_le (by omega),List.take_of_length_le (by simp [ex])] at ht
   subst ht
   rw [zag,if_neg (by rw [lenP]; omega),zaf (by simp [ex])]
   rfl
 | succ k ih =>
   intro i m hk hm ht
   have hp:l[i]?=some l[i]:=List.getElem?_eq_getElem (by omega)
   have hx:(ex l)[i]?=some (l[i].2,l[i].1):=by unfold ex; rw [List.getElem?_map,hp]; rfl
   have hmi:m[i]?=some m[i]:=List.getElem?_eq_getElem (by omega)
   have hw:w64 ((i:Int)+1)=((i+1:Nat):Int):=by rw [w64_id (by omega) (by omega)]; omega
   refine zjw _ _ _ ?_
   rw [zag,if_pos (by rw [lenP]; omega),zaf (by omega),Int.toNat_natCast,elemP hp,zaf (by omega),zaf (by simp; omega),Nat.zero_add,zgG (D:=zaB) hmi,hw]
   have:=ih (i+1) (m.set i (ofP (l[i].2,l[i].1))) (by omega) (by simp [hm]) (by
    rw [List.take_add_one,List.take_set_of_le (Nat.le_refl _),List.getElem?_set_self (by omega),ht,List.take_add_one,hx,List.map_append]
    rfl)
   rw [List.map_set] at this
   exact this
theorem zyl (l:List Pt) (hl:l.length≤100000):cw zgX [.sl 4 (ptsE l)] []=some (zfb ((ex l).map ofP)):=by
 refine zos _ ?_
 rw [zaf rfl,zaf (by omega),zaf (by rw [lenP]; omega)]
 have:=zyI l hl l.length 0 (List.replicate l.length ⟨⟨0,0⟩,⟨0,0⟩⟩) (by omega) (by simp) (by simp)
 rw [List.map_replicate] at this
 rw [lenP]
 exact this
def raws (f g:List Pt):List Rat:=f.map (·.1)++g.map (fun q=>cv (ex f) q.1)
def insAll (rs:List Rat):List Rat:=rs.foldl (fun l x=>insA x l) []
def plc (f g:List Pt):List Rat:=insAll (raws f g)
theorem zp9 (z:Rat):∀ (rs l:List Rat),z∈rs.foldl (fun l x=>insA x l) l↔z∈rs∨z∈l
 | [],l=>by simp
 | x :: rs,l=>by
   rw [List.foldl_cons,zp9 z rs,zsD]
   simp only [List.mem_cons]
   grind
theorem zqd:∀ (rs l:List Rat),l.Pairwise (· < ·)→(rs.foldl (fun l x=>insA x l) l).Pairwise (· < ·)
 | [],l,h=>h
 | x :: rs,l,h=>zqd rs _ (insA_asc x l h)
theorem zp8:∀ (rs l:List Rat),(rs.foldl (fun l x=>insA x l) l).length≤l.length+rs.length
 | [],l=>by simp
 | x :: rs,l=>by
   have:=zp8 rs (insA x l)
   have h2:=insA_len x l
   simp only [List.foldl_cons,List.length_cons]
   omega
theorem insAll_len (rs:List Rat):(insAll rs).length≤rs.length:=by
 have h:=zp8 rs []
 show (rs.foldl (fun l x=>insA x l) []).length≤_
 rw [List.length_nil,Nat.zero_add] at h
 exact h
theorem zm8 (f g:List Pt) (x:Rat):x∈plc f g↔x∈raws f g:=by
 unfold plc insAll
 rw [zp9]
 simp
theorem plc_asc (f g:List Pt):(plc f g).Pairwise (· < ·):=zqd _ _ List.Pairwise.nil
theorem plc_len (f g:List Pt):(plc f g).length≤f.length+g.length:=by
 have h:=insAll_len (raws f g)
 have e:(raws f g).length=f.length+g.length:=by simp [raws]
 rw [e] at h
 exact h
theorem two_mem {xs:List Rat} {a b:Rat} (ha:a∈xs) (hb:b∈xs) (h:a≠b):2≤xs.length:=by
 match xs,ha,hb with
 | [x],ha,hb=>simp at ha hb; exact absurd (ha.trans hb.symm) h
 | x :: y :: r,_,_=>simp
structure CpH (f g:List Pt):Prop where
 fa:Asc f
 fl:2≤f.length
 fv:AllF f
 ga:Asc g
 gl:2≤g.length
 gv:AllF g
 len:f.length+g.length < 100
theorem plc_two {f g:List Pt} (h:CpH f g):2≤(plc f g).length:=by
 match f,h with
 | [],h=>have:=h.fl; simp at this
 | [_],h=>have:=h.fl; simp at this
 | p :: q :: r,h =>
   have hlt:=(zew (i:=0) h.fa rfl rfl).1
   refine two_mem (a:=p.1) (b:=q.1) ?_ ?_ (by grind)
   · rw [zm8]; simp [raws]
   · rw [zm8]; simp [raws]
theorem exF {f:List Pt} (h:AllF f):AllF (ex f):=fun p hp=>by
 unfold ex at hp
 obtain ⟨q,hq,rfl⟩:=List.mem_map.1 hp
 exact ⟨(h q hq).2,(h q hq).1⟩
theorem plc_fit {f g:List Pt} (h:CpH f g) (hb:∀ q∈g,EvF (ex f) q.1):∀ x∈plc f g,Fit x:=fun x hx=>by
 rw [zm8] at hx
 unfold raws at hx
 rcases List.mem_append.1 hx with hx | hx
 · obtain ⟨p,hp,rfl⟩:=List.mem_map.1 hx
   exact (h.fv p hp).1
 · obtain ⟨q,hq,rfl⟩:=List.mem_map.1 hx
   exact (hb q hq).val (by rw [ex_len]; exact h.fl)
def PlF (f g:List Pt) (x:Rat):Prop:=EvF f x∧EvF g (cv f x)
noncomputable def cpR (f g:List Pt):GCurve×Int:=@ite _ ((∀ q∈g,EvF (ex f) q.1)∧∀ x∈plc f g,PlF f g x) (Classical.propDecidable _) (nfR (cps f g (plc f g))) (⟨[]⟩,6)
theorem cpR_ok {f g:List Pt} (h:(∀ q∈g,EvF (ex f) q.1)∧∀ x∈plc f g,PlF f g x):cpR f g=nfR (cps f g (plc f g)):=if_pos h
theorem cpR_no {f g:List Pt} (h:¬ ((∀ q∈g,EvF (ex f) q.1)∧∀ x∈plc f g,PlF f g x)):cpR f g=(⟨[]⟩,6):=if_neg h
theorem cps_hyps {f g:List Pt} (h:CpH f g) (hb:(∀ q∈g,EvF (ex f) q.1)∧∀ x∈plc f g,PlF f g x):Asc (cps f g (plc f g))∧2≤(cps f g (plc f g)).length∧(cps f g (plc f g)).length≤410∧AllF (cps f g (plc f g)):=by
 have h1:=plc_two h
 have h2:=plc_len f g
 have h3:=h.len
 have hl:(cps f g (plc f g)).length=(plc f g).length:=by simp [cps]
 refine ⟨cps_asc h.fa h.fl h.ga h.gl (plc_asc f g),by omega,by omega,fun p hp=>?_⟩
 unfold cps at hp
 obtain ⟨x,hx,rfl⟩:=List.mem_map.1 hp
 exact ⟨plc_fit h hb.1 x hx,(hb.2 x hx).2.val h.gl⟩
theorem k_comp3 {f g:List Pt} (h:CpH f g) (hb:∀ q∈g,EvF (ex f) q.1) (l':List GRatio) (hl':l'.take (plc f g).length=(plc f g).map ofR):∀ (k i:Nat) (m:List GPoint),i+k=(plc f g).length→m.length=(plc f g).length→m.take i=((cps f g (plc f g)).take i).map ofP→(∀ j (hj:j < (plc f g).length),j < i→PlF f g (plc f g)[j]) →
  zfd (cF f) (cF g) ((plc f g).length,l') (List.map zak m) (i:Int)=some (zdB (cpR f g)):=by
 have hcl:(cps f g (plc f g)).length=(plc f g).length:=by simp [cps]
 have hx:=plc_len f g
 have hlen:=h.len
 have hfit:=plc_fit h hb
 intro k
 induction k with
 | zero =>
   intro i m hk hm ht hok
   have hi:i=(plc f g).length:=by omega
   subst hi
   rw [List.take_of_length_le (by omega),List.take_of_length_le (by omega)] at ht
   subst ht
   have hall:(∀ q∈g,EvF (ex f) q.1)∧∀ x∈plc f g,PlF f g x:=⟨hb,fun x hx=>by
    obtain ⟨j,hj,rfl⟩:=List.mem_iff_getElem.1 hx
    exact hok j hj hj⟩
   obtain ⟨c1,c2,c3,c4⟩:=cps_hyps h hall
   refine zkq _ _ _ _ _ ?_
   dsimp only
   simp only [List.length_replicate,Int.toNat_natCast,List.length_map,Nat.zero_add]
   rw [zag,if_neg (by omega),zaf (by omega),List.take_of_length_le (by simp [hcl]),zva (cps f g (plc f g)) c1 c2 c3 c4,zjO,zaf (by omega),zaf (by omega),cpR_ok hall]
   rfl
 | succ k ih =>
   intro i m hk hm ht hok
   have hi:i < (plc f g).length:=by omega
   have hxf:=hfit _ (List.getElem_mem hi)
   have hle:(plc f g).length≤l'.length:=by
    have:=congrArg List.length hl'
    simp at this
    omega
   have hli:l'[i]?=some (ofR (plc f g)[i]):=by
    have:(l'.take (plc f g).length)[i]?=((plc f g).map ofR)[i]?:=by rw [hl']
    rw [List.getElem?_take,if_pos hi,List.getElem?_map,List.getElem?_eq_getElem hi] at this
    exact this
   have hci:(cps f g (plc f g))[i]?=some ((plc f g)[i],cv g (cv f (plc f g)[i])):=by
    unfold cps
    rw [List.getElem?_map,List.getElem?_eq_getElem hi]
    rfl
   have hmi:m[i]?=some m[i]:=List.getElem?_eq_getElem (by omega)
   refine zkq _ _ _ _ _ ?_
   dsimp only
   simp only [List.length_replicate,Int.toNat_natCast,Nat.zero_add]
   rw [zag,if_pos (by omega),zaf (by omega),zaf (by omega),zgG (D:=zab) hli]
   show callD zbp (cw zbq [.sl 4 (ptsE f),aR (plc f g)[i]] []) _=_
   have bad:¬ PlF f g (plc f g)[i]→cpR f g=(⟨[]⟩,6):=fun hn=>cpR_no (fun hh=>hn (hh.2 _ (List.getElem_mem hi)))
   by_cases h1:EvF f (plc f g)[i]
   · rw [zm5 f _ h.fa h.fl (by omega) h.fv hxf h1,zbr,brn_f (by rfl)]
     show callD zbp (cw zbq [.sl 4 (ptsE g),aR (cv f (plc f g)[i])] []) _=_
     by_cases h2:EvF g (cv f (plc f g)[i])
     · rw [zm5 g _ h.ga h.gl (by omega) h.gv (h1.val h.fl) h2,zbr,brn_f (by rfl),zaf (by omega),zaf (by omega),zgG (D:=zaB) hmi]
       have hw:w64 ((i:Int)+1)=((i+1:Nat):Int):=by rw [w64_id (by omega) (by omega)]; omega
       rw [hw]
       have:=ih (i+1) (m.set i (ofP ((plc f g)[i],cv g (cv f (plc f g)[i])))) (by omega) (by simp [hm]) (by
        rw [List.take_add_one,List.take_set_of_le (Nat.le_refl _),List.getElem?_set_self (by omega),ht,List.take_add_one,hci,List.map_append]
        rfl) (fun j hj hji=>by
        rcases Nat.lt_or_eq_of_le (Nat.le_of_lt_succ hji) with hlt | heq
        · exact hok j hj hlt
        · subst heq; exact ⟨h1,h2⟩)
       rw [List.map_set] at this
       exact this
     · rw [zrq g _ h.ga h.gl (by omega) h.gv (h1.val h.fl) h2,zbr,bad (fun hh=>h2 hh.2)]
       rfl
   · rw [zrq f _ h.fa h.fl (by omega) h.fv hxf h1,zbr,bad (fun hh=>h1 hh.1)]
     rfl
theorem k_comp2 {f g:List Pt} (h:CpH f g):∀ (k i:Nat) (rs:List Rat),i+k=g.length→rs=f.map (·.1)++(g.take i).map (fun q=>cv (ex f) q.1)→(∀ j (hj:j < g.length),j < i→EvF (ex f) g[j].1) →
  zff (cF f) (cF g) ((ex f).map ofP) (rsE rs) (i:Int)=some (zdB (cpR f g)):=by
 have hlen:=h.len
 intro k
 induction k with
 | zero =>
   intro i rs hk hrs hok
   have hi:i=g.length:=by omega
   subst hi
   rw [List.take_length] at hrs
   have hb:∀ q∈g,EvF (ex f) q.1:=fun q hq=>by
    obtain ⟨j,hj,rfl⟩:=List.mem_iff_getElem.1 hq
    exact hok j hj hj
   have hrl:rs.length=f.length+g.length:=by rw [hrs]; simp
   obtain ⟨ss,s1,s2,s3⟩:=c_sortR rs (fun r hr=>plc_fit h hb r (by rw [zm8]; unfold raws; rw [← hrs]; exact hr)) (by omega)
   have hsl:ss.length=rs.length:=s2.length_eq
   obtain ⟨ys,l',c1,c2,c3,c4,c5⟩:=c_compactR ss (by omega) s3
   have hy:ys=plc f g:=ztV c3 (plc_asc f g) (fun x=>by
    rw [c4,s2.mem_iff,zm8,hrs]; rfl)
   subst hy
   have hyl:=plc_len f g
   have hcl:(cps f g (plc f g)).length=(plc f g).length:=by simp [cps]
   refine zj6 _ _ _ _ _ ?_
   have hlg:(List.map zak (cF g).Points).length=g.length:=by simp
   have s1':cw zbz [.row 1000 2 0 (rsE rs).length,.fn zad []] [(1000,⟨2,zac,rsE rs,false⟩)]=some (zdl (ss.map ofR)):=s1
   rw [hlg,zag,if_neg (by omega),s1',zhF]
   have e:(rsE rs).length=(rsE ss).length:=by simp [hsl]
   have c1':cw zbG [.row 1000 2 0 (rsE ss).length] [(1000,⟨2,zac,rsE ss,false⟩)]=some (zdr ((plc f g).length,l')):=c1
   rw [e,c1',zh4]
   dsimp only
   rw [zaf rfl,zaf (by omega),Int.toNat_natCast,zaf (by omega)]
   have:=k_comp3 h hb l' c2 (plc f g).length 0 (List.replicate (plc f g).length ⟨⟨0,0⟩,⟨0,0⟩⟩) (by omega) (by simp) (by simp) (fun j _ hj=>by omega)
   rw [List.map_replicate] at this
   exact this
 | succ k ih =>
   intro i rs hk hrs hok
   have hi:i < g.length:=by omega
   have hrl:rs.length≤f.length+g.length:=by rw [hrs]; simp; omega
   have hgi:g[i]?=some g[i]:=List.getElem?_eq_getElem hi
   refine zj6 _ _ _ _ _ ?_
   have hlg:(List.map zak (cF g).Points).length=g.length:=by simp
   rw [hlg,zag,if_pos (by omega),zaf (by omega),Int.toNat_natCast,elemP hgi,zaf (by omega),List.take_length]
   show callD zbp (cw zbq [.sl 4 (ptsE (ex f)),aR g[i].1] []) _=_
   have gf:=(h.gv g[i] (List.getElem_mem hi)).1
   by_cases h1:EvF (ex f) g[i].1
   · rw [zm5 (ex f) g[i].1 (ex_asc h.fa) (by rw [ex_len]; exact h.fl) (by rw [ex_len]; omega) (exF h.fv) gf h1,zbr,brn_f (by rfl),zaf rfl,zaf (by simp; omega),zaf rfl]
     have hw:w64 ((i:Int)+1)=((i+1:Nat):Int):=by rw [w64_id (by omega) (by omega)]; omega
     rw [hw]
     have:=ih (i+1) (rs++[cv (ex f) g[i].1]) (by omega) (by rw [hrs,List.take_add_one,hgi,List.map_append,List.append_assoc]; rfl) (fun j hj hji=>by
       rcases Nat.lt_or_eq_of_le (Nat.le_of_lt_succ hji) with hlt | heq
       · exact hok j hj hlt
       · subst heq; exact h1)
     unfold rsE at this
     rw [List.map_append,List.map_append] at this
     exact this
   · rw [zrq (ex f) g[i].1 (ex_asc h.fa) (by rw [ex_len]; exact h.fl) (by rw [ex_len]; omega) (exF h.fv) gf h1,zbr,cpR_no (fun hh=>h1 (hh.1 _ (List.getElem_mem hi)))]
     rfl
theorem k_comp1 {f g:List Pt} (h:CpH f g):∀ (k i:Nat) (rs:List Rat),i+k=f.length→rs=(f.take i).map (·.1) →
  zfa (cF f) (cF g) (rsE rs) (i:Int)=some (zdB (cpR f g)):=by
 have hlen:=h.len
 intro k
 induction k with
 | zero =>
   intro i rs hk hrs
   have hi:i=f.length:=by omega
   subst hi
   rw [List.take_length] at hrs
   refine zj8 _ _ _ _ ?_
   have hlf:(List.map zak (cF f).Points).length=f.length:=by simp
   rw [hlf,zag,if_neg (by omega),zyl f (by omega),zmt]
   exact k_comp2 h g.length 0 rs (by omega) (by rw [hrs]; simp) (fun j _ hj=>by omega)
 | succ k ih =>
   intro i rs hk hrs
   have hi:i < f.length:=by omega
   have hrl:rs.length≤f.length:=by rw [hrs]; simp; omega
   have hfi:f[i]?=some f[i]:=List.getElem?_eq_getElem hi
   refine zj8 _ _ _ _ ?_
   have hlf:(List.map zak (cF f).Points).length=f.length:=by simp
   rw [hlf,zag,if_pos (by omega),zaf (by omega),Int.toNat_natCast,elemP hfi,zaf rfl,zaf (by simp; omega),zaf rfl]
   have hw:w64 ((i:Int)+1)=((i+1:Nat):Int):=by rw [w64_id (by omega) (by omega)]; omega
   rw [hw]
   have:=ih (i+1) (rs++[f[i].1]) (by omega) (by rw [hrs,List.take_add_one,hfi,List.map_append]; rfl)
   unfold rsE at this
   rw [List.map_append,List.map_append] at this
   exact this
end Go.Proofs.YtbhkcgaanaelfaaGreat
namespace Go.Proofs.YtbhkcgaanaelfaaGreat
open Go.Ab Go.Pure Go.Sort
set_option linter.unusedSimpArgs false
set_option linter.unusedVariables false
set_option maxRecDepth 20000
def GoodP (pts:List GPoint):Prop:=∃ l:List Pt,pts=l.map ofP∧AllF l∧Asc l
theorem good_mem {pts:List GPoint} (h:GoodP pts) {p:GPoint} (hp:p∈pts):VR p.X∧VR p.Y:=by
 obtain ⟨l,rfl,h1,_⟩:=h
 obtain ⟨q,hq,rfl⟩:=List.mem_map.1 hp
 exact ⟨fit_VR (h1 q hq).1,fit_VR (h1 q hq).2⟩
theorem VR_point {p:GPoint} (h1:VR p.X) (h2:VR p.Y):∃ q:Pt,Fit q.1∧Fit q.2∧p=ofP q:=by
 obtain ⟨a,ha,ea⟩:=VR_fit h1
 obtain ⟨b,hb,eb⟩:=VR_fit h2
 exact ⟨(a,b),ha,hb,by cases p; simp only at ea eb; rw [ea,eb]; rfl⟩
theorem zuV {l:List Pt} {q p:Pt} (h1:AllF l) (h2:Asc l) (hq:Fit q.1∧Fit q.2) (hz:∀ p,l.getLast?=some p→p.1 < q.1∧p.2 < q.2):AllF (l++[q])∧Asc (l++[q]):=by
 refine ⟨fun p hp=>?_,?_⟩
 · rcases List.mem_append.1 hp with hp | hp
   · exact h1 p hp
   · rw [List.mem_singleton.1 hp]; exact hq
 · unfold Asc
   rw [List.pairwise_append]
   refine ⟨h2,List.pairwise_singleton _ _,fun p hp z hz'=>?_⟩
   rw [List.mem_singleton.1 hz']
   have hne:l≠[]:=List.ne_nil_of_mem hp
   have hl:=hz _ (List.getLast?_eq_some_getLast hne)
   rcases List.mem_iff_getElem.1 hp with ⟨i,hi,rfl⟩
   rcases Nat.lt_or_ge (i+1) l.length with h | h
   · have hlast:l.getLast hne=l[l.length - 1]:=List.getLast_eq_getElem hne
     rw [hlast] at hl
     have:=List.pairwise_iff_getElem.1 h2 i (l.length - 1) hi (by omega) (by omega)
     grind
   · have hlast:l.getLast hne=l[i]:=by rw [List.getLast_eq_getElem hne]; congr 1; omega
     rw [hlast] at hl
     exact hl
section
variable {pts:List GPoint}
theorem elemG {β:Type} {i:Nat} (hi:i < pts.length) (k:GPoint→Option β):elemD zaB (List.map zak pts) i k=k pts[i]:=
 zgG (D:=zaB) (List.getElem?_eq_getElem hi) k
theorem lenG (l:List GPoint):(List.map zak l).length=l.length:=by simp
theorem good_step {i:Nat} (hi:i < pts.length) (h:GoodP (pts.take i)):(¬ VR pts[i].X∨¬ VR pts[i].Y→¬ GoodP pts) ∧
  (VR pts[i].X→VR pts[i].Y→∃ q:Pt,Fit q.1∧Fit q.2∧pts[i]=ofP q∧(i=0→GoodP (pts.take (i+1))) ∧
   (0 < i→∃ p:Pt,Fit p.1∧Fit p.2∧(∃ h':i - 1 < pts.length,pts[i - 1]=ofP p)∧((p.1 < q.1∧p.2 < q.2)→GoodP (pts.take (i+1)))∧(¬ (p.1 < q.1∧p.2 < q.2)→¬ GoodP pts))):=by
 refine ⟨fun h1 h2=>?_,fun h1 h2=>?_⟩
 · have:=good_mem h2 (List.getElem_mem hi)
   rcases h1 with h1 | h1
   · exact h1 this.1
   · exact h1 this.2
 · obtain ⟨q,hq1,hq2,eq⟩:=VR_point h1 h2
   obtain ⟨l,hl,hf,ha⟩:=h
   have hll:l.length=i:=by
    have:=congrArg List.length hl
    simp at this
    omega
   have ht:pts.take (i+1)=(l++[q]).map ofP:=by
    rw [List.take_add_one,List.getElem?_eq_getElem hi,hl,eq,List.map_append]; rfl
   refine ⟨q,hq1,hq2,eq,fun h0=>?_,fun h0=>?_⟩
   · have hnil:l=[]:=List.length_eq_zero_iff.1 (by omega)
     obtain ⟨g1,g2⟩:=zuV (q:=q) (p:=q) hf ha ⟨hq1,hq2⟩ (fun p hp=>by rw [hnil] at hp; cases hp)
     exact ⟨l++[q],ht,g1,g2⟩
   · have hne:l≠[]:=by intro e; rw [e] at hll; simp at hll; omega
     have hp':l[i - 1]?=some l[i - 1]:=List.getElem?_eq_getElem (by omega)
     have hpf:=hf _ (List.getElem_mem (show i - 1 < l.length by omega))
     have epp:pts[i - 1]=ofP l[i - 1]:=by
      have e1:(pts.take i)[i - 1]?=some (ofP l[i - 1]):=by rw [hl,List.getElem?_map,hp']; rfl
      rw [List.getElem?_take,if_pos (by omega),List.getElem?_eq_getElem (by omega)] at e1
      injection e1
     refine ⟨l[i - 1],hpf.1,hpf.2,⟨by omega,epp⟩,fun hlt=>?_,fun hn hg=>?_⟩
     · obtain ⟨g1,g2⟩:=zuV (q:=q) (p:=q) hf ha ⟨hq1,hq2⟩ (fun p hp=>by
        rw [List.getLast?_eq_getElem?,hll,hp'] at hp
        injection hp with hp
        rw [← hp]; exact hlt)
       exact ⟨l++[q],ht,g1,g2⟩
     · obtain ⟨m,hm,_,hma⟩:=hg
       have hml:m.length=pts.length:=by rw [hm]; simp
       have e1:ofP m[i - 1]=ofP l[i - 1]:=by
        have:pts[i - 1]=ofP m[i - 1]:=by simp only [hm,List.getElem_map]
        rw [← this,epp]
       have e2:ofP m[i]=ofP q:=by
        have:pts[i]=ofP m[i]:=by simp only [hm,List.getElem_map]
        rw [← this,eq]
       have inj:∀ a b:Pt,ofP a=ofP b→a=b:=fun a b e=>by
        have e3:ofR a.1=ofR b.1:=congrArg GPoint.X e
        have e4:ofR a.2=ofR b.2:=congrArg GPoint.Y e
        exact Prod.ext (ofR_inj e3) (ofR_inj e4)
       have:=List.pairwise_iff_getElem.1 hma (i - 1) i (by omega) (by omega) (by omega)
       rw [inj _ _ e1,inj _ _ e2] at this
       exact hn this
theorem k_asc (hl:pts.length≤100000):∀ (k i:Nat),i+k=pts.length→GoodP (pts.take i)→zdz pts (i:Int)=some (zg3 (dec (GoodP pts))):=by
 intro k
 induction k with
 | zero =>
   intro i hk hg
   refine zjl _ _ ?_
   rw [List.take_of_length_le (by omega)] at hg
   rw [zag,if_neg (by rw [lenG]; omega),zbH hg]
   rfl
 | succ k ih =>
   intro i hk hg
   have hi:i < pts.length:=by omega
   have ew:w64 ((i:Int)+1)=((i+1:Nat):Int):=by rw [w64_id (by omega) (by omega)]; omega
   obtain ⟨s1,s2⟩:=good_step hi hg
   refine zjl _ _ ?_
   rw [zag,if_pos (by rw [lenG]; omega),zaf (by omega),Int.toNat_natCast,elemG hi,zdM,zaY,ew]
   by_cases h1:VR pts[i].X
   · rw [decide_eq_true h1,brn_nt,zdM,zaY]
     by_cases h2:VR pts[i].Y
     · obtain ⟨q,hq1,hq2,eq,t1,t2⟩:=s2 h1 h2
       rw [decide_eq_true h2,brn_nt,zag]
       by_cases h0:i=0
       · rw [if_neg (by omega)]
         exact ih (i+1) (by omega) (t1 h0)
       · obtain ⟨p,hp1,hp2,⟨hi',ep⟩,t3,t4⟩:=t2 (by omega)
         have ew2:w64 ((i:Int) - 1)=((i - 1:Nat):Int):=by rw [w64_id (by omega) (by omega)]; omega
         have hl1:=c_LessF p.1 q.1 hp1 hq1
         have hl2:=c_LessF p.2 q.2 hp2 hq2
         have ex1:(pts[i - 1]).X=ofR p.1:=by rw [ep]; rfl
         have ex2:(pts[i - 1]).Y=ofR p.2:=by rw [ep]; rfl
         have ex3:(pts[i]).X=ofR q.1:=by rw [eq]; rfl
         have ex4:(pts[i]).Y=ofR q.2:=by rw [eq]; rfl
         rw [if_pos (by omega),ew2,zaf (by omega),Int.toNat_natCast,elemG hi',ex1,ex3,hl1,znC]
         by_cases l1:p.1 < q.1
         · rw [decide_eq_true l1,brn_nt,zaf (by omega),elemG hi',ex2,ex4,hl2,znC]
           by_cases l2:p.2 < q.2
           · rw [decide_eq_true l2,brn_nt]
             exact ih (i+1) (by omega) (t3 ⟨l1,l2⟩)
           · rw [decide_eq_false l2,brn_nf,zbk (t4 (fun h=>l2 h.2))]
             rfl
         · rw [decide_eq_false l1,brn_nf,zbk (t4 (fun h=>l1 h.1))]
           rfl
     · rw [decide_eq_false h2,brn_nf,zbk (s1 (.inr h2))]
       rfl
   · rw [decide_eq_false h1,brn_nf,zbk (s1 (.inl h1))]
     rfl
end
theorem good_nil:GoodP []:=⟨[],rfl,fun p hp=>absurd hp (List.not_mem_nil),List.Pairwise.nil⟩
def VC (c:GCurve):Prop:=2≤c.Points.length∧c.Points.length≤410∧GoodP c.Points
theorem VC.pts {c:GCurve} (h:VC c):∃ l:List Pt,c=cF l∧AllF l∧Asc l∧2≤l.length∧l.length≤410:=by
 obtain ⟨h1,h2,l,h3,h4,h5⟩:=h
 rw [h3,List.length_map] at h1 h2
 exact ⟨l,by cases c; simp only at h3; rw [h3],h4,h5,h1,h2⟩
theorem vc_of {l:List Pt} (h1:AllF l) (h2:Asc l) (h3:2≤l.length) (h4:l.length≤410):VC (cF l):=⟨by simpa using h3,by simpa using h4,l,rfl,h1,h2⟩
theorem zmh (c:GCurve):cw zeb [.agg (zao c)] []=some (zjB (dec (VC c))):=by
 refine zqW _ ?_
 rw [lenG,zag]
 by_cases h1:2≤c.Points.length
 · rw [if_pos (by omega),zag]
   by_cases h2:c.Points.length≤410
   · have h:=zok c.Points (k_asc (pts:=c.Points) (by omega) c.Points.length 0 (by omega) (by rw [List.take_zero]; exact good_nil))
     rw [if_pos (by omega),h,zmw]
     rw [dec_iff (show VC c↔GoodP c.Points from ⟨fun h=>h.2.2,fun h=>⟨h1,h2,h⟩⟩)]
     rfl
   · rw [if_neg (by omega),zbk (fun h=>h2 h.2.1)]; rfl
 · rw [if_neg (by omega),zbk (fun h=>h1 h.1)]; rfl
end Go.Proofs.YtbhkcgaanaelfaaGreat
namespace Go.Proofs.YtbhkcgaanaelfaaGreat
open Go.Ab Go.Pure
set_option linter.unusedSimpArgs false
set_option linter.unusedVariables false
set_option maxRecDepth 20000
end Go.Proofs.YtbhkcgaanaelfaaGreat
