/- The library's sort by a comparison: what its parts compute is what the guide's plain layer of the sort says. -/
import Derived.Test.YtikogkgdkdmljaaGreatK5
import Derived.Test.YtikogkgdkdmljaaGreatAb9
import Derived.Test.YtikogkgdkdmljaaGreatJ2
import Derived.Sort.AssemblyPlain
import Derived.Test.YtikogkgdkdmljaaGreatJ4
set_option linter.unusedSimpArgs false
set_option linter.unusedVariables false
noncomputable section
namespace Go.Proofs.YtikogkgdkdmljaaGreat.SG
open Go.Ab Go.Sort
instance:Inhabited zag:=⟨⟨0,0,0,0,0,⟨0,0,0⟩⟩⟩
abbrev Er (d:Array zag):List (List AV):=List.map zad d.toList
theorem lenE (d:Array zag):(Er d).length=d.size:=by simp
structure Cmp (lt:zag→zag→Bool) (P:zag→Prop):Prop where
 ans:∀ x y,P x→P y→∃ v:Int,cw zaf [.agg (zad x),.agg (zad y)] []=some (zau.enc v)∧decide (v < 0)=lt x y
def AllA (P:zag→Prop) (d:Array zag):Prop:=∀ i,i < d.size→P d[i]!
section
variable {lt:zag→zag→Bool} {P:zag→Prop}
theorem Cmp.step {β:Type} (hc:Cmp lt P) {x y:zag} (hx:P x) (hy:P y) (A B:Option β):(callD zau (cw zaf [.agg (zad x),.agg (zad y)] []) fun (r:Int)=>brn (decide (r < 0)) A B)=brn (lt x y) A B:=by obtain ⟨v,h1,h2⟩:=hc.ans x y hx hy; rw [za8 h1,h2]
theorem Cmp.stepN {β:Type} (hc:Cmp lt P) {x y:zag} (hx:P x) (hy:P y) (A B:Option β):(callD zau (cw zaf [.agg (zad x),.agg (zad y)] []) fun (r:Int)=>brn (!decide (r < 0)) A B)=brn (lt x y) B A:=by obtain ⟨v,h1,h2⟩:=hc.ans x y hx hy; rw [za8 h1,h2,brn_not]
theorem rdA {β:Type} {d:Array zag} {n i:Nat} (hn:n=d.size) (hi:i < d.size) (K:zag→Option β):(chk ((0:Int)≤(i:Int))<|chk ((i:Int) < (n:Int))<|elemD zaL (Er d) (0+((i:Nat):Int).toNat) K)=K d[i]!:=by rw [cPQ,cPQ,zba,zb1,ztT (D:=zaL) (l:=d.toList) (x:=d[i]!) (by simp [hi])]
theorem setA (d:Array zag) (i:Nat) (x:zag):List.set (Er d) i (zad x)=Er (d.setIfInBounds i x):=by show List.set (List.map zad d.toList) i (zad x)=List.map zad (d.setIfInBounds i x).toList; rw [Array.toList_setIfInBounds,zvD]
theorem rdS {β:Type} {d:Array zag} {n i j:Nat} {x:zag} (hn:n=d.size) (hj:j < d.size) (K:zag→Option β):(chk ((0:Int)≤(j:Int))<|chk ((j:Int) < (n:Int))<|elemD zaL (List.set (Er d) (0+((i:Nat):Int).toNat) (zad x)) (0+((j:Nat):Int).toNat) K)=K (d.setIfInBounds i x)[j]!:=by rw [zba,zb1 i,setA]; exact rdA (by rw [zlQ]; exact hn) (by rw [zlQ]; exact hj) K
theorem swpE (d:Array zag) (i j:Nat):List.set (List.set (Er d) (0+((i:Nat):Int).toNat) (zad d[j]!)) (0+((j:Nat):Int).toNat) (zad d[i]!)=Er (swp d i j):=by rw [zba,zba,zb1,zb1,setA,setA]; rfl
theorem zaR (d:Array zag) (i j:Nat):(swp d i j).size=d.size:=by unfold swp; rw [zlQ,zlQ]
theorem AllA.swp {d:Array zag} (h:AllA P d) {i j:Nat} (hi:i < d.size) (hj:j < d.size):AllA P (swp d i j):=by intro k hk; rw [zaR] at hk; have hP:=swp_permIn d 0 d.size i j (by omega) hi (by omega) hj (zcj _); exact permIn_all d (Go.Sort.swp d i j) 0 d.size P (zcj _) hP (fun k _ hk=>h k hk) k (by omega) hk
theorem AllA.perm {d d':Array zag} {a b:Nat} (h:AllA P d) (hab:a≤b) (hb:b≤d.size) (hP:PermIn a b d d'):AllA P d':=by intro k hk; rw [hP.1] at hk; have hP':=permIn_mono d d' a b 0 d.size (by omega) hb (zcj _) hP; exact permIn_all d d' 0 d.size P (zcj _) hP' (fun k _ hk=>h k hk) k (by omega) hk
theorem k_ins2 (hc:Cmp lt P) (a0:List zag) (a b i:Nat):∀ (j:Nat) (d:Array zag) (y:AV×Mem),a0.length=d.size→AllA P d→j < d.size→d.size≤1000000→i≤1000000→zcu a0 (a:Int) (b:Int) (Er (insInner lt a j d)) ((i+1:Nat):Int)=some y→zdT a0 (a:Int) (b:Int) (i:Int) (Er d) (j:Int)=some y:=by
 have ei:∀ i:Nat,i≤1000000→w64 ((i:Int)+1)=((i+1:Nat):Int):=fun i hi=>by rw [w6Q]; omega
 intro j
 induction j with
 | zero=>intro d y hn hP hj hs hi h; refine zhz _ _ _ _ _ _ ?_; rw [zaD,iNQ,ei i hi]; exact h
 | succ j ih =>
   intro d y hn hP hj hs hi h; refine zhz _ _ _ _ _ _ ?_; unfold insInner at h; have e1:w64 (((j+1:Nat):Int) - 1)=(j:Int):=by rw [w6Q]; omega
   rw [zaD,e1,ei i hi,zaq]; by_cases ha:a < j+1
   · rw [iPQ,rdA hn hj,rdA hn (by omega),hc.step (hP _ hj) (hP _ (by omega))]
     cases hlt:lt d[j+1]! d[j]! with
     | false=>rw [hlt,zqR,iNs] at h; rw [zax]; exact h
     | true=>rw [hlt,zpi,if_pos (by simpa using ha)] at h; rw [zaF,rdA hn (by omega),rdA hn hj,rdA hn hj,rdS hn (by omega),swpE]; exact ih _ y (by rw [zaR]; exact hn) (hP.swp hj (by omega)) (by rw [zaR]; omega) (by rw [zaR]; exact hs) hi h
   · rw [iNQ]; rw [if_neg (by simp; omega)] at h; exact h
theorem zg6 (a:Nat):∀ (j:Nat) (d:Array zag),(insInner lt a j d).size=d.size
 | 0,d=>rfl
 | j+1,d=>by
   unfold insInner; split
   · rw [zg6 a j,zaR]
   · rfl
theorem znS (a:Nat):∀ (j:Nat) (d:Array zag),j < d.size→AllA P d→AllA P (insInner lt a j d)
 | 0,d,_,h=>h
 | j+1,d,hj,h=>by
   unfold insInner; split
   · exact znS a j _ (by rw [zaR]; omega) (h.swp hj (by omega))
   · exact h
theorem k_ins1 (hc:Cmp lt P) (a0:List zag) (a b:Nat):∀ (k i:Nat) (d:Array zag),b≤i+k→a0.length=d.size→AllA P d→b≤d.size→d.size≤1000000→i≤1000000→zcu a0 (a:Int) (b:Int) (Er d) (i:Int)=some (zap.enc (insOuter lt a b i d).toList):=by
 intro k
 induction k with
 | zero=>intro i d hk hn hP hb hs hi; refine zhy _ _ _ _ _ ?_; unfold insOuter; rw [zaD,iNQ,iNQ]; rfl
 | succ k ih =>
   intro i d hk hn hP hb hs hi; refine zhy _ _ _ _ _ ?_; unfold insOuter; rw [zaD]; by_cases hib:i < b
   · rw [iPQ,if_pos hib]; refine k_ins2 hc a0 a b i i d _ hn hP (by omega) hs hi ?_; exact ih (i+1) _ (by omega) (by rw [zg6]; exact hn) (znS a i d (by omega) hP) (by rw [zg6]; exact hb) (by rw [zg6]; exact hs) (by omega)
   · rw [iNQ,if_neg hib]; rfl
abbrev mA (d:Array zag):Mem:=[(1000,⟨8,zao,Er d,false⟩)]
abbrev rA (d:Array zag):AV:=.row 1000 8 0 (List.length (Er d))
theorem zt9 (hc:Cmp lt P) (d:Array zag) (a b:Nat) (hP:AllA P d) (hab:a≤b) (hb:b≤d.size) (hs:d.size≤100000):cw zfD [rA d,I (a:Int),I (b:Int),.fn zaf []] (mA d)=some (zap.enc (insertionSort lt d a b).toList):=by
 refine zmz d.toList _ _ ?_; have e:w64 ((a:Int)+1)=((a+1:Nat):Int):=by rw [w6Q]; omega
 rw [e]; exact k_ins1 hc d.toList a b b (a+1) d (by omega) (by simp) hP hb (by omega) (by omega)
theorem znZ (hi first:Nat):∀ (k root:Nat) (d:Array zag),hi≤root+k→first+hi≤d.size→AllA P d→AllA P (siftDown lt hi first root d)∧(siftDown lt hi first root d).size=d.size:=by
 intro k
 induction k with
 | zero=>intro root d hk hs h; unfold siftDown; rw [dif_pos (by omega)]; exact ⟨h,rfl⟩
 | succ k ih =>
   intro root d hk hs h; unfold siftDown; split
   · exact ⟨h,rfl⟩
   · rename_i h1; split
     · split
       · exact ⟨h,rfl⟩
       · split
         · rename_i h2; have:=ih (2*root+2) (swp d (first+root) (first+(2*root+2))) (by omega) (by rw [zaR]; exact hs) (h.swp (by omega) (by omega)); rw [zaR] at this; exact this
         · exact ⟨h,rfl⟩
     · split
       · exact ⟨h,rfl⟩
       · have:=ih (2*root+1) (swp d (first+root) (first+(2*root+1))) (by omega) (by rw [zaR]; exact hs) (h.swp (by omega) (by omega)); rw [zaR] at this; exact this
theorem k_sift (hc:Cmp lt P) (a0:List zag) (hi first:Nat):∀ (k root:Nat) (d:Array zag),hi≤root+k→first+hi≤d.size→a0.length=d.size→AllA P d→d.size≤100000→root≤100000→zdD a0 (hi:Int) (first:Int) (Er d) (root:Int)=some (zap.enc (siftDown lt hi first root d).toList):=by
 intro k
 induction k with
 | zero=>intro root d hk hs hn hP hsz hr; refine zi5 _ _ _ _ _ ?_; unfold siftDown; rw [w6Q (n:=2*(root:Int)),w6Q (n:=2*(root:Int)+1),zaD,iPQ,dif_pos (by omega)]; rfl
 | succ k ih =>
   intro root d hk hs hn hP hsz hr; refine zi5 _ _ _ _ _ ?_; unfold siftDown; have e1:w64 (w64 (2*(root:Int))+1)=((2*root+1:Nat):Int):=by rw [w6Q (n:=2*(root:Int)),w6Q]; omega
   have e2:w64 (((2*root+1:Nat):Int)+1)=((2*root+2:Nat):Int):=by rw [w6Q]; omega
   have e3:w64 ((first:Int)+((2*root+1:Nat):Int))=((first+(2*root+1):Nat):Int):=by rw [w6Q]; omega
   have e4:w64 (((first+(2*root+1):Nat):Int)+1)=((first+(2*root+1)+1:Nat):Int):=by rw [w6Q]; omega
   have e5:w64 ((first:Int)+(root:Int))=((first+root:Nat):Int):=by rw [w6Q]; omega
   have e6:w64 ((first:Int)+((2*root+2:Nat):Int))=((first+(2*root+2):Nat):Int):=by rw [w6Q]; omega
   rw [e1,e2,e3,e4,zaD,zaq]; by_cases h1:2*root+1 ≥ hi
   · rw [iPQ,dif_pos h1]; rfl
   · rw [iNQ,dif_neg h1,zaD]
     have low:zdX a0 (hi:Int) (first:Int) (Er d) (root:Int)=some (zap.enc (if (!lt d[first+root]! d[first+(2*root+1)]!)=true then d else siftDown lt hi first (2*root+1) (swp d (first+root) (first+(2*root+1)))).toList):=by
      refine zlC _ _ _ _ _ ?_; rw [e1,e3,e5,zaq,rdA hn (by omega),rdA hn (by omega),hc.stepN (hP _ (by omega)) (hP _ (by omega))]
      cases hl:lt d[first+root]! d[first+(2*root+1)]! with
      | false=>rw [zax,if_pos (by simp)]; rfl
      | true=>rw [zaF,iNs,rdA hn (by omega),rdA hn (by omega),rdA hn (by omega),rdS hn (by omega),swpE]; exact ih (2*root+1) _ (by omega) (by rw [zaR]; exact hs) (by rw [zaR]; exact hn) (hP.swp (by omega) (by omega)) (by rw [zaR]; exact hsz) (by omega)
     by_cases h2:2*root+1+1 < hi
     · rw [iPQ,rdA hn (by omega),rdA hn (by omega),hc.step (hP _ (by omega)) (hP _ (by omega))]
       cases hl:lt d[first+(2*root+1)]! d[first+(2*root+1)+1]! with
       | false=>rw [zax,iNs]; exact low
       | true =>
         rw [zaF,if_pos (by simpa using h2)]; refine zmF _ _ _ _ _ ?_; rw [e1,e2,e5,e6,zaq,rdA hn (by omega),rdA hn (by omega),hc.stepN (hP _ (by omega)) (hP _ (by omega))]
         cases hl2:lt d[first+root]! d[first+(2*root+2)]! with
         | false=>rw [zax,if_pos (by simp)]; rfl
         | true=>rw [zaF,iNs,dif_pos (by omega),rdA hn (by omega),rdA hn (by omega),rdA hn (by omega),rdS hn (by omega),swpE]; exact ih (2*root+2) _ (by omega) (by rw [zaR]; exact hs) (by rw [zaR]; exact hn) (hP.swp (by omega) (by omega)) (by rw [zaR]; exact hsz) (by omega)
     · rw [iNQ,if_neg (by simp; omega)]; exact low
theorem c_sift (hc:Cmp lt P) (d:Array zag) (root hi first:Nat) (hs:first+hi≤d.size) (hP:AllA P d) (hsz:d.size≤100000) (hr:root≤100000):cw zdZ [rA d,I (root:Int),I (hi:Int),I (first:Int),.fn zaf []] (mA d)=some (zap.enc (siftDown lt hi first root d).toList):=
 zoI d.toList _ _ _ (k_sift hc d.toList hi first hi root d (by omega) hs (by simp) hP hsz hr)
theorem row_eq {a0:List zag} {d:Array zag} (h:a0.length=d.size):AV.row 1000 8 0 ((List.map zad a0).length)=rA d:=by show AV.row 1000 8 0 _=AV.row 1000 8 0 _; rw [zaq,lenE,h]
theorem k_heap2 (hc:Cmp lt P) (a0:List zag) (first:Nat):∀ (k:Nat) (d:Array zag),first+k≤d.size→a0.length=d.size→AllA P d→d.size≤100000→zeM a0 (first:Int) (Er d) ((k:Int) - 1)=some (zap.enc (heapPop lt first k d).toList):=by
 intro k
 induction k with
 | zero=>intro d hs hn hP hsz; refine zi4 _ _ _ _ ?_; rw [zaD,iNQ]; rfl
 | succ k ih =>
   intro d hs hn hP hsz; refine zi4 _ _ _ _ ?_; have e0:((k+1:Nat):Int) - 1=(k:Int):=by omega
   have e1:w64 ((first:Int)+(k:Int))=((first+k:Nat):Int):=by rw [w6Q]; omega
   have e2:w64 ((k:Int) - 1)=(k:Int) - 1:=w64_id (by omega) (by omega); have hP':=hP.swp (i:=first) (j:=first+k) (by omega) (by omega); have hsi:=znZ (lt:=lt) k first k 0 (swp d first (first+k)) (by omega) (by rw [zaR]; omega) hP'
   rw [e0,zaD,iPQ,e1,e2,zaq,rdA hn (by omega),rdA hn (by omega),rdA hn (by omega),rdS hn (by omega),swpE]
   have hrow:AV.row 1000 8 0 a0.length=rA (swp d first (first+k)):=by
    have:=row_eq (a0:=a0) (d:=swp d first (first+k)) (by rw [zaR]; exact hn)
    rwa [zaq] at this
   have hcs:cw zdZ [rA (swp d first (first+k)),I 0,I (k:Int),I (first:Int),.fn zaf []] (mA (swp d first (first+k)))=some (zap.enc (siftDown lt k first 0 (swp d first (first+k))).toList):=
    c_sift hc _ 0 k first (by rw [zaR]; omega) hP' (by rw [zaR]; exact hsz) (by omega)
   rw [hrow,za8 hcs]; have h3:(siftDown lt k first 0 (swp d first (first+k))).size=d.size:=by rw [hsi.2,zaR]
   exact ih _ (by rw [h3]; omega) (by rw [h3]; exact hn) hsi.1 (by rw [h3]; exact hsz)
theorem k_heap1 (hc:Cmp lt P) (a0:List zag) (a b:Nat) (hab:a≤b):∀ (k:Nat) (d:Array zag),k≤100000→b≤d.size→a0.length=d.size→AllA P d→d.size≤100000→zeL a0 (a:Int) (b:Int) (Er d) ((k:Int) - 1)=some (zap.enc (heapPop lt a (b - a) (heapBuild lt (b - a) a k d)).toList):=by
 intro k
 induction k with
 | zero =>
   intro d hk hb hn hP hsz; refine zi3 _ _ _ _ _ ?_; have e:w64 (w64 ((b:Int) - (a:Int)) - 1)=((b - a:Nat):Int) - 1:=by rw [w6Q (n:=(b:Int) - a),w6Q]; omega
   rw [zaD,iNQ,e]; exact k_heap2 hc a0 a (b - a) d (by omega) hn hP hsz
 | succ k ih =>
   intro d hk hb hn hP hsz; refine zi3 _ _ _ _ _ ?_; have e0:((k+1:Nat):Int) - 1=(k:Int):=by omega
   have e1:w64 ((b:Int) - (a:Int))=((b - a:Nat):Int):=by rw [w6Q]; omega
   have e2:w64 ((k:Int) - 1)=(k:Int) - 1:=w64_id (by omega) (by omega); have hsi:=znZ (lt:=lt) (b - a) a (b - a) k d (by omega) (by omega) hP; rw [e0,zaD,iPQ,e1,e2,row_eq hn,za8 (c_sift hc d k (b - a) a (by omega) hP hsz (by omega))]; exact ih _ (by omega) (by rw [hsi.2]; exact hb) (by rw [hsi.2]; exact hn) hsi.1 (by rw [hsi.2]; exact hsz)
theorem c_heap (hc:Cmp lt P) (d:Array zag) (a b:Nat) (hP:AllA P d) (hab:a < b) (hb:b≤d.size) (hs:d.size≤100000):cw zgF [rA d,I (a:Int),I (b:Int),.fn zaf []] (mA d)=some (zap.enc (heapSort lt d a b).toList):=by
 refine zoH d.toList _ _ ?_; have e0:w64 (w64 ((b:Int) - (a:Int)) - 1)=((b - a - 1:Nat):Int):=by rw [w6Q (n:=(b:Int) - a),w6Q]; omega
 have e1:(((b - a - 1:Nat):Int)).tdiv 2=(((b - a - 1) / 2:Nat):Int):=rfl; have e2:w64 (((b - a - 1) / 2:Nat):Int)=(((b - a - 1) / 2+1:Nat):Int) - 1:=by rw [w6Q]; omega
 rw [cPQ,e0,e1,e2]; exact k_heap1 hc d.toList a b (by omega) ((b - a - 1) / 2+1) d (by omega) hb (by simp) hP hs
theorem zxV (a0:List zag):∀ (k i j:Nat) (d:Array zag),j≤i+k→j < d.size∨j≤i→a0.length=d.size→d.size≤100000→i≤100000→zd6 a0 (Er d) (i:Int) (j:Int)=some (zap.enc (reverseLoop i j d).toList):=by
 intro k
 induction k with
 | zero=>intro i j d hk hj hn hs hi; refine zh0 _ _ _ _ ?_; unfold reverseLoop; rw [zaD,iNQ,iNQ]; rfl
 | succ k ih =>
   intro i j d hk hj hn hs hi; refine zh0 _ _ _ _ ?_; unfold reverseLoop; rw [zaD]; by_cases hij:i < j
   · have e1:w64 ((i:Int)+1)=((i+1:Nat):Int):=by rw [w6Q]; omega
     have e2:w64 ((j:Int) - 1)=((j - 1:Nat):Int):=by rw [w6Q]; omega
     rw [iPQ,if_pos hij,zaq,rdA hn (by omega),rdA hn (by omega),rdA hn (by omega),rdS hn (by omega),swpE,e1,e2]; exact ih (i+1) (j - 1) _ (by omega) (by rw [zaR]; omega) (by rw [zaR]; exact hn) (by rw [zaR]; exact hs) (by omega)
   · rw [iNQ,if_neg hij]; rfl
theorem zrB (d:Array zag) (a b:Nat) (hab:a < b) (hb:b≤d.size) (hs:d.size≤100000):cw zes [rA d,I (a:Int),I (b:Int),.fn zaf []] (mA d)=some (zap.enc (reverseRange d a b).toList):=by
 refine zmW d.toList _ _ ?_; have e:w64 ((b:Int) - 1)=((b - 1:Nat):Int):=by rw [w6Q]; omega
 rw [e]; exact zxV d.toList b a (b - 1) d (by omega) (by omega) (by simp) hs (by omega)
end
section
variable {lt:zag→zag→Bool} {P:zag→Prop}
theorem up1 {i:Nat} (h:i≤1000000):w64 ((i:Int)+1)=((i+1:Nat):Int):=by rw [w6Q]; omega
theorem dn1 {i:Nat} (h0:1≤i) (h:i≤1000000):w64 ((i:Int) - 1)=((i - 1:Nat):Int):=by rw [w6Q]; omega
theorem zci (p:zag→Bool) (d:Array zag) (j i:Nat):scanUp p d j i=if (decide (i≤j) && p d[i]!)=true then scanUp p d j (i+1) else i:=by conv=>lhs; unfold scanUp
theorem zc8 (p:zag→Bool) (d:Array zag) (i:Nat) {j:Nat} (hj:1≤j):scanDown p d i j=if (decide (i≤j) && p d[j]!)=true then scanDown p d i (j - 1) else j:=by
 obtain ⟨k,rfl⟩:∃ k,j=k+1:=⟨j - 1,by omega⟩
 rfl
theorem zkI (p:zag→Bool) (d:Array zag) (j:Nat):∀ (k i:Nat),j≤i+k→i≤j+1→scanUp p d j i≤j+1
 | 0,i,hk,hi=>by
   rw [zci]; split
   · rw [zci]; rename_i h; simp only [zcm,decide_eq_true_eq] at h; rw [if_neg (by simp; omega)]; omega
   · exact hi
 | k+1,i,hk,hi=>by
   rw [zci]; split
   · rename_i h; simp only [zcm,decide_eq_true_eq] at h; exact zkI p d j k (i+1) (by omega) (by omega)
   · exact hi
theorem ziP (p:zag→Bool) (d:Array zag) (i:Nat) (hi:1≤i):∀ (j:Nat),i≤j+1→i≤scanDown p d i j+1
 | 0,h=>by simpa [scanDown] using h
 | j+1,h=>by
   unfold scanDown; split
   · rename_i h1; simp only [zcm,decide_eq_true_eq] at h1; exact ziP p d i hi j (by omega)
   · omega
theorem ziQ (p:zag→Bool) (d:Array zag) (j:Nat):∀ (k i:Nat),j+1≤i+k→scanUp p d j i≤j→p d[scanUp p d j i]! = false
 | 0,i,hk,h=>by rw [zci,if_neg (by simp; omega)] at h; omega
 | k+1,i,hk,h=>by
   rw [zci] at h ⊢; split
   · rename_i h1; rw [if_pos h1] at h; exact ziQ p d j k (i+1) (by omega) h
   · rename_i h1; rw [if_neg h1] at h; simp only [zcm,decide_eq_true_eq,not_and,zvK] at h1; exact h1 h
theorem zg8 (q:zag→Bool) (d:Array zag) (i:Nat) (hi:1≤i):∀ (j:Nat),i≤scanDown q d i j→q d[scanDown q d i j]! = false
 | 0,h=>by simp [scanDown] at h; omega
 | j+1,h=>by
   unfold scanDown at h ⊢; split
   · rename_i h1; rw [if_pos h1] at h; exact zg8 q d i hi j h
   · rename_i h1; rw [if_neg h1] at h; simp only [zcm,decide_eq_true_eq,not_and,zvK] at h1; exact h1 h
abbrev rPart (m:Nat) (b:Bool) (d:Array zag):Option (AV×Mem):=some (zdP.enc ((( m:Int),b),d.toList))
theorem zvh (hc:Cmp lt P) (a0:List zag) (a:Nat) (d:Array zag) (hn:a0.length=d.size) (hP:AllA P d) (hs:d.size≤100000) (ha:a < d.size) (j:Nat) (hj:j < d.size) (y:AV×Mem):∀ (k i:Nat),j+1≤i+k→i≤100001→zdq a0 (a:Int) (Er d) (j:Int) ((scanUp (fun x=>lt x d[a]!) d j i:Nat):Int)=some y→zeA a0 (a:Int) (Er d) (j:Int) (i:Int)=some y:=by
 intro k
 induction k with
 | zero=>intro i hk hi h; refine ziI _ _ _ _ _ ?_; rw [zci,if_neg (by simp; omega)] at h; rw [zaD,iNQ]; exact h
 | succ k ih =>
   intro i hk hi h; refine ziI _ _ _ _ _ ?_; rw [zci] at h; rw [zaD,up1 (by omega),zaq]; by_cases hij:i≤j
   · rw [iPQ,rdA hn (by omega),rdA hn ha,hc.step (hP _ (by omega)) (hP _ ha)]
     cases hl:lt d[i]! d[a]! with
     | true=>rw [hl,if_pos (by simpa using hij)] at h; rw [zaF]; exact ih (i+1) (by omega) (by omega) h
     | false=>rw [hl,iNs] at h; rw [zax]; exact h
   · rw [if_neg (by simp; omega)] at h; rw [iNQ]; exact h
theorem k_part5 (hc:Cmp lt P) (a0:List zag) (a:Nat) (d:Array zag) (hn:a0.length=d.size) (hP:AllA P d) (hs:d.size≤100000) (ha:a < d.size) (i:Nat) (hi:1≤i) (hi2:i≤100001) (y:AV×Mem):∀ (j:Nat),j < d.size→i≤j+1→zcc a0 (a:Int) (Er d) (i:Int) ((scanDown (fun x=>!lt x d[a]!) d i j:Nat):Int)=some y→zei a0 (a:Int) (Er d) (i:Int) (j:Int)=some y:=by
 intro j
 induction j with
 | zero=>intro hj hij h; refine zif _ _ _ _ _ ?_; rw [zaD,iNQ]; exact h
 | succ j ih =>
   intro hj hij h; refine zif _ _ _ _ _ ?_; rw [zc8 _ _ _ (by omega)] at h; rw [zaD,dn1 (by omega) (by omega),zaq]; by_cases hle:i≤j+1
   · rw [iPQ,rdA hn (by omega),rdA hn ha,hc.stepN (hP _ (by omega)) (hP _ ha)]
     cases hl:lt d[j+1]! d[a]! with
     | false =>
       rw [hl,if_pos (by simpa using hle)] at h; rw [zax]; by_cases h0:i≤j+1 - 1+1
       · exact ih (by omega) h0 h
       · omega
     | true=>rw [hl,iNs] at h; rw [zaF]; exact h
   · rw [if_neg (by simp; omega)] at h; rw [iNQ]; exact h
theorem ztt (hc:Cmp lt P) (a0:List zag) (a:Nat) (d:Array zag) (hn:a0.length=d.size) (hP:AllA P d) (hs:d.size≤100000) (ha:a < d.size) (i:Nat) (hi:1≤i) (hi2:i≤100001) (y:AV×Mem)
  (j:Nat) (hj:j < d.size) (hij:i≤j+1) (h:zcc a0 (a:Int) (Er d) (i:Int) ((scanDown (fun x=>!lt x d[a]!) d i j:Nat):Int)=some y):zdq a0 (a:Int) (Er d) (j:Int) (i:Int)=some y:=by
 refine znu _ _ _ _ _ ?_; by_cases h0:j=0
 · subst h0; rw [zaD,iNQ]; exact h
 · rw [zc8 _ _ _ (by omega)] at h; rw [zaD,dn1 (by omega) (by omega),zaq]; by_cases hle:i≤j
   · rw [iPQ,rdA hn (by omega),rdA hn ha,hc.stepN (hP _ (by omega)) (hP _ ha)]
     cases hl:lt d[j]! d[a]! with
     | false=>rw [hl,if_pos (by simpa using hle)] at h; rw [zax]; exact k_part5 hc a0 a d hn hP hs ha i hi hi2 y (j - 1) (by omega) (by omega) h
     | true=>rw [hl,iNs] at h; rw [zaF]; exact h
   · rw [if_neg (by simp; omega)] at h; rw [iNQ]; exact h
theorem zwl (hc:Cmp lt P) (a0:List zag) (a:Nat):∀ (n i j:Nat) (d:Array zag),j+1 - i≤n→a < i→i≤j+1→j < d.size→a0.length=d.size→AllA P d→d.size≤100000→zez a0 (a:Int) (Er d) (i:Int) (j:Int)=rPart (partLoop lt a i j d).1 false (swp (partLoop lt a i j d).2 (partLoop lt a i j d).1 a):=by
 intro n
 induction n with
 | zero =>
   intro i j d hn hai hij hj hl hP hs; refine ziH _ _ _ _ _ ?_; refine zvh hc a0 a d hl hP hs (by omega) j hj _ (j+1) i (by omega) (by omega) ?_; have hu:scanUp (fun x=>lt x d[a]!) d j i=i:=by rw [zci,if_neg (by simp; omega)]
   rw [hu]; refine ztt hc a0 a d hl hP hs (by omega) i (by omega) (by omega) _ j hj hij ?_
   have hd:scanDown (fun x=>!lt x d[a]!) d i j=j:=by
    by_cases h0:j=0
    · subst h0; rfl
    · rw [zc8 _ _ _ (by omega),if_neg (by simp; omega)]
   rw [hd]; refine zhZ _ _ _ _ _ ?_; rw [partLoop_eq]; simp only [hu,hd]; rw [if_pos (show i > j by omega),zaD,iPQ,zaq,rdA hl (by omega),rdA hl (by omega),rdA hl (by omega),rdS hl (by omega),swpE]; rfl
 | succ n ih =>
   intro i j d hn hai hij hj hl hP hs; refine ziH _ _ _ _ _ ?_; refine zvh hc a0 a d hl hP hs (by omega) j hj _ (j+1) i (by omega) (by omega) ?_; have u1:=scanUp_ge (fun x=>lt x d[a]!) d j i; have u2:=zkI (fun x=>lt x d[a]!) d j (j+1) i (by omega) hij; refine ztt hc a0 a d hl hP hs (by omega) _ (by omega) (by omega) _ j hj (by omega) ?_; have d1:=scanDown_le (fun x=>!lt x d[a]!) d (scanUp (fun x=>lt x d[a]!) d j i) j; have d2:=ziP (fun x=>!lt x d[a]!) d (scanUp (fun x=>lt x d[a]!) d j i) (by omega) j (by omega); have u3:=ziQ (fun x=>lt x d[a]!) d j (j+1) i (by omega); have d3:=zg8 (fun x=>!lt x d[a]!) d (scanUp (fun x=>lt x d[a]!) d j i) (by omega) j; refine zhZ _ _ _ _ _ ?_; rw [partLoop_eq]; generalize scanUp (fun x=>lt x d[a]!) d j i=i2 at *; generalize scanDown (fun x=>!lt x d[a]!) d i2 j=j2 at *; rw [zaD]; by_cases hgt:i2 > j2
   · rw [iPQ]; simp only [hgt,if_true]; rw [zaq,rdA hl (by omega),rdA hl (by omega),rdA hl (by omega),rdS hl (by omega),swpE]; rfl
   · rw [iNQ]; simp only [hgt,if_false]; rw [zaq,rdA hl (by omega),rdA hl (by omega),rdA hl (by omega),rdS hl (by omega),swpE,up1 (by omega),dn1 (by omega) (by omega)]; by_cases heq:i2=j2
     · exfalso; have w1:=u3 (by omega); have w2:=d3 (by omega); rw [heq] at w1; rw [w1] at w2; cases w2
     · exact ih (i2+1) (j2 - 1) _ (by omega) (by omega) (by omega) (by rw [zaR]; omega) (by rw [zaR]; exact hl) (hP.swp (by omega) (by omega)) (by rw [zaR]; exact hs)
theorem k_part1 (hc:Cmp lt P) (d0 d:Array zag) (a b pivot:Nat) (c0 c1 c2 c3:zag) (hrow:List.set (List.set (Er d0) (0+((a:Nat):Int).toNat) (zad c0)) (0+((pivot:Nat):Int).toNat) (zad c1)=Er d)
  (hn:d0.toList.length=d.size) (hP:AllA P d) (hs:d.size≤100000) (hab:a < b) (hb:b≤d.size) (y:AV×Mem):∀ (k i:Nat),b≤i+k→a < i→i≤100001→zcM d0.toList (a:Int) (b:Int) (pivot:Int) c0 c1 c2 c3 ((scanUp (fun x=>lt x d[a]!) d (b - 1) i:Nat):Int)=some y→zey d0.toList (a:Int) (b:Int) (pivot:Int) c0 c1 c2 c3 (i:Int)=some y:=by
 have eb:w64 ((b:Int) - 1)=((b - 1:Nat):Int):=dn1 (by omega) (by omega); intro k
 induction k with
 | zero=>intro i hk hai hi h; refine ziG _ _ _ _ _ _ _ _ _ ?_; rw [zci,if_neg (by simp; omega)] at h; rw [zaD,eb,iNQ]; exact h
 | succ k ih =>
   intro i hk hai hi h; refine ziG _ _ _ _ _ _ _ _ _ ?_; rw [zci] at h; rw [zaD,eb,up1 (by omega),zaq,hrow]; by_cases hij:i≤b - 1
   · rw [iPQ,rdA hn (by omega),rdA hn (by omega),hc.step (hP _ (by omega)) (hP _ (by omega))]
     cases hl:lt d[i]! d[a]! with
     | true=>rw [hl,if_pos (by simpa using hij)] at h; rw [zaF]; exact ih (i+1) (by omega) (by omega) (by omega) h
     | false=>rw [hl,iNs] at h; rw [zax]; exact h
   · rw [if_neg (by simp; omega)] at h; rw [iNQ]; exact h
theorem k_part2 (hc:Cmp lt P) (d0 d:Array zag) (a b pivot:Nat) (c0 c1 c2 c3:zag) (hrow:List.set (List.set (Er d0) (0+((a:Nat):Int).toNat) (zad c0)) (0+((pivot:Nat):Int).toNat) (zad c1)=Er d)
  (hn:d0.toList.length=d.size) (hP:AllA P d) (hs:d.size≤100000) (ha:a < d.size) (i:Nat) (hi:1≤i) (hi2:i≤100001) (y:AV×Mem):∀ (j:Nat),j < d.size→i≤j+1→zcb d0.toList (a:Int) (b:Int) (pivot:Int) c0 c1 c2 c3 (i:Int) ((scanDown (fun x=>!lt x d[a]!) d i j:Nat):Int)=some y→zeh d0.toList (a:Int) (b:Int) (pivot:Int) c0 c1 c2 c3 (i:Int) (j:Int)=some y:=by
 intro j
 induction j with
 | zero=>intro hj hij h; refine zie _ _ _ _ _ _ _ _ _ _ ?_; rw [zaD,iNQ]; exact h
 | succ j ih =>
   intro hj hij h; refine zie _ _ _ _ _ _ _ _ _ _ ?_; rw [zc8 _ _ _ (by omega)] at h; rw [zaD,dn1 (by omega) (by omega),zaq,hrow]; by_cases hle:i≤j+1
   · rw [iPQ,rdA hn (by omega),rdA hn ha,hc.stepN (hP _ (by omega)) (hP _ ha)]
     cases hl:lt d[j+1]! d[a]! with
     | false=>rw [hl,if_pos (by simpa using hle)] at h; rw [zax]; exact ih (by omega) (by omega) h
     | true=>rw [hl,iNs] at h; rw [zaF]; exact h
   · rw [if_neg (by simp; omega)] at h; rw [iNQ]; exact h
theorem zua (hc:Cmp lt P) (d0:Array zag) (a b pivot:Nat) (hP0:AllA P d0) (ha:a≤pivot) (hp:pivot < b) (hb:b≤d0.size) (hs0:d0.size≤100000) (hab:a+1 < b):∃ flag:Bool,cw zeV [rA d0,I (a:Int),I (b:Int),I (pivot:Int),.fn zaf []] (mA d0)=rPart (partition lt d0 a b pivot).1 flag (partition lt d0 a b pivot).2.2:=by
 have hn0:d0.toList.length=d0.size:=by simp
 rw [partition_fst,partition_arr]; have hrow:=swpE d0 a pivot; have hP:=hP0.swp (i:=a) (j:=pivot) (by omega) (by omega); have hsz:=zaR d0 a pivot; generalize hd:swp d0 a pivot=d at *; have hn:d0.toList.length=d.size:=by rw [hn0,hsz]
 have eb:w64 ((b:Int) - 1)=((b - 1:Nat):Int):=dn1 (by omega) (by omega); have u1:=scanUp_ge (fun x=>lt x d[a]!) d (b - 1) (a+1); have u2:=zkI (fun x=>lt x d[a]!) d (b - 1) b (a+1) (by omega) (by omega); have u3:=ziQ (fun x=>lt x d[a]!) d (b - 1) b (a+1) (by omega); rw [partLoop_eq]
 have head:∀ y,zcM d0.toList (a:Int) (b:Int) (pivot:Int) d0[pivot]! d0[a]! d0[a]! (d0.setIfInBounds a d0[pivot]!)[pivot]! ((scanUp (fun x=>lt x d[a]!) d (b - 1) (a+1):Nat):Int)=some y→cw zeV [rA d0,I (a:Int),I (b:Int),I (pivot:Int),.fn zaf []] (mA d0)=some y:=by intro y h; refine zog d0.toList _ _ _ ?_; rw [zaq,rdA hn0 (by omega),rdA hn0 (by omega),rdA hn0 (by omega),rdS hn0 (by omega),up1 (by omega)]; exact k_part1 hc d0 d a b pivot _ _ _ _ hrow hn hP (by omega) (by omega) (by omega) _ b (a+1) (by omega) (by omega) (by omega) h
 generalize scanUp (fun x=>lt x d[a]!) d (b - 1) (a+1)=i at *; have d1:=scanDown_le (fun x=>!lt x d[a]!) d i (b - 1); have d2:=ziP (fun x=>!lt x d[a]!) d i (by omega) (b - 1) (by omega); have d3:=zg8 (fun x=>!lt x d[a]!) d i (by omega) (b - 1)
 have mid:∀ y,zcb d0.toList (a:Int) (b:Int) (pivot:Int) d0[pivot]! d0[a]! d0[a]! (d0.setIfInBounds a d0[pivot]!)[pivot]! (i:Int) ((scanDown (fun x=>!lt x d[a]!) d i (b - 1):Nat):Int)=some y→zcM d0.toList (a:Int) (b:Int) (pivot:Int) d0[pivot]! d0[a]! d0[a]! (d0.setIfInBounds a d0[pivot]!)[pivot]! (i:Int)=some y:=by
  intro y h; refine znt _ _ _ _ _ _ _ _ _ ?_; rw [zaD,eb,hrow,zaq]; rw [zc8 _ _ _ (by omega)] at h; by_cases hle:i≤b - 1
  · rw [iPQ,rdA hn (by omega),rdA hn (by omega),hc.stepN (hP _ (by omega)) (hP _ (by omega)),dn1 (by omega) (by omega)]
    cases hl:lt d[b - 1]! d[a]! with
    | false=>rw [hl,if_pos (by simpa using hle)] at h; rw [zax]; exact k_part2 hc d0 d a b pivot _ _ _ _ hrow hn hP (by omega) (by omega) i (by omega) (by omega) _ (b - 1 - 1) (by omega) (by omega) h
    | true=>rw [hl,iNs] at h; rw [zaF]; exact h
  · rw [if_neg (by simp; omega)] at h; rw [iNQ]; exact h
 generalize scanDown (fun x=>!lt x d[a]!) d i (b - 1)=j at *; by_cases hgt:i > j
 · refine ⟨true,head _ (mid _ (zhY _ _ _ _ _ _ _ _ _ _ ?_))⟩; rw [zaD,hrow,zaq,iPQ,if_pos hgt,rdA hn (by omega),rdA hn (by omega),rdA hn (by omega),rdS hn (by omega),swpE]; rfl
 · refine ⟨false,head _ (mid _ (zhY _ _ _ _ _ _ _ _ _ _ ?_))⟩
   have hne:i≠j:=by intro heq; have w1:=u3 (by omega); have w2:=d3 (by omega); rw [heq] at w1; rw [w1] at w2; cases w2
   rw [zaD,hrow,zaq,iNQ,if_neg hgt,rdA hn (by omega),rdA hn (by omega),rdA hn (by omega),rdS hn (by omega),swpE,up1 (by omega),dn1 (by omega) (by omega)]; exact zwl hc d0.toList a (j+1) (i+1) (j - 1) _ (by omega) (by omega) (by omega) (by rw [zaR]; omega) (by rw [zaR]; exact hn) (hP.swp (by omega) (by omega)) (by rw [zaR]; omega)
abbrev rEq (m:Nat) (d:Array zag):Option (AV×Mem):=some (zcB.enc ((m:Int),d.toList))
theorem k_eq2 (hc:Cmp lt P) (a0:List zag) (a:Nat) (d:Array zag) (hn:a0.length=d.size) (hP:AllA P d) (hs:d.size≤100000) (ha:a < d.size) (j:Nat) (hj:j < d.size) (y:AV×Mem):∀ (k i:Nat),j+1≤i+k→i≤100001→zcP a0 (a:Int) (Er d) (j:Int) ((scanUp (fun x=>!lt d[a]! x) d j i:Nat):Int)=some y→zdN a0 (a:Int) (Er d) (j:Int) (i:Int)=some y:=by
 intro k
 induction k with
 | zero=>intro i hk hi h; refine zht _ _ _ _ _ ?_; rw [zci,if_neg (by simp; omega)] at h; rw [zaD,iNQ]; exact h
 | succ k ih =>
   intro i hk hi h; refine zht _ _ _ _ _ ?_; rw [zci] at h; rw [zaD,up1 (by omega),zaq]; by_cases hij:i≤j
   · rw [iPQ,rdA hn ha,rdA hn (by omega),hc.stepN (hP _ ha) (hP _ (by omega))]
     cases hl:lt d[a]! d[i]! with
     | false=>rw [hl,if_pos (by simpa using hij)] at h; rw [zax]; exact ih (i+1) (by omega) (by omega) h
     | true=>rw [hl,iNs] at h; rw [zaF]; exact h
   · rw [if_neg (by simp; omega)] at h; rw [iNQ]; exact h
theorem k_eq3 (hc:Cmp lt P) (a0:List zag) (a:Nat) (d:Array zag) (hn:a0.length=d.size) (hP:AllA P d) (hs:d.size≤100000) (ha:a < d.size) (i:Nat) (hi:1≤i) (hi2:i≤100001) (y:AV×Mem):∀ (j:Nat),j < d.size→i≤j+1→zbS a0 (a:Int) (Er d) (i:Int) ((scanDown (fun x=>lt d[a]! x) d i j:Nat):Int)=some y→zdu a0 (a:Int) (Er d) (i:Int) (j:Int)=some y:=by
 intro j
 induction j with
 | zero=>intro hj hij h; refine zg4 _ _ _ _ _ ?_; rw [zaD,iNQ]; exact h
 | succ j ih =>
   intro hj hij h; refine zg4 _ _ _ _ _ ?_; rw [zc8 _ _ _ (by omega)] at h; rw [zaD,dn1 (by omega) (by omega),zaq]; by_cases hle:i≤j+1
   · rw [iPQ,rdA hn ha,rdA hn (by omega),hc.step (hP _ ha) (hP _ (by omega))]
     cases hl:lt d[a]! d[j+1]! with
     | true=>rw [hl,if_pos (by simpa using hle)] at h; rw [zaF]; exact ih (by omega) (by omega) h
     | false=>rw [hl,iNs] at h; rw [zax]; exact h
   · rw [if_neg (by simp; omega)] at h; rw [iNQ]; exact h
theorem k_eq3' (hc:Cmp lt P) (a0:List zag) (a:Nat) (d:Array zag) (hn:a0.length=d.size) (hP:AllA P d) (hs:d.size≤100000) (ha:a < d.size) (i:Nat) (hi:1≤i) (hi2:i≤100001) (y:AV×Mem)
  (j:Nat) (hj:j < d.size) (hij:i≤j+1) (h:zbS a0 (a:Int) (Er d) (i:Int) ((scanDown (fun x=>lt d[a]! x) d i j:Nat):Int)=some y):zcP a0 (a:Int) (Er d) (j:Int) (i:Int)=some y:=by
 refine zlw _ _ _ _ _ ?_; by_cases h0:j=0
 · subst h0; rw [zaD,iNQ]; exact h
 · rw [zc8 _ _ _ (by omega)] at h; rw [zaD,dn1 (by omega) (by omega),zaq]; by_cases hle:i≤j
   · rw [iPQ,rdA hn ha,rdA hn (by omega),hc.step (hP _ ha) (hP _ (by omega))]
     cases hl:lt d[a]! d[j]! with
     | true=>rw [hl,if_pos (by simpa using hle)] at h; rw [zaF]; exact k_eq3 hc a0 a d hn hP hs ha i hi hi2 y (j - 1) (by omega) (by omega) h
     | false=>rw [hl,iNs] at h; rw [zax]; exact h
   · rw [if_neg (by simp; omega)] at h; rw [iNQ]; exact h
theorem zz7 (hc:Cmp lt P) (a0:List zag) (a:Nat):∀ (n i j:Nat) (d:Array zag),j+1 - i≤n→a < i→i≤j+1→j < d.size→a0.length=d.size→AllA P d→d.size≤100000→zdM a0 (a:Int) (Er d) (i:Int) (j:Int)=rEq (partEqLoop lt a i j d).1 (partEqLoop lt a i j d).2:=by
 intro n
 induction n with
 | zero =>
   intro i j d hn hai hij hj hl hP hs; refine zhs _ _ _ _ _ ?_; refine k_eq2 hc a0 a d hl hP hs (by omega) j hj _ (j+1) i (by omega) (by omega) ?_; have hu:scanUp (fun x=>!lt d[a]! x) d j i=i:=by rw [zci,if_neg (by simp; omega)]
   rw [hu]; refine k_eq3' hc a0 a d hl hP hs (by omega) i (by omega) (by omega) _ j hj hij ?_
   have hd:scanDown (fun x=>lt d[a]! x) d i j=j:=by
    by_cases h0:j=0
    · subst h0; rfl
    · rw [zc8 _ _ _ (by omega),if_neg (by simp; omega)]
   rw [hd]; refine zgO _ _ _ _ _ ?_; rw [partEqLoop_eq,hu,hd,if_pos (show i > j by omega),zaD,iPQ]; rfl
 | succ n ih =>
   intro i j d hn hai hij hj hl hP hs; refine zhs _ _ _ _ _ ?_; refine k_eq2 hc a0 a d hl hP hs (by omega) j hj _ (j+1) i (by omega) (by omega) ?_; have u1:=scanUp_ge (fun x=>!lt d[a]! x) d j i; have u2:=zkI (fun x=>!lt d[a]! x) d j (j+1) i (by omega) hij; refine k_eq3' hc a0 a d hl hP hs (by omega) _ (by omega) (by omega) _ j hj (by omega) ?_; have d1:=scanDown_le (fun x=>lt d[a]! x) d (scanUp (fun x=>!lt d[a]! x) d j i) j; have d2:=ziP (fun x=>lt d[a]! x) d (scanUp (fun x=>!lt d[a]! x) d j i) (by omega) j (by omega); have u3:=ziQ (fun x=>!lt d[a]! x) d j (j+1) i (by omega); have d3:=zg8 (fun x=>lt d[a]! x) d (scanUp (fun x=>!lt d[a]! x) d j i) (by omega) j; refine zgO _ _ _ _ _ ?_; rw [partEqLoop_eq]; generalize scanUp (fun x=>!lt d[a]! x) d j i=i2 at *; generalize scanDown (fun x=>lt d[a]! x) d i2 j=j2 at *; rw [zaD]; by_cases hgt:i2 > j2
   · rw [iPQ,if_pos hgt]; rfl
   · have hne:i2≠j2:=by intro heq; have w1:=u3 (by omega); have w2:=d3 (by omega); rw [heq,w2] at w1; cases w1
     rw [iNQ,if_neg hgt,zaq,rdA hl (by omega),rdA hl (by omega),rdA hl (by omega),rdS hl (by omega),swpE,up1 (by omega),dn1 (by omega) (by omega)]; exact ih (i2+1) (j2 - 1) _ (by omega) (by omega) (by omega) (by rw [zaR]; omega) (by rw [zaR]; exact hl) (hP.swp (by omega) (by omega)) (by rw [zaR]; exact hs)
theorem zjF (hc:Cmp lt P) (d0:Array zag) (a b pivot:Nat) (hP0:AllA P d0) (ha:a≤pivot) (hp:pivot < b) (hb:b≤d0.size) (hs0:d0.size≤100000):cw zd2 [rA d0,I (a:Int),I (b:Int),I (pivot:Int),.fn zaf []] (mA d0)=rEq (partitionEqual lt d0 a b pivot).1 (partitionEqual lt d0 a b pivot).2:=by
 have hn0:d0.toList.length=d0.size:=by simp
 refine zlX d0.toList _ _ _ ?_; rw [zaq,rdA hn0 (by omega),rdA hn0 (by omega),rdA hn0 (by omega),rdS hn0 (by omega),up1 (by omega),dn1 (by omega) (by omega),swpE]; exact zz7 hc d0.toList a b (a+1) (b - 1) _ (by omega) (by omega) (by omega) (by rw [zaR]; omega) (by rw [zaR]; exact hn0) (hP0.swp (by omega) (by omega)) (by rw [zaR]; exact hs0)
theorem rdL {β:Type} {d:Array zag} {i:Nat} (hi:i < d.size) (K:zag→Option β):(chk ((0:Int)≤(i:Int))<|elemD zaL (Er d) (((i:Nat):Int).toNat) K)=K d[i]!:=by rw [cPQ,zba,ztT (D:=zaL) (l:=d.toList) (x:=d[i]!) (by simp [hi])]
abbrev mSw (k:Nat) (s:Int):Mem:=[(k,⟨1,za9,[zan s],true⟩)]
theorem zpn (hc:Cmp lt P) (d:Array zag) (hP:AllA P d) (a b:Nat) (s:Int) (ha:a < d.size) (hb:b < d.size) (hs0:0≤s) (hs:s≤1000):∃ (x y:Nat) (s':Int),cw zeo [.sl 8 (Er d),I (a:Int),I (b:Int),.loc 1003 1 0 0,.fn zaf []] (mSw 1003 s)=some (zbN.enc (((x:Int),(y:Int)),s'))∧((x=a∧y=b)∨(x=b∧y=a))∧0≤s'∧s'≤s+1:=by
 cases hl:lt d[b]! d[a]! with
 | true=>refine ⟨b,a,s+1,zjI d.toList _ _ _ ?_,.inr ⟨rfl,rfl⟩,by omega,by omega⟩; rw [rdL hb,rdL ha,hc.step (hP _ hb) (hP _ ha),hl,zaF,w6Q]; rfl
 | false=>refine ⟨a,b,s,zjI d.toList _ _ _ ?_,.inl ⟨rfl,rfl⟩,by omega,by omega⟩; rw [rdL hb,rdL ha,hc.step (hP _ hb) (hP _ ha),hl,zax]; rfl
theorem zpm (hc:Cmp lt P) (d:Array zag) (hP:AllA P d) (a b c:Nat) (s:Int) (ha:a < d.size) (hb:b < d.size) (hcc:c < d.size) (hs0:0≤s) (hs:s≤900):∃ (x:Nat) (s':Int),cw zen [.sl 8 (Er d),I (a:Int),I (b:Int),I (c:Int),.loc 1004 1 0 0,.fn zaf []] (mSw 1004 s)=some (zbM.enc ((x:Int),s'))∧(x=a∨x=b∨x=c)∧0≤s'∧s'≤s+3:=by obtain ⟨x1,y1,s1,h1,o1,p1,q1⟩:=zpn hc d hP a b s ha hb hs0 (by omega); obtain ⟨x2,y2,s2,h2,o2,p2,q2⟩:=zpn hc d hP y1 c s1 (by omega) hcc p1 (by omega); obtain ⟨x3,y3,s3,h3,o3,p3,q3⟩:=zpn hc d hP x1 x2 s2 (by omega) (by omega) p2 (by omega); refine ⟨y3,s3,zpp d.toList _ _ _ _ ?_,by omega,p3,by omega⟩; rw [za8 h1,za8 h2,za8 h3]; rfl
theorem zhg (hc:Cmp lt P) (d:Array zag) (hP:AllA P d) (a:Nat) (s:Int) (ha:a+1 < d.size) (ha1:1≤a) (hsz:d.size≤100000) (hs0:0≤s) (hs:s≤900):∃ (x:Nat) (s':Int),cw zcZ [.sl 8 (Er d),I (a:Int),.loc 1002 1 0 0,.fn zaf []] (mSw 1002 s)=some (zbn.enc ((x:Int),s'))∧(x=a - 1∨x=a∨x=a+1)∧0≤s'∧s'≤s+3:=by obtain ⟨x,s',h,o,p,q⟩:=zpm hc d hP (a - 1) a (a+1) s (by omega) (by omega) ha hs0 hs; refine ⟨x,s',zlW d.toList _ _ ?_,o,p,q⟩; rw [dn1 ha1 (by omega),up1 (by omega),za8 h]; rfl
set_option maxHeartbeats 1000000 in
theorem zmt (hc:Cmp lt P) (d:Array zag) (hP:AllA P d) (a b:Nat) (hab:a < b) (hb:b≤d.size) (hsz:d.size≤100000):∃ (m:Nat) (h:Int),cw zex [.sl 8 (Er d),I (a:Int),I (b:Int),.fn zaf []] []=some (zbk.enc ((m:Int),h))∧a≤m∧m < b∧(h=0∨h=1∨h=2):=by
 have e0:w64 ((b:Int) - (a:Int))=((b - a:Nat):Int):=by rw [w6Q]; omega
 have e1:(((b - a:Nat):Int)).tdiv 4=(((b - a) / 4:Nat):Int):=rfl; have ew:w64 (((b - a) / 4:Nat):Int)=(((b - a) / 4:Nat):Int):=w64_id (by omega) (by omega)
 have ei:∀ c:Nat,c≤3→w64 ((a:Int)+w64 ((((b - a) / 4:Nat):Int)*(c:Int)))=((a+(b - a) / 4*c:Nat):Int):=fun c hc=>by
  have:(((b - a) / 4:Nat):Int)*(c:Int)=(((b - a) / 4*c:Nat):Int):=by push_cast; rfl
  have h2:(b - a) / 4*c≤(b - a) / 4*3:=zuM _ hc; rw [this,w64_id (n:=(((b - a) / 4*c:Nat):Int)) (by omega) (by omega),w6Q]; omega
 have ei1:=ei 1 (by omega); have ei2:=ei 2 (by omega); have ei3:=ei 3 (by omega); have c1:((1:Nat):Int)=1:=rfl; have c2:((2:Nat):Int)=2:=rfl; have c3:((3:Nat):Int)=3:=rfl; rw [c1] at ei1; rw [c2] at ei2; rw [c3] at ei3
 have fin:∀ (m:Nat) (s:Int),∃ h:Int,(h=0∨h=1∨h=2)∧(brn (s == 0) (some (AV.tup [I (m:Int),I 1],([]:Mem))) (brn (s == 12) (some (.tup [I (m:Int),I 2],[])) (some (.tup [I (m:Int),I 0],[]))))=some (zbk.enc ((m:Int),h)):=by
  intro m s; by_cases hz:s=0
  · exact ⟨1,by omega,by rw [hz]; rfl⟩
  · by_cases hz2:s=12
    · exact ⟨2,by omega,by rw [hz2]; rfl⟩
    · refine ⟨0,by omega,?_⟩; rw [beq_false_of_ne hz,beq_false_of_ne hz2]; rfl
 by_cases h8:8≤b - a
 · by_cases h50:50≤b - a
   · obtain ⟨x1,s1,g1,o1,p1,q1⟩:=zhg hc d hP (a+(b - a) / 4*1) 0 (by omega) (by omega) hsz (by omega) (by omega); have v1:a≤x1∧x1 < b:=by omega
     clear o1; obtain ⟨x2,s2,g2,o2,p2,q2⟩:=zhg hc d hP (a+(b - a) / 4*2) s1 (by omega) (by omega) hsz p1 (by omega); have v2:a≤x2∧x2 < b:=by omega
     clear o2; obtain ⟨x3,s3,g3,o3,p3,q3⟩:=zhg hc d hP (a+(b - a) / 4*3) s2 (by omega) (by omega) hsz p2 (by omega); have v3:a≤x3∧x3 < b:=by omega
     clear o3; obtain ⟨x4,s4,g4,o4,p4,q4⟩:=zpm hc d hP x1 x2 x3 s3 (by omega) (by omega) (by omega) p3 (by omega); have v4:a≤x4∧x4 < b:=by omega
     clear o4; obtain ⟨h,hh,hf⟩:=fin x4 s4; refine ⟨x4,h,zf5 d.toList _ _ ?_,v4.1,v4.2,hh⟩; clear hh; rw [cPQ,cPQ,cPQ,e0,e1,ew,ei1,ei2,ei3,zaD,iPQ,zaD,iPQ,za8 g1,za8 g2,za8 g3]; refine zlv _ _ _ _ ?_; rw [za8 g4]; exact hf
   · obtain ⟨x4,s4,g4,o4,p4,q4⟩:=zpm hc d hP (a+(b - a) / 4*1) (a+(b - a) / 4*2) (a+(b - a) / 4*3) 0 (by omega) (by omega) (by omega) (by omega) (by omega); have v4:a≤x4∧x4 < b:=by omega
     clear o4; obtain ⟨h,hh,hf⟩:=fin x4 s4; refine ⟨x4,h,zf5 d.toList _ _ ?_,v4.1,v4.2,hh⟩; clear hh; rw [cPQ,cPQ,cPQ,e0,zaD,iPQ,zaD,iNQ]; refine zk0 _ _ _ ?_; rw [e0,e1,ew,ei1,ei2,ei3,za8 g4]; exact hf
 · refine ⟨a+(b - a) / 4*2,1,zf5 d.toList _ _ ?_,by omega,by omega,by omega⟩; rw [cPQ,cPQ,cPQ,e0,e1,ew,ei2,zaD,iNQ]; rfl
end
theorem c_Len:∀ n:Nat,n < 256→cw zqc [.v (.int .u64 (n:Int))] []=some (zau.enc ((bitsLen n:Nat):Int)):=by
 repeat (first | exact fun _ h=>absurd h (zvC _) | refine zvX ?_ ?_)
 all_goals exact cw_of 20 (by kernel_rfl)
theorem zoX {n:Nat} (h:n < 256):bitsLen n≤8:=(bitsLen_le_iff n 8).2 (by omega)
theorem zxu (n:Nat) (h:n < 256):cw zgs [I (n:Int)] []=some (zeE.enc ((2 ^ bitsLen n:Nat):Int)):=by
 refine zov _ ?_; have hb:=zoX h; have hp:2 ^ bitsLen n≤2 ^ 8:=Nat.pow_le_pow_right (by omega) hb; rw [zh7 (n:=(n:Int)) (by omega) (by omega),za8 (c_Len n h),cPQ,zba,zuK (by omega)]; have e:(1:Int)*2 ^ bitsLen n=((2 ^ bitsLen n:Nat):Int):=by push_cast; rw [Int.one_mul]
 rw [e]; clear e; have hp':2 ^ bitsLen n≤256:=hp; clear hp; generalize 2 ^ bitsLen n=z at hp' ⊢; rw [zh7 (by omega) (by omega)]; rfl
theorem c_xor (x:Int):∃ v w:Int,cw zgW [.loc 1000 1 0 0] [(1000,⟨1,zck,[zkx x],true⟩)]=some (zg1.enc (v,w)):=by apply Exists.intro; apply Exists.intro; apply zo1; rw [cPQ,cPQ,cPQ]; rfl
section
variable {lt:zag→zag→Bool} {P:zag→Prop}
theorem and_bd (v:Nat) (M:Nat) (h1:1≤M) (h2:M≤1000):v &&& (wu64 ((M:Int) - 1) % Int.ofNat (2 ^ 64)).toNat < M:=by
 have e:(wu64 ((M:Int) - 1) % Int.ofNat (2 ^ 64)).toNat=M - 1:=by rw [zh7 (by omega) (by omega)]; show (((M:Int) - 1) % (18446744073709551616:Int)).toNat=M - 1; omega
 rw [e]; have:=Nat.and_le_right (n:=v) (m:=M - 1); omega
theorem k_break (a0:List zag) (a b M:Nat) (hab:a+8≤b) (hM:1≤M) (hM2:M≤2*(b - a)) (hM3:M≤1000) (hbs:b≤100000):∀ (k i:Nat) (x:Int) (d:Array zag),a+(b - a) / 4*2+2≤i+k→a≤i→a0.length=d.size→b≤d.size→d.size≤100000→∃ d',zcU a0 (a:Int) (b:Int) (M:Int) x (Er d) (i:Int)=some (zap.enc d'.toList)∧PermIn a b d d':=by
 have e0:w64 ((b:Int) - (a:Int))=((b - a:Nat):Int):=by rw [w6Q]; omega
 have e1:(((b - a:Nat):Int)).tdiv 4=(((b - a) / 4:Nat):Int):=rfl; intro k
 induction k with
 | zero =>
   intro i x d hk hi hn hb hs; refine ⟨d,zdY _ _ _ _ _ _ _ ?_,permIn_refl _ _ _⟩
   have e2:w64 (w64 ((a:Int)+w64 (w64 (((b - a:Nat):Int).tdiv 4)*2))+1)=((a+(b - a) / 4*2+1:Nat):Int):=by rw [e1,w64_id (n:=(((b - a) / 4:Nat):Int)) (by omega) (by omega),w64_id (n:=(((b - a) / 4:Nat):Int)*2) (by omega) (by omega),w6Q (n:=(a:Int)+_),w6Q]; omega
   rw [cPQ,e0,e2,zaD,iNQ]; rfl
 | succ k ih =>
   intro i x d hk hi hn hb hs
   have e2:w64 (w64 ((a:Int)+w64 (w64 (((b - a:Nat):Int).tdiv 4)*2))+1)=((a+(b - a) / 4*2+1:Nat):Int):=by rw [e1,w64_id (n:=(((b - a) / 4:Nat):Int)) (by omega) (by omega),w64_id (n:=(((b - a) / 4:Nat):Int)*2) (by omega) (by omega),w6Q (n:=(a:Int)+_),w6Q]; omega
   by_cases hle:i≤a+(b - a) / 4*2+1
   · obtain ⟨v,w,hx⟩:=c_xor x; have hq:=and_bd (v % Int.ofNat (2 ^ 64)).toNat M hM hM3; have hl2:(b - a) / 4*2+1 < b - a:=by omega
     by_cases hge:b - a≤((v % Int.ofNat (2 ^ 64)).toNat &&& (wu64 ((M:Int) - 1) % Int.ofNat (2 ^ 64)).toNat)
     · obtain ⟨d',g1,g2⟩:=ih (i+1) w (swp d i (a+(((v % Int.ofNat (2 ^ 64)).toNat &&& (wu64 ((M:Int) - 1) % Int.ofNat (2 ^ 64)).toNat) - (b - a)))) (by omega) (by omega) (by rw [zaR]; exact hn) (by rw [zaR]; exact hb) (by rw [zaR]; exact hs); refine ⟨d',zdY _ _ _ _ _ _ _ ?_,permIn_trans _ _ _ _ _ (swp_permIn d a b i _ hi (by omega) (by omega) (by omega) hb) g2⟩; rw [cPQ,e0,e2,zaD,iPQ,za8 hx]; dsimp only; have hT:∀ y,zdt a0 (a:Int) (b:Int) (M:Int) (Er d) (i:Int) (v,w)=some y→(chk ((4:Int)≠0)<|zdt a0 (a:Int) (b:Int) (M:Int) (Er d) (i:Int) (v,w))=some y:=fun y h=>by rw [cPQ]; exact h
       have hG:=zkZ a0 (a:Int) (b:Int) (M:Int) (Er d) (i:Int) (v,w) (y:=zap.enc d'.toList); dsimp only at hG; generalize ((v % Int.ofNat (2 ^ 64)).toNat &&& (wu64 ((M:Int) - 1) % Int.ofNat (2 ^ 64)).toNat)=q at hq hge g1 hG ⊢; rw [zh7 (n:=(q:Int)) (by omega) (by omega),w6Q (n:=(q:Int)),zaD,iPQ]; apply hG
       have ei:w64 ((a:Int)+w64 (w64 (wu64 (q:Int)) - w64 ((b:Int) - (a:Int))))=((a+(q - (b - a)):Nat):Int):=by rw [zh7 (n:=(q:Int)) (by omega) (by omega),w6Q (n:=(q:Int)),e0,w6Q (n:=(q:Int) - _),w6Q]; omega
       rw [ei,zaq,rdA hn (by omega),rdA hn (by omega),rdA hn (by omega),rdS hn (by omega),swpE,up1 (by omega)]; exact g1
     · obtain ⟨d',g1,g2⟩:=ih (i+1) w (swp d i (a+(((v % Int.ofNat (2 ^ 64)).toNat &&& (wu64 ((M:Int) - 1) % Int.ofNat (2 ^ 64)).toNat)))) (by omega) (by omega) (by rw [zaR]; exact hn) (by rw [zaR]; exact hb) (by rw [zaR]; exact hs); refine ⟨d',zdY _ _ _ _ _ _ _ ?_,permIn_trans _ _ _ _ _ (swp_permIn d a b i _ hi (by omega) (by omega) (by omega) hb) g2⟩; rw [cPQ,e0,e2,zaD,iPQ,za8 hx]; dsimp only; have hG:=zj7 a0 (a:Int) (b:Int) (M:Int) (Er d) (i:Int) (v,w) (y:=zap.enc d'.toList); dsimp only at hG; generalize ((v % Int.ofNat (2 ^ 64)).toNat &&& (wu64 ((M:Int) - 1) % Int.ofNat (2 ^ 64)).toNat)=q at hq hge g1 hG ⊢; rw [zh7 (n:=(q:Int)) (by omega) (by omega),w6Q (n:=(q:Int)),zaD,iNQ]; apply hG
       have ei:w64 ((a:Int)+w64 (wu64 (q:Int)))=((a+q:Nat):Int):=by rw [zh7 (n:=(q:Int)) (by omega) (by omega),w6Q (n:=(q:Int)),w6Q]; omega
       rw [ei,zaq,rdA hn (by omega),rdA hn (by omega),rdA hn (by omega),rdS hn (by omega),swpE,up1 (by omega)]; exact g1
   · refine ⟨d,zdY _ _ _ _ _ _ _ ?_,permIn_refl _ _ _⟩; rw [cPQ,e0,e2,zaD,iNQ]; rfl
theorem c_break (d:Array zag) (a b:Nat) (hab:a≤b) (hb:b≤d.size) (hs:d.size < 256):∃ d',cw zfC [rA d,I (a:Int),I (b:Int),.fn zaf []] (mA d)=some (zap.enc d'.toList)∧PermIn a b d d':=by
 have e0:w64 ((b:Int) - (a:Int))=((b - a:Nat):Int):=by rw [w6Q]; omega
 have e1:(((b - a:Nat):Int)).tdiv 4=(((b - a) / 4:Nat):Int):=rfl; by_cases h8:8≤b - a
 · have hM2:=two_pow_bitsLen_le (n:=b - a) (by omega)
   have e2:w64 (w64 ((a:Int)+w64 (w64 (((b - a:Nat):Int).tdiv 4)*2)) - 1)=((a+(b - a) / 4*2 - 1:Nat):Int):=by rw [e1,w64_id (n:=(((b - a) / 4:Nat):Int)) (by omega) (by omega),w64_id (n:=(((b - a) / 4:Nat):Int)*2) (by omega) (by omega),w6Q (n:=(a:Int)+_),w6Q]; omega
   obtain ⟨d',g1,g2⟩:=k_break d.toList a b (2 ^ bitsLen (b - a)) (by omega) (Nat.one_le_two_pow) hM2 (by omega) (by omega) 100 (a+(b - a) / 4*2 - 1) (wu64 ((b - a:Nat):Int)) d (by omega) (by omega) (by simp) hb (by omega); refine ⟨d',zh9 d.toList _ _ ?_,g2⟩; rw [e0,zaD,iPQ,za8 (zxu (b - a) (by omega)),cPQ,e2]; exact g1
 · refine ⟨d,zh9 d.toList _ _ ?_,permIn_refl _ _ _⟩; rw [e0,zaD,iNQ]; rfl
theorem znY:∀ (j:Nat) (d:Array zag),j < d.size→(shiftDown lt j d).size=d.size∧(AllA P d→AllA P (shiftDown lt j d))
 | 0,d,_=>⟨rfl,fun h=>h⟩
 | j+1,d,h=>by
   unfold shiftDown; split
   · exact ⟨rfl,fun h=>h⟩
   · have ih:=znY j (swp d (j+1) j) (by rw [zaR]; omega); rw [zaR] at ih; exact ⟨ih.1,fun hP=>ih.2 (hP.swp h (by omega))⟩
theorem zwC (b:Nat):∀ (k j:Nat) (d:Array zag),b≤j+k→b≤d.size→(shiftUp lt b j d).size=d.size∧(AllA P d→AllA P (shiftUp lt b j d)):=by
 intro k
 induction k with
 | zero=>intro j d hk _; rw [shiftUp,iNQ]; exact ⟨rfl,fun h=>h⟩
 | succ k ih =>
   intro j d hk hb; rw [shiftUp]; split
   · split
     · exact ⟨rfl,fun h=>h⟩
     · have ih:=ih (j+1) (swp d j (j - 1)) (by omega) (by rw [zaR]; exact hb); rw [zaR] at ih; exact ⟨ih.1,fun hP=>ih.2 (hP.swp (by omega) (by omega))⟩
   · exact ⟨rfl,fun h=>h⟩
theorem k_up (hc:Cmp lt P) (a0:List zag) (a b i c:Nat) (y:AV×Mem):∀ (k j:Nat) (d:Array zag),b≤j+k→1≤j→b≤d.size→d.size≤100000→a0.length=d.size→AllA P d→zbb a0 (a:Int) (b:Int) (Er (shiftUp lt b j d)) (i:Int) (w64 ((c:Int)+1))=some y→zbw a0 (a:Int) (b:Int) (c:Int) (i:Int) (Er d) (j:Int)=some y:=by
 intro k
 induction k with
 | zero=>intro j d hk hj hb hs hn hP h; rw [shiftUp,iNQ] at h; refine zgg _ _ _ _ _ _ _ ?_; rw [zaD,iNQ]; exact h
 | succ k ih =>
   intro j d hk hj hb hs hn hP h; refine zgg _ _ _ _ _ _ _ ?_; by_cases hjb:j < b
   · rw [shiftUp,if_pos hjb] at h; rw [zaD,iPQ,dn1 (by omega) (by omega),zaq,rdA hn (by omega),rdA hn (by omega),hc.stepN (hP _ (by omega)) (hP _ (by omega))]
     cases hl:lt d[j]! d[j - 1]! with
     | false=>rw [hl,zcN,if_pos rfl] at h; rw [zax]; exact h
     | true=>rw [hl,zb2,iNs] at h; rw [zaF,rdA hn (by omega),rdA hn (by omega),rdA hn (by omega),rdS hn (by omega),swpE,up1 (by omega)]; exact ih (j+1) (swp d j (j - 1)) (by omega) (by omega) (by rw [zaR]; exact hb) (by rw [zaR]; exact hs) (by rw [zaR]; exact hn) (hP.swp (by omega) (by omega)) h
   · rw [shiftUp,if_neg hjb] at h; rw [zaD,iNQ]; exact h
theorem k_down (hc:Cmp lt P) (a0:List zag) (a b i c:Nat) (y:AV×Mem):∀ (j:Nat) (d:Array zag),j < d.size→d.size≤100000→a0.length=d.size→AllA P d→(brn (decide (2≤w64 ((b:Int) - (i:Int)))) (zbw a0 (a:Int) (b:Int) (c:Int) (i:Int) (Er (shiftDown lt j d)) (w64 ((i:Int)+1)))
   (zbb a0 (a:Int) (b:Int) (Er (shiftDown lt j d)) (i:Int) (w64 ((c:Int)+1))))=some y→zc1 a0 (a:Int) (b:Int) (c:Int) (i:Int) (Er d) (j:Int)=some y:=by
 intro j
 induction j with
 | zero=>intro d _ hs hn hP h; refine zgf _ _ _ _ _ _ _ ?_; rw [zaD,iNQ]; exact h
 | succ j ih =>
   intro d hj hs hn hP h; unfold shiftDown at h; refine zgf _ _ _ _ _ _ _ ?_; rw [zaD,iPQ,dn1 (by omega) (by omega),Nat.add_sub_cancel,zaq,rdA hn (by omega),rdA hn (by omega),hc.stepN (hP _ (by omega)) (hP _ (by omega))]
   cases hl:lt d[j+1]! d[j]! with
   | false=>rw [hl,zcN,if_pos rfl] at h; rw [zax]; exact h
   | true=>rw [hl,zb2,iNs] at h; rw [zaF,rdA hn (by omega),rdA hn (by omega),rdA hn (by omega),rdS hn (by omega),swpE]; exact ih (swp d (j+1) j) (by rw [zaR]; omega) (by rw [zaR]; exact hs) (by rw [zaR]; exact hn) (hP.swp hj (by omega)) h
theorem k_scan (hc:Cmp lt P) (a0:List zag) (a b c:Nat) (d:Array zag) (hb:b≤d.size) (hs:d.size≤100000) (hn:a0.length=d.size) (hP:AllA P d) (y:AV×Mem):∀ (k i:Nat),b≤i+k→1≤i→zbC a0 (a:Int) (b:Int) (Er d) (c:Int) ((scanSorted lt d b i:Nat):Int)=some y→zcT a0 (a:Int) (b:Int) (Er d) (c:Int) (i:Int)=some y:=by
 intro k
 induction k with
 | zero=>intro i hk hi h; rw [scanSorted,if_neg (by simp; omega)] at h; refine zf1 _ _ _ _ _ _ ?_; rw [zaD,iNQ]; exact h
 | succ k ih =>
   intro i hk hi h; refine zf1 _ _ _ _ _ _ ?_; by_cases hib:i < b
   · rw [zaD,iPQ,dn1 (by omega) (by omega),zaq,rdA hn (by omega),rdA hn (by omega),hc.stepN (hP _ (by omega)) (hP _ (by omega))]
     cases hl:lt d[i]! d[i - 1]! with
     | false=>rw [scanSorted,if_pos (by rw [hl]; simp; omega)] at h; rw [zax,up1 (by omega)]; exact ih (i+1) (by omega) (by omega) h
     | true=>rw [scanSorted,if_neg (by rw [hl]; simp)] at h; rw [zaF]; exact h
   · rw [scanSorted,if_neg (by simp; omega)] at h; rw [zaD,iNQ]; exact h
theorem k_scan0 (hc:Cmp lt P) (a0:List zag) (a b c:Nat) (d:Array zag) (hb:b≤d.size) (hs:d.size≤100000) (hn:a0.length=d.size) (hP:AllA P d) (y:AV×Mem) (i:Nat) (hi:1≤i)
  (h:zbC a0 (a:Int) (b:Int) (Er d) (c:Int) ((scanSorted lt d b i:Nat):Int)=some y):zeq a0 (a:Int) (b:Int) (Er d) (i:Int) (c:Int)=some y:=by
 refine zjU _ _ _ _ _ _ ?_; by_cases hib:i < b
 · rw [zaD,iPQ,dn1 (by omega) (by omega),zaq,rdA hn (by omega),rdA hn (by omega),hc.stepN (hP _ (by omega)) (hP _ (by omega))]
   cases hl:lt d[i]! d[i - 1]! with
   | false=>rw [scanSorted,if_pos (by rw [hl]; simp; omega)] at h; rw [zax,up1 (by omega)]; exact k_scan hc a0 a b c d hb hs hn hP y b (i+1) (by omega) (by omega) h
   | true=>rw [scanSorted,if_neg (by rw [hl]; simp)] at h; rw [zaF]; exact h
 · rw [scanSorted,if_neg (by simp; omega)] at h; rw [zaD,iNQ]; exact h
theorem scan_le (d:Array zag) (b:Nat):∀ (k i:Nat),b≤i+k→i≤b→i≤scanSorted lt d b i∧scanSorted lt d b i≤b:=by
 intro k
 induction k with
 | zero=>intro i hk hi; rw [scanSorted,if_neg (by simp; omega)]; omega
 | succ k ih =>
   intro i hk hi; rw [scanSorted]; split
   · rename_i hc; simp only [zcm,decide_eq_true_eq] at hc; have:=ih (i+1) (by omega) (by omega); omega
   · omega
theorem k_trial (hc:Cmp lt P) (a0:List zag) (a b:Nat):∀ (s i c:Nat) (d:Array zag),c+s=5→a < i→i≤b→b≤d.size→d.size≤100000→a0.length=d.size→AllA P d→zbb a0 (a:Int) (b:Int) (Er d) (i:Int) (c:Int)=some (zbz.enc ((partialIns lt a b s i d).2,(partialIns lt a b s i d).1.toList)):=by
 intro s
 induction s with
 | zero=>intro i c d hcs ha hi hb hs hn hP; refine zge _ _ _ _ _ _ ?_; rw [zaD,iNQ]; rfl
 | succ s ih =>
   intro i c d hcs ha hi hb hs hn hP; refine zge _ _ _ _ _ _ ?_; rw [zaD,iPQ]; refine k_scan0 hc a0 a b c d hb hs hn hP _ i (by omega) ?_; rw [partialIns_succ]; obtain ⟨hk1,hk2⟩:=scan_le (lt:=lt) d b b i (by omega) hi; generalize scanSorted lt d b i=k at hk1 hk2 ⊢; refine zjl _ _ _ _ _ _ ?_; by_cases hkb:k=b
   · rw [if_pos hkb,hkb,beq_self_eq_true,zaF]; rfl
   · rw [if_neg hkb,beq_false_of_ne (by omega),zax,w6Q (n:=(b:Int) - (a:Int))]; by_cases h50:b - a < 50
     · rw [if_pos h50,zaD,iPQ]; rfl
     · have hkl:k < b:=by omega
       rw [if_neg h50,zaD,iNQ,dn1 (by omega) (by omega),zaq,rdA hn (by omega),rdA hn (by omega),rdA hn (by omega),rdS hn (by omega),swpE,w6Q (n:=(k:Int) - (a:Int))]; have hP1:=hP.swp (show k < d.size by omega) (show k - 1 < d.size by omega); have z1:(swp d k (k - 1)).size=d.size:=zaR _ _ _; generalize swp d k (k - 1)=d1 at hP1 z1 ⊢
       have hx:(fixDown lt a k d1).size=d1.size∧AllA P (fixDown lt a k d1):=by
        unfold fixDown; split
        · have:=znY (lt:=lt) (P:=P) (k - 1) d1 (by omega); exact ⟨this.1,this.2 hP1⟩
        · exact ⟨rfl,hP1⟩
       have hy:(fixUp lt b k (fixDown lt a k d1)).size=d1.size∧AllA P (fixUp lt b k (fixDown lt a k d1)):=by
        unfold fixUp; split
        · have:=zwC (lt:=lt) (P:=P) b b (k+1) (fixDown lt a k d1) (by omega) (by omega); exact ⟨by rw [this.1]; exact hx.1,this.2 hx.2⟩
        · exact hx
       have fin:=ih k (c+1) (fixUp lt b k (fixDown lt a k d1)) (by omega) (by omega) (by omega) (by omega) (by omega) (by omega) hy.2
       have tail:(brn (decide (2≤w64 ((b:Int) - (k:Int)))) (zbw a0 (a:Int) (b:Int) (c:Int) (k:Int) (Er (fixDown lt a k d1)) (w64 ((k:Int)+1)))
         (zbb a0 (a:Int) (b:Int) (Er (fixDown lt a k d1)) (k:Int) (w64 ((c:Int)+1))))=some (zbz.enc ((partialIns lt a b s k (fixUp lt b k (fixDown lt a k d1))).2,(partialIns lt a b s k (fixUp lt b k (fixDown lt a k d1))).1.toList)):=by
        rw [← up1 (i:=c) (by omega)] at fin; rw [w6Q (n:=(b:Int) - (k:Int))]; by_cases h2:b - k ≥ 2
        · rw [zaD,iPQ,up1 (i:=k) (by omega)]; refine k_up hc a0 a b k c _ b (k+1) (fixDown lt a k d1) (by omega) (by omega) (by omega) (by omega) (by omega) hx.2 ?_; unfold fixUp at fin ⊢; rw [if_pos h2] at fin ⊢; exact fin
        · rw [zaD,iNQ]; unfold fixUp at fin ⊢; rw [if_neg h2] at fin ⊢; exact fin
       by_cases h2:k - a ≥ 2
       · rw [zaD,iPQ]; refine k_down hc a0 a b k c _ (k - 1) d1 (by omega) (by omega) (by omega) hP1 ?_; unfold fixDown at tail ⊢; rw [if_pos h2] at tail ⊢; exact tail
       · rw [zaD,iNQ]; unfold fixDown at tail ⊢; rw [if_neg h2] at tail ⊢; exact tail
theorem zu2 (hc:Cmp lt P) (hW:SWO lt) (d:Array zag) (a b:Nat) (hP:AllA P d) (hab:a < b) (hb:b≤d.size) (hs:d.size < 256) (hB:Below lt a b d):∃ (f:Bool) (d':Array zag),cw zda [rA d,I (a:Int),I (b:Int),.fn zaf []] (mA d)=some (zbz.enc (f,d'.toList))∧PermIn a b d d'∧(f=true→SortedIn lt a b d'):=by have hsp:=partialInsertionSort_holds hW d a b hab hb hB; refine ⟨_,_,zj5 d.toList _ _ ?_,hsp.1,hsp.2⟩; rw [up1 (by omega)]; exact k_trial hc d.toList a b 5 (a+1) 0 d (by omega) (by omega) (by omega) hb (by omega) (by simp) hP
end
section
variable {lt:zag→zag→Bool} {P:zag→Prop}
def PdqOk (lt:zag→zag→Bool) (P:zag→Prop) (n:Nat):Prop:=∀ (a b:Nat) (d:Array zag) (a0:List zag) (lim:Nat) (wb wp:Bool),b - a < n→a≤b→b≤d.size→d.size < 256→a0.length=d.size→AllA P d→Below lt a b d→lim≤100→∃ d',zcA a0 (Er d) (a:Int) (b:Int) (lim:Int) wb wp=some (zap.enc d'.toList)∧PermIn a b d d'∧SortedIn lt a b d'
theorem c_pdq {n:Nat} (h:PdqOk lt P n) (a b:Nat) (d:Array zag) (lim:Nat) (h1:b - a < n) (h2:a≤b) (h3:b≤d.size) (h4:d.size < 256) (hP:AllA P d) (hB:Below lt a b d) (hl:lim≤100):∃ d',cw zeb [rA d,I (a:Int),I (b:Int),I (lim:Int),.fn zaf []] (mA d)=some (zap.enc d'.toList)∧PermIn a b d d'∧SortedIn lt a b d':=by obtain ⟨d',g1,g2⟩:=h a b d d.toList lim true true h1 h2 h3 h4 (by simp) hP hB hl; exact ⟨d',zo0 d.toList _ _ _ g1,g2⟩
set_option maxHeartbeats 1000000 in
theorem zqp (hc:Cmp lt P) (hW:SWO lt) (a0:List zag) (a b m lim:Nat) (d:Array zag) (wb wp:Bool) (hI:PdqOk lt P (b - a)) (hab:a+1 < b) (hb:b≤d.size) (hs:d.size < 256) (hn:a0.length=d.size) (hP:AllA P d) (hB:Below lt a b d) (hm:a≤m) (hm2:m < b) (hl:lim≤100):∃ d',zcH a0 (a:Int) (b:Int) wb wp (Er d) (lim:Int) (m:Int)=some (zap.enc d'.toList)∧PermIn a b d d'∧SortedIn lt a b d':=by
 obtain ⟨flag,hp⟩:=zua hc d a b m hP hm hm2 hb (by omega) hab; have hperm:PermIn a b d (partition lt d a b m).2.2:=(partition_holds lt hW d a b m hm hm2 hb).2.2.1; generalize hx:partition lt d a b m=r at hp hperm; obtain ⟨mid,ap,d4⟩:=r; obtain ⟨q1,q2,q3,q4,q5,q6,q7⟩:=round_part hW (partition_holds lt) hm hm2 hb hB hx; dsimp only at hp hperm; have hP4:AllA P d4:=hP.perm (by omega) hb hperm; have e1:w64 ((mid:Int) - (a:Int))=((mid - a:Nat):Int):=by rw [w6Q]; omega
 have e2:w64 ((b:Int) - (mid:Int))=((b - mid:Nat):Int):=by rw [w6Q]; omega
 by_cases hlt:mid - a < b - mid
 · obtain ⟨L,g1,g2,g3⟩:=c_pdq hI a mid d4 lim (by omega) q1 (by omega) (by omega) hP4 q4 hl; obtain ⟨hBL,hR⟩:=q6 L g2 g3; have hLs:L.size=d4.size:=g2.1; obtain ⟨R,r1,r2,r3⟩:=hI (mid+1) b L a0 lim (decide (w64 ((w64 ((b:Int) - (a:Int))).tdiv 8)≤w64 ((mid:Int) - (a:Int)))) flag (by omega) (by omega) (by omega) (by omega) (by omega) (hP4.perm q1 (by omega) g2) hBL hl; obtain ⟨z1,z2⟩:=hR R r2 r3; refine ⟨R,ziq _ _ _ _ _ _ _ _ ?_,z1,z2⟩; rw [row_eq hn,za8 hp,cPQ]; dsimp only; rw [show rA d=rA d4 from by rw [rA,rA,lenE,lenE,q3],zaD,if_pos (by rw [e1,e2]; omega),za8 g1,up1 (by omega)]; exact r1
 · obtain ⟨L,g1,g2,g3⟩:=c_pdq hI (mid+1) b d4 lim (by omega) (by omega) (by omega) (by omega) hP4 q5 hl; obtain ⟨hBL,hR⟩:=q7 L g2 g3; have hLs:L.size=d4.size:=g2.1; obtain ⟨R,r1,r2,r3⟩:=hI a mid L a0 lim (decide (w64 ((w64 ((b:Int) - (a:Int))).tdiv 8)≤w64 ((b:Int) - (mid:Int)))) flag (by omega) (by omega) (by omega) (by omega) (by omega) (hP4.perm (by omega) (by omega) g2) hBL hl; obtain ⟨z1,z2⟩:=hR R r2 r3; refine ⟨R,ziq _ _ _ _ _ _ _ _ ?_,z1,z2⟩; rw [row_eq hn,za8 hp,cPQ]; dsimp only; rw [show rA d=rA d4 from by rw [rA,rA,lenE,lenE,q3],zaD,if_neg (by rw [e1,e2]; omega),up1 (by omega),za8 g1]; exact r1
theorem k_1017 (hc:Cmp lt P) (hW:SWO lt) (a0:List zag) (a b m lim:Nat) (d:Array zag) (wb wp:Bool) (hI:PdqOk lt P (b - a)) (hab:a+1 < b) (hb:b≤d.size) (hs:d.size < 256) (hn:a0.length=d.size) (hP:AllA P d) (hB:Below lt a b d) (hm:a≤m) (hm2:m < b) (hl:lim≤100):∃ d',zeu a0 (a:Int) (b:Int) wb wp (Er d) (lim:Int) (m:Int)=some (zap.enc d'.toList)∧PermIn a b d d'∧SortedIn lt a b d':=by
 by_cases ha:0 < a
 · cases hlt:lt d[a - 1]! d[m]! with
   | false =>
     have hp:=zjF hc d a b m hP hm hm2 hb (by omega); generalize hx:partitionEqual lt d a b m=r at hp; obtain ⟨mid,d4⟩:=r; obtain ⟨q1,q2,q3,q4,q5⟩:=round_eq hW (partitionEqual_holds lt) ha hm hm2 hb hB hlt hx
     have hge:∀ i,a≤i→i < b→lt d[i]! d[m]! = false:=fun i hi hi'=>by
      rcases hB with h0 | hB
      · omega
      · exact hW.ntrans _ _ _ (hB i hi hi') hlt
     have hperm:PermIn a b d (partitionEqual lt d a b m).2:=(partitionEqual_holds lt hW d a b m hm hm2 hb hge).2.2.1; rw [hx] at hperm; dsimp only at hp hperm; obtain ⟨R,r1,r2,r3⟩:=hI mid b d4 a0 lim wb wp (by omega) q2 (by omega) (by omega) (by omega) (hP.perm (by omega) hb hperm) q4 hl; obtain ⟨z1,z2⟩:=q5 R r2 r3; refine ⟨R,zfW _ _ _ _ _ _ _ _ ?_,z1,z2⟩; rw [row_eq hn,zaq,zaD,iPQ,dn1 (by omega) (by omega),rdA hn (by omega),rdA hn (by omega),hc.stepN (hP _ (by omega)) (hP _ (by omega)),hlt,zax,za8 hp]; exact r1
   | true=>obtain ⟨R,r1,r2⟩:=zqp hc hW a0 a b m lim d wb wp hI hab hb hs hn hP hB hm hm2 hl; refine ⟨R,zfW _ _ _ _ _ _ _ _ ?_,r2⟩; rw [row_eq hn,zaq,zaD,iPQ,dn1 (by omega) (by omega),rdA hn (by omega),rdA hn (by omega),hc.stepN (hP _ (by omega)) (hP _ (by omega)),hlt,zaF]; exact r1
 · obtain ⟨R,r1,r2⟩:=zqp hc hW a0 a b m lim d wb wp hI hab hb hs hn hP hB hm hm2 hl; refine ⟨R,zfW _ _ _ _ _ _ _ _ ?_,r2⟩; rw [zaD,iNQ]; exact r1
theorem zts (hc:Cmp lt P) (hW:SWO lt) (a0:List zag) (a b m lim:Nat) (d:Array zag) (wb wp:Bool) (hI:PdqOk lt P (b - a)) (hab:a+1 < b) (hb:b≤d.size) (hs:d.size < 256) (hn:a0.length=d.size) (hP:AllA P d) (hB:Below lt a b d) (hm:a≤m) (hm2:m < b) (hl:lim≤100):∃ d',zbT a0 (a:Int) (b:Int) wb wp (Er d) (lim:Int) (m:Int)=some (zap.enc d'.toList)∧PermIn a b d d'∧SortedIn lt a b d':=by
 by_cases ha:0 < a
 · cases hlt:lt d[a - 1]! d[m]! with
   | false =>
     have hp:=zjF hc d a b m hP hm hm2 hb (by omega); generalize hx:partitionEqual lt d a b m=r at hp; obtain ⟨mid,d4⟩:=r; obtain ⟨q1,q2,q3,q4,q5⟩:=round_eq hW (partitionEqual_holds lt) ha hm hm2 hb hB hlt hx
     have hge:∀ i,a≤i→i < b→lt d[i]! d[m]! = false:=fun i hi hi'=>by
      rcases hB with h0 | hB
      · omega
      · exact hW.ntrans _ _ _ (hB i hi hi') hlt
     have hperm:PermIn a b d (partitionEqual lt d a b m).2:=(partitionEqual_holds lt hW d a b m hm hm2 hb hge).2.2.1; rw [hx] at hperm; dsimp only at hp hperm; obtain ⟨R,r1,r2,r3⟩:=hI mid b d4 a0 lim wb wp (by omega) q2 (by omega) (by omega) (by omega) (hP.perm (by omega) hb hperm) q4 hl; obtain ⟨z1,z2⟩:=q5 R r2 r3; refine ⟨R,zfy _ _ _ _ _ _ _ _ ?_,z1,z2⟩; rw [row_eq hn,zaq,zaD,iPQ,dn1 (by omega) (by omega),rdA hn (by omega),rdA hn (by omega),hc.stepN (hP _ (by omega)) (hP _ (by omega)),hlt,zax,za8 hp]; exact r1
   | true=>obtain ⟨R,r1,r2⟩:=zqp hc hW a0 a b m lim d wb wp hI hab hb hs hn hP hB hm hm2 hl; refine ⟨R,zfy _ _ _ _ _ _ _ _ ?_,r2⟩; rw [row_eq hn,zaq,zaD,iPQ,dn1 (by omega) (by omega),rdA hn (by omega),rdA hn (by omega),hc.stepN (hP _ (by omega)) (hP _ (by omega)),hlt,zaF]; exact r1
 · obtain ⟨R,r1,r2⟩:=zqp hc hW a0 a b m lim d wb wp hI hab hb hs hn hP hB hm hm2 hl; refine ⟨R,zfy _ _ _ _ _ _ _ _ ?_,r2⟩; rw [zaD,iNQ]; exact r1
theorem k_1015 (hc:Cmp lt P) (hW:SWO lt) (a0:List zag) (a b m lim:Nat) (d:Array zag) (wb wp:Bool) (hI:PdqOk lt P (b - a)) (hab:a+1 < b) (hb:b≤d.size) (hs:d.size < 256) (hn:a0.length=d.size) (hP:AllA P d) (hB:Below lt a b d) (hm:a≤m) (hm2:m < b) (hl:lim≤100):∃ d',zcG a0 (a:Int) (b:Int) wb wp (Er d) (lim:Int) (m:Int)=some (zap.enc d'.toList)∧PermIn a b d d'∧SortedIn lt a b d':=by
 obtain ⟨R',r1',r2'⟩:=zts hc hW a0 a b m lim d wb wp hI hab hb hs hn hP hB hm hm2 hl; obtain ⟨f,d2,hf,hp2,hfs⟩:=zu2 hc hW d a b hP (by omega) hb hs hB; have hs2:d2.size=d.size:=hp2.1; obtain ⟨R,r1,r2⟩:=k_1017 hc hW a0 a b m lim d2 wb wp hI hab (by omega) (by omega) (by omega) (hP.perm (by omega) hb hp2) (hB.perm hb hp2) hm hm2 hl; have hU:=fun y=>zm8 a0 (a:Int) (b:Int) wb wp (Er d) (lim:Int) (m:Int) (y:=y)
 rw [row_eq hn,za8 hf,r1'] at hU; dsimp only at hU; rw [r1] at hU
 cases wb with
 | false=>exact ⟨R',hU _ rfl,r2'⟩
 | true =>
   cases wp with
   | false=>exact ⟨R',hU _ rfl,r2'⟩
   | true =>
     rw [zaF,zaF] at hU
     cases hh:((1:Nat) == 1) with
     | false=>rw [hh,zax] at hU; exact ⟨R',hU _ rfl,r2'⟩
     | true =>
       rw [hh,zaF] at hU
       cases f with
       | false=>exact ⟨R,hU _ rfl,permIn_trans _ _ _ _ _ hp2 r2.1,r2.2⟩
       | true=>exact ⟨d2,hU _ rfl,hp2,hfs rfl⟩
theorem ztr (hc:Cmp lt P) (hW:SWO lt) (a0:List zag) (a b m lim:Nat) (d:Array zag) (wb wp:Bool) (h:Int) (hI:PdqOk lt P (b - a)) (hab:a+1 < b) (hb:b≤d.size) (hs:d.size < 256) (hn:a0.length=d.size) (hP:AllA P d) (hB:Below lt a b d) (hm:a≤m) (hm2:m < b) (hl:lim≤100):∃ d',zd5 a0 (a:Int) (b:Int) wb wp (Er d) (lim:Int) (m:Int) h=some (zap.enc d'.toList)∧PermIn a b d d'∧SortedIn lt a b d':=by
 obtain ⟨R',r1',r2'⟩:=zts hc hW a0 a b m lim d wb wp hI hab hb hs hn hP hB hm hm2 hl; obtain ⟨f,d2,hf,hp2,hfs⟩:=zu2 hc hW d a b hP (by omega) hb hs hB; have hs2:d2.size=d.size:=hp2.1; obtain ⟨R,r1,r2⟩:=k_1017 hc hW a0 a b m lim d2 wb wp hI hab (by omega) (by omega) (by omega) (hP.perm (by omega) hb hp2) (hB.perm hb hp2) hm hm2 hl; have hU:=fun y=>zmr a0 (a:Int) (b:Int) wb wp (Er d) (lim:Int) (m:Int) h (y:=y)
 rw [row_eq hn,za8 hf,r1'] at hU; dsimp only at hU; rw [r1] at hU
 cases wb with
 | false=>exact ⟨R',hU _ rfl,r2'⟩
 | true =>
   cases wp with
   | false=>exact ⟨R',hU _ rfl,r2'⟩
   | true =>
     rw [zaF,zaF] at hU
     cases hh:(h == 1) with
     | false=>rw [hh,zax] at hU; exact ⟨R',hU _ rfl,r2'⟩
     | true =>
       rw [hh,zaF] at hU
       cases f with
       | false=>exact ⟨R,hU _ rfl,permIn_trans _ _ _ _ _ hp2 r2.1,r2.2⟩
       | true=>exact ⟨d2,hU _ rfl,hp2,hfs rfl⟩
theorem ks_1010 (hc:Cmp lt P) (hW:SWO lt) (a0:List zag) (a b lim:Nat) (d:Array zag) (wb wp:Bool) (hI:PdqOk lt P (b - a)) (hab:a+1 < b) (hb:b≤d.size) (hs:d.size < 256) (hn:a0.length=d.size) (hP:AllA P d) (hB:Below lt a b d) (hl:lim≤100) (hl1:1≤lim):∃ d',zfU a0 (a:Int) (b:Int) (lim:Int) wb wp d.toList=some (zap.enc d'.toList)∧PermIn a b d d'∧SortedIn lt a b d':=by
 obtain ⟨m,h,hp,hm,hm2,hh⟩:=zmt hc d hP a b (by omega) hb (by omega); have hU:=fun y=>zm7 a0 (a:Int) (b:Int) (lim:Int) wb wp d.toList (y:=y)
 have ht:List.take ((List.map zad a0).length) (List.map zad d.toList)=Er d:=zdm (by simp [hn]); rw [zav (by simp [hn]),ht,za8 hp,row_eq hn] at hU; dsimp only at hU; by_cases h2:h=2
 · have hr:=zrB d a b (by omega) hb (by omega); have hrp:=reverseRange_holds d a b (by omega) hb
   have e:w64 (w64 ((b:Int) - 1) - w64 ((m:Int) - (a:Int)))=((b - 1 - (m - a):Nat):Int):=by rw [w6Q (n:=(b:Int) - 1),w6Q (n:=(m:Int) - a),w6Q]; omega
   obtain ⟨R,r1,r2,r3⟩:=k_1015 hc hW a0 a b (b - 1 - (m - a)) (lim - 1) (reverseRange d a b) wb wp hI hab (by rw [hrp.1]; exact hb) (by rw [hrp.1]; exact hs) (by rw [hrp.1]; exact hn) (hP.perm (by omega) hb hrp) (hB.perm hb hrp) (by omega) (by omega) (by omega); rw [h2,za8 hr,e] at hU; refine ⟨R,hU _ ?_,permIn_trans _ _ _ _ _ hrp r2,r3⟩; show zcG a0 (a:Int) (b:Int) wb wp (Er (reverseRange d a b)) _ _=_; rw [dn1 hl1 (by omega)]; exact r1
 · obtain ⟨R,r1,r2⟩:=ztr hc hW a0 a b m (lim - 1) d wb wp h hI hab hb hs hn hP hB hm hm2 (by omega); rw [beq_false_of_ne h2,zax] at hU; refine ⟨R,hU _ ?_,r2⟩; rw [dn1 hl1 (by omega)]; exact r1
theorem zz6 (hc:Cmp lt P) (hW:SWO lt) (a0:List zag) (a b lim:Nat) (d:Array zag) (wb wp:Bool) (hI:PdqOk lt P (b - a)) (hab:a+1 < b) (hb:b≤d.size) (hs:d.size < 256) (hn:a0.length=d.size) (hP:AllA P d) (hB:Below lt a b d) (hl:lim≤100):∃ d',zfx a0 (Er d) (a:Int) (b:Int) (lim:Int) wb wp=some (zap.enc d'.toList)∧PermIn a b d d'∧SortedIn lt a b d':=by
 obtain ⟨m,h,hp,hm,hm2,hh⟩:=zmt hc d hP a b (by omega) hb (by omega); have hU:=fun y=>zmq a0 (Er d) (a:Int) (b:Int) (lim:Int) wb wp (y:=y)
 have ht:List.take ((List.map zad a0).length) (List.map zad d.toList)=Er d:=zdm (by simp [hn]); rw [zav (by simp [hn]),ht,za8 hp,row_eq hn] at hU; dsimp only at hU; by_cases h2:h=2
 · have hr:=zrB d a b (by omega) hb (by omega); have hrp:=reverseRange_holds d a b (by omega) hb
   have e:w64 (w64 ((b:Int) - 1) - w64 ((m:Int) - (a:Int)))=((b - 1 - (m - a):Nat):Int):=by rw [w6Q (n:=(b:Int) - 1),w6Q (n:=(m:Int) - a),w6Q]; omega
   obtain ⟨R,r1,r2,r3⟩:=k_1015 hc hW a0 a b (b - 1 - (m - a)) (lim) (reverseRange d a b) wb wp hI hab (by rw [hrp.1]; exact hb) (by rw [hrp.1]; exact hs) (by rw [hrp.1]; exact hn) (hP.perm (by omega) hb hrp) (hB.perm hb hrp) (by omega) (by omega) (by omega); rw [h2,za8 hr,e] at hU; refine ⟨R,hU _ ?_,permIn_trans _ _ _ _ _ hrp r2,r3⟩; show zcG a0 (a:Int) (b:Int) wb wp (Er (reverseRange d a b)) _ _=_; exact r1
 · obtain ⟨R,r1,r2⟩:=ztr hc hW a0 a b m (lim) d wb wp h hI hab hb hs hn hP hB hm hm2 (by omega); rw [beq_false_of_ne h2,zax] at hU; refine ⟨R,hU _ ?_,r2⟩; exact r1
theorem k_pdq (hc:Cmp lt P) (hW:SWO lt):∀ n,PdqOk lt P n:=by
 intro n
 induction n with
 | zero=>intro a b d a0 lim wb wp h; omega
 | succ n ih =>
   intro a b d a0 lim wb wp h hab hb hs hn hP hB hl; have hI:PdqOk lt P (b - a):=fun a' b' d' a0' lim' wb' wp' h'=>ih a' b' d' a0' lim' wb' wp' (by omega)
   have e0:w64 ((b:Int) - (a:Int))=((b - a:Nat):Int):=by rw [w6Q]; omega
   by_cases h12:b - a≤12
   · have hi:=insertionSort_holds hW d a b hab hb; refine ⟨insertionSort lt d a b,zeY _ _ _ _ _ _ _ ?_,hi.1,hi.2⟩; rw [e0,zaD,iPQ,row_eq hn,za8 (zt9 hc d a b hP hab hb (by omega))]; rfl
   · by_cases h0:lim=0
     · have hi:=heapSort_holds hW d a b hab hb; refine ⟨heapSort lt d a b,zeY _ _ _ _ _ _ _ ?_,hi.1,hi.2⟩; rw [e0,zaD,iNQ,h0,row_eq hn,za8 (c_heap hc d a b hP (by omega) hb (by omega))]; rfl
     · cases wb with
       | false=>obtain ⟨d1,g1,g2⟩:=c_break d a b hab hb hs; have hs1:d1.size=d.size:=g2.1; obtain ⟨R,r1,r2,r3⟩:=ks_1010 hc hW a0 a b lim d1 false wp hI (by omega) (by omega) (by omega) (by omega) (hP.perm hab hb g2) (hB.perm hb g2) hl (by omega); refine ⟨R,zeY _ _ _ _ _ _ _ ?_,permIn_trans _ _ _ _ _ g2 r2,r3⟩; rw [e0,zaD,iNQ,beq_false_of_ne (by omega),zax,zcN,zaF,row_eq hn,za8 g1]; exact r1
       | true=>obtain ⟨R,r1,r2,r3⟩:=zz6 hc hW a0 a b lim d true wp hI (by omega) (by omega) (by omega) (by omega) hP hB hl; refine ⟨R,zeY _ _ _ _ _ _ _ ?_,r2,r3⟩; rw [e0,zaD,iNQ,beq_false_of_ne (by omega),zax,zb2,zax]; exact r1
theorem c_SortFunc (hc:Cmp lt P) (hW:SWO lt) (l:List zag) (hP:∀ x∈l,P x) (hs:l.length < 256):∃ l':List zag,cw zew [.row 1000 8 0 (List.map zad l).length,.fn zaf []] [(1000,⟨8,zao,List.map zad l,false⟩)]=some (zap.enc l')∧l'.Perm l∧l'.Pairwise (fun x y=>lt y x=false):=by
 have hPA:AllA P l.toArray:=by
  intro i hi
  have:l.toArray[i]! = l[i]'(by simpa using hi):=by rw [getElem!_pos l.toArray i hi]; simp
  rw [this]; exact hP _ (zbp _)
 have hsz:l.toArray.size=l.length:=by simp
 obtain ⟨d',g1,g2,g3⟩:=c_pdq (k_pdq hc hW 256) 0 l.length l.toArray (bitsLen l.length) (by omega) (by omega) (by omega) (by omega) hPA (Or.inl rfl) (by have:=zoX hs; omega); refine ⟨d'.toList,znr l ?_,?_,?_⟩
 · rw [zaq,zh7 (by omega) (by omega),za8 (c_Len l.length hs)]; have hr:rA l.toArray=AV.row 1000 8 0 l.length:=by simp [rA]
   rw [hr] at g1; rw [show ((0:Nat):Int)=0 from rfl] at g1; rw [za8 g1]; rfl
 · have h:=g2.2.2
   have e1:d'.extract 0 l.length=d':=by
    have:d'.size=l.length:=by rw [g2.1]; simp
    rw [← this]; simp
   have e2:l.toArray.extract 0 l.length=l.toArray:=by simp
   rw [e1,e2] at h; simpa using h
 · have hd:d'.size=l.length:=by rw [g2.1]; simp
   rw [zzz]; intro i j hi hj hij; have hi':i < d'.size:=by simpa using hi
   have hj':j < d'.size:=by simpa using hj
   have:=g3 i j (by omega) hij (by omega); rw [getElem!_pos d' i hi',getElem!_pos d' j hj'] at this; simpa using this
end
end Go.Proofs.YtikogkgdkdmljaaGreat.SG
namespace Go.Proofs.YtikogkgdkdmljaaGreat
open Go.Ab
set_option maxRecDepth 10000
theorem ev_inj {l l':List zab} (h:List.map zaa l=List.map zaa l'):l=l':=Eq.mp (TyD.minj zaj) h
theorem canon_ok:CallOK zP (single zby zOrc):=by
 intro f args ms r ms' h; unfold single at h; split at h
 case isFalse=>cases h
 rename_i hf; subst hf
 cases ms with
 | nil =>
   have hz:zOrc zby args []=zvk args:=by unfold zOrc; simp (decide:=true) only [if_false,if_true]
   rw [hz] at h; clear hz; unfold zvk at h; split at h
   case isFalse=>cases h
   rename_i hex; have hsp:=hex.choose_spec; generalize hex.choose=l at h hsp; obtain ⟨rfl,hl⟩:=hsp; injection h with h; injection h with h1 h2; subst h1 h2; refine ⟨zBY,fun w S κ vals hvl hS hv hms hinj=>?_⟩; exact cn_calls (cnLegs false hl) w S κ vals hvl hS hv hms hinj
 | cons a m =>
   have hz:zOrc zby args (a :: m)=oCanon args (a :: m):=by unfold zOrc; simp (decide:=true) only [if_false,if_true]
   rw [hz] at h; clear hz; unfold oCanon at h; split at h
   case isFalse=>cases h
   rename_i hex; have hsp:=hex.choose_spec; generalize hex.choose=l at h hsp; obtain ⟨⟨ha,hm⟩,hl⟩:=hsp; subst ha; rw [hm] at h ⊢; injection h with h; injection h with h1 h2; subst h1 h2; refine ⟨zBY,fun w S κ vals hvl hS hv hms hinj=>?_⟩; exact cn_calls (cnLegs true hl) w S κ vals hvl hS hv hms hinj
theorem c_canon (b:Bool) {l:List zab} (h:FewEv l):cw zby [frA b 1000 l] (frM b 1000 l)=some (bif b then zfV ((canonS l,0),l) else zev (canonS l,0)):=by
 cases b with
 | true =>
   refine zrg canon_ok ?_; show zOrc zby [(lentEv 1000 l).1] (lentEv 1000 l).2=_
   have hz:zOrc zby [(lentEv 1000 l).1] (lentEv 1000 l).2=oCanon [(lentEv 1000 l).1] (lentEv 1000 l).2:=by unfold zOrc; simp (decide:=true) only [if_false,if_true]; rfl
   rw [hz]; unfold oCanon; have hex:∃ l',([(lentEv 1000 l).1]=[(lentEv 1000 l').1]∧(lentEv 1000 l).2=(lentEv 1000 l').2)∧FewEv l':=⟨l,⟨rfl,rfl⟩,h⟩
   rw [dif_pos hex]; have hsp:=hex.choose_spec; generalize hex.choose=l' at hsp
   have:l=l':=by have h2:=hsp.1.2; unfold lentEv at h2; simp only [zbA,zaS,Ent.mk.injEq,true_and,and_true] at h2; exact ev_inj h2
   subst this; rfl
 | false =>
   refine zrg canon_ok ?_; show zOrc zby [.sl 9 (List.map zaa l)] []=_
   have hz:zOrc zby [.sl 9 (List.map zaa l)] []=zvk [.sl 9 (List.map zaa l)]:=by unfold zOrc; simp (decide:=true) only [if_false,if_true]
   rw [hz]; unfold zvk; have hex:∃ l',[AV.sl 9 (List.map zaa l)]=[AV.sl 9 (List.map zaa l')]∧FewEv l':=⟨l,rfl,h⟩
   rw [dif_pos hex]; have hsp:=hex.choose_spec; generalize hex.choose=l' at hsp
   have:l=l':=by have h2:=hsp.1; simp only [zbA,AV.sl.injEq,true_and,and_true] at h2; exact ev_inj h2
   subst this; rfl
theorem c_walk {s:zaM} {ev:List zab} (h:OkRun s ev):cw zeG [.agg (zaA s),.sl 9 (List.map zaa ev)] []=some (zlq (deskL (walkS s ev).1,(walkS s ev).2)):=by
 refine zrg (walk_ok ci_ok cb_ok) ?_; show zOrc zeG [.agg (zaA s),.sl 9 (List.map zaa ev)] []=_
 have hz:zOrc zeG [.agg (zaA s),.sl 9 (List.map zaa ev)] []=oWalk [.agg (zaA s),.sl 9 (List.map zaa ev)]:=by unfold zOrc; simp (decide:=true) only [if_false,if_true]
 rw [hz]; unfold oWalk; have hex:∃ s' ev',[AV.agg (zaA s),AV.sl 9 (List.map zaa ev)]=[.agg (zaA s'),.sl 9 (List.map zaa ev')]∧OkRun s' ev':=⟨s,ev,rfl,h⟩
 rw [dif_pos hex]; have hsp:=hex.choose_spec.choose_spec; generalize hex.choose_spec.choose=ev' at hsp; generalize hex.choose=s' at hsp; obtain ⟨h1,_⟩:=hsp; simp only [zbA,AV.agg.injEq,AV.sl.injEq,true_and,and_true] at h1; obtain ⟨h1,h2⟩:=h1; have e1:s=s':=zkb.inj h1; have e2:ev=ev':=ev_inj h2; subst e1 e2; rfl
theorem zDp (R:Reop) (e:zab):cw zl2 [.mp (List.map zaw R),.agg (zaa e)] []=some (zat (reopB R e)):=by
 refine zwd R e ?_; have last:zfI R e 2=some (zat false):=zkY _ _ _ (by rw [zaY (by omega)]; rfl)
 have one:zfI R e 1=some (zat (match mfind ⟨e.Script,-1⟩ R with | some a=>lessS e.Stamp a | none=>false)):=by
  refine zkY _ _ _ ?_; rw [zaO (by omega),cPQ,show [zbc.enc e.Part,zbc.enc (-1)]=List.map zan [e.Part,-1] from rfl,zea]; simp only [show (1:Int).toNat=1 from rfl,zqT,zh3,za4]; rw [zk4,w6Q,show (1:Int)+1=2 from rfl,last]
  cases mfind ⟨e.Script,-1⟩ R with
  | none=>rfl
  | some a=>simp only [zlR,zaF,zir]; rw [zu0,zbe,ztg]; cases lessS e.Stamp a <;> rfl
 refine zkY _ _ _ ?_; rw [zaO (by omega),cPQ,show [zbc.enc e.Part,zbc.enc (-1)]=List.map zan [e.Part,-1] from rfl,zea]; simp only [show (0:Int).toNat=0 from rfl,zh3,za4]; rw [zk4,w6Q,show (0:Int)+1=1 from rfl,one]; unfold reopB
 cases mfind ⟨e.Script,e.Part⟩ R with
 | none=>rw [zuP]; rfl
 | some a =>
   simp only [zlR,zaF,zir]; rw [zu0,zbe,ztg]
   cases lessS e.Stamp a with
   | true=>rfl
   | false=>rw [zuP]; rfl
theorem zAF (d:zar) (R:Reop) (hl:d.marks.length≤1000000):cw zfp [.fp (ze5 d),.mp (List.map zaw R)] []=some (zeD (countS d R)):=by
 refine ztH d R ?_
 have key:∀ (n i:Nat) (m:Counts),i+n=d.marks.length→zdi d R (List.map zb4 m) i=some (zeD ((d.marks.drop i).foldl (zjt d R) m)):=by
  intro n
  induction n with
  | zero=>intro i m hi; refine zno _ _ _ _ ?_; rw [zaq,zaY (by omega),znB (by omega)]; rfl
  | succ n ih =>
    intro i m hi; have hlt:i < d.marks.length:=by omega
    refine zno _ _ _ _ ?_; rw [zaq,zaO (by omega),cPQ,zba,zkj,zaH hlt,za4,w6Q,show ((i:Int)+1)=((i+1:Nat):Int) by omega,zf9 hlt,List.foldl_cons]
    have put:msetD zP 117 64 (.agg (zeI.enc ⟨d.marks[i].event.Script,d.marks[i].event.Part⟩)) (.agg (zaa d.marks[i].event)) (List.map zb4 m) (fun m4=>zdi d R m4 ((i+1:Nat):Int)) =
      some (zeD ((d.marks.drop (i+1)).foldl (zjt d R) (mput ⟨d.marks[i].event.Script,d.marks[i].event.Part⟩ d.marks[i].event m))):=by
     rw [show (AV.agg (zeI.enc ⟨d.marks[i].event.Script,d.marks[i].event.Part⟩))=.agg (zbr ⟨d.marks[i].event.Script,d.marks[i].event.Part⟩) from rfl,zo4]; exact ih (i+1) _ (by omega)
    unfold zjt
    cases hv:d.marks[i].void with
    | true=>rw [zaF,if_pos rfl]; exact ih (i+1) m (by omega)
    | false =>
      rw [zax,iNs,zaD]; by_cases hlv:d.level < 2
      · rw [if_pos hlv,zDp,zaN]
        cases hr:reopB R d.marks[i].event with
        | true=>rw [zaF,if_pos ⟨hlv,rfl⟩]; exact ih (i+1) m (by omega)
        | false=>rw [zax,iNs]; exact put
      · rw [if_neg hlv,if_neg (fun h=>hlv h.1)]; exact put
 exact key d.marks.length 0 [] (by omega)
theorem zBB (a b:zag):∃ v:Int,cw zaf [.agg (zad a),.agg (zad b)] []=some (zbv v)∧decide (v < 0)=zdz a b:=by
 refine ⟨zmP [cmpI a.Script b.Script,cmpI a.Part b.Part,cmpI a.Marker b.Marker],zuj a b ?_,?_⟩
 · rw [c_cmp,zbe,c_cmp,zbe,c_cmp,zbe,c_Or _ (by simp),zbe]; rfl
 · unfold cmpI zdz; simp only [zmP]
   repeat' split
   all_goals first | omega | (simp_all; done) | (simp_all; omega) | (simp; omega)
theorem zCP {a b:zag} (h:zdz a b=true):zdz b a=false:=by
 unfold zdz at h ⊢
 grind
theorem zvf {a b c:zag} (h1:zdz b a=false) (h2:zdz c b=false):zdz c a=false:=by
 unfold zdz at h1 h2 ⊢
 grind
theorem givenLt_eq {a b:zag} (h1:zdz a b=false) (h2:zdz b a=false):a.Script=b.Script∧a.Part=b.Part∧a.Marker=b.Marker:=by
 unfold zdz at h1 h2
 grind
theorem swoG:Go.Sort.SWO zdz where
 irrefl:=fun x=>by unfold zdz; simp
 trans:=fun x y z h1 h2=>by unfold zdz at h1 h2 ⊢; grind
 ntrans:=fun x y z h1 h2=>zvf h2 h1
theorem cmpG:SG.Cmp zdz (fun _=>True) where
 ans:=fun x y _ _=>zBB x y
theorem okRun {s:zaM} (hs:zfH s) {l:List zab} (h:FewEv l):OkRun s (canonS l):=
 ⟨hs,fun e he=>(keep_mem ((zft l).mem_iff.1 he)).1,by have:=(zft l).length_eq; have:=h.2.1; omega⟩
theorem desk_ok {s:zaM} (hs:zfH s):∀ (ev:List zab) {i:Nat} {d:zar},(walkS s ev).1 i=some d→DeskOk s.Monitor ev.length d:=by
 have key:∀ (ev:List zab) (k:Nat) (st:Desks×Reop),(∀ i d,st.1 i=some d→DeskOk s.Monitor k d)→∀ i d,(ev.foldl (evS s) st).1 i=some d→DeskOk s.Monitor (k+ev.length) d:=by
  intro ev
  induction ev with
  | nil=>intro k st h; exact h
  | cons e r ih =>
    intro k st h i d hd; have:=ih (k+1) (evS s st e) ?_ i d hd
    · rw [zi7,show k+(r.length+1)=k+1+r.length by omega]; exact this
    · intro j f hj; have up:∀ x,(∀ g,st.1 x=some g→DeskOk s.Monitor (k+1) g):=fun x g hg=>(h x g hg).up
      unfold evS at hj; split at hj
      · split at hj
        · rename_i d0 hd0; unfold upd at hj; simp only at hj; split at hj
          · injection hj with hj; rw [← hj]; exact (h _ _ hd0).rein hs.monitor _
          · exact up _ _ hj
        · exact up _ _ hj
      · split at hj
        · exact up _ _ hj
        · split at hj
          · split at hj
            · rename_i d0 q hd0 _; split at hj
              · unfold upd at hj; simp only at hj; split at hj
                · injection hj with hj; rw [← hj]; exact (h _ _ hd0).note rfl _ _ _
                · exact up _ _ hj
              · unfold upd at hj; simp only at hj; split at hj
                · injection hj with hj; rw [← hj]; exact (h _ _ hd0).app _
                · exact up _ _ hj
              · exact up _ _ hj
            · exact up _ _ hj
          · exact up _ _ hj
 intro ev i d hd
 have:=key ev 0 (seats s.Markers,[]) (fun i d h=>by
  obtain ⟨m,_,_,rfl⟩:=zCo _ _ _ h
  exact DeskOk.zero hs.monitor _) i d hd
 simpa using this
theorem zBo {s:zaM} (hs:zfH s) (ev:List zab):∀ n,(suspTo (walkS s ev).1 n).length≤n*ev.length:=by
 intro n
 induction n with
 | zero=>simp [suspTo]
 | succ n ih =>
   rw [zo5,zjz,zsJ]
   cases hd:(walkS s ev).1 n with
   | none=>simp; omega
   | some d=>have:=(desk_ok hs ev hd).susp; simp; omega
theorem foLegs (b:Bool) {s:zaM} (hs:zfH s) {l:List zab} (h:FewEv l):FoLegs b s l (walkS s (canonS l)).1 (walkS s (canonS l)).2 where
 cCheck:=ztQ hs
 cCanon:=c_canon b h
 cWalk:=c_walk (okRun hs h)
 cCount:=fun i d hd=>zAF d _ (by
  have h1:=(desk_ok hs _ hd).marks; have h2:=(okRun hs h).2.2
  omega)
 cSort:=fun gs hp=>by
  have h1:=zuq s (canonS l) (walkS s (canonS l)).2 100; have h2:=(zft l).length_eq; have h3:=h.2.1; have h4:=hp.length_eq; obtain ⟨l',e1,e2,e3⟩:=SG.c_SortFunc cmpG swoG gs (fun _ _=>trivial) (by omega)
  have:l'=isort zdz (zdo (walkS s (canonS l)).1 (walkS s (canonS l)).2 100):=
   zr7 (lt:=zdz) ((e2.trans hp).trans (zoj _).symm) e3 (ztq (lt:=zdz) (fun _ _ _ h1 h2=>zvf h1 h2) (fun _ _ h=>zCP h) _) (fun a ha b hb h1 h2=>by
    have q:=givenLt_eq h1 h2
    exact given_inj ((e2.trans hp).mem_iff.1 ha) ((e2.trans hp).mem_iff.1 hb) q.1 q.2.1 q.2.2)
  rw [this] at e1; exact e1
 few:=by have h1:=zuq s (canonS l) (walkS s (canonS l)).2 100; have h2:=(zft l).length_eq; have h3:=h.2.1; omega
 fewS:=by have h1:=zBo hs (canonS l) 100; have h2:=(zft l).length_eq; have h3:=h.2.1; omega
theorem zvd (s:zaM) (l:List zab):foldS s l=⟨isort zdz (zdo (walkS s (canonS l)).1 (walkS s (canonS l)).2 100),suspTo (walkS s (canonS l)).1 100⟩:=rfl
theorem fold_ok:CallOK zP (single zcy zOrc):=by
 intro f args ms r ms' h; unfold single at h; split at h
 case isFalse=>cases h
 rename_i hf; subst hf
 cases ms with
 | nil =>
   have hz:zOrc zcy args []=oFoldD args:=by unfold zOrc; simp (decide:=true) only [if_false,if_true]
   rw [hz] at h; clear hz; unfold oFoldD at h; split at h
   case isFalse=>cases h
   rename_i hex; have hsp:=hex.choose_spec.choose_spec; generalize hex.choose_spec.choose=l at h hsp; generalize hex.choose=s at h hsp; obtain ⟨rfl,hs,hl⟩:=hsp; injection h with h; injection h with h1 h2; subst h1 h2; refine ⟨zB3,fun w S κ vals hvl hS hv hms hinj=>?_⟩; exact fo_calls (foLegs false hs hl) (zoj _).length_eq w S κ vals hvl hS hv hms hinj
 | cons a m =>
   have hz:zOrc zcy args (a :: m)=oFold args (a :: m):=by unfold zOrc; simp (decide:=true) only [if_false,if_true]
   rw [hz] at h; clear hz; unfold oFold at h; split at h
   case isFalse=>cases h
   rename_i hex; have hsp:=hex.choose_spec.choose_spec; generalize hex.choose_spec.choose=l at h hsp; generalize hex.choose=s at h hsp; obtain ⟨⟨ha,hm⟩,hs,hl⟩:=hsp; subst ha; rw [hm] at h ⊢; injection h with h; injection h with h1 h2; subst h1 h2; refine ⟨zB3,fun w S κ vals hvl hS hv hms hinj=>?_⟩; exact fo_calls (foLegs true hs hl) (zoj _).length_eq w S κ vals hvl hS hv hms hinj
theorem c_fold {s:zaM} (hs:zfH s) {l:List zab} (h:FewEv l):cw zcy [.agg (zaA s),.row 1001 9 0 (List.map zaa l).length] [(1001,⟨9,zac,List.map zaa l,false⟩)]=some (zrj ((foldS s l,0),l)):=by
 refine zrg fold_ok ?_; show zOrc zcy [.agg (zaA s),(lentEv 1001 l).1] (lentEv 1001 l).2=_
 have hz:zOrc zcy [.agg (zaA s),(lentEv 1001 l).1] (lentEv 1001 l).2=oFold [.agg (zaA s),(lentEv 1001 l).1] (lentEv 1001 l).2:=by unfold zOrc; simp (decide:=true) only [if_false,if_true]; rfl
 rw [hz]; unfold oFold; have hex:∃ s' l',([.agg (zaA s),(lentEv 1001 l).1]=[.agg (zaA s'),(lentEv 1001 l').1]∧(lentEv 1001 l).2=(lentEv 1001 l').2)∧zfH s'∧FewEv l':=⟨s,l,⟨rfl,rfl⟩,hs,h⟩
 rw [dif_pos hex]; have hsp:=hex.choose_spec.choose_spec; generalize hex.choose_spec.choose=l' at hsp; generalize hex.choose=s' at hsp; obtain ⟨⟨h1,h2⟩,_⟩:=hsp
 have e2:l=l':=by unfold lentEv at h2; simp only [zbA,zaS,Ent.mk.injEq,true_and,and_true] at h2; exact ev_inj h2
 simp only [zbA,AV.agg.injEq] at h1; have e1:s=s':=zkb.inj h1.1; subst e1 e2; rfl
theorem c_fold_d {s:zaM} (hs:zfH s) {l:List zab} (h:FewEv l):cw zcy [.agg (zaA s),.sl 9 (List.map zaa l)] []=some (zpB (foldS s l,0)):=by
 refine zrg fold_ok ?_; show zOrc zcy [.agg (zaA s),.sl 9 (List.map zaa l)] []=_
 have hz:zOrc zcy [.agg (zaA s),.sl 9 (List.map zaa l)] []=oFoldD [.agg (zaA s),.sl 9 (List.map zaa l)]:=by unfold zOrc; simp (decide:=true) only [if_false,if_true]
 rw [hz]; unfold oFoldD; have hex:∃ s' l',[.agg (zaA s),AV.sl 9 (List.map zaa l)]=[.agg (zaA s'),AV.sl 9 (List.map zaa l')]∧zfH s'∧FewEv l':=⟨s,l,rfl,hs,h⟩
 rw [dif_pos hex]; have hsp:=hex.choose_spec.choose_spec; generalize hex.choose_spec.choose=l' at hsp; generalize hex.choose=s' at hsp; obtain ⟨h1,_⟩:=hsp; simp only [zbA,AV.agg.injEq,AV.sl.injEq,true_and,and_true] at h1; have e1:s=s':=zkb.inj h1.1; have e2:l=l':=ev_inj h1.2; subst e1 e2; rfl
end Go.Proofs.YtikogkgdkdmljaaGreat
end
