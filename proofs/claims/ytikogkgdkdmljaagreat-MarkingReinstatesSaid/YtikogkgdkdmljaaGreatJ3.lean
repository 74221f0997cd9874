/- The library's sort by a comparison: what its parts compute is what the guide's plain layer of the sort says. -/
import Derived.Test.YtikogkgdkdmljaaGreatK5
import Derived.Test.YtikogkgdkdmljaaGreatAb9
import Derived.Test.YtikogkgdkdmljaaGreatJ2
import Derived.Sort.AssemblyPlain
noncomputable section
namespace Go.Proofs.YtikogkgdkdmljaaGreat.SE
open Go.Ab Go.Sort
instance:Inhabited zab:=⟨⟨⟨0,0,0⟩,0,0,0,0,0,[]⟩⟩
abbrev Er (d:Array zab):List (List AV):=List.map zaa d.toList
theorem lenE (d:Array zab):(Er d).length=d.size:=by simp
structure Cmp (lt:zab→zab→Bool) (P:zab→Prop):Prop where
 ans:∀ x y,P x→P y→∃ v:Int,cw zah [.agg (zaa x),.agg (zaa y)] []=some (zau.enc v)∧decide (v < 0)=lt x y
def AllA (P:zab→Prop) (d:Array zab):Prop:=∀ i,i < d.size→P d[i]!
section
variable {lt:zab→zab→Bool} {P:zab→Prop}
theorem Cmp.step {β:Type} (hc:Cmp lt P) {x y:zab} (hx:P x) (hy:P y) (A B:Option β):(callD zau (cw zah [.agg (zaa x),.agg (zaa y)] []) fun (r:Int)=>brn (decide (r < 0)) A B)=brn (lt x y) A B:=by obtain ⟨v,h1,h2⟩:=hc.ans x y hx hy; rw [za6 h1,h2]
theorem Cmp.stepN {β:Type} (hc:Cmp lt P) {x y:zab} (hx:P x) (hy:P y) (A B:Option β):(callD zau (cw zah [.agg (zaa x),.agg (zaa y)] []) fun (r:Int)=>brn (!decide (r < 0)) A B)=brn (lt x y) B A:=by obtain ⟨v,h1,h2⟩:=hc.ans x y hx hy; rw [za6 h1,h2,brn_not]
theorem rdA {β:Type} {d:Array zab} {n i:Nat} (hn:n=d.size) (hi:i < d.size) (K:zab→Option β):(chk ((0:Int)≤(i:Int))<|chk ((i:Int) < (n:Int))<|elemD zai (Er d) (0+((i:Nat):Int).toNat) K)=K d[i]!:=by rw [cPQ,cPQ,za9,zcA,ztr (D:=zai) (l:=d.toList) (x:=d[i]!) (by simp [hi])]
theorem setA (d:Array zab) (i:Nat) (x:zab):List.set (Er d) i (zaa x)=Er (d.setIfInBounds i x):=by show List.set (List.map zaa d.toList) i (zaa x)=List.map zaa (d.setIfInBounds i x).toList; rw [Array.toList_setIfInBounds,zvf]
theorem rdS {β:Type} {d:Array zab} {n i j:Nat} {x:zab} (hn:n=d.size) (hj:j < d.size) (K:zab→Option β):(chk ((0:Int)≤(j:Int))<|chk ((j:Int) < (n:Int))<|elemD zai (List.set (Er d) (0+((i:Nat):Int).toNat) (zaa x)) (0+((j:Nat):Int).toNat) K)=K (d.setIfInBounds i x)[j]!:=by rw [za9,zcA i,setA]; exact rdA (by rw [zlF]; exact hn) (by rw [zlF]; exact hj) K
theorem swpE (d:Array zab) (i j:Nat):List.set (List.set (Er d) (0+((i:Nat):Int).toNat) (zaa d[j]!)) (0+((j:Nat):Int).toNat) (zaa d[i]!)=Er (swp d i j):=by rw [za9,za9,zcA,zcA,setA,setA]; rfl
theorem zaQ (d:Array zab) (i j:Nat):(swp d i j).size=d.size:=by unfold swp; rw [zlF,zlF]
theorem AllA.swp {d:Array zab} (h:AllA P d) {i j:Nat} (hi:i < d.size) (hj:j < d.size):AllA P (swp d i j):=by intro k hk; rw [zaQ] at hk; have hP:=swp_permIn d 0 d.size i j (by omega) hi (by omega) hj (zcx _); exact permIn_all d (Go.Sort.swp d i j) 0 d.size P (zcx _) hP (fun k _ hk=>h k hk) k (by omega) hk
theorem AllA.perm {d d':Array zab} {a b:Nat} (h:AllA P d) (hab:a≤b) (hb:b≤d.size) (hP:PermIn a b d d'):AllA P d':=by intro k hk; rw [hP.1] at hk; have hP':=permIn_mono d d' a b 0 d.size (by omega) hb (zcx _) hP; exact permIn_all d d' 0 d.size P (zcx _) hP' (fun k _ hk=>h k hk) k (by omega) hk
theorem k_ins2 (hc:Cmp lt P) (a0:List zab) (a b i:Nat):∀ (j:Nat) (d:Array zab) (y:AV×Mem),a0.length=d.size→AllA P d→j < d.size→d.size≤1000000→i≤1000000→zcb a0 (a:Int) (b:Int) (Er (insInner lt a j d)) ((i+1:Nat):Int)=some y→zdi a0 (a:Int) (b:Int) (i:Int) (Er d) (j:Int)=some y:=by
 have ei:∀ i:Nat,i≤1000000→w64 ((i:Int)+1)=((i+1:Nat):Int):=fun i hi=>by rw [w6Q]; omega
 intro j
 induction j with
 | zero=>intro d y hn hP hj hs hi h; refine zgE _ _ _ _ _ _ ?_; rw [zaD,iNQ,ei i hi]; exact h
 | succ j ih =>
   intro d y hn hP hj hs hi h; refine zgE _ _ _ _ _ _ ?_; unfold insInner at h; have e1:w64 (((j+1:Nat):Int) - 1)=(j:Int):=by rw [w6Q]; omega
   rw [zaD,e1,ei i hi,zas]; by_cases ha:a < j+1
   · rw [iPQ,rdA hn hj,rdA hn (by omega),hc.step (hP _ hj) (hP _ (by omega))]
     cases hlt:lt d[j+1]! d[j]! with
     | false=>rw [hlt,zqn,iNs] at h; rw [zaz]; exact h
     | true=>rw [hlt,zqm,if_pos (by simpa using ha)] at h; rw [zaM,rdA hn (by omega),rdA hn hj,rdA hn hj,rdS hn (by omega),swpE]; exact ih _ y (by rw [zaQ]; exact hn) (hP.swp hj (by omega)) (by rw [zaQ]; omega) (by rw [zaQ]; exact hs) hi h
   · rw [iNQ]; rw [if_neg (by simp; omega)] at h; exact h
theorem zgX (a:Nat):∀ (j:Nat) (d:Array zab),(insInner lt a j d).size=d.size
 | 0,d=>rfl
 | j+1,d=>by
   unfold insInner; split
   · rw [zgX a j,zaQ]
   · rfl
theorem znB (a:Nat):∀ (j:Nat) (d:Array zab),j < d.size→AllA P d→AllA P (insInner lt a j d)
 | 0,d,_,h=>h
 | j+1,d,hj,h=>by
   unfold insInner; split
   · exact znB a j _ (by rw [zaQ]; omega) (h.swp hj (by omega))
   · exact h
theorem k_ins1 (hc:Cmp lt P) (a0:List zab) (a b:Nat):∀ (k i:Nat) (d:Array zab),b≤i+k→a0.length=d.size→AllA P d→b≤d.size→d.size≤1000000→i≤1000000→zcb a0 (a:Int) (b:Int) (Er d) (i:Int)=some (zaj.enc (insOuter lt a b i d).toList):=by
 intro k
 induction k with
 | zero=>intro i d hk hn hP hb hs hi; refine zgD _ _ _ _ _ ?_; unfold insOuter; rw [zaD,iNQ,iNQ]; rfl
 | succ k ih =>
   intro i d hk hn hP hb hs hi; refine zgD _ _ _ _ _ ?_; unfold insOuter; rw [zaD]; by_cases hib:i < b
   · rw [iPQ,if_pos hib]; refine k_ins2 hc a0 a b i i d _ hn hP (by omega) hs hi ?_; exact ih (i+1) _ (by omega) (by rw [zgX]; exact hn) (znB a i d (by omega) hP) (by rw [zgX]; exact hb) (by rw [zgX]; exact hs) (by omega)
   · rw [iNQ,if_neg hib]; rfl
abbrev mA (d:Array zab):Mem:=[(1000,⟨9,zac,Er d,false⟩)]
abbrev rA (d:Array zab):AV:=.row 1000 9 0 (List.length (Er d))
theorem ztJ (hc:Cmp lt P) (d:Array zab) (a b:Nat) (hP:AllA P d) (hab:a≤b) (hb:b≤d.size) (hs:d.size≤100000):cw zeW [rA d,I (a:Int),I (b:Int),.fn zah []] (mA d)=some (zaj.enc (insertionSort lt d a b).toList):=by
 refine zkZ d.toList _ _ ?_; have e:w64 ((a:Int)+1)=((a+1:Nat):Int):=by rw [w6Q]; omega
 rw [e]; exact k_ins1 hc d.toList a b b (a+1) d (by omega) (by simp) hP hb (by omega) (by omega)
theorem znK (hi first:Nat):∀ (k root:Nat) (d:Array zab),hi≤root+k→first+hi≤d.size→AllA P d→AllA P (siftDown lt hi first root d)∧(siftDown lt hi first root d).size=d.size:=by
 intro k
 induction k with
 | zero=>intro root d hk hs h; unfold siftDown; rw [dif_pos (by omega)]; exact ⟨h,rfl⟩
 | succ k ih =>
   intro root d hk hs h; unfold siftDown; split
   · exact ⟨h,rfl⟩
   · rename_i h1; split
     · split
       · exact ⟨h,rfl⟩
       · split
         · rename_i h2; have:=ih (2*root+2) (swp d (first+root) (first+(2*root+2))) (by omega) (by rw [zaQ]; exact hs) (h.swp (by omega) (by omega)); rw [zaQ] at this; exact this
         · exact ⟨h,rfl⟩
     · split
       · exact ⟨h,rfl⟩
       · have:=ih (2*root+1) (swp d (first+root) (first+(2*root+1))) (by omega) (by rw [zaQ]; exact hs) (h.swp (by omega) (by omega)); rw [zaQ] at this; exact this
theorem k_sift (hc:Cmp lt P) (a0:List zab) (hi first:Nat):∀ (k root:Nat) (d:Array zab),hi≤root+k→first+hi≤d.size→a0.length=d.size→AllA P d→d.size≤100000→root≤100000→zc4 a0 (hi:Int) (first:Int) (Er d) (root:Int)=some (zaj.enc (siftDown lt hi first root d).toList):=by
 intro k
 induction k with
 | zero=>intro root d hk hs hn hP hsz hr; refine zhR _ _ _ _ _ ?_; unfold siftDown; rw [w6Q (n:=2*(root:Int)),w6Q (n:=2*(root:Int)+1),zaD,iPQ,dif_pos (by omega)]; rfl
 | succ k ih =>
   intro root d hk hs hn hP hsz hr; refine zhR _ _ _ _ _ ?_; unfold siftDown; have e1:w64 (w64 (2*(root:Int))+1)=((2*root+1:Nat):Int):=by rw [w6Q (n:=2*(root:Int)),w6Q]; omega
   have e2:w64 (((2*root+1:Nat):Int)+1)=((2*root+2:Nat):Int):=by rw [w6Q]; omega
   have e3:w64 ((first:Int)+((2*root+1:Nat):Int))=((first+(2*root+1):Nat):Int):=by rw [w6Q]; omega
   have e4:w64 (((first+(2*root+1):Nat):Int)+1)=((first+(2*root+1)+1:Nat):Int):=by rw [w6Q]; omega
   have e5:w64 ((first:Int)+(root:Int))=((first+root:Nat):Int):=by rw [w6Q]; omega
   have e6:w64 ((first:Int)+((2*root+2:Nat):Int))=((first+(2*root+2):Nat):Int):=by rw [w6Q]; omega
   rw [e1,e2,e3,e4,zaD,zas]; by_cases h1:2*root+1 ≥ hi
   · rw [iPQ,dif_pos h1]; rfl
   · rw [iNQ,dif_neg h1,zaD]
     have low:zdj a0 (hi:Int) (first:Int) (Er d) (root:Int)=some (zaj.enc (if (!lt d[first+root]! d[first+(2*root+1)]!)=true then d else siftDown lt hi first (2*root+1) (swp d (first+root) (first+(2*root+1)))).toList):=by
      refine zkD _ _ _ _ _ ?_; rw [e1,e3,e5,zas,rdA hn (by omega),rdA hn (by omega),hc.stepN (hP _ (by omega)) (hP _ (by omega))]
      cases hl:lt d[first+root]! d[first+(2*root+1)]! with
      | false=>rw [zaz,if_pos (by simp)]; rfl
      | true=>rw [zaM,iNs,rdA hn (by omega),rdA hn (by omega),rdA hn (by omega),rdS hn (by omega),swpE]; exact ih (2*root+1) _ (by omega) (by rw [zaQ]; exact hs) (by rw [zaQ]; exact hn) (hP.swp (by omega) (by omega)) (by rw [zaQ]; exact hsz) (by omega)
     by_cases h2:2*root+1+1 < hi
     · rw [iPQ,rdA hn (by omega),rdA hn (by omega),hc.step (hP _ (by omega)) (hP _ (by omega))]
       cases hl:lt d[first+(2*root+1)]! d[first+(2*root+1)+1]! with
       | false=>rw [zaz,iNs]; exact low
       | true =>
         rw [zaM,if_pos (by simpa using h2)]; refine zk0 _ _ _ _ _ ?_; rw [e1,e2,e5,e6,zas,rdA hn (by omega),rdA hn (by omega),hc.stepN (hP _ (by omega)) (hP _ (by omega))]
         cases hl2:lt d[first+root]! d[first+(2*root+2)]! with
         | false=>rw [zaz,if_pos (by simp)]; rfl
         | true=>rw [zaM,iNs,dif_pos (by omega),rdA hn (by omega),rdA hn (by omega),rdA hn (by omega),rdS hn (by omega),swpE]; exact ih (2*root+2) _ (by omega) (by rw [zaQ]; exact hs) (by rw [zaQ]; exact hn) (hP.swp (by omega) (by omega)) (by rw [zaQ]; exact hsz) (by omega)
     · rw [iNQ,if_neg (by simp; omega)]; exact low
theorem c_sift (hc:Cmp lt P) (d:Array zab) (root hi first:Nat) (hs:first+hi≤d.size) (hP:AllA P d) (hsz:d.size≤100000) (hr:root≤100000):cw zdf [rA d,I (root:Int),I (hi:Int),I (first:Int),.fn zah []] (mA d)=some (zaj.enc (siftDown lt hi first root d).toList):=
 zmH d.toList _ _ _ (k_sift hc d.toList hi first hi root d (by omega) hs (by simp) hP hsz hr)
theorem row_eq {a0:List zab} {d:Array zab} (h:a0.length=d.size):AV.row 1000 9 0 ((List.map zaa a0).length)=rA d:=by show AV.row 1000 9 0 _=AV.row 1000 9 0 _; rw [zas,lenE,h]
theorem k_heap2 (hc:Cmp lt P) (a0:List zab) (first:Nat):∀ (k:Nat) (d:Array zab),first+k≤d.size→a0.length=d.size→AllA P d→d.size≤100000→zd1 a0 (first:Int) (Er d) ((k:Int) - 1)=some (zaj.enc (heapPop lt first k d).toList):=by
 intro k
 induction k with
 | zero=>intro d hs hn hP hsz; refine zhN _ _ _ _ ?_; rw [zaD,iNQ]; rfl
 | succ k ih =>
   intro d hs hn hP hsz; refine zhN _ _ _ _ ?_; have e0:((k+1:Nat):Int) - 1=(k:Int):=by omega
   have e1:w64 ((first:Int)+(k:Int))=((first+k:Nat):Int):=by rw [w6Q]; omega
   have e2:w64 ((k:Int) - 1)=(k:Int) - 1:=w64_id (by omega) (by omega); have hP':=hP.swp (i:=first) (j:=first+k) (by omega) (by omega); have hsi:=znK (lt:=lt) k first k 0 (swp d first (first+k)) (by omega) (by rw [zaQ]; omega) hP'
   rw [e0,zaD,iPQ,e1,e2,zas,rdA hn (by omega),rdA hn (by omega),rdA hn (by omega),rdS hn (by omega),swpE]
   have hrow:AV.row 1000 9 0 a0.length=rA (swp d first (first+k)):=by
    have:=row_eq (a0:=a0) (d:=swp d first (first+k)) (by rw [zaQ]; exact hn)
    rwa [zas] at this
   have hcs:cw zdf [rA (swp d first (first+k)),I 0,I (k:Int),I (first:Int),.fn zah []] (mA (swp d first (first+k)))=some (zaj.enc (siftDown lt k first 0 (swp d first (first+k))).toList):=
    c_sift hc _ 0 k first (by rw [zaQ]; omega) hP' (by rw [zaQ]; exact hsz) (by omega)
   rw [hrow,za6 hcs]; have h3:(siftDown lt k first 0 (swp d first (first+k))).size=d.size:=by rw [hsi.2,zaQ]
   exact ih _ (by rw [h3]; omega) (by rw [h3]; exact hn) hsi.1 (by rw [h3]; exact hsz)
theorem k_heap1 (hc:Cmp lt P) (a0:List zab) (a b:Nat) (hab:a≤b):∀ (k:Nat) (d:Array zab),k≤100000→b≤d.size→a0.length=d.size→AllA P d→d.size≤100000→zd0 a0 (a:Int) (b:Int) (Er d) ((k:Int) - 1)=some (zaj.enc (heapPop lt a (b - a) (heapBuild lt (b - a) a k d)).toList):=by
 intro k
 induction k with
 | zero =>
   intro d hk hb hn hP hsz; refine zhM _ _ _ _ _ ?_; have e:w64 (w64 ((b:Int) - (a:Int)) - 1)=((b - a:Nat):Int) - 1:=by rw [w6Q (n:=(b:Int) - a),w6Q]; omega
   rw [zaD,iNQ,e]; exact k_heap2 hc a0 a (b - a) d (by omega) hn hP hsz
 | succ k ih =>
   intro d hk hb hn hP hsz; refine zhM _ _ _ _ _ ?_; have e0:((k+1:Nat):Int) - 1=(k:Int):=by omega
   have e1:w64 ((b:Int) - (a:Int))=((b - a:Nat):Int):=by rw [w6Q]; omega
   have e2:w64 ((k:Int) - 1)=(k:Int) - 1:=w64_id (by omega) (by omega); have hsi:=znK (lt:=lt) (b - a) a (b - a) k d (by omega) (by omega) hP; rw [e0,zaD,iPQ,e1,e2,row_eq hn,za6 (c_sift hc d k (b - a) a (by omega) hP hsz (by omega))]; exact ih _ (by omega) (by rw [hsi.2]; exact hb) (by rw [hsi.2]; exact hn) hsi.1 (by rw [hsi.2]; exact hsz)
theorem c_heap (hc:Cmp lt P) (d:Array zab) (a b:Nat) (hP:AllA P d) (hab:a < b) (hb:b≤d.size) (hs:d.size≤100000):cw zfM [rA d,I (a:Int),I (b:Int),.fn zah []] (mA d)=some (zaj.enc (heapSort lt d a b).toList):=by
 refine zmF d.toList _ _ ?_; have e0:w64 (w64 ((b:Int) - (a:Int)) - 1)=((b - a - 1:Nat):Int):=by rw [w6Q (n:=(b:Int) - a),w6Q]; omega
 have e1:(((b - a - 1:Nat):Int)).tdiv 2=(((b - a - 1) / 2:Nat):Int):=rfl; have e2:w64 (((b - a - 1) / 2:Nat):Int)=(((b - a - 1) / 2+1:Nat):Int) - 1:=by rw [w6Q]; omega
 rw [cPQ,e0,e1,e2]; exact k_heap1 hc d.toList a b (by omega) ((b - a - 1) / 2+1) d (by omega) hb (by simp) hP hs
theorem zxv (a0:List zab):∀ (k i j:Nat) (d:Array zab),j≤i+k→j < d.size∨j≤i→a0.length=d.size→d.size≤100000→i≤100000→zdw a0 (Er d) (i:Int) (j:Int)=some (zaj.enc (reverseLoop i j d).toList):=by
 intro k
 induction k with
 | zero=>intro i j d hk hj hn hs hi; refine zgV _ _ _ _ ?_; unfold reverseLoop; rw [zaD,iNQ,iNQ]; rfl
 | succ k ih =>
   intro i j d hk hj hn hs hi; refine zgV _ _ _ _ ?_; unfold reverseLoop; rw [zaD]; by_cases hij:i < j
   · have e1:w64 ((i:Int)+1)=((i+1:Nat):Int):=by rw [w6Q]; omega
     have e2:w64 ((j:Int) - 1)=((j - 1:Nat):Int):=by rw [w6Q]; omega
     rw [iPQ,if_pos hij,zas,rdA hn (by omega),rdA hn (by omega),rdA hn (by omega),rdS hn (by omega),swpE,e1,e2]; exact ih (i+1) (j - 1) _ (by omega) (by rw [zaQ]; omega) (by rw [zaQ]; exact hn) (by rw [zaQ]; exact hs) (by omega)
   · rw [iNQ,if_neg hij]; rfl
theorem zq9 (d:Array zab) (a b:Nat) (hab:a < b) (hb:b≤d.size) (hs:d.size≤100000):cw zdK [rA d,I (a:Int),I (b:Int),.fn zah []] (mA d)=some (zaj.enc (reverseRange d a b).toList):=by
 refine zlb d.toList _ _ ?_; have e:w64 ((b:Int) - 1)=((b - 1:Nat):Int):=by rw [w6Q]; omega
 rw [e]; exact zxv d.toList b a (b - 1) d (by omega) (by omega) (by simp) hs (by omega)
end
section
variable {lt:zab→zab→Bool} {P:zab→Prop}
theorem up1 {i:Nat} (h:i≤1000000):w64 ((i:Int)+1)=((i+1:Nat):Int):=by rw [w6Q]; omega
theorem dn1 {i:Nat} (h0:1≤i) (h:i≤1000000):w64 ((i:Int) - 1)=((i - 1:Nat):Int):=by rw [w6Q]; omega
theorem zcg (p:zab→Bool) (d:Array zab) (j i:Nat):scanUp p d j i=if (decide (i≤j) && p d[i]!)=true then scanUp p d j (i+1) else i:=by conv=>lhs; unfold scanUp
theorem zc6 (p:zab→Bool) (d:Array zab) (i:Nat) {j:Nat} (hj:1≤j):scanDown p d i j=if (decide (i≤j) && p d[j]!)=true then scanDown p d i (j - 1) else j:=by
 obtain ⟨k,rfl⟩:∃ k,j=k+1:=⟨j - 1,by omega⟩
 rfl
theorem zkB (p:zab→Bool) (d:Array zab) (j:Nat):∀ (k i:Nat),j≤i+k→i≤j+1→scanUp p d j i≤j+1
 | 0,i,hk,hi=>by
   rw [zcg]; split
   · rw [zcg]; rename_i h; simp only [zb5,decide_eq_true_eq] at h; rw [if_neg (by simp; omega)]; omega
   · exact hi
 | k+1,i,hk,hi=>by
   rw [zcg]; split
   · rename_i h; simp only [zb5,decide_eq_true_eq] at h; exact zkB p d j k (i+1) (by omega) (by omega)
   · exact hi
theorem ziE (p:zab→Bool) (d:Array zab) (i:Nat) (hi:1≤i):∀ (j:Nat),i≤j+1→i≤scanDown p d i j+1
 | 0,h=>by simpa [scanDown] using h
 | j+1,h=>by
   unfold scanDown; split
   · rename_i h1; simp only [zb5,decide_eq_true_eq] at h1; exact ziE p d i hi j (by omega)
   · omega
theorem ziF (p:zab→Bool) (d:Array zab) (j:Nat):∀ (k i:Nat),j+1≤i+k→scanUp p d j i≤j→p d[scanUp p d j i]! = false
 | 0,i,hk,h=>by rw [zcg,if_neg (by simp; omega)] at h; omega
 | k+1,i,hk,h=>by
   rw [zcg] at h ⊢; split
   · rename_i h1; rw [if_pos h1] at h; exact ziF p d j k (i+1) (by omega) h
   · rename_i h1; rw [if_neg h1] at h; simp only [zb5,decide_eq_true_eq,not_and,zvj] at h1; exact h1 h
theorem zgZ (q:zab→Bool) (d:Array zab) (i:Nat) (hi:1≤i):∀ (j:Nat),i≤scanDown q d i j→q d[scanDown q d i j]! = false
 | 0,h=>by simp [scanDown] at h; omega
 | j+1,h=>by
   unfold scanDown at h ⊢; split
   · rename_i h1; rw [if_pos h1] at h; exact zgZ q d i hi j h
   · rename_i h1; rw [if_neg h1] at h; simp only [zb5,decide_eq_true_eq,not_and,zvj] at h1; exact h1 h
abbrev rPart (m:Nat) (b:Bool) (d:Array zab):Option (AV×Mem):=some (zc5.enc ((( m:Int),b),d.toList))
theorem zuS (hc:Cmp lt P) (a0:List zab) (a:Nat) (d:Array zab) (hn:a0.length=d.size) (hP:AllA P d) (hs:d.size≤100000) (ha:a < d.size) (j:Nat) (hj:j < d.size) (y:AV×Mem):∀ (k i:Nat),j+1≤i+k→i≤100001→zcX a0 (a:Int) (Er d) (j:Int) ((scanUp (fun x=>lt x d[a]!) d j i:Nat):Int)=some y→zdU a0 (a:Int) (Er d) (j:Int) (i:Int)=some y:=by
 intro k
 induction k with
 | zero=>intro i hk hi h; refine zhu _ _ _ _ _ ?_; rw [zcg,if_neg (by simp; omega)] at h; rw [zaD,iNQ]; exact h
 | succ k ih =>
   intro i hk hi h; refine zhu _ _ _ _ _ ?_; rw [zcg] at h; rw [zaD,up1 (by omega),zas]; by_cases hij:i≤j
   · rw [iPQ,rdA hn (by omega),rdA hn ha,hc.step (hP _ (by omega)) (hP _ ha)]
     cases hl:lt d[i]! d[a]! with
     | true=>rw [hl,if_pos (by simpa using hij)] at h; rw [zaM]; exact ih (i+1) (by omega) (by omega) h
     | false=>rw [hl,iNs] at h; rw [zaz]; exact h
   · rw [if_neg (by simp; omega)] at h; rw [iNQ]; exact h
theorem k_part5 (hc:Cmp lt P) (a0:List zab) (a:Nat) (d:Array zab) (hn:a0.length=d.size) (hP:AllA P d) (hs:d.size≤100000) (ha:a < d.size) (i:Nat) (hi:1≤i) (hi2:i≤100001) (y:AV×Mem):∀ (j:Nat),j < d.size→i≤j+1→zbU a0 (a:Int) (Er d) (i:Int) ((scanDown (fun x=>!lt x d[a]!) d i j:Nat):Int)=some y→zdG a0 (a:Int) (Er d) (i:Int) (j:Int)=some y:=by
 intro j
 induction j with
 | zero=>intro hj hij h; refine zg3 _ _ _ _ _ ?_; rw [zaD,iNQ]; exact h
 | succ j ih =>
   intro hj hij h; refine zg3 _ _ _ _ _ ?_; rw [zc6 _ _ _ (by omega)] at h; rw [zaD,dn1 (by omega) (by omega),zas]; by_cases hle:i≤j+1
   · rw [iPQ,rdA hn (by omega),rdA hn ha,hc.stepN (hP _ (by omega)) (hP _ ha)]
     cases hl:lt d[j+1]! d[a]! with
     | false =>
       rw [hl,if_pos (by simpa using hle)] at h; rw [zaz]; by_cases h0:i≤j+1 - 1+1
       · exact ih (by omega) h0 h
       · omega
     | true=>rw [hl,iNs] at h; rw [zaM]; exact h
   · rw [if_neg (by simp; omega)] at h; rw [iNQ]; exact h
theorem zs1 (hc:Cmp lt P) (a0:List zab) (a:Nat) (d:Array zab) (hn:a0.length=d.size) (hP:AllA P d) (hs:d.size≤100000) (ha:a < d.size) (i:Nat) (hi:1≤i) (hi2:i≤100001) (y:AV×Mem)
  (j:Nat) (hj:j < d.size) (hij:i≤j+1) (h:zbU a0 (a:Int) (Er d) (i:Int) ((scanDown (fun x=>!lt x d[a]!) d i j:Nat):Int)=some y):zcX a0 (a:Int) (Er d) (j:Int) (i:Int)=some y:=by
 refine zls _ _ _ _ _ ?_; by_cases h0:j=0
 · subst h0; rw [zaD,iNQ]; exact h
 · rw [zc6 _ _ _ (by omega)] at h; rw [zaD,dn1 (by omega) (by omega),zas]; by_cases hle:i≤j
   · rw [iPQ,rdA hn (by omega),rdA hn ha,hc.stepN (hP _ (by omega)) (hP _ ha)]
     cases hl:lt d[j]! d[a]! with
     | false=>rw [hl,if_pos (by simpa using hle)] at h; rw [zaz]; exact k_part5 hc a0 a d hn hP hs ha i hi hi2 y (j - 1) (by omega) (by omega) h
     | true=>rw [hl,iNs] at h; rw [zaM]; exact h
   · rw [if_neg (by simp; omega)] at h; rw [iNQ]; exact h
theorem zvR (hc:Cmp lt P) (a0:List zab) (a:Nat):∀ (n i j:Nat) (d:Array zab),j+1 - i≤n→a < i→i≤j+1→j < d.size→a0.length=d.size→AllA P d→d.size≤100000→zdT a0 (a:Int) (Er d) (i:Int) (j:Int)=rPart (partLoop lt a i j d).1 false (swp (partLoop lt a i j d).2 (partLoop lt a i j d).1 a):=by
 intro n
 induction n with
 | zero =>
   intro i j d hn hai hij hj hl hP hs; refine zht _ _ _ _ _ ?_; refine zuS hc a0 a d hl hP hs (by omega) j hj _ (j+1) i (by omega) (by omega) ?_; have hu:scanUp (fun x=>lt x d[a]!) d j i=i:=by rw [zcg,if_neg (by simp; omega)]
   rw [hu]; refine zs1 hc a0 a d hl hP hs (by omega) i (by omega) (by omega) _ j hj hij ?_
   have hd:scanDown (fun x=>!lt x d[a]!) d i j=j:=by
    by_cases h0:j=0
    · subst h0; rfl
    · rw [zc6 _ _ _ (by omega),if_neg (by simp; omega)]
   rw [hd]; refine zgT _ _ _ _ _ ?_; rw [partLoop_eq]; simp only [hu,hd]; rw [if_pos (show i > j by omega),zaD,iPQ,zas,rdA hl (by omega),rdA hl (by omega),rdA hl (by omega),rdS hl (by omega),swpE]; rfl
 | succ n ih =>
   intro i j d hn hai hij hj hl hP hs; refine zht _ _ _ _ _ ?_; refine zuS hc a0 a d hl hP hs (by omega) j hj _ (j+1) i (by omega) (by omega) ?_; have u1:=scanUp_ge (fun x=>lt x d[a]!) d j i; have u2:=zkB (fun x=>lt x d[a]!) d j (j+1) i (by omega) hij; refine zs1 hc a0 a d hl hP hs (by omega) _ (by omega) (by omega) _ j hj (by omega) ?_; have d1:=scanDown_le (fun x=>!lt x d[a]!) d (scanUp (fun x=>lt x d[a]!) d j i) j; have d2:=ziE (fun x=>!lt x d[a]!) d (scanUp (fun x=>lt x d[a]!) d j i) (by omega) j (by omega); have u3:=ziF (fun x=>lt x d[a]!) d j (j+1) i (by omega); have d3:=zgZ (fun x=>!lt x d[a]!) d (scanUp (fun x=>lt x d[a]!) d j i) (by omega) j; refine zgT _ _ _ _ _ ?_; rw [partLoop_eq]; generalize scanUp (fun x=>lt x d[a]!) d j i=i2 at *; generalize scanDown (fun x=>!lt x d[a]!) d i2 j=j2 at *; rw [zaD]; by_cases hgt:i2 > j2
   · rw [iPQ]; simp only [hgt,if_true]; rw [zas,rdA hl (by omega),rdA hl (by omega),rdA hl (by omega),rdS hl (by omega),swpE]; rfl
   · rw [iNQ]; simp only [hgt,if_false]; rw [zas,rdA hl (by omega),rdA hl (by omega),rdA hl (by omega),rdS hl (by omega),swpE,up1 (by omega),dn1 (by omega) (by omega)]; by_cases heq:i2=j2
     · exfalso; have w1:=u3 (by omega); have w2:=d3 (by omega); rw [heq] at w1; rw [w1] at w2; cases w2
     · exact ih (i2+1) (j2 - 1) _ (by omega) (by omega) (by omega) (by rw [zaQ]; omega) (by rw [zaQ]; exact hl) (hP.swp (by omega) (by omega)) (by rw [zaQ]; exact hs)
theorem k_part1 (hc:Cmp lt P) (d0 d:Array zab) (a b pivot:Nat) (c0 c1 c2 c3:zab) (hrow:List.set (List.set (Er d0) (0+((a:Nat):Int).toNat) (zaa c0)) (0+((pivot:Nat):Int).toNat) (zaa c1)=Er d)
  (hn:d0.toList.length=d.size) (hP:AllA P d) (hs:d.size≤100000) (hab:a < b) (hb:b≤d.size) (y:AV×Mem):∀ (k i:Nat),b≤i+k→a < i→i≤100001→zcr d0.toList (a:Int) (b:Int) (pivot:Int) c0 c1 c2 c3 ((scanUp (fun x=>lt x d[a]!) d (b - 1) i:Nat):Int)=some y→zdS d0.toList (a:Int) (b:Int) (pivot:Int) c0 c1 c2 c3 (i:Int)=some y:=by
 have eb:w64 ((b:Int) - 1)=((b - 1:Nat):Int):=dn1 (by omega) (by omega); intro k
 induction k with
 | zero=>intro i hk hai hi h; refine zhs _ _ _ _ _ _ _ _ _ ?_; rw [zcg,if_neg (by simp; omega)] at h; rw [zaD,eb,iNQ]; exact h
 | succ k ih =>
   intro i hk hai hi h; refine zhs _ _ _ _ _ _ _ _ _ ?_; rw [zcg] at h; rw [zaD,eb,up1 (by omega),zas,hrow]; by_cases hij:i≤b - 1
   · rw [iPQ,rdA hn (by omega),rdA hn (by omega),hc.step (hP _ (by omega)) (hP _ (by omega))]
     cases hl:lt d[i]! d[a]! with
     | true=>rw [hl,if_pos (by simpa using hij)] at h; rw [zaM]; exact ih (i+1) (by omega) (by omega) (by omega) h
     | false=>rw [hl,iNs] at h; rw [zaz]; exact h
   · rw [if_neg (by simp; omega)] at h; rw [iNQ]; exact h
theorem k_part2 (hc:Cmp lt P) (d0 d:Array zab) (a b pivot:Nat) (c0 c1 c2 c3:zab) (hrow:List.set (List.set (Er d0) (0+((a:Nat):Int).toNat) (zaa c0)) (0+((pivot:Nat):Int).toNat) (zaa c1)=Er d)
  (hn:d0.toList.length=d.size) (hP:AllA P d) (hs:d.size≤100000) (ha:a < d.size) (i:Nat) (hi:1≤i) (hi2:i≤100001) (y:AV×Mem):∀ (j:Nat),j < d.size→i≤j+1→zbT d0.toList (a:Int) (b:Int) (pivot:Int) c0 c1 c2 c3 (i:Int) ((scanDown (fun x=>!lt x d[a]!) d i j:Nat):Int)=some y→zdF d0.toList (a:Int) (b:Int) (pivot:Int) c0 c1 c2 c3 (i:Int) (j:Int)=some y:=by
 intro j
 induction j with
 | zero=>intro hj hij h; refine zg2 _ _ _ _ _ _ _ _ _ _ ?_; rw [zaD,iNQ]; exact h
 | succ j ih =>
   intro hj hij h; refine zg2 _ _ _ _ _ _ _ _ _ _ ?_; rw [zc6 _ _ _ (by omega)] at h; rw [zaD,dn1 (by omega) (by omega),zas,hrow]; by_cases hle:i≤j+1
   · rw [iPQ,rdA hn (by omega),rdA hn ha,hc.stepN (hP _ (by omega)) (hP _ ha)]
     cases hl:lt d[j+1]! d[a]! with
     | false=>rw [hl,if_pos (by simpa using hle)] at h; rw [zaz]; exact ih (by omega) (by omega) h
     | true=>rw [hl,iNs] at h; rw [zaM]; exact h
   · rw [if_neg (by simp; omega)] at h; rw [iNQ]; exact h
theorem ztK (hc:Cmp lt P) (d0:Array zab) (a b pivot:Nat) (hP0:AllA P d0) (ha:a≤pivot) (hp:pivot < b) (hb:b≤d0.size) (hs0:d0.size≤100000) (hab:a+1 < b):∃ flag:Bool,cw zec [rA d0,I (a:Int),I (b:Int),I (pivot:Int),.fn zah []] (mA d0)=rPart (partition lt d0 a b pivot).1 flag (partition lt d0 a b pivot).2.2:=by
 have hn0:d0.toList.length=d0.size:=by simp
 rw [partition_fst,partition_arr]; have hrow:=swpE d0 a pivot; have hP:=hP0.swp (i:=a) (j:=pivot) (by omega) (by omega); have hsz:=zaQ d0 a pivot; generalize hd:swp d0 a pivot=d at *; have hn:d0.toList.length=d.size:=by rw [hn0,hsz]
 have eb:w64 ((b:Int) - 1)=((b - 1:Nat):Int):=dn1 (by omega) (by omega); have u1:=scanUp_ge (fun x=>lt x d[a]!) d (b - 1) (a+1); have u2:=zkB (fun x=>lt x d[a]!) d (b - 1) b (a+1) (by omega) (by omega); have u3:=ziF (fun x=>lt x d[a]!) d (b - 1) b (a+1) (by omega); rw [partLoop_eq]
 have head:∀ y,zcr d0.toList (a:Int) (b:Int) (pivot:Int) d0[pivot]! d0[a]! d0[a]! (d0.setIfInBounds a d0[pivot]!)[pivot]! ((scanUp (fun x=>lt x d[a]!) d (b - 1) (a+1):Nat):Int)=some y→cw zec [rA d0,I (a:Int),I (b:Int),I (pivot:Int),.fn zah []] (mA d0)=some y:=by intro y h; refine zmi d0.toList _ _ _ ?_; rw [zas,rdA hn0 (by omega),rdA hn0 (by omega),rdA hn0 (by omega),rdS hn0 (by omega),up1 (by omega)]; exact k_part1 hc d0 d a b pivot _ _ _ _ hrow hn hP (by omega) (by omega) (by omega) _ b (a+1) (by omega) (by omega) (by omega) h
 generalize scanUp (fun x=>lt x d[a]!) d (b - 1) (a+1)=i at *; have d1:=scanDown_le (fun x=>!lt x d[a]!) d i (b - 1); have d2:=ziE (fun x=>!lt x d[a]!) d i (by omega) (b - 1) (by omega); have d3:=zgZ (fun x=>!lt x d[a]!) d i (by omega) (b - 1)
 have mid:∀ y,zbT d0.toList (a:Int) (b:Int) (pivot:Int) d0[pivot]! d0[a]! d0[a]! (d0.setIfInBounds a d0[pivot]!)[pivot]! (i:Int) ((scanDown (fun x=>!lt x d[a]!) d i (b - 1):Nat):Int)=some y→zcr d0.toList (a:Int) (b:Int) (pivot:Int) d0[pivot]! d0[a]! d0[a]! (d0.setIfInBounds a d0[pivot]!)[pivot]! (i:Int)=some y:=by
  intro y h; refine zlr _ _ _ _ _ _ _ _ _ ?_; rw [zaD,eb,hrow,zas]; rw [zc6 _ _ _ (by omega)] at h; by_cases hle:i≤b - 1
  · rw [iPQ,rdA hn (by omega),rdA hn (by omega),hc.stepN (hP _ (by omega)) (hP _ (by omega)),dn1 (by omega) (by omega)]
    cases hl:lt d[b - 1]! d[a]! with
    | false=>rw [hl,if_pos (by simpa using hle)] at h; rw [zaz]; exact k_part2 hc d0 d a b pivot _ _ _ _ hrow hn hP (by omega) (by omega) i (by omega) (by omega) _ (b - 1 - 1) (by omega) (by omega) h
    | true=>rw [hl,iNs] at h; rw [zaM]; exact h
  · rw [if_neg (by simp; omega)] at h; rw [iNQ]; exact h
 generalize scanDown (fun x=>!lt x d[a]!) d i (b - 1)=j at *; by_cases hgt:i > j
 · refine ⟨true,head _ (mid _ (zgS _ _ _ _ _ _ _ _ _ _ ?_))⟩; rw [zaD,hrow,zas,iPQ,if_pos hgt,rdA hn (by omega),rdA hn (by omega),rdA hn (by omega),rdS hn (by omega),swpE]; rfl
 · refine ⟨false,head _ (mid _ (zgS _ _ _ _ _ _ _ _ _ _ ?_))⟩
   have hne:i≠j:=by intro heq; have w1:=u3 (by omega); have w2:=d3 (by omega); rw [heq] at w1; rw [w1] at w2; cases w2
   rw [zaD,hrow,zas,iNQ,if_neg hgt,rdA hn (by omega),rdA hn (by omega),rdA hn (by omega),rdS hn (by omega),swpE,up1 (by omega),dn1 (by omega) (by omega)]; exact zvR hc d0.toList a (j+1) (i+1) (j - 1) _ (by omega) (by omega) (by omega) (by rw [zaQ]; omega) (by rw [zaQ]; exact hn) (hP.swp (by omega) (by omega)) (by rw [zaQ]; omega)
abbrev rEq (m:Nat) (d:Array zab):Option (AV×Mem):=some (zcf.enc ((m:Int),d.toList))
theorem k_eq2 (hc:Cmp lt P) (a0:List zab) (a:Nat) (d:Array zab) (hn:a0.length=d.size) (hP:AllA P d) (hs:d.size≤100000) (ha:a < d.size) (j:Nat) (hj:j < d.size) (y:AV×Mem):∀ (k i:Nat),j+1≤i+k→i≤100001→zcy a0 (a:Int) (Er d) (j:Int) ((scanUp (fun x=>!lt d[a]! x) d j i:Nat):Int)=some y→zdc a0 (a:Int) (Er d) (j:Int) (i:Int)=some y:=by
 intro k
 induction k with
 | zero=>intro i hk hi h; refine zgr _ _ _ _ _ ?_; rw [zcg,if_neg (by simp; omega)] at h; rw [zaD,iNQ]; exact h
 | succ k ih =>
   intro i hk hi h; refine zgr _ _ _ _ _ ?_; rw [zcg] at h; rw [zaD,up1 (by omega),zas]; by_cases hij:i≤j
   · rw [iPQ,rdA hn ha,rdA hn (by omega),hc.stepN (hP _ ha) (hP _ (by omega))]
     cases hl:lt d[a]! d[i]! with
     | false=>rw [hl,if_pos (by simpa using hij)] at h; rw [zaz]; exact ih (i+1) (by omega) (by omega) h
     | true=>rw [hl,iNs] at h; rw [zaM]; exact h
   · rw [if_neg (by simp; omega)] at h; rw [iNQ]; exact h
theorem k_eq3 (hc:Cmp lt P) (a0:List zab) (a:Nat) (d:Array zab) (hn:a0.length=d.size) (hP:AllA P d) (hs:d.size≤100000) (ha:a < d.size) (i:Nat) (hi:1≤i) (hi2:i≤100001) (y:AV×Mem):∀ (j:Nat),j < d.size→i≤j+1→zbG a0 (a:Int) (Er d) (i:Int) ((scanDown (fun x=>lt d[a]! x) d i j:Nat):Int)=some y→zc3 a0 (a:Int) (Er d) (i:Int) (j:Int)=some y:=by
 intro j
 induction j with
 | zero=>intro hj hij h; refine zgb _ _ _ _ _ ?_; rw [zaD,iNQ]; exact h
 | succ j ih =>
   intro hj hij h; refine zgb _ _ _ _ _ ?_; rw [zc6 _ _ _ (by omega)] at h; rw [zaD,dn1 (by omega) (by omega),zas]; by_cases hle:i≤j+1
   · rw [iPQ,rdA hn ha,rdA hn (by omega),hc.step (hP _ ha) (hP _ (by omega))]
     cases hl:lt d[a]! d[j+1]! with
     | true=>rw [hl,if_pos (by simpa using hle)] at h; rw [zaM]; exact ih (by omega) (by omega) h
     | false=>rw [hl,iNs] at h; rw [zaz]; exact h
   · rw [if_neg (by simp; omega)] at h; rw [iNQ]; exact h
theorem k_eq3' (hc:Cmp lt P) (a0:List zab) (a:Nat) (d:Array zab) (hn:a0.length=d.size) (hP:AllA P d) (hs:d.size≤100000) (ha:a < d.size) (i:Nat) (hi:1≤i) (hi2:i≤100001) (y:AV×Mem)
  (j:Nat) (hj:j < d.size) (hij:i≤j+1) (h:zbG a0 (a:Int) (Er d) (i:Int) ((scanDown (fun x=>lt d[a]! x) d i j:Nat):Int)=some y):zcy a0 (a:Int) (Er d) (j:Int) (i:Int)=some y:=by
 refine zjZ _ _ _ _ _ ?_; by_cases h0:j=0
 · subst h0; rw [zaD,iNQ]; exact h
 · rw [zc6 _ _ _ (by omega)] at h; rw [zaD,dn1 (by omega) (by omega),zas]; by_cases hle:i≤j
   · rw [iPQ,rdA hn ha,rdA hn (by omega),hc.step (hP _ ha) (hP _ (by omega))]
     cases hl:lt d[a]! d[j]! with
     | true=>rw [hl,if_pos (by simpa using hle)] at h; rw [zaM]; exact k_eq3 hc a0 a d hn hP hs ha i hi hi2 y (j - 1) (by omega) (by omega) h
     | false=>rw [hl,iNs] at h; rw [zaz]; exact h
   · rw [if_neg (by simp; omega)] at h; rw [iNQ]; exact h
theorem zzK (hc:Cmp lt P) (a0:List zab) (a:Nat):∀ (n i j:Nat) (d:Array zab),j+1 - i≤n→a < i→i≤j+1→j < d.size→a0.length=d.size→AllA P d→d.size≤100000→zdb a0 (a:Int) (Er d) (i:Int) (j:Int)=rEq (partEqLoop lt a i j d).1 (partEqLoop lt a i j d).2:=by
 intro n
 induction n with
 | zero =>
   intro i j d hn hai hij hj hl hP hs; refine zgq _ _ _ _ _ ?_; refine k_eq2 hc a0 a d hl hP hs (by omega) j hj _ (j+1) i (by omega) (by omega) ?_; have hu:scanUp (fun x=>!lt d[a]! x) d j i=i:=by rw [zcg,if_neg (by simp; omega)]
   rw [hu]; refine k_eq3' hc a0 a d hl hP hs (by omega) i (by omega) (by omega) _ j hj hij ?_
   have hd:scanDown (fun x=>lt d[a]! x) d i j=j:=by
    by_cases h0:j=0
    · subst h0; rfl
    · rw [zc6 _ _ _ (by omega),if_neg (by simp; omega)]
   rw [hd]; refine zf1 _ _ _ _ _ ?_; rw [partEqLoop_eq,hu,hd,if_pos (show i > j by omega),zaD,iPQ]; rfl
 | succ n ih =>
   intro i j d hn hai hij hj hl hP hs; refine zgq _ _ _ _ _ ?_; refine k_eq2 hc a0 a d hl hP hs (by omega) j hj _ (j+1) i (by omega) (by omega) ?_; have u1:=scanUp_ge (fun x=>!lt d[a]! x) d j i; have u2:=zkB (fun x=>!lt d[a]! x) d j (j+1) i (by omega) hij; refine k_eq3' hc a0 a d hl hP hs (by omega) _ (by omega) (by omega) _ j hj (by omega) ?_; have d1:=scanDown_le (fun x=>lt d[a]! x) d (scanUp (fun x=>!lt d[a]! x) d j i) j; have d2:=ziE (fun x=>lt d[a]! x) d (scanUp (fun x=>!lt d[a]! x) d j i) (by omega) j (by omega); have u3:=ziF (fun x=>!lt d[a]! x) d j (j+1) i (by omega); have d3:=zgZ (fun x=>lt d[a]! x) d (scanUp (fun x=>!lt d[a]! x) d j i) (by omega) j; refine zf1 _ _ _ _ _ ?_; rw [partEqLoop_eq]; generalize scanUp (fun x=>!lt d[a]! x) d j i=i2 at *; generalize scanDown (fun x=>lt d[a]! x) d i2 j=j2 at *; rw [zaD]; by_cases hgt:i2 > j2
   · rw [iPQ,if_pos hgt]; rfl
   · have hne:i2≠j2:=by intro heq; have w1:=u3 (by omega); have w2:=d3 (by omega); rw [heq,w2] at w1; cases w1
     rw [iNQ,if_neg hgt,zas,rdA hl (by omega),rdA hl (by omega),rdA hl (by omega),rdS hl (by omega),swpE,up1 (by omega),dn1 (by omega) (by omega)]; exact ih (i2+1) (j2 - 1) _ (by omega) (by omega) (by omega) (by rw [zaQ]; omega) (by rw [zaQ]; exact hl) (hP.swp (by omega) (by omega)) (by rw [zaQ]; exact hs)
theorem zjx (hc:Cmp lt P) (d0:Array zab) (a b pivot:Nat) (hP0:AllA P d0) (ha:a≤pivot) (hp:pivot < b) (hb:b≤d0.size) (hs0:d0.size≤100000):cw zds [rA d0,I (a:Int),I (b:Int),I (pivot:Int),.fn zah []] (mA d0)=rEq (partitionEqual lt d0 a b pivot).1 (partitionEqual lt d0 a b pivot).2:=by
 have hn0:d0.toList.length=d0.size:=by simp
 refine zkJ d0.toList _ _ _ ?_; rw [zas,rdA hn0 (by omega),rdA hn0 (by omega),rdA hn0 (by omega),rdS hn0 (by omega),up1 (by omega),dn1 (by omega) (by omega),swpE]; exact zzK hc d0.toList a b (a+1) (b - 1) _ (by omega) (by omega) (by omega) (by rw [zaQ]; omega) (by rw [zaQ]; exact hn0) (hP0.swp (by omega) (by omega)) (by rw [zaQ]; exact hs0)
theorem rdL {β:Type} {d:Array zab} {i:Nat} (hi:i < d.size) (K:zab→Option β):(chk ((0:Int)≤(i:Int))<|elemD zai (Er d) (((i:Nat):Int).toNat) K)=K d[i]!:=by rw [cPQ,za9,ztr (D:=zai) (l:=d.toList) (x:=d[i]!) (by simp [hi])]
abbrev mSw (k:Nat) (s:Int):Mem:=[(k,⟨1,za7,[zaq s],true⟩)]
theorem zo2 (hc:Cmp lt P) (d:Array zab) (hP:AllA P d) (a b:Nat) (s:Int) (ha:a < d.size) (hb:b < d.size) (hs0:0≤s) (hs:s≤1000):∃ (x y:Nat) (s':Int),cw zdz [.sl 9 (Er d),I (a:Int),I (b:Int),.loc 1003 1 0 0,.fn zah []] (mSw 1003 s)=some (zbK.enc (((x:Int),(y:Int)),s'))∧((x=a∧y=b)∨(x=b∧y=a))∧0≤s'∧s'≤s+1:=by
 cases hl:lt d[b]! d[a]! with
 | true=>refine ⟨b,a,s+1,ziK d.toList _ _ _ ?_,.inr ⟨rfl,rfl⟩,by omega,by omega⟩; rw [rdL hb,rdL ha,hc.step (hP _ hb) (hP _ ha),hl,zaM,w6Q]; rfl
 | false=>refine ⟨a,b,s,ziK d.toList _ _ _ ?_,.inl ⟨rfl,rfl⟩,by omega,by omega⟩; rw [rdL hb,rdL ha,hc.step (hP _ hb) (hP _ ha),hl,zaz]; rfl
theorem zo1 (hc:Cmp lt P) (d:Array zab) (hP:AllA P d) (a b c:Nat) (s:Int) (ha:a < d.size) (hb:b < d.size) (hcc:c < d.size) (hs0:0≤s) (hs:s≤900):∃ (x:Nat) (s':Int),cw zdy [.sl 9 (Er d),I (a:Int),I (b:Int),I (c:Int),.loc 1004 1 0 0,.fn zah []] (mSw 1004 s)=some (zbJ.enc ((x:Int),s'))∧(x=a∨x=b∨x=c)∧0≤s'∧s'≤s+3:=by obtain ⟨x1,y1,s1,h1,o1,p1,q1⟩:=zo2 hc d hP a b s ha hb hs0 (by omega); obtain ⟨x2,y2,s2,h2,o2,p2,q2⟩:=zo2 hc d hP y1 c s1 (by omega) hcc p1 (by omega); obtain ⟨x3,y3,s3,h3,o3,p3,q3⟩:=zo2 hc d hP x1 x2 s2 (by omega) (by omega) p2 (by omega); refine ⟨y3,s3,znr d.toList _ _ _ _ ?_,by omega,p3,by omega⟩; rw [za6 h1,za6 h2,za6 h3]; rfl
theorem zg8 (hc:Cmp lt P) (d:Array zab) (hP:AllA P d) (a:Nat) (s:Int) (ha:a+1 < d.size) (ha1:1≤a) (hsz:d.size≤100000) (hs0:0≤s) (hs:s≤900):∃ (x:Nat) (s':Int),cw zcJ [.sl 9 (Er d),I (a:Int),.loc 1002 1 0 0,.fn zah []] (mSw 1002 s)=some (zbl.enc ((x:Int),s'))∧(x=a - 1∨x=a∨x=a+1)∧0≤s'∧s'≤s+3:=by obtain ⟨x,s',h,o,p,q⟩:=zo1 hc d hP (a - 1) a (a+1) s (by omega) (by omega) ha hs0 hs; refine ⟨x,s',zkI d.toList _ _ ?_,o,p,q⟩; rw [dn1 ha1 (by omega),up1 (by omega),za6 h]; rfl
set_option maxHeartbeats 1000000 in
theorem zmb (hc:Cmp lt P) (d:Array zab) (hP:AllA P d) (a b:Nat) (hab:a < b) (hb:b≤d.size) (hsz:d.size≤100000):∃ (m:Nat) (h:Int),cw zdQ [.sl 9 (Er d),I (a:Int),I (b:Int),.fn zah []] []=some (zbf.enc ((m:Int),h))∧a≤m∧m < b∧(h=0∨h=1∨h=2):=by
 have e0:w64 ((b:Int) - (a:Int))=((b - a:Nat):Int):=by rw [w6Q]; omega
 have e1:(((b - a:Nat):Int)).tdiv 4=(((b - a) / 4:Nat):Int):=rfl; have ew:w64 (((b - a) / 4:Nat):Int)=(((b - a) / 4:Nat):Int):=w64_id (by omega) (by omega)
 have ei:∀ c:Nat,c≤3→w64 ((a:Int)+w64 ((((b - a) / 4:Nat):Int)*(c:Int)))=((a+(b - a) / 4*c:Nat):Int):=fun c hc=>by
  have:(((b - a) / 4:Nat):Int)*(c:Int)=(((b - a) / 4*c:Nat):Int):=by push_cast; rfl
  have h2:(b - a) / 4*c≤(b - a) / 4*3:=zun _ hc; rw [this,w64_id (n:=(((b - a) / 4*c:Nat):Int)) (by omega) (by omega),w6Q]; omega
 have ei1:=ei 1 (by omega); have ei2:=ei 2 (by omega); have ei3:=ei 3 (by omega); have c1:((1:Nat):Int)=1:=rfl; have c2:((2:Nat):Int)=2:=rfl; have c3:((3:Nat):Int)=3:=rfl; rw [c1] at ei1; rw [c2] at ei2; rw [c3] at ei3
 have fin:∀ (m:Nat) (s:Int),∃ h:Int,(h=0∨h=1∨h=2)∧(brn (s == 0) (some (AV.tup [I (m:Int),I 1],([]:Mem))) (brn (s == 12) (some (.tup [I (m:Int),I 2],[])) (some (.tup [I (m:Int),I 0],[]))))=some (zbf.enc ((m:Int),h)):=by
  intro m s; by_cases hz:s=0
  · exact ⟨1,by omega,by rw [hz]; rfl⟩
  · by_cases hz2:s=12
    · exact ⟨2,by omega,by rw [hz2]; rfl⟩
    · refine ⟨0,by omega,?_⟩; rw [beq_false_of_ne hz,beq_false_of_ne hz2]; rfl
 by_cases h8:8≤b - a
 · by_cases h50:50≤b - a
   · obtain ⟨x1,s1,g1,o1,p1,q1⟩:=zg8 hc d hP (a+(b - a) / 4*1) 0 (by omega) (by omega) hsz (by omega) (by omega); have v1:a≤x1∧x1 < b:=by omega
     clear o1; obtain ⟨x2,s2,g2,o2,p2,q2⟩:=zg8 hc d hP (a+(b - a) / 4*2) s1 (by omega) (by omega) hsz p1 (by omega); have v2:a≤x2∧x2 < b:=by omega
     clear o2; obtain ⟨x3,s3,g3,o3,p3,q3⟩:=zg8 hc d hP (a+(b - a) / 4*3) s2 (by omega) (by omega) hsz p2 (by omega); have v3:a≤x3∧x3 < b:=by omega
     clear o3; obtain ⟨x4,s4,g4,o4,p4,q4⟩:=zo1 hc d hP x1 x2 x3 s3 (by omega) (by omega) (by omega) p3 (by omega); have v4:a≤x4∧x4 < b:=by omega
     clear o4; obtain ⟨h,hh,hf⟩:=fin x4 s4; refine ⟨x4,h,zfd d.toList _ _ ?_,v4.1,v4.2,hh⟩; clear hh; rw [cPQ,cPQ,cPQ,e0,e1,ew,ei1,ei2,ei3,zaD,iPQ,zaD,iPQ,za6 g1,za6 g2,za6 g3]; refine zjY _ _ _ _ ?_; rw [za6 g4]; exact hf
   · obtain ⟨x4,s4,g4,o4,p4,q4⟩:=zo1 hc d hP (a+(b - a) / 4*1) (a+(b - a) / 4*2) (a+(b - a) / 4*3) 0 (by omega) (by omega) (by omega) (by omega) (by omega); have v4:a≤x4∧x4 < b:=by omega
     clear o4; obtain ⟨h,hh,hf⟩:=fin x4 s4; refine ⟨x4,h,zfd d.toList _ _ ?_,v4.1,v4.2,hh⟩; clear hh; rw [cPQ,cPQ,cPQ,e0,zaD,iPQ,zaD,iNQ]; refine zjL _ _ _ ?_; rw [e0,e1,ew,ei1,ei2,ei3,za6 g4]; exact hf
 · refine ⟨a+(b - a) / 4*2,1,zfd d.toList _ _ ?_,by omega,by omega,by omega⟩; rw [cPQ,cPQ,cPQ,e0,e1,ew,ei2,zaD,iNQ]; rfl
end
theorem c_Len:∀ n:Nat,n < 256→cw zpK [.v (.int .u64 (n:Int))] []=some (zau.enc ((bitsLen n:Nat):Int)):=by
 repeat (first | exact fun _ h=>absurd h (zve _) | refine zvy ?_ ?_)
 all_goals exact cw_of 20 (by kernel_rfl)
theorem zoG {n:Nat} (h:n < 256):bitsLen n≤8:=(bitsLen_le_iff n 8).2 (by omega)
theorem zw5 (n:Nat) (h:n < 256):cw zgk [I (n:Int)] []=some (zeA.enc ((2 ^ bitsLen n:Nat):Int)):=by
 refine zog _ ?_; have hb:=zoG h; have hp:2 ^ bitsLen n≤2 ^ 8:=Nat.pow_le_pow_right (by omega) hb; rw [zhX (n:=(n:Int)) (by omega) (by omega),za6 (c_Len n h),cPQ,za9,zul (by omega)]; have e:(1:Int)*2 ^ bitsLen n=((2 ^ bitsLen n:Nat):Int):=by push_cast; rw [Int.one_mul]
 rw [e]; clear e; have hp':2 ^ bitsLen n≤256:=hp; clear hp; generalize 2 ^ bitsLen n=z at hp' ⊢; rw [zhX (by omega) (by omega)]; rfl
theorem c_xor (x:Int):∃ v w:Int,cw zgN [.loc 1000 1 0 0] [(1000,⟨1,zch,[zkn x],true⟩)]=some (zgR.enc (v,w)):=by apply Exists.intro; apply Exists.intro; apply zoL; rw [cPQ,cPQ,cPQ]; rfl
section
variable {lt:zab→zab→Bool} {P:zab→Prop}
theorem and_bd (v:Nat) (M:Nat) (h1:1≤M) (h2:M≤1000):v &&& (wu64 ((M:Int) - 1) % Int.ofNat (2 ^ 64)).toNat < M:=by
 have e:(wu64 ((M:Int) - 1) % Int.ofNat (2 ^ 64)).toNat=M - 1:=by rw [zhX (by omega) (by omega)]; show (((M:Int) - 1) % (18446744073709551616:Int)).toNat=M - 1; omega
 rw [e]; have:=Nat.and_le_right (n:=v) (m:=M - 1); omega
theorem k_break (a0:List zab) (a b M:Nat) (hab:a+8≤b) (hM:1≤M) (hM2:M≤2*(b - a)) (hM3:M≤1000) (hbs:b≤100000):∀ (k i:Nat) (x:Int) (d:Array zab),a+(b - a) / 4*2+2≤i+k→a≤i→a0.length=d.size→b≤d.size→d.size≤100000→∃ d',zcC a0 (a:Int) (b:Int) (M:Int) x (Er d) (i:Int)=some (zaj.enc d'.toList)∧PermIn a b d d':=by
 have e0:w64 ((b:Int) - (a:Int))=((b - a:Nat):Int):=by rw [w6Q]; omega
 have e1:(((b - a:Nat):Int)).tdiv 4=(((b - a) / 4:Nat):Int):=rfl; intro k
 induction k with
 | zero =>
   intro i x d hk hi hn hb hs; refine ⟨d,zdk _ _ _ _ _ _ _ ?_,permIn_refl _ _ _⟩
   have e2:w64 (w64 ((a:Int)+w64 (w64 (((b - a:Nat):Int).tdiv 4)*2))+1)=((a+(b - a) / 4*2+1:Nat):Int):=by rw [e1,w64_id (n:=(((b - a) / 4:Nat):Int)) (by omega) (by omega),w64_id (n:=(((b - a) / 4:Nat):Int)*2) (by omega) (by omega),w6Q (n:=(a:Int)+_),w6Q]; omega
   rw [cPQ,e0,e2,zaD,iNQ]; rfl
 | succ k ih =>
   intro i x d hk hi hn hb hs
   have e2:w64 (w64 ((a:Int)+w64 (w64 (((b - a:Nat):Int).tdiv 4)*2))+1)=((a+(b - a) / 4*2+1:Nat):Int):=by rw [e1,w64_id (n:=(((b - a) / 4:Nat):Int)) (by omega) (by omega),w64_id (n:=(((b - a) / 4:Nat):Int)*2) (by omega) (by omega),w6Q (n:=(a:Int)+_),w6Q]; omega
   by_cases hle:i≤a+(b - a) / 4*2+1
   · obtain ⟨v,w,hx⟩:=c_xor x; have hq:=and_bd (v % Int.ofNat (2 ^ 64)).toNat M hM hM3; have hl2:(b - a) / 4*2+1 < b - a:=by omega
     by_cases hge:b - a≤((v % Int.ofNat (2 ^ 64)).toNat &&& (wu64 ((M:Int) - 1) % Int.ofNat (2 ^ 64)).toNat)
     · obtain ⟨d',g1,g2⟩:=ih (i+1) w (swp d i (a+(((v % Int.ofNat (2 ^ 64)).toNat &&& (wu64 ((M:Int) - 1) % Int.ofNat (2 ^ 64)).toNat) - (b - a)))) (by omega) (by omega) (by rw [zaQ]; exact hn) (by rw [zaQ]; exact hb) (by rw [zaQ]; exact hs); refine ⟨d',zdk _ _ _ _ _ _ _ ?_,permIn_trans _ _ _ _ _ (swp_permIn d a b i _ hi (by omega) (by omega) (by omega) hb) g2⟩; rw [cPQ,e0,e2,zaD,iPQ,za6 hx]; dsimp only; have hT:∀ y,zc1 a0 (a:Int) (b:Int) (M:Int) (Er d) (i:Int) (v,w)=some y→(chk ((4:Int)≠0)<|zc1 a0 (a:Int) (b:Int) (M:Int) (Er d) (i:Int) (v,w))=some y:=fun y h=>by rw [cPQ]; exact h
       have hG:=zjK a0 (a:Int) (b:Int) (M:Int) (Er d) (i:Int) (v,w) (y:=zaj.enc d'.toList); dsimp only at hG; generalize ((v % Int.ofNat (2 ^ 64)).toNat &&& (wu64 ((M:Int) - 1) % Int.ofNat (2 ^ 64)).toNat)=q at hq hge g1 hG ⊢; rw [zhX (n:=(q:Int)) (by omega) (by omega),w6Q (n:=(q:Int)),zaD,iPQ]; apply hG
       have ei:w64 ((a:Int)+w64 (w64 (wu64 (q:Int)) - w64 ((b:Int) - (a:Int))))=((a+(q - (b - a)):Nat):Int):=by rw [zhX (n:=(q:Int)) (by omega) (by omega),w6Q (n:=(q:Int)),e0,w6Q (n:=(q:Int) - _),w6Q]; omega
       rw [ei,zas,rdA hn (by omega),rdA hn (by omega),rdA hn (by omega),rdS hn (by omega),swpE,up1 (by omega)]; exact g1
     · obtain ⟨d',g1,g2⟩:=ih (i+1) w (swp d i (a+(((v % Int.ofNat (2 ^ 64)).toNat &&& (wu64 ((M:Int) - 1) % Int.ofNat (2 ^ 64)).toNat)))) (by omega) (by omega) (by rw [zaQ]; exact hn) (by rw [zaQ]; exact hb) (by rw [zaQ]; exact hs); refine ⟨d',zdk _ _ _ _ _ _ _ ?_,permIn_trans _ _ _ _ _ (swp_permIn d a b i _ hi (by omega) (by omega) (by omega) hb) g2⟩; rw [cPQ,e0,e2,zaD,iPQ,za6 hx]; dsimp only; have hG:=zjl a0 (a:Int) (b:Int) (M:Int) (Er d) (i:Int) (v,w) (y:=zaj.enc d'.toList); dsimp only at hG; generalize ((v % Int.ofNat (2 ^ 64)).toNat &&& (wu64 ((M:Int) - 1) % Int.ofNat (2 ^ 64)).toNat)=q at hq hge g1 hG ⊢; rw [zhX (n:=(q:Int)) (by omega) (by omega),w6Q (n:=(q:Int)),zaD,iNQ]; apply hG
       have ei:w64 ((a:Int)+w64 (wu64 (q:Int)))=((a+q:Nat):Int):=by rw [zhX (n:=(q:Int)) (by omega) (by omega),w6Q (n:=(q:Int)),w6Q]; omega
       rw [ei,zas,rdA hn (by omega),rdA hn (by omega),rdA hn (by omega),rdS hn (by omega),swpE,up1 (by omega)]; exact g1
   · refine ⟨d,zdk _ _ _ _ _ _ _ ?_,permIn_refl _ _ _⟩; rw [cPQ,e0,e2,zaD,iNQ]; rfl
theorem c_break (d:Array zab) (a b:Nat) (hab:a≤b) (hb:b≤d.size) (hs:d.size < 256):∃ d',cw zeV [rA d,I (a:Int),I (b:Int),.fn zah []] (mA d)=some (zaj.enc d'.toList)∧PermIn a b d d':=by
 have e0:w64 ((b:Int) - (a:Int))=((b - a:Nat):Int):=by rw [w6Q]; omega
 have e1:(((b - a:Nat):Int)).tdiv 4=(((b - a) / 4:Nat):Int):=rfl; by_cases h8:8≤b - a
 · have hM2:=two_pow_bitsLen_le (n:=b - a) (by omega)
   have e2:w64 (w64 ((a:Int)+w64 (w64 (((b - a:Nat):Int).tdiv 4)*2)) - 1)=((a+(b - a) / 4*2 - 1:Nat):Int):=by rw [e1,w64_id (n:=(((b - a) / 4:Nat):Int)) (by omega) (by omega),w64_id (n:=(((b - a) / 4:Nat):Int)*2) (by omega) (by omega),w6Q (n:=(a:Int)+_),w6Q]; omega
   obtain ⟨d',g1,g2⟩:=k_break d.toList a b (2 ^ bitsLen (b - a)) (by omega) (Nat.one_le_two_pow) hM2 (by omega) (by omega) 100 (a+(b - a) / 4*2 - 1) (wu64 ((b - a:Nat):Int)) d (by omega) (by omega) (by simp) hb (by omega); refine ⟨d',zg0 d.toList _ _ ?_,g2⟩; rw [e0,zaD,iPQ,za6 (zw5 (b - a) (by omega)),cPQ,e2]; exact g1
 · refine ⟨d,zg0 d.toList _ _ ?_,permIn_refl _ _ _⟩; rw [e0,zaD,iNQ]; rfl
theorem znJ:∀ (j:Nat) (d:Array zab),j < d.size→(shiftDown lt j d).size=d.size∧(AllA P d→AllA P (shiftDown lt j d))
 | 0,d,_=>⟨rfl,fun h=>h⟩
 | j+1,d,h=>by
   unfold shiftDown; split
   · exact ⟨rfl,fun h=>h⟩
   · have ih:=znJ j (swp d (j+1) j) (by rw [zaQ]; omega); rw [zaQ] at ih; exact ⟨ih.1,fun hP=>ih.2 (hP.swp h (by omega))⟩
theorem zwa (b:Nat):∀ (k j:Nat) (d:Array zab),b≤j+k→b≤d.size→(shiftUp lt b j d).size=d.size∧(AllA P d→AllA P (shiftUp lt b j d)):=by
 intro k
 induction k with
 | zero=>intro j d hk _; rw [shiftUp,iNQ]; exact ⟨rfl,fun h=>h⟩
 | succ k ih =>
   intro j d hk hb; rw [shiftUp]; split
   · split
     · exact ⟨rfl,fun h=>h⟩
     · have ih:=ih (j+1) (swp d j (j - 1)) (by omega) (by rw [zaQ]; exact hb); rw [zaQ] at ih; exact ⟨ih.1,fun hP=>ih.2 (hP.swp (by omega) (by omega))⟩
   · exact ⟨rfl,fun h=>h⟩
theorem k_up (hc:Cmp lt P) (a0:List zab) (a b i c:Nat) (y:AV×Mem):∀ (k j:Nat) (d:Array zab),b≤j+k→1≤j→b≤d.size→d.size≤100000→a0.length=d.size→AllA P d→za4 a0 (a:Int) (b:Int) (Er (shiftUp lt b j d)) (i:Int) (w64 ((c:Int)+1))=some y→zbn a0 (a:Int) (b:Int) (c:Int) (i:Int) (Er d) (j:Int)=some y:=by
 intro k
 induction k with
 | zero=>intro j d hk hj hb hs hn hP h; rw [shiftUp,iNQ] at h; refine zfA _ _ _ _ _ _ _ ?_; rw [zaD,iNQ]; exact h
 | succ k ih =>
   intro j d hk hj hb hs hn hP h; refine zfA _ _ _ _ _ _ _ ?_; by_cases hjb:j < b
   · rw [shiftUp,if_pos hjb] at h; rw [zaD,iPQ,dn1 (by omega) (by omega),zas,rdA hn (by omega),rdA hn (by omega),hc.stepN (hP _ (by omega)) (hP _ (by omega))]
     cases hl:lt d[j]! d[j - 1]! with
     | false=>rw [hl,zdx,if_pos rfl] at h; rw [zaz]; exact h
     | true=>rw [hl,zce,iNs] at h; rw [zaM,rdA hn (by omega),rdA hn (by omega),rdA hn (by omega),rdS hn (by omega),swpE,up1 (by omega)]; exact ih (j+1) (swp d j (j - 1)) (by omega) (by omega) (by rw [zaQ]; exact hb) (by rw [zaQ]; exact hs) (by rw [zaQ]; exact hn) (hP.swp (by omega) (by omega)) h
   · rw [shiftUp,if_neg hjb] at h; rw [zaD,iNQ]; exact h
theorem k_down (hc:Cmp lt P) (a0:List zab) (a b i c:Nat) (y:AV×Mem):∀ (j:Nat) (d:Array zab),j < d.size→d.size≤100000→a0.length=d.size→AllA P d→(brn (decide (2≤w64 ((b:Int) - (i:Int)))) (zbn a0 (a:Int) (b:Int) (c:Int) (i:Int) (Er (shiftDown lt j d)) (w64 ((i:Int)+1)))
   (za4 a0 (a:Int) (b:Int) (Er (shiftDown lt j d)) (i:Int) (w64 ((c:Int)+1))))=some y→zcM a0 (a:Int) (b:Int) (c:Int) (i:Int) (Er d) (j:Int)=some y:=by
 intro j
 induction j with
 | zero=>intro d _ hs hn hP h; refine zfz _ _ _ _ _ _ _ ?_; rw [zaD,iNQ]; exact h
 | succ j ih =>
   intro d hj hs hn hP h; unfold shiftDown at h; refine zfz _ _ _ _ _ _ _ ?_; rw [zaD,iPQ,dn1 (by omega) (by omega),Nat.add_sub_cancel,zas,rdA hn (by omega),rdA hn (by omega),hc.stepN (hP _ (by omega)) (hP _ (by omega))]
   cases hl:lt d[j+1]! d[j]! with
   | false=>rw [hl,zdx,if_pos rfl] at h; rw [zaz]; exact h
   | true=>rw [hl,zce,iNs] at h; rw [zaM,rdA hn (by omega),rdA hn (by omega),rdA hn (by omega),rdS hn (by omega),swpE]; exact ih (swp d (j+1) j) (by rw [zaQ]; omega) (by rw [zaQ]; exact hs) (by rw [zaQ]; exact hn) (hP.swp hj (by omega)) h
theorem k_scan (hc:Cmp lt P) (a0:List zab) (a b c:Nat) (d:Array zab) (hb:b≤d.size) (hs:d.size≤100000) (hn:a0.length=d.size) (hP:AllA P d) (y:AV×Mem):∀ (k i:Nat),b≤i+k→1≤i→zbt a0 (a:Int) (b:Int) (Er d) (c:Int) ((scanSorted lt d b i:Nat):Int)=some y→zcD a0 (a:Int) (b:Int) (Er d) (c:Int) (i:Int)=some y:=by
 intro k
 induction k with
 | zero=>intro i hk hi h; rw [scanSorted,if_neg (by simp; omega)] at h; refine zfh _ _ _ _ _ _ ?_; rw [zaD,iNQ]; exact h
 | succ k ih =>
   intro i hk hi h; refine zfh _ _ _ _ _ _ ?_; by_cases hib:i < b
   · rw [zaD,iPQ,dn1 (by omega) (by omega),zas,rdA hn (by omega),rdA hn (by omega),hc.stepN (hP _ (by omega)) (hP _ (by omega))]
     cases hl:lt d[i]! d[i - 1]! with
     | false=>rw [scanSorted,if_pos (by rw [hl]; simp; omega)] at h; rw [zaz,up1 (by omega)]; exact ih (i+1) (by omega) (by omega) h
     | true=>rw [scanSorted,if_neg (by rw [hl]; simp)] at h; rw [zaM]; exact h
   · rw [scanSorted,if_neg (by simp; omega)] at h; rw [zaD,iNQ]; exact h
theorem k_scan0 (hc:Cmp lt P) (a0:List zab) (a b c:Nat) (d:Array zab) (hb:b≤d.size) (hs:d.size≤100000) (hn:a0.length=d.size) (hP:AllA P d) (y:AV×Mem) (i:Nat) (hi:1≤i)
  (h:zbt a0 (a:Int) (b:Int) (Er d) (c:Int) ((scanSorted lt d b i:Nat):Int)=some y):zdP a0 (a:Int) (b:Int) (Er d) (i:Int) (c:Int)=some y:=by
 refine zi7 _ _ _ _ _ _ ?_; by_cases hib:i < b
 · rw [zaD,iPQ,dn1 (by omega) (by omega),zas,rdA hn (by omega),rdA hn (by omega),hc.stepN (hP _ (by omega)) (hP _ (by omega))]
   cases hl:lt d[i]! d[i - 1]! with
   | false=>rw [scanSorted,if_pos (by rw [hl]; simp; omega)] at h; rw [zaz,up1 (by omega)]; exact k_scan hc a0 a b c d hb hs hn hP y b (i+1) (by omega) (by omega) h
   | true=>rw [scanSorted,if_neg (by rw [hl]; simp)] at h; rw [zaM]; exact h
 · rw [scanSorted,if_neg (by simp; omega)] at h; rw [zaD,iNQ]; exact h
theorem scan_le (d:Array zab) (b:Nat):∀ (k i:Nat),b≤i+k→i≤b→i≤scanSorted lt d b i∧scanSorted lt d b i≤b:=by
 intro k
 induction k with
 | zero=>intro i hk hi; rw [scanSorted,if_neg (by simp; omega)]; omega
 | succ k ih =>
   intro i hk hi; rw [scanSorted]; split
   · rename_i hc; simp only [zb5,decide_eq_true_eq] at hc; have:=ih (i+1) (by omega) (by omega); omega
   · omega
theorem k_trial (hc:Cmp lt P) (a0:List zab) (a b:Nat):∀ (s i c:Nat) (d:Array zab),c+s=5→a < i→i≤b→b≤d.size→d.size≤100000→a0.length=d.size→AllA P d→za4 a0 (a:Int) (b:Int) (Er d) (i:Int) (c:Int)=some (zbr.enc ((partialIns lt a b s i d).2,(partialIns lt a b s i d).1.toList)):=by
 intro s
 induction s with
 | zero=>intro i c d hcs ha hi hb hs hn hP; refine zfy _ _ _ _ _ _ ?_; rw [zaD,iNQ]; rfl
 | succ s ih =>
   intro i c d hcs ha hi hb hs hn hP; refine zfy _ _ _ _ _ _ ?_; rw [zaD,iPQ]; refine k_scan0 hc a0 a b c d hb hs hn hP _ i (by omega) ?_; rw [partialIns_succ]; obtain ⟨hk1,hk2⟩:=scan_le (lt:=lt) d b b i (by omega) hi; generalize scanSorted lt d b i=k at hk1 hk2 ⊢; refine ziG _ _ _ _ _ _ ?_; by_cases hkb:k=b
   · rw [if_pos hkb,hkb,beq_self_eq_true,zaM]; rfl
   · rw [if_neg hkb,beq_false_of_ne (by omega),zaz,w6Q (n:=(b:Int) - (a:Int))]; by_cases h50:b - a < 50
     · rw [if_pos h50,zaD,iPQ]; rfl
     · have hkl:k < b:=by omega
       rw [if_neg h50,zaD,iNQ,dn1 (by omega) (by omega),zas,rdA hn (by omega),rdA hn (by omega),rdA hn (by omega),rdS hn (by omega),swpE,w6Q (n:=(k:Int) - (a:Int))]; have hP1:=hP.swp (show k < d.size by omega) (show k - 1 < d.size by omega); have z1:(swp d k (k - 1)).size=d.size:=zaQ _ _ _; generalize swp d k (k - 1)=d1 at hP1 z1 ⊢
       have hx:(fixDown lt a k d1).size=d1.size∧AllA P (fixDown lt a k d1):=by
        unfold fixDown; split
        · have:=znJ (lt:=lt) (P:=P) (k - 1) d1 (by omega); exact ⟨this.1,this.2 hP1⟩
        · exact ⟨rfl,hP1⟩
       have hy:(fixUp lt b k (fixDown lt a k d1)).size=d1.size∧AllA P (fixUp lt b k (fixDown lt a k d1)):=by
        unfold fixUp; split
        · have:=zwa (lt:=lt) (P:=P) b b (k+1) (fixDown lt a k d1) (by omega) (by omega); exact ⟨by rw [this.1]; exact hx.1,this.2 hx.2⟩
        · exact hx
       have fin:=ih k (c+1) (fixUp lt b k (fixDown lt a k d1)) (by omega) (by omega) (by omega) (by omega) (by omega) (by omega) hy.2
       have tail:(brn (decide (2≤w64 ((b:Int) - (k:Int)))) (zbn a0 (a:Int) (b:Int) (c:Int) (k:Int) (Er (fixDown lt a k d1)) (w64 ((k:Int)+1)))
         (za4 a0 (a:Int) (b:Int) (Er (fixDown lt a k d1)) (k:Int) (w64 ((c:Int)+1))))=some (zbr.enc ((partialIns lt a b s k (fixUp lt b k (fixDown lt a k d1))).2,(partialIns lt a b s k (fixUp lt b k (fixDown lt a k d1))).1.toList)):=by
        rw [← up1 (i:=c) (by omega)] at fin; rw [w6Q (n:=(b:Int) - (k:Int))]; by_cases h2:b - k ≥ 2
        · rw [zaD,iPQ,up1 (i:=k) (by omega)]; refine k_up hc a0 a b k c _ b (k+1) (fixDown lt a k d1) (by omega) (by omega) (by omega) (by omega) (by omega) hx.2 ?_; unfold fixUp at fin ⊢; rw [if_pos h2] at fin ⊢; exact fin
        · rw [zaD,iNQ]; unfold fixUp at fin ⊢; rw [if_neg h2] at fin ⊢; exact fin
       by_cases h2:k - a ≥ 2
       · rw [zaD,iPQ]; refine k_down hc a0 a b k c _ (k - 1) d1 (by omega) (by omega) (by omega) hP1 ?_; unfold fixDown at tail ⊢; rw [if_pos h2] at tail ⊢; exact tail
       · rw [zaD,iNQ]; unfold fixDown at tail ⊢; rw [if_neg h2] at tail ⊢; exact tail
theorem zuD (hc:Cmp lt P) (hW:SWO lt) (d:Array zab) (a b:Nat) (hP:AllA P d) (hab:a < b) (hb:b≤d.size) (hs:d.size < 256) (hB:Below lt a b d):∃ (f:Bool) (d':Array zab),cw zcT [rA d,I (a:Int),I (b:Int),.fn zah []] (mA d)=some (zbr.enc (f,d'.toList))∧PermIn a b d d'∧(f=true→SortedIn lt a b d'):=by have hsp:=partialInsertionSort_holds hW d a b hab hb hB; refine ⟨_,_,zjf d.toList _ _ ?_,hsp.1,hsp.2⟩; rw [up1 (by omega)]; exact k_trial hc d.toList a b 5 (a+1) 0 d (by omega) (by omega) (by omega) hb (by omega) (by simp) hP
end
section
variable {lt:zab→zab→Bool} {P:zab→Prop}
def PdqOk (lt:zab→zab→Bool) (P:zab→Prop) (n:Nat):Prop:=∀ (a b:Nat) (d:Array zab) (a0:List zab) (lim:Nat) (wb wp:Bool),b - a < n→a≤b→b≤d.size→d.size < 256→a0.length=d.size→AllA P d→Below lt a b d→lim≤100→∃ d',zcc a0 (Er d) (a:Int) (b:Int) (lim:Int) wb wp=some (zaj.enc d'.toList)∧PermIn a b d d'∧SortedIn lt a b d'
theorem c_pdq {n:Nat} (h:PdqOk lt P n) (a b:Nat) (d:Array zab) (lim:Nat) (h1:b - a < n) (h2:a≤b) (h3:b≤d.size) (h4:d.size < 256) (hP:AllA P d) (hB:Below lt a b d) (hl:lim≤100):∃ d',cw zdn [rA d,I (a:Int),I (b:Int),I (lim:Int),.fn zah []] (mA d)=some (zaj.enc d'.toList)∧PermIn a b d d'∧SortedIn lt a b d':=by obtain ⟨d',g1,g2⟩:=h a b d d.toList lim true true h1 h2 h3 h4 (by simp) hP hB hl; exact ⟨d',znd d.toList _ _ _ g1,g2⟩
set_option maxHeartbeats 1000000 in
theorem zpV (hc:Cmp lt P) (hW:SWO lt) (a0:List zab) (a b m lim:Nat) (d:Array zab) (wb wp:Bool) (hI:PdqOk lt P (b - a)) (hab:a+1 < b) (hb:b≤d.size) (hs:d.size < 256) (hn:a0.length=d.size) (hP:AllA P d) (hB:Below lt a b d) (hm:a≤m) (hm2:m < b) (hl:lim≤100):∃ d',zck a0 (a:Int) (b:Int) wb wp (Er d) (lim:Int) (m:Int)=some (zaj.enc d'.toList)∧PermIn a b d d'∧SortedIn lt a b d':=by
 obtain ⟨flag,hp⟩:=ztK hc d a b m hP hm hm2 hb (by omega) hab; have hperm:PermIn a b d (partition lt d a b m).2.2:=(partition_holds lt hW d a b m hm hm2 hb).2.2.1; generalize hx:partition lt d a b m=r at hp hperm; obtain ⟨mid,ap,d4⟩:=r; obtain ⟨q1,q2,q3,q4,q5,q6,q7⟩:=round_part hW (partition_holds lt) hm hm2 hb hB hx; dsimp only at hp hperm; have hP4:AllA P d4:=hP.perm (by omega) hb hperm; have e1:w64 ((mid:Int) - (a:Int))=((mid - a:Nat):Int):=by rw [w6Q]; omega
 have e2:w64 ((b:Int) - (mid:Int))=((b - mid:Nat):Int):=by rw [w6Q]; omega
 by_cases hlt:mid - a < b - mid
 · obtain ⟨L,g1,g2,g3⟩:=c_pdq hI a mid d4 lim (by omega) q1 (by omega) (by omega) hP4 q4 hl; obtain ⟨hBL,hR⟩:=q6 L g2 g3; have hLs:L.size=d4.size:=g2.1; obtain ⟨R,r1,r2,r3⟩:=hI (mid+1) b L a0 lim (decide (w64 ((w64 ((b:Int) - (a:Int))).tdiv 8)≤w64 ((mid:Int) - (a:Int)))) flag (by omega) (by omega) (by omega) (by omega) (by omega) (hP4.perm q1 (by omega) g2) hBL hl; obtain ⟨z1,z2⟩:=hR R r2 r3; refine ⟨R,zhm _ _ _ _ _ _ _ _ ?_,z1,z2⟩; rw [row_eq hn,za6 hp,cPQ]; dsimp only; rw [show rA d=rA d4 from by rw [rA,rA,lenE,lenE,q3],zaD,if_pos (by rw [e1,e2]; omega),za6 g1,up1 (by omega)]; exact r1
 · obtain ⟨L,g1,g2,g3⟩:=c_pdq hI (mid+1) b d4 lim (by omega) (by omega) (by omega) (by omega) hP4 q5 hl; obtain ⟨hBL,hR⟩:=q7 L g2 g3; have hLs:L.size=d4.size:=g2.1; obtain ⟨R,r1,r2,r3⟩:=hI a mid L a0 lim (decide (w64 ((w64 ((b:Int) - (a:Int))).tdiv 8)≤w64 ((b:Int) - (mid:Int)))) flag (by omega) (by omega) (by omega) (by omega) (by omega) (hP4.perm (by omega) (by omega) g2) hBL hl; obtain ⟨z1,z2⟩:=hR R r2 r3; refine ⟨R,zhm _ _ _ _ _ _ _ _ ?_,z1,z2⟩; rw [row_eq hn,za6 hp,cPQ]; dsimp only; rw [show rA d=rA d4 from by rw [rA,rA,lenE,lenE,q3],zaD,if_neg (by rw [e1,e2]; omega),up1 (by omega),za6 g1]; exact r1
theorem k_1017 (hc:Cmp lt P) (hW:SWO lt) (a0:List zab) (a b m lim:Nat) (d:Array zab) (wb wp:Bool) (hI:PdqOk lt P (b - a)) (hab:a+1 < b) (hb:b≤d.size) (hs:d.size < 256) (hn:a0.length=d.size) (hP:AllA P d) (hB:Below lt a b d) (hm:a≤m) (hm2:m < b) (hl:lim≤100):∃ d',zdN a0 (a:Int) (b:Int) wb wp (Er d) (lim:Int) (m:Int)=some (zaj.enc d'.toList)∧PermIn a b d d'∧SortedIn lt a b d':=by
 by_cases ha:0 < a
 · cases hlt:lt d[a - 1]! d[m]! with
   | false =>
     have hp:=zjx hc d a b m hP hm hm2 hb (by omega); generalize hx:partitionEqual lt d a b m=r at hp; obtain ⟨mid,d4⟩:=r; obtain ⟨q1,q2,q3,q4,q5⟩:=round_eq hW (partitionEqual_holds lt) ha hm hm2 hb hB hlt hx
     have hge:∀ i,a≤i→i < b→lt d[i]! d[m]! = false:=fun i hi hi'=>by
      rcases hB with h0 | hB
      · omega
      · exact hW.ntrans _ _ _ (hB i hi hi') hlt
     have hperm:PermIn a b d (partitionEqual lt d a b m).2:=(partitionEqual_holds lt hW d a b m hm hm2 hb hge).2.2.1; rw [hx] at hperm; dsimp only at hp hperm; obtain ⟨R,r1,r2,r3⟩:=hI mid b d4 a0 lim wb wp (by omega) q2 (by omega) (by omega) (by omega) (hP.perm (by omega) hb hperm) q4 hl; obtain ⟨z1,z2⟩:=q5 R r2 r3; refine ⟨R,zfa _ _ _ _ _ _ _ _ ?_,z1,z2⟩; rw [row_eq hn,zas,zaD,iPQ,dn1 (by omega) (by omega),rdA hn (by omega),rdA hn (by omega),hc.stepN (hP _ (by omega)) (hP _ (by omega)),hlt,zaz,za6 hp]; exact r1
   | true=>obtain ⟨R,r1,r2⟩:=zpV hc hW a0 a b m lim d wb wp hI hab hb hs hn hP hB hm hm2 hl; refine ⟨R,zfa _ _ _ _ _ _ _ _ ?_,r2⟩; rw [row_eq hn,zas,zaD,iPQ,dn1 (by omega) (by omega),rdA hn (by omega),rdA hn (by omega),hc.stepN (hP _ (by omega)) (hP _ (by omega)),hlt,zaM]; exact r1
 · obtain ⟨R,r1,r2⟩:=zpV hc hW a0 a b m lim d wb wp hI hab hb hs hn hP hB hm hm2 hl; refine ⟨R,zfa _ _ _ _ _ _ _ _ ?_,r2⟩; rw [zaD,iNQ]; exact r1
theorem zs0 (hc:Cmp lt P) (hW:SWO lt) (a0:List zab) (a b m lim:Nat) (d:Array zab) (wb wp:Bool) (hI:PdqOk lt P (b - a)) (hab:a+1 < b) (hb:b≤d.size) (hs:d.size < 256) (hn:a0.length=d.size) (hP:AllA P d) (hB:Below lt a b d) (hm:a≤m) (hm2:m < b) (hl:lim≤100):∃ d',zbF a0 (a:Int) (b:Int) wb wp (Er d) (lim:Int) (m:Int)=some (zaj.enc d'.toList)∧PermIn a b d d'∧SortedIn lt a b d':=by
 by_cases ha:0 < a
 · cases hlt:lt d[a - 1]! d[m]! with
   | false =>
     have hp:=zjx hc d a b m hP hm hm2 hb (by omega); generalize hx:partitionEqual lt d a b m=r at hp; obtain ⟨mid,d4⟩:=r; obtain ⟨q1,q2,q3,q4,q5⟩:=round_eq hW (partitionEqual_holds lt) ha hm hm2 hb hB hlt hx
     have hge:∀ i,a≤i→i < b→lt d[i]! d[m]! = false:=fun i hi hi'=>by
      rcases hB with h0 | hB
      · omega
      · exact hW.ntrans _ _ _ (hB i hi hi') hlt
     have hperm:PermIn a b d (partitionEqual lt d a b m).2:=(partitionEqual_holds lt hW d a b m hm hm2 hb hge).2.2.1; rw [hx] at hperm; dsimp only at hp hperm; obtain ⟨R,r1,r2,r3⟩:=hI mid b d4 a0 lim wb wp (by omega) q2 (by omega) (by omega) (by omega) (hP.perm (by omega) hb hperm) q4 hl; obtain ⟨z1,z2⟩:=q5 R r2 r3; refine ⟨R,zeO _ _ _ _ _ _ _ _ ?_,z1,z2⟩; rw [row_eq hn,zas,zaD,iPQ,dn1 (by omega) (by omega),rdA hn (by omega),rdA hn (by omega),hc.stepN (hP _ (by omega)) (hP _ (by omega)),hlt,zaz,za6 hp]; exact r1
   | true=>obtain ⟨R,r1,r2⟩:=zpV hc hW a0 a b m lim d wb wp hI hab hb hs hn hP hB hm hm2 hl; refine ⟨R,zeO _ _ _ _ _ _ _ _ ?_,r2⟩; rw [row_eq hn,zas,zaD,iPQ,dn1 (by omega) (by omega),rdA hn (by omega),rdA hn (by omega),hc.stepN (hP _ (by omega)) (hP _ (by omega)),hlt,zaM]; exact r1
 · obtain ⟨R,r1,r2⟩:=zpV hc hW a0 a b m lim d wb wp hI hab hb hs hn hP hB hm hm2 hl; refine ⟨R,zeO _ _ _ _ _ _ _ _ ?_,r2⟩; rw [zaD,iNQ]; exact r1
theorem k_1015 (hc:Cmp lt P) (hW:SWO lt) (a0:List zab) (a b m lim:Nat) (d:Array zab) (wb wp:Bool) (hI:PdqOk lt P (b - a)) (hab:a+1 < b) (hb:b≤d.size) (hs:d.size < 256) (hn:a0.length=d.size) (hP:AllA P d) (hB:Below lt a b d) (hm:a≤m) (hm2:m < b) (hl:lim≤100):∃ d',zcj a0 (a:Int) (b:Int) wb wp (Er d) (lim:Int) (m:Int)=some (zaj.enc d'.toList)∧PermIn a b d d'∧SortedIn lt a b d':=by
 obtain ⟨R',r1',r2'⟩:=zs0 hc hW a0 a b m lim d wb wp hI hab hb hs hn hP hB hm hm2 hl; obtain ⟨f,d2,hf,hp2,hfs⟩:=zuD hc hW d a b hP (by omega) hb hs hB; have hs2:d2.size=d.size:=hp2.1; obtain ⟨R,r1,r2⟩:=k_1017 hc hW a0 a b m lim d2 wb wp hI hab (by omega) (by omega) (by omega) (hP.perm (by omega) hb hp2) (hB.perm hb hp2) hm hm2 hl; have hU:=fun y=>zlp a0 (a:Int) (b:Int) wb wp (Er d) (lim:Int) (m:Int) (y:=y)
 rw [row_eq hn,za6 hf,r1'] at hU; dsimp only at hU; rw [r1] at hU
 cases wb with
 | false=>exact ⟨R',hU _ rfl,r2'⟩
 | true =>
   cases wp with
   | false=>exact ⟨R',hU _ rfl,r2'⟩
   | true =>
     rw [zaM,zaM] at hU
     cases hh:((1:Nat) == 1) with
     | false=>rw [hh,zaz] at hU; exact ⟨R',hU _ rfl,r2'⟩
     | true =>
       rw [hh,zaM] at hU
       cases f with
       | false=>exact ⟨R,hU _ rfl,permIn_trans _ _ _ _ _ hp2 r2.1,r2.2⟩
       | true=>exact ⟨d2,hU _ rfl,hp2,hfs rfl⟩
theorem zsZ (hc:Cmp lt P) (hW:SWO lt) (a0:List zab) (a b m lim:Nat) (d:Array zab) (wb wp:Bool) (h:Int) (hI:PdqOk lt P (b - a)) (hab:a+1 < b) (hb:b≤d.size) (hs:d.size < 256) (hn:a0.length=d.size) (hP:AllA P d) (hB:Below lt a b d) (hm:a≤m) (hm2:m < b) (hl:lim≤100):∃ d',zdv a0 (a:Int) (b:Int) wb wp (Er d) (lim:Int) (m:Int) h=some (zaj.enc d'.toList)∧PermIn a b d d'∧SortedIn lt a b d':=by
 obtain ⟨R',r1',r2'⟩:=zs0 hc hW a0 a b m lim d wb wp hI hab hb hs hn hP hB hm hm2 hl; obtain ⟨f,d2,hf,hp2,hfs⟩:=zuD hc hW d a b hP (by omega) hb hs hB; have hs2:d2.size=d.size:=hp2.1; obtain ⟨R,r1,r2⟩:=k_1017 hc hW a0 a b m lim d2 wb wp hI hab (by omega) (by omega) (by omega) (hP.perm (by omega) hb hp2) (hB.perm hb hp2) hm hm2 hl; have hU:=fun y=>zkW a0 (a:Int) (b:Int) wb wp (Er d) (lim:Int) (m:Int) h (y:=y)
 rw [row_eq hn,za6 hf,r1'] at hU; dsimp only at hU; rw [r1] at hU
 cases wb with
 | false=>exact ⟨R',hU _ rfl,r2'⟩
 | true =>
   cases wp with
   | false=>exact ⟨R',hU _ rfl,r2'⟩
   | true =>
     rw [zaM,zaM] at hU
     cases hh:(h == 1) with
     | false=>rw [hh,zaz] at hU; exact ⟨R',hU _ rfl,r2'⟩
     | true =>
       rw [hh,zaM] at hU
       cases f with
       | false=>exact ⟨R,hU _ rfl,permIn_trans _ _ _ _ _ hp2 r2.1,r2.2⟩
       | true=>exact ⟨d2,hU _ rfl,hp2,hfs rfl⟩
theorem ks_1010 (hc:Cmp lt P) (hW:SWO lt) (a0:List zab) (a b lim:Nat) (d:Array zab) (wb wp:Bool) (hI:PdqOk lt P (b - a)) (hab:a+1 < b) (hb:b≤d.size) (hs:d.size < 256) (hn:a0.length=d.size) (hP:AllA P d) (hB:Below lt a b d) (hl:lim≤100) (hl1:1≤lim):∃ d',ze9 a0 (a:Int) (b:Int) (lim:Int) wb wp d.toList=some (zaj.enc d'.toList)∧PermIn a b d d'∧SortedIn lt a b d':=by
 obtain ⟨m,h,hp,hm,hm2,hh⟩:=zmb hc d hP a b (by omega) hb (by omega); have hU:=fun y=>zlo a0 (a:Int) (b:Int) (lim:Int) wb wp d.toList (y:=y)
 have ht:List.take ((List.map zaa a0).length) (List.map zaa d.toList)=Er d:=zeg (by simp [hn]); rw [zax (by simp [hn]),ht,za6 hp,row_eq hn] at hU; dsimp only at hU; by_cases h2:h=2
 · have hr:=zq9 d a b (by omega) hb (by omega); have hrp:=reverseRange_holds d a b (by omega) hb
   have e:w64 (w64 ((b:Int) - 1) - w64 ((m:Int) - (a:Int)))=((b - 1 - (m - a):Nat):Int):=by rw [w6Q (n:=(b:Int) - 1),w6Q (n:=(m:Int) - a),w6Q]; omega
   obtain ⟨R,r1,r2,r3⟩:=k_1015 hc hW a0 a b (b - 1 - (m - a)) (lim - 1) (reverseRange d a b) wb wp hI hab (by rw [hrp.1]; exact hb) (by rw [hrp.1]; exact hs) (by rw [hrp.1]; exact hn) (hP.perm (by omega) hb hrp) (hB.perm hb hrp) (by omega) (by omega) (by omega); rw [h2,za6 hr,e] at hU; refine ⟨R,hU _ ?_,permIn_trans _ _ _ _ _ hrp r2,r3⟩; show zcj a0 (a:Int) (b:Int) wb wp (Er (reverseRange d a b)) _ _=_; rw [dn1 hl1 (by omega)]; exact r1
 · obtain ⟨R,r1,r2⟩:=zsZ hc hW a0 a b m (lim - 1) d wb wp h hI hab hb hs hn hP hB hm hm2 (by omega); rw [beq_false_of_ne h2,zaz] at hU; refine ⟨R,hU _ ?_,r2⟩; rw [dn1 hl1 (by omega)]; exact r1
theorem zzJ (hc:Cmp lt P) (hW:SWO lt) (a0:List zab) (a b lim:Nat) (d:Array zab) (wb wp:Bool) (hI:PdqOk lt P (b - a)) (hab:a+1 < b) (hb:b≤d.size) (hs:d.size < 256) (hn:a0.length=d.size) (hP:AllA P d) (hB:Below lt a b d) (hl:lim≤100):∃ d',zeM a0 (Er d) (a:Int) (b:Int) (lim:Int) wb wp=some (zaj.enc d'.toList)∧PermIn a b d d'∧SortedIn lt a b d':=by
 obtain ⟨m,h,hp,hm,hm2,hh⟩:=zmb hc d hP a b (by omega) hb (by omega); have hU:=fun y=>zkV a0 (Er d) (a:Int) (b:Int) (lim:Int) wb wp (y:=y)
 have ht:List.take ((List.map zaa a0).length) (List.map zaa d.toList)=Er d:=zeg (by simp [hn]); rw [zax (by simp [hn]),ht,za6 hp,row_eq hn] at hU; dsimp only at hU; by_cases h2:h=2
 · have hr:=zq9 d a b (by omega) hb (by omega); have hrp:=reverseRange_holds d a b (by omega) hb
   have e:w64 (w64 ((b:Int) - 1) - w64 ((m:Int) - (a:Int)))=((b - 1 - (m - a):Nat):Int):=by rw [w6Q (n:=(b:Int) - 1),w6Q (n:=(m:Int) - a),w6Q]; omega
   obtain ⟨R,r1,r2,r3⟩:=k_1015 hc hW a0 a b (b - 1 - (m - a)) (lim) (reverseRange d a b) wb wp hI hab (by rw [hrp.1]; exact hb) (by rw [hrp.1]; exact hs) (by rw [hrp.1]; exact hn) (hP.perm (by omega) hb hrp) (hB.perm hb hrp) (by omega) (by omega) (by omega); rw [h2,za6 hr,e] at hU; refine ⟨R,hU _ ?_,permIn_trans _ _ _ _ _ hrp r2,r3⟩; show zcj a0 (a:Int) (b:Int) wb wp (Er (reverseRange d a b)) _ _=_; exact r1
 · obtain ⟨R,r1,r2⟩:=zsZ hc hW a0 a b m (lim) d wb wp h hI hab hb hs hn hP hB hm hm2 (by omega); rw [beq_false_of_ne h2,zaz] at hU; refine ⟨R,hU _ ?_,r2⟩; exact r1
theorem k_pdq (hc:Cmp lt P) (hW:SWO lt):∀ n,PdqOk lt P n:=by
 intro n
 induction n with
 | zero=>intro a b d a0 lim wb wp h; omega
 | succ n ih =>
   intro a b d a0 lim wb wp h hab hb hs hn hP hB hl; have hI:PdqOk lt P (b - a):=fun a' b' d' a0' lim' wb' wp' h'=>ih a' b' d' a0' lim' wb' wp' (by omega)
   have e0:w64 ((b:Int) - (a:Int))=((b - a:Nat):Int):=by rw [w6Q]; omega
   by_cases h12:b - a≤12
   · have hi:=insertionSort_holds hW d a b hab hb; refine ⟨insertionSort lt d a b,zef _ _ _ _ _ _ _ ?_,hi.1,hi.2⟩; rw [e0,zaD,iPQ,row_eq hn,za6 (ztJ hc d a b hP hab hb (by omega))]; rfl
   · by_cases h0:lim=0
     · have hi:=heapSort_holds hW d a b hab hb; refine ⟨heapSort lt d a b,zef _ _ _ _ _ _ _ ?_,hi.1,hi.2⟩; rw [e0,zaD,iNQ,h0,row_eq hn,za6 (c_heap hc d a b hP (by omega) hb (by omega))]; rfl
     · cases wb with
       | false=>obtain ⟨d1,g1,g2⟩:=c_break d a b hab hb hs; have hs1:d1.size=d.size:=g2.1; obtain ⟨R,r1,r2,r3⟩:=ks_1010 hc hW a0 a b lim d1 false wp hI (by omega) (by omega) (by omega) (by omega) (hP.perm hab hb g2) (hB.perm hb g2) hl (by omega); refine ⟨R,zef _ _ _ _ _ _ _ ?_,permIn_trans _ _ _ _ _ g2 r2,r3⟩; rw [e0,zaD,iNQ,beq_false_of_ne (by omega),zaz,zdx,zaM,row_eq hn,za6 g1]; exact r1
       | true=>obtain ⟨R,r1,r2,r3⟩:=zzJ hc hW a0 a b lim d true wp hI (by omega) (by omega) (by omega) (by omega) hP hB hl; refine ⟨R,zef _ _ _ _ _ _ _ ?_,r2,r3⟩; rw [e0,zaD,iNQ,beq_false_of_ne (by omega),zaz,zce,zaz]; exact r1
theorem c_SortFunc (hc:Cmp lt P) (hW:SWO lt) (l:List zab) (hP:∀ x∈l,P x) (hs:l.length < 256):∃ l':List zab,cw zdg [.row 1000 9 0 (List.map zaa l).length,.fn zah []] [(1000,⟨9,zac,List.map zaa l,false⟩)]=some (zaj.enc l')∧l'.Perm l∧l'.Pairwise (fun x y=>lt y x=false):=by
 have hPA:AllA P l.toArray:=by
  intro i hi
  have:l.toArray[i]! = l[i]'(by simpa using hi):=by rw [getElem!_pos l.toArray i hi]; simp
  rw [this]; exact hP _ (zbs _)
 have hsz:l.toArray.size=l.length:=by simp
 obtain ⟨d',g1,g2,g3⟩:=c_pdq (k_pdq hc hW 256) 0 l.length l.toArray (bitsLen l.length) (by omega) (by omega) (by omega) (by omega) hPA (Or.inl rfl) (by have:=zoG hs; omega); refine ⟨d'.toList,zj8 l ?_,?_,?_⟩
 · rw [zas,zhX (by omega) (by omega),za6 (c_Len l.length hs)]; have hr:rA l.toArray=AV.row 1000 9 0 l.length:=by simp [rA]
   rw [hr] at g1; rw [show ((0:Nat):Int)=0 from rfl] at g1; rw [za6 g1]; rfl
 · have h:=g2.2.2
   have e1:d'.extract 0 l.length=d':=by
    have:d'.size=l.length:=by rw [g2.1]; simp
    rw [← this]; simp
   have e2:l.toArray.extract 0 l.length=l.toArray:=by simp
   rw [e1,e2] at h; simpa using h
 · have hd:d'.size=l.length:=by rw [g2.1]; simp
   rw [zvd]; intro i j hi hj hij; have hi':i < d'.size:=by simpa using hi
   have hj':j < d'.size:=by simpa using hj
   have:=g3 i j (by omega) hij (by omega); rw [getElem!_pos d' i hi',getElem!_pos d' j hj'] at this; simpa using this
end
end Go.Proofs.YtikogkgdkdmljaaGreat.SE
namespace Go.Proofs.YtikogkgdkdmljaaGreat
open Go.Ab
set_option maxRecDepth 10000
section
variable {α:Type} {lt:α→α→Bool}
theorem zzI (x:α):∀ l:List α,List.Perm (ins lt x l) (x :: l)
 | []=>zvk _
 | y :: r=>by
   unfold ins; split
   · exact zvk _
   · exact ((zzI x r).cons y).trans (List.Perm.swap x y r)
theorem zlS:∀ l:List α,List.Perm (isort lt l) l
 | []=>zvk _
 | x :: r=>(zzI x (isort lt r)).trans ((zlS r).cons x)
theorem zAQ (ht:∀ a b c,lt b a=false→lt c b=false→lt c a=false) (ha:∀ a b,lt a b=true→lt b a=false) (x:α):∀ l:List α,l.Pairwise (fun a b=>lt b a=false)→(ins lt x l).Pairwise (fun a b=>lt b a=false)
 | [],_=>by simp [ins]
 | y :: r,h=>by
   unfold ins; split
   · rename_i hxy; refine znn.2 ⟨fun z hz=>?_,h⟩; rcases zbd.1 hz with rfl | hz
     · exact ha _ _ hxy
     · exact ht _ _ _ (ha _ _ hxy) ((znn.1 h).1 z hz)
   · rename_i hxy; obtain ⟨h1,h2⟩:=znn.1 h; refine znn.2 ⟨fun z hz=>?_,zAQ ht ha x r h2⟩; rcases zbd.1 ((zzI x r).mem_iff.1 hz) with rfl | hz
     · simpa using hxy
     · exact h1 z hz
theorem zsY (ht:∀ a b c,lt b a=false→lt c b=false→lt c a=false) (ha:∀ a b,lt a b=true→lt b a=false):∀ l:List α,(isort lt l).Pairwise (fun a b=>lt b a=false)
 | []=>List.Pairwise.nil
 | x :: r=>zAQ ht ha x _ (zsY ht ha r)
theorem zoV:∀ {l1 l2:List α},List.Perm l1 l2→l1.Pairwise (fun a b=>lt b a=false)→l2.Pairwise (fun a b=>lt b a=false)→(∀ a∈l1,∀ b∈l1,lt a b=false→lt b a=false→a=b)→l1=l2
 | [],l2,hp,_,_,_=>(List.nil_perm.1 hp).symm
 | x :: r,l2,hp,h1,h2,ha=>by
   cases l2 with
   | nil=>exact absurd hp.length_eq (by simp)
   | cons y s =>
     obtain ⟨h3,h4⟩:=znn.1 h1; obtain ⟨h5,h6⟩:=znn.1 h2
     have hxy:x=y:=by
      have m1:y∈x :: r:=hp.mem_iff.2 (by simp); have m2:x∈y :: s:=hp.mem_iff.1 (by simp); rcases zbd.1 m1 with e | m1
      · exact e.symm
      rcases zbd.1 m2 with e | m2
      · exact e
      exact ha x (by simp) y (by simp [m1]) (h5 x m2) (h3 y m1)
     subst hxy; rw [zoV ((List.perm_cons x).1 hp) h4 h6 (fun a ha' b hb=>ha a (by simp [ha']) b (by simp [hb]))]
end
theorem zkN {a b:zaW} (h:lessS a b=true):lessS b a=false:=by
 rcases zyK a b with q | q
 · rw [h] at q; cases q
 · exact q
theorem lessS_eq {a b:zaW} (h1:lessS a b=false) (h2:lessS b a=false):a=b:=by
 unfold lessS at h1 h2; obtain ⟨t,s,q⟩:=a; obtain ⟨t',s',q'⟩:=b; simp only at h1 h2
 have:t=t':=by
  by_cases h:t=t'
  · exact h
  · simp [h,Ne.symm h] at h1 h2; omega
 subst this
 have:s=s':=by
  by_cases h:s=s'
  · exact h
  · simp [h,Ne.symm h] at h1 h2; omega
 subst this; simp at h1 h2; have:q=q':=by omega
 rw [this]
theorem zC0 (s:zaW):cw zrz [.agg (zcl s)] []=some (zaw (stampB s)):=by
 refine zCl s ?_; unfold stampB; simp only [zj2,decide_eq_true_eq]
 repeat' split
 all_goals first
  | (rw [decide_eq_false (by omega)]; rfl)
  | (rw [show decide ((0≤s.Time∧s.Time≤1000000)∧(0≤s.Source∧s.Source≤99)∧(0≤s.Seq∧s.Seq≤9999))=decide (s.Seq≤9999) from decide_eq_decide.2 (by omega)]; rfl)
theorem zwj (n:Int):cw zc8 [I n] []=some (zaw (!decide (0≤n∧n≤1152921504606846976))):=by
 refine zuN n ?_; rw [zaD]; split
 · rw [show decide (0≤n∧n≤1152921504606846976)=false from decide_eq_false (by omega)]; rfl
 · rw [show (!decide (0≤n∧n≤1152921504606846976))=decide (1152921504606846976 < n) by rw [← decide_not]; exact decide_eq_decide.2 (by omega)]
   rfl
theorem c_idx_v (l:List Int) (hl:l.length≤1000000):cw zcL [.sl 1 (List.map zaq l),.fn zc8 []] []=some (zbu (match fnd (fun n=>!decide (0≤n∧n≤1152921504606846976)) 0 l with | some (i,_)=>(i:Int) | none=>-1)):=by
 refine zqC l ?_; refine zi6 l (fun n=>!decide (0≤n∧n≤1152921504606846976)) (fun i=>zfS l i) (fun o=>zbu (match o with | some (i,_)=>(i:Int) | none=>-1)) ?_ ?_ ?_
 · exact zhL _ _ (by simp (disch:=omega) only [zas,za2]; rfl)
 · intro i hi h; refine zhL _ _ ?_; simp (disch:=omega) only [zas,zaR,zax,za9,zeK,zaN hi,zba,zwj,zar]; rw [h,zaM]; rfl
 · intro i hi y h hk; refine zhL _ _ ?_; simp (disch:=omega) only [zas,zaR,zax,za9,zeK,zaN hi,zba,zwj,zar]; rw [h,zaz,w6Q]; exact hk
theorem zCW (l:List Int) (hl:l.length≤1000000):cw zcm [.sl 1 (List.map zaq l),.fn zc8 []] []=some (zaw (l.any fun n=>!decide (0≤n∧n≤1152921504606846976))):=by
 refine zpC l ?_; rw [c_idx_v l hl,zbc,← zxV]
 cases fnd (fun n=>!decide (0≤n∧n≤1152921504606846976)) 0 l with
 | none=>rfl
 | some q=>simp; rfl
theorem zDC {α:Type} (p:α→Bool) (l:List α):(!l.any fun n=>!p n)=l.all p:=by
 induction l with
 | nil=>rfl
 | cons x r ih=>simp only [List.any_cons,List.all_cons,Bool.not_or,Bool.not_not,ih]
theorem zDI (e:zab) (hp:e.Pages.length≤1000000):cw zmL [.agg (zaa e)] []=some (zaw (decide (1≤e.Stamp.Source∧(0≤e.Part∧e.Part≤23)∧(-1≤e.Value∧e.Value≤40)∧e.Marker=0) && decide (e.Pages.length≤12) && e.Pages.all (fun n=>decide (0≤n∧n≤1152921504606846976)))):=by
 refine zwG e ?_; rw [zCW _ hp,zar,zDC,zas]; simp only [zj2,decide_eq_true_eq,bne_iff_ne,ne_eq]; by_cases hl:12 < e.Pages.length
 · rw [if_pos (show (12:Int) < (e.Pages.length:Int) by omega),show decide (e.Pages.length≤12)=false from decide_eq_false (by omega),zqn,znj]
   repeat' split
   all_goals rfl
 · rw [if_neg (show ¬ (12:Int) < (e.Pages.length:Int) by omega),show decide (e.Pages.length≤12)=true from decide_eq_true (by omega),zqm]
   repeat' split
   all_goals first
    | (rw [decide_eq_false (by omega),znj]; rfl)
    | (rw [decide_eq_true (by omega),zkF]; rfl)
theorem c_Valid (e:zab) (hp:e.Pages.length≤1000000):cw zmW [.agg (zaa e)] []=some (zaw (eventB e)):=by
 refine zAC e ?_; rw [zC0,zar,zDI e hp,zar,zas]; unfold eventB
 cases hs:stampB e.Stamp with
 | false=>simp only [zdx,zaM,znj]; rfl
 | true =>
 simp only [zce,zaz,zkF,zj2,decide_eq_true_eq,beq_iff_eq,zdH,if_false]; by_cases h1:0≤e.Script∧e.Script≤319999
 case neg =>
  rw [decide_eq_false h1,znj,znj,znj]; by_cases h2:e.Script < 0
  · rw [if_pos h2]; rfl
  · rw [if_neg h2,if_pos (show 319999 < e.Script by omega)]; rfl
 rw [if_neg (show ¬ e.Script < 0 by omega),if_neg (show ¬ 319999 < e.Script by omega),decide_eq_true h1,zkF]; by_cases k0:e.Kind=0
 · rw [if_pos k0]; have:decide ((e.Kind=0∧1≤e.Stamp.Source∧(0≤e.Part∧e.Part≤23)∧(-1≤e.Value∧e.Value≤40)∧e.Marker=0)∨(e.Kind=1∧e.Stamp.Source=0∧e.Script=0∧e.Part=0∧e.Value=0∧(1≤e.Marker∧e.Marker≤99)∧e.Pages.length=0)∨(e.Kind=2∧e.Stamp.Source=0∧e.Value=0∧e.Marker=0∧(-1≤e.Part∧e.Part≤23)∧e.Pages.length=0))=decide (1≤e.Stamp.Source∧(0≤e.Part∧e.Part≤23)∧(-1≤e.Value∧e.Value≤40)∧e.Marker=0):=decide_eq_decide.2 (by omega); rw [this]; generalize decide (1≤e.Stamp.Source∧(0≤e.Part∧e.Part≤23)∧(-1≤e.Value∧e.Value≤40)∧e.Marker=0)=x; generalize decide (e.Pages.length≤12)=y; generalize (e.Pages.all fun n=>decide (0≤n∧n≤1152921504606846976))=z; cases x <;> cases y <;> cases z <;> rfl
 rw [if_neg k0]; by_cases hl:e.Pages.length=0
 · have hnil:e.Pages=[]:=zxP hl; rw [hnil]; simp only [zva,List.all_nil,zqm,and_true]; rw [show decide ((0:Nat)≤12)=true from rfl,zkF]
   repeat' split
   all_goals first
    | (rw [decide_eq_false (by omega)]; rfl)
    | (rw [decide_eq_true (by omega)]; rfl)
 · have:decide ((e.Kind=0∧1≤e.Stamp.Source∧(0≤e.Part∧e.Part≤23)∧(-1≤e.Value∧e.Value≤40)∧e.Marker=0) ∨
    (e.Kind=1∧e.Stamp.Source=0∧e.Script=0∧e.Part=0∧e.Value=0∧(1≤e.Marker∧e.Marker≤99)∧e.Pages.length=0)∨(e.Kind=2∧e.Stamp.Source=0∧e.Value=0∧e.Marker=0∧(-1≤e.Part∧e.Part≤23)∧e.Pages.length=0))=false:=decide_eq_false (by omega)
   rw [this,zqn,show ((e.Pages.length:Int) == 0)=false by simp; intro h; rw [h] at hl; exact hl rfl]
   repeat' split
   all_goals rfl
theorem c_Same (a b:zab) (hl:a.Pages.length≤1000000):cw zn1 [.agg (zaa a),.agg (zaa b)] []=some (zaw (decide (a=b))):=by
 refine zBn a b ?_; rw [c_Equal _ _ hl,zar,zAv]; obtain ⟨⟨t,s,q⟩,k,sc,pa,v,m,pg⟩:=a; obtain ⟨⟨t',s',q'⟩,k',sc',pa',v',m',pg'⟩:=b; simp only [zj2,zb5,beq_iff_eq,and_true,zab.mk.injEq,zaW.mk.injEq]
 repeat' split
 all_goals first
  | (rw [decide_eq_false (by simp_all)]; rfl)
  | (rename_i h1 h2 h3 h4 h5 h6
     rw [show decide ((t=t'∧s=s'∧q=q')∧k=k'∧sc=sc'∧pa=pa'∧v=v'∧m=m'∧pg=pg')=decide (pg=pg') from decide_eq_decide.2 (by simp_all)]
     rfl)
theorem c_clone (e:zab) (hl:e.Pages.length≤1000000):cw zkd [.agg (zaa e)] []=some (zn8 e):=by refine zAD e ?_; rw [c_CloneI ci_ok _ hl,zmd,cPQ,zeg (by omega)]; rfl
theorem zCg (a b:zab):cw zah [.agg (zaa a),.agg (zaa b)] []=some (zbu (cmpS a.Stamp b.Stamp)):=by refine zuM a b ?_; rw [zuB,zbc]; rfl
theorem zpU {l:List zab} {m:zfQ} {i:Nat} {e:zab} (hm:∀ p∈m,0≤p.2.first∧p.2.first < (i:Int)):∀ p∈zgB l m i e,0≤p.2.first∧p.2.first < ((i+1:Nat):Int):=by
 intro p hp; have up:p∈m→0≤p.2.first∧p.2.first < ((i+1:Nat):Int):=fun h=>by have:=hm p h; omega
 unfold zgB at hp; split at hp
 · split at hp
   · rcases zpb hp with rfl | h
     · simp; omega
     · exact up h
   · rename_i g hg; have:=hm _ (znE hg); rcases zpb hp with rfl | h
     · simp at this ⊢; omega
     · exact up h
 · exact up hp
theorem zDT (l:List zab) (hl:l.length≤1000000) (hp:∀ e∈l,e.Pages.length≤1000000):∀ (n i:Nat) (m:zfQ),i+n=l.length→(∀ p∈m,0≤p.2.first∧p.2.first < (i:Int))→zff l (List.map zbW m) i=some (zf5 (zeY l (l.drop i) i m,l)):=by
 intro n
 induction n with
 | zero=>intro i m hi hm; refine zrt _ _ _ ?_; rw [zas,za2 (by omega),znl (by omega)]; rfl
 | succ n ih =>
   intro i m hi hm; have hlt:i < l.length:=by omega
   have hpe:=hp _ (zbs hlt)
   have IH:∀ m':zfQ,zgB l m i l[i]=m'→zff l (List.map zbW m') ((i+1:Nat):Int)=some (zf5 (zeY l (l.drop i) i m,l)):=by intro m' hm'; rw [zju hlt]; unfold zeY; rw [hm']; refine ih (i+1) m' (by omega) ?_; rw [← hm']; exact zpU hm
   refine zrt _ _ _ ?_; rw [zaR (by simp; omega),cPQ,zax (by simp; omega),zcA,za9,zfo,zaN hlt,zba,c_Valid _ hpe,zar,w6Q,show ((i:Int)+1)=((i+1:Nat):Int) by omega]; unfold zgB at IH
   cases hv:eventB l[i] with
   | false=>rw [zdx,zaM]; exact IH m (by rw [hv]; rfl)
   | true =>
     rw [zce,zaz,zrg l[i] (y:=zks (l[i].Stamp.Source,l[i].Stamp.Seq)) rfl,zoJ]; rw [show (AV.agg (zgA.enc (l[i].Stamp.Source,l[i].Stamp.Seq)))=.agg (zd8 (l[i].Stamp.Source,l[i].Stamp.Seq)) from rfl,zm3]; rw [hv] at IH; simp only [if_true] at IH
     cases hf:mfind (l[i].Stamp.Source,l[i].Stamp.Seq) m with
     | none=>rw [hf] at IH; simp only [zvh,zdx,zaM,Option.getD_none]; rw [zeS]; exact IH _ rfl
     | some g =>
       rw [hf] at IH; have hg:=hm _ (znE hf); simp only at hg; have hgl:g.first.toNat < l.length:=by omega
       simp only [zqk,zce,zaz,zmr]; rw [zax hg.1,zax (by simp; omega),zcA,zfo,zaN hgl,zba,c_Same _ _ (hp _ (zbs hgl)),zar]; by_cases he:l[g.first.toNat]=l[i]
       · rw [decide_eq_true he,zce,zaz,zeS]; exact IH _ (by simp only [zaN hgl,he,if_true])
       · rw [decide_eq_false he,zdx,zaM,zeS]; exact IH _ (by simp only [zaN hgl,zaE,he,if_false])
theorem c_groups (l:List zab) (hl:l.length≤1000000) (hp:∀ e∈l,e.Pages.length≤1000000):cw zeL [.row 1000 9 0 (List.map zaa l).length] [(1000,⟨9,zac,List.map zaa l,false⟩)]=some (zf5 (zcB l,l)):=by refine zzD l ?_; have:=zDT l hl hp l.length 0 [] (by omega) (by simp); rw [zsg] at this; exact this
theorem zCr (l:List zab) (hl:l.length≤1000000) (hp:∀ e∈l,e.Pages.length≤1000000):∀ (n i:Nat) (m:zfQ),i+n=l.length→(∀ p∈m,0≤p.2.first∧p.2.first < (i:Int))→zeF l (List.map zbW m) i=some (zfg (zeY l (l.drop i) i m)):=by
 intro n
 induction n with
 | zero=>intro i m hi hm; refine zp6 _ _ _ ?_; rw [zas,za2 (by omega),znl (by omega)]; rfl
 | succ n ih =>
   intro i m hi hm; have hlt:i < l.length:=by omega
   have hpe:=hp _ (zbs hlt)
   have IH:∀ m':zfQ,zgB l m i l[i]=m'→zeF l (List.map zbW m') ((i+1:Nat):Int)=some (zfg (zeY l (l.drop i) i m)):=by intro m' hm'; rw [zju hlt]; unfold zeY; rw [hm']; refine ih (i+1) m' (by omega) ?_; rw [← hm']; exact zpU hm
   refine zp6 _ _ _ ?_; rw [zaR (by simp; omega),cPQ,za9,zfo,zaN hlt,zba,c_Valid _ hpe,zar,w6Q,show ((i:Int)+1)=((i+1:Nat):Int) by omega]; unfold zgB at IH
   cases hv:eventB l[i] with
   | false=>rw [zdx,zaM]; exact IH m (by rw [hv]; rfl)
   | true =>
     rw [zce,zaz,zrg l[i] (y:=zks (l[i].Stamp.Source,l[i].Stamp.Seq)) rfl,zoJ]; rw [show (AV.agg (zgA.enc (l[i].Stamp.Source,l[i].Stamp.Seq)))=.agg (zd8 (l[i].Stamp.Source,l[i].Stamp.Seq)) from rfl,zm3]; rw [hv] at IH; simp only [if_true] at IH
     cases hf:mfind (l[i].Stamp.Source,l[i].Stamp.Seq) m with
     | none=>rw [hf] at IH; simp only [zvh,zdx,zaM,Option.getD_none]; rw [zeS]; exact IH _ rfl
     | some g =>
       rw [hf] at IH; have hg:=hm _ (znE hf); simp only at hg; have hgl:g.first.toNat < l.length:=by omega
       simp only [zqk,zce,zaz,zmr]; rw [zax hg.1,zfo,zaN hgl,zba,c_Same _ _ (hp _ (zbs hgl)),zar]; by_cases he:l[g.first.toNat]=l[i]
       · rw [decide_eq_true he,zce,zaz,zeS]; exact IH _ (by simp only [zaN hgl,he,if_true])
       · rw [decide_eq_false he,zdx,zaM,zeS]; exact IH _ (by simp only [zaN hgl,zaE,he,if_false])
theorem c_groups_d (l:List zab) (hl:l.length≤1000000) (hp:∀ e∈l,e.Pages.length≤1000000):cw zeL [.sl 9 (List.map zaa l)] []=some (zfg (zcB l)):=by refine zxj l ?_; have:=zCr l hl hp l.length 0 [] (by omega) (by simp); rw [zsg] at this; exact this
theorem zsV {l:List zab}:∀ {r:List zab} {i:Nat} {m:zfQ},(∀ p∈m,0≤p.2.first∧p.2.first < (i:Int))→∀ p∈zeY l r i m,0≤p.2.first∧p.2.first < ((i+r.length:Nat):Int)
 | [],i,m,h,p,hp=>by simpa using h p hp
 | e :: r,i,m,h,p,hp=>by have:=zsV (zpU h) p hp; simp only [zjr] at this ⊢; omega
theorem zDd (l:List zab):∀ p∈zcB l,0≤p.2.first∧p.2.first < (l.length:Int):=fun p hp=>by have:=zsV (l:=l) (r:=l) (i:=0) (m:=[]) (by simp) p hp; simpa using this
theorem zvV {κ ν:Type} [DecidableEq κ] {k:κ} {v:ν}:∀ {l:List (κ×ν)},(mput k v l).length≤l.length+1
 | []=>by simp [mput]
 | p :: r=>by
   unfold mput; split
   · simp
   · have:=zvV (k:=k) (v:=v) (l:=r); simp only [zjr]; omega
theorem zCq {l:List zab} {m:zfQ} {i:Nat} {e:zab}:(zgB l m i e).length≤m.length+1:=by
 unfold zgB; split
 · split
   · exact zvV
   · exact zvV
 · omega
theorem zuR {l:List zab}:∀ {r:List zab} {i:Nat} {m:zfQ},(zeY l r i m).length≤m.length+r.length
 | [],i,m=>by simp [zeY]
 | e :: r,i,m=>by have h1:=zuR (l:=l) (r:=r) (i:=i+1) (m:=zgB l m i e); have h2:=zCq (l:=l) (m:=m) (i:=i) (e:=e); unfold zeY; simp only [zjr]; omega
theorem zAO (l:List zab):(zcB l).length≤l.length:=by have:=zuR (l:=l) (r:=l) (i:=0) (m:=[]); rw [zva,zcA] at this; exact this
theorem zxA {κ ν:Type} [DecidableEq κ] {k:κ} {v:ν} {l:List (κ×ν)} (h:(l.map (·.1)).Nodup):((mput k v l).map (·.1)).Nodup∧∀ x,x∈(mput k v l).map (·.1)→x=k∨x∈l.map (·.1):=by
 induction l with
 | nil=>simp [mput]
 | cons p r ih =>
   obtain ⟨h1,h2⟩:=ziY.1 h; unfold mput; split
   · rename_i hk; refine ⟨by simpa [← hk] using h,fun x hx=>?_⟩; simp only [zdI,zbd] at hx ⊢; rcases hx with h | h
     · exact .inl h
     · exact .inr (.inr h)
   · rename_i hk; obtain ⟨i1,i2⟩:=ih h2; refine ⟨ziY.2 ⟨fun hm=>?_,i1⟩,fun x hx=>?_⟩
     · rcases i2 _ hm with h | h
       · exact hk h
       · exact h1 h
     · simp only [zdI,zbd] at hx ⊢; rcases hx with h | h
       · exact .inr (.inl h)
       · rcases i2 x h with h | h
         · exact .inl h
         · exact .inr (.inr h)
def Keyed (l:List zab) (m:zfQ):Prop:=(m.map (·.1)).Nodup∧∀ p∈m,∃ e,l[p.2.first.toNat]?=some e∧(e.Stamp.Source,e.Stamp.Seq)=p.1∧eventB e=true
theorem zAN {l:List zab} {m:zfQ} {i:Nat} {e:zab} (h:Keyed l m) (he:l[i]?=some e):Keyed l (zgB l m i e):=by
 unfold zgB; split
 · rename_i hv; split
   · refine ⟨(zxA h.1).1,fun p hp=>?_⟩; rcases zpb hp with rfl | hp
     · exact ⟨e,by simpa using he,rfl,hv⟩
     · exact h.2 p hp
   · rename_i g hg; refine ⟨(zxA h.1).1,fun p hp=>?_⟩; rcases zpb hp with rfl | hp
     · obtain ⟨e',h1,h2,h3⟩:=h.2 _ (znE hg); exact ⟨e',h1,h2,h3⟩
     · exact h.2 p hp
 · exact h
theorem zsW {l:List zab}:∀ {r:List zab} {i:Nat} {m:zfQ},Keyed l m→l.drop i=r→Keyed l (zeY l r i m)
 | [],i,m,h,_=>h
 | e :: r,i,m,h,hd=>by
   unfold zeY
   have he:l[i]?=some e:=by have:=congrArg (·[0]?) hd; simpa using this
   refine zsW (zAN h he) ?_; have:=congrArg (List.drop 1) hd; simpa [List.drop_drop] using this
theorem zsX (l:List zab):Keyed l (zcB l):=zsW ⟨by simp,by simp⟩ (by simp)
theorem zwm {l:List zab} {m:zfQ} (h:Keyed l m):(m.filterMap (pickG l)).Pairwise (fun a b=>(a.Stamp.Source,a.Stamp.Seq)≠(b.Stamp.Source,b.Stamp.Seq))∧∀ e∈m.filterMap (pickG l),eventB e=true∧e∈l:=by
 constructor
 · rw [List.pairwise_filterMap]; have hn:=h.1; rw [List.Nodup,List.pairwise_map] at hn; refine List.Pairwise.imp_of_mem ?_ hn; intro a b ha hb hab x hx y hy; obtain ⟨e,h1,h2,_⟩:=h.2 a ha; obtain ⟨f,h3,h4,_⟩:=h.2 b hb
   have e1:x=e:=by
    unfold pickG at hx; split at hx
    · cases hx
    · rw [h1] at hx; injection hx with hx; exact hx.symm
   have e2:y=f:=by
    unfold pickG at hy; split at hy
    · cases hy
    · rw [h3] at hy; injection hy with hy; exact hy.symm
   subst e1 e2; rw [h2,h4]; exact hab
 · intro x hx; obtain ⟨p,hp,hpx⟩:=zxR.1 hx; obtain ⟨e,h1,_,h3⟩:=h.2 p hp; unfold pickG at hpx; split at hpx
   · cases hpx
   · rw [h1] at hpx; injection hpx with hpx; subst hpx; exact ⟨h3,zcs h1⟩
theorem keep_mem {l:List zab} {e:zab} (h:e∈keepS l):eventB e=true∧e∈l:=(zwm (zsX l)).2 e h
theorem keep_ids (l:List zab):(keepS l).Pairwise (fun a b=>(a.Stamp.Source,a.Stamp.Seq)≠(b.Stamp.Source,b.Stamp.Seq)):=(zwm (zsX l)).1
theorem zDk {α:Type} {f:α→Int×Int} {l:List α} (h:l.Pairwise (fun a b=>f a≠f b)) {a b:α} (ha:a∈l) (hb:b∈l) (e:f a=f b):a=b:=by
 induction l with
 | nil=>cases ha
 | cons x r ih =>
   obtain ⟨h1,h2⟩:=znn.1 h; rcases zbd.1 ha with ea | ha'
   · rcases zbd.1 hb with eb | hb'
     · rw [ea,eb]
     · rw [ea] at e; exact absurd e (h1 b hb')
   · rcases zbd.1 hb with eb | hb'
     · rw [eb] at e; exact absurd e.symm (h1 a ha')
     · exact ih h2 ha' hb'
theorem keep_inj {l:List zab} {a b:zab} (ha:a∈keepS l) (hb:b∈keepS l) (e:a.Stamp=b.Stamp):a=b:=zDk (f:=fun x=>(x.Stamp.Source,x.Stamp.Seq)) (keep_ids l) ha hb (by simp only [e])
theorem zw9 (l:List zab):(canonS l).Pairwise (fun a b=>lessS b.Stamp a.Stamp=false):=
 zsY (lt:=fun a b:zab=>lessS a.Stamp b.Stamp) (fun _ _ _ h1 h2=>zt2 h1 h2) (fun _ _ h=>zkN h) _
theorem zgW (l:List zab):List.Perm (canonS l) (keepS l):=zlS _
theorem canon_of {l r:List zab} (hp:List.Perm r (keepS l)) (hs:r.Pairwise (fun a b=>lessS b.Stamp a.Stamp=false)):r=canonS l:=
 zoV (lt:=fun a b:zab=>lessS a.Stamp b.Stamp) (hp.trans (zgW l).symm) hs (zw9 l) (fun _ ha _ hb h1 h2=>keep_inj (hp.mem_iff.1 ha) (hp.mem_iff.1 hb) (lessS_eq h1 h2))
theorem swoE:Go.Sort.SWO (fun a b:zab=>lessS a.Stamp b.Stamp) where
 irrefl:=fun x=>by rcases zyK x.Stamp x.Stamp with h | h <;> exact h
 trans:=fun x y z h1 h2=>by
  cases h:lessS x.Stamp z.Stamp with
  | true=>rfl
  | false=>have h3:=zt2 (zkN h2) h; rw [h1] at h3; cases h3
 ntrans:=fun x y z h1 h2=>zt2 h2 h1
theorem cmpE:SE.Cmp (fun a b:zab=>lessS a.Stamp b.Stamp) (fun _=>True) where
 ans:=fun x y _ _=>⟨_,zCg x y,cmpS_neg _ _⟩
theorem cnLegs (b:Bool) {l:List zab} (h:FewEv l):CnLegs b l where
 len:=h.1
 glen:=by have:=zAO l; have:=h.1; omega
 few:=by have:=h.2.1; omega
 cGroups:=by
  cases b with
  | true=>exact c_groups l (by have:=h.1; omega) h.2.2
  | false=>exact c_groups_d l (by have:=h.1; omega) h.2.2
 first:=zDd l
 cSort:=fun ev hp=>by
  have hl:ev.length < 256:=by have:=hp.length_eq; have:=h.2.1; omega
  obtain ⟨l',h1,h2,h3⟩:=SE.c_SortFunc cmpE swoE ev (fun _ _=>trivial) hl; rw [canon_of (h2.trans hp) h3] at h1; exact h1
 perm:=zgW l
 cClone:=fun e he=>c_clone e (h.2.2 e (keep_mem ((zgW l).mem_iff.1 he)).2)
end Go.Proofs.YtikogkgdkdmljaaGreat
end
