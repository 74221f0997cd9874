/- The dice, and the setups that they make. -/
import Derived.Test.YticojpmhlhfhlaaGreatChk
namespace Go.Proofs.YticojpmhlhfhlaaGreat
open Go.Ab
set_option linter.unusedSimpArgs false
def DOk (d:GmarkDice):Prop:=0≤d.At∧d.L.length≤600
noncomputable abbrev mD (d:GmarkDice):Mem:=[(1000,⟨2,zad,[zal d],true⟩)]
theorem tmod_lt {a n:Int} (hn:0 < n):-n < a.tmod n∧a.tmod n < n:=by
 have h1:=Int.tmod_lt_of_pos a hn
 refine ⟨?_,h1⟩
 have h2:=Int.tmod_lt_of_pos (-a) hn
 rw [Int.neg_tmod] at h2
 omega
theorem c_Light (t:List Int):cw zuT [.sl 1 (List.map zaa t)] []=some (zu8 (decide ((t.length:Int)≤600))):=
 zIv t (by rw [List.length_map]; rfl)
theorem c_Roll (t:List Int):cw zww [.sl 1 (List.map zaa t)] []=some (zwu ⟨t,0⟩):=zJG t rfl
theorem zbp (d:GmarkDice) (n:Int) (hd:DOk d) (hn:n≤4611686018427387904) :
  ∃ (r:Int) (d':GmarkDice),cw zaB [.loc 1000 2 0 0,I n] (mD d)=some (zpF (r,d'))∧0≤r∧(r < n∨r=0)∧DOk d':=by
 by_cases h1:(d.L.length:Int)≤d.At
 · refine ⟨0,d,zk9 d n ?_,by omega,.inr rfl,hd⟩
   simp (disch:=omega) only [List.length_map,zak]; rfl
 by_cases h2:n < 1
 · refine ⟨0,d,zk9 d n ?_,by omega,.inr rfl,hd⟩
   simp (disch:=omega) only [List.length_map,zak,zaq]; rfl
 obtain ⟨ha,hl⟩:=hd
 have hlt:d.At.toNat < d.L.length:=by omega
 have hb:=tmod_lt (a:=d.L[d.At.toNat]) (n:=n) (by omega)
 have hd':DOk ⟨d.L,d.At+1⟩:=⟨by show 0≤d.At+1; omega,hl⟩
 by_cases h3:(d.L[d.At.toNat]).tmod n < 0
 · refine ⟨(d.L[d.At.toNat]).tmod n+n,⟨d.L,d.At+1⟩,zk9 d n ?_,by omega,.inl (by omega),hd'⟩
   simp (disch:=omega) [zak,zaq,zac,hlt,w64_id]; rfl
 · refine ⟨(d.L[d.At.toNat]).tmod n,⟨d.L,d.At+1⟩,zk9 d n ?_,by omega,.inl (by omega),hd'⟩
   simp (disch:=omega) [zak,zaq,zac,hlt,w64_id]; rfl
theorem zuP (d:GmarkDice) (n:Int) (hd:DOk d) (hn:n≤4611686018427387904) :
  ∃ (r:Bool) (d':GmarkDice),cw zc8 [.loc 1000 2 0 0,I n] (mD d)=some (zpb (r,d'))∧DOk d':=by
 obtain ⟨r,d',h,_,_,hd'⟩:=zbp d n hd hn
 exact ⟨_,d',zEb d n (by simp only [h,zaH]; rfl),hd'⟩
theorem c_Pick (d:GmarkDice) (l:List Int) (hd:DOk d) (hl:l≠[]) (hl2:l.length≤1000) :
  ∃ (r:Int) (d':GmarkDice),cw zeu [.loc 1000 2 0 0,.sl 1 (List.map zaa l)] (mD d)=some (zpt (r,d'))∧r∈l∧DOk d':=by
 obtain ⟨r,d',h,h0,h1,hd'⟩:=zbp d l.length hd (by omega)
 have hpos:0 < l.length:=List.length_pos_iff.2 hl
 have hlt:r.toNat < l.length:=by omega
 refine ⟨l[r.toNat],d',zDE d l ?_,List.getElem_mem hlt,hd'⟩
 simp (disch:=omega) only [List.length_map,h,zaH,zac,zbi,List.getElem?_eq_getElem hlt,Option.bind_some]
 rfl
theorem c_Rule (d:GmarkDice) (hd:DOk d) :
  ∃ (r:GMarkRule) (d':GmarkDice),cw zpa [.loc 1000 2 0 0] (mD d)=some (zpu (r,d'))∧0≤r.Tolerance∧r.Tolerance < 3∧DOk d':=by
 obtain ⟨b,d1,h1,hd1⟩:=zuP d 2 hd (by omega)
 obtain ⟨n,d2,h2,h0,h3,hd2⟩:=zbp d1 3 hd1 (by omega)
 refine ⟨⟨b,n⟩,d2,zD9 d ?_,h0,by show n < 3; omega,hd2⟩
 simp only [h1,h2,zbr,zaH]
 rfl
def DPaper (p:GPaper):Prop:=p.Parts.length≤3∧1≤p.Parts.length∧∀ x∈p.Parts,OkPart x∧x.Max≤6
theorem DPaper.ok {p:GPaper} (h:DPaper p) (h1:0≤p.Code∧p.Code≤31) (h2:0≤p.Variant∧p.Variant < 4):zfh p:=by
 obtain ⟨a,b,c⟩:=h
 refine ⟨h1,h2,by omega,fun x hx=>(c x hx).1,?_⟩
 have:=(zAN (fun x hx=>(c x hx).1)).2
 omega
theorem zBu (d:GmarkDice) (a b:Int) (hd:DOk d) :
  ∃ (p:GPaper) (d':GmarkDice),cw zdm [.loc 1000 2 0 0,I a,I b] (mD d)=some (zn5 (p,d'))∧p.Code=a∧p.Variant=b∧DPaper p∧DOk d':=by
 obtain ⟨n0,d0,e0,a0,b0,hd0⟩:=zbp d 4 hd (by omega)
 obtain ⟨n1,d1,e1,a1,b1,hd1⟩:=zbp d0 3 hd0 (by omega)
 by_cases h1:0 < n1
 · obtain ⟨n2,d2,e2,a2,b2,hd2⟩:=zbp d1 2 hd1 (by omega)
   obtain ⟨n3,d3,e3,a3,b3,hd3⟩:=zbp d2 4 hd2 (by omega)
   obtain ⟨n4,d4,e4,a4,b4,hd4⟩:=zbp d3 2 hd3 (by omega)
   have start:∀ y,zjc a b (n0,d0) (n2,d2) (n3,d3)=some y→cw zdm [.loc 1000 2 0 0,I a,I b] (mD d)=some y:=by
    intro y hy
    refine zt9 d a b ?_
    simp (disch:=omega) only [e0,e1,e2,e3,zaH,zak,zac,zaC,hy]
   by_cases h4:0 < n4
   · obtain ⟨n5,d5,e5,a5,b5,hd5⟩:=zbp d4 4 hd4 (by omega)
     refine ⟨⟨a,b,[⟨1,3+n0,0,0,0,0⟩,⟨2,1+n2,0,0,4,n3⟩,⟨1,2+n5,0,0,0,0⟩]⟩,d5,start _ (zok _ _ _ _ _ ?_),rfl,rfl,⟨by simp,by simp,?_⟩,hd5⟩
     · simp (disch:=omega) only [e4,e5,zaH,zak,zac,zaC,w64_id]
       rfl
     · intro x hx
       simp only [List.mem_cons,List.not_mem_nil,or_false] at hx
       rcases hx with rfl | rfl | rfl <;> exact ⟨by unfold OkPart; dsimp only; omega,by dsimp only; omega⟩
   · refine ⟨⟨a,b,[⟨1,3+n0,0,0,0,0⟩,⟨2,1+n2,0,0,4,n3⟩]⟩,d4,start _ (zok _ _ _ _ _ ?_),rfl,rfl,⟨by simp,by simp,?_⟩,hd4⟩
     · simp (disch:=omega) only [e4,zaH,zaq,zac,zaC,w64_id]
       rfl
     · intro x hx
       simp only [List.mem_cons,List.not_mem_nil,or_false] at hx
       rcases hx with rfl | rfl <;> exact ⟨by unfold OkPart; dsimp only; omega,by dsimp only; omega⟩
 · obtain ⟨n4,d4,e4,a4,b4,hd4⟩:=zbp d1 2 hd1 (by omega)
   have start:∀ y,zhI a b (n0,d0) (n1,d1)=some y→cw zdm [.loc 1000 2 0 0,I a,I b] (mD d)=some y:=by
    intro y hy
    refine zt9 d a b ?_
    simp (disch:=omega) only [e0,e1,zaH,zaq,hy]
   by_cases h4:0 < n4
   · obtain ⟨n5,d5,e5,a5,b5,hd5⟩:=zbp d4 4 hd4 (by omega)
     refine ⟨⟨a,b,[⟨1,3+n0,0,0,0,0⟩,⟨1,2+n5,0,0,0,0⟩]⟩,d5,start _ (zmY _ _ _ _ ?_),rfl,rfl,⟨by simp,by simp,?_⟩,hd5⟩
     · simp (disch:=omega) only [e4,e5,zaH,zak,zac,zaC,w64_id]
       rfl
     · intro x hx
       simp only [List.mem_cons,List.not_mem_nil,or_false] at hx
       rcases hx with rfl | rfl <;> exact ⟨by unfold OkPart; dsimp only; omega,by dsimp only; omega⟩
   · refine ⟨⟨a,b,[⟨1,3+n0,0,0,0,0⟩]⟩,d4,start _ (zmY _ _ _ _ ?_),rfl,rfl,⟨by simp,by simp,?_⟩,hd4⟩
     · simp (disch:=omega) only [e4,zaH,zaq,zac,zaC,w64_id]
       rfl
     · intro x hx
       simp only [List.mem_cons,List.not_mem_nil,or_false] at hx
       subst hx; exact ⟨by unfold OkPart; dsimp only; omega,by dsimp only; omega⟩
theorem c_Scheme (d:GmarkDice) (p:GPaper) (hd:DOk d) (hp:DPaper p) (hok:zfh p) :
  ∃ (c:GScheme) (d':GmarkDice),cw zmQ [.loc 1000 2 0 0,.agg (zas p)] (mD d)=some (zna (c,d'))∧zdu p c∧Short c∧DOk d':=by
 have hl:=hp.1
 have hl2:=hp.2.1
 obtain ⟨b,d0,e0,hd0⟩:=zuP d 6 hd (by omega)
 have good:∀ W:List Int,W.length=p.Parts.length→(∀ k∈W,0≤k∧k≤2)→zdu p ⟨List.replicate p.Parts.length [],W⟩∧Short ⟨List.replicate p.Parts.length [],W⟩:=by
  intro W hW hk
  refine ⟨⟨hok,by simp,hW,fun j x ks k q1 q2 q3=>⟨?_,hk k (List.mem_of_getElem? q3)⟩⟩,?_⟩
  · have:=List.mem_of_getElem? q2
    rw [List.mem_replicate] at this
    rw [this.2]
    exact ⟨by simp,fun j hj=>by simp at hj⟩
  · intro ks hks
    rw [List.mem_replicate] at hks
    rw [hks.2]
    simp
 cases b with
 | true =>
   obtain ⟨n1,d1,e1,a1,b1,hd1⟩:=zbp d0 p.Parts.length hd0 (by omega)
   obtain ⟨n2,d2,e2,a2,b2,hd2⟩:=zbp d1 2 hd1 (by omega)
   have hlt:n1.toNat < p.Parts.length:=by omega
   obtain ⟨g1,g2⟩:=good ((List.replicate p.Parts.length 0).set n1.toNat (1+n2)) (by simp) (by
    intro k hk
    rcases List.mem_or_eq_of_mem_set hk with h | h
    · rw [List.mem_replicate] at h; omega
    · omega)
   refine ⟨_,d2,zsU d p ?_,g1,g2,hd2⟩
   have hlt':n1.toNat < (List.replicate p.Parts.length (0:Int)).length:=by simpa using hlt
   simp (disch:=omega) only [List.length_map,zac,zaC,e0,e1,e2,zbr,zaH,zap,Int.toNat_natCast,List.length_replicate,Nat.zero_add,zxi zaa,zbi,List.getElem?_eq_getElem hlt',Option.bind_some]
   refine zvC _ _ _ _ _ ?_
   simp (disch:=omega) only [List.length_map,zac,zaC,Int.toNat_natCast,List.length_replicate,Nat.zero_add,List.length_set,Nat.le_refl,w64_id]
   rw [show List.take p.Parts.length (List.replicate p.Parts.length [AV.sl 1 []])=List.replicate p.Parts.length [AV.sl 1 []] from List.take_of_length_le (by simp),List.take_of_length_le (Nat.le_of_eq (by simp only [List.length_set,List.length_replicate]))]
   rw [show List.replicate p.Parts.length [AV.sl 1 []]=List.map zbB (List.replicate p.Parts.length []) by simp [zbB],show List.replicate p.Parts.length [I 0]=List.map zaa (List.replicate p.Parts.length 0) by simp [zaa],
    show [I (1+n2)]=zaa (1+n2) from rfl,zc6]
   rfl
 | false =>
   obtain ⟨g1,g2⟩:=good (List.replicate p.Parts.length 0) (by simp) (by
    intro k hk
    rw [List.mem_replicate] at hk; omega)
   refine ⟨_,d0,zsU d p ?_,g1,g2,hd0⟩
   simp (disch:=omega) only [List.length_map,zac,zaC,e0,zbr,zai,Int.toNat_natCast]
   refine zux _ _ ?_
   simp (disch:=omega) only [List.length_map,zac,zaC,Int.toNat_natCast,List.length_replicate,Nat.zero_add,Nat.le_refl]
   rw [show List.take p.Parts.length (List.replicate p.Parts.length [AV.sl 1 []])=List.replicate p.Parts.length [AV.sl 1 []] from List.take_of_length_le (by simp),List.take_of_length_le (Nat.le_of_eq (by simp only [List.length_set,List.length_replicate]))]
   rw [show List.replicate p.Parts.length [AV.sl 1 []]=List.map zbB (List.replicate p.Parts.length []) by simp [zbB],show List.replicate p.Parts.length [I 0]=List.map zaa (List.replicate p.Parts.length 0) by simp [zaa]]
   rfl
def zng (ps:List GPaper):Prop:=1≤ps.length∧ps.length≤3∧(∀ p∈ps,DPaper p∧(0≤p.Code∧p.Code≤1)∧(0≤p.Variant∧p.Variant≤1))∧∀ p∈ps,∀ q∈ps,p.Code=q.Code→p.Variant=q.Variant→p=q
def zwi (ps:List GPaper) (cs:List GScheme):Prop:=∀ (j:Nat) (p:GPaper) (c:GScheme),ps[j]?=some p→cs[j]?=some c→zdu p c∧Short c
theorem c_Papers (d:GmarkDice) (hd:DOk d) :
  ∃ (ps:List GPaper) (cs:List GScheme) (d':GmarkDice),cw zf8 [.loc 1000 2 0 0] (mD d)=some (zga ((ps,cs),d'))∧zng ps∧cs.length=ps.length∧zwi ps cs∧DOk d':=by
 have loop:∀ (ps:List GPaper),zng ps→∀ (d:GmarkDice),DOk d→∃ (cs:List GScheme) (d':GmarkDice),zcw (List.map zas ps) (List.map zaW []) d 0=some (zga ((ps,cs),d'))∧cs.length=ps.length∧zwi ps cs∧DOk d':=by
  intro ps hps d hd
  have hpl:=hps.2.1
  refine zaZ ps (fun i r=>∀ (cs:List GScheme) (d:GmarkDice),(cs.length:Int)=i→zwi ps cs→DOk d→∃ (cs':List GScheme) (d':GmarkDice),zcw (List.map zas ps) (List.map zaW cs) d i=some (zga ((ps,cs'),d'))∧cs'.length=ps.length∧zwi ps cs'∧DOk d') ?_ ?_ [] d (by simp) (by intro j p c _ h; simp at h) hd
  · intro cs d hcs hok hd
    refine ⟨cs,d,zra _ _ _ _ ?_,by omega,hok,hd⟩
    simp (disch:=omega) only [List.length_map,zaq,Nat.zero_add,Nat.le_refl,zaC]
    rw [List.take_of_length_le (by simp),List.take_of_length_le (by simp)]
    rfl
  · intro i hi r hr ih cs d hcs hok hd
    obtain ⟨g1,g2,g3⟩:=hps.2.2.1 _ (List.getElem_mem hi)
    obtain ⟨c,d1,e1,o1,o2,hd1⟩:=c_Scheme d ps[i] hd g1 (g1.ok (by omega) (by omega))
    obtain ⟨cs',d',e2,o3,o4,hd'⟩:=ih (cs++[c]) d1 (by simp; omega) (by
     intro j p c' hp hc
     by_cases hj:j < cs.length
     · rw [List.getElem?_append_left hj] at hc; exact hok j p c' hp hc
     · have hjl:=(List.getElem?_eq_some_iff.1 hc).1
       simp at hjl
       have hji:j=cs.length:=by omega
       subst hji
       simp at hc
       subst hc
       have:i=cs.length:=by omega
       subst this
       rw [List.getElem?_eq_getElem hi] at hp
       injection hp with hp
       subst hp
       exact ⟨o1,o2⟩) hd1
    refine ⟨cs',d',zra _ _ _ _ ?_,o3,o4,hd'⟩
    simp (disch:=omega) only [List.length_map,zak,zac,zaC,Nat.zero_add,Int.toNat_natCast,zdN,List.getElem?_eq_getElem hi,Option.bind_some,e1,zwE,w64_id,zbu,e2]
 obtain ⟨p0,d0,e0,a0,b0,g0,hd0⟩:=zBu d 0 0 hd
 obtain ⟨b,d1,e1,hd1⟩:=zuP d0 2 hd0 (by omega)
 cases b with
 | true =>
   obtain ⟨p2,d2,e2,a2,b2,g2,hd2⟩:=zBu d1 0 1 hd1
   obtain ⟨b',d3,e3,hd3⟩:=zuP d2 2 hd2 (by omega)
   have start:∀ y,zh9 (p0,d0) (p2,d2)=some y→cw zf8 [.loc 1000 2 0 0] (mD d)=some y:=by
    intro y hy
    refine zs6 d ?_
    simp (disch:=omega) only [e0,e1,e2,zgu,zbr,zap,zac,zaC,hy]
   cases b' with
   | true =>
     obtain ⟨p4,d4,e4,a4,b4,g4,hd4⟩:=zBu d3 1 0 hd3
     obtain ⟨cs,d',e5,o3,o4,hd'⟩:=loop [p0,p2,p4] (by
      refine ⟨by simp,by simp,?_,?_⟩ <;> simp only [List.mem_cons,List.not_mem_nil,or_false]
      · rintro p (rfl | rfl | rfl)
        · exact ⟨g0,by omega,by omega⟩
        · exact ⟨g2,by omega,by omega⟩
        · exact ⟨g4,by omega,by omega⟩
      · rintro p (rfl | rfl | rfl) q (rfl | rfl | rfl) h1 h2 <;> first | rfl | omega) d4 hd4
     refine ⟨[p0,p2,p4],cs,d',start _ (znO _ _ ?_),?_,o3,o4,hd'⟩
     · simp (disch:=omega) only [e3,e4,zgu,zbr,zap,zac,zaC]
       exact e5
     · refine ⟨by simp,by simp,?_,?_⟩ <;> simp only [List.mem_cons,List.not_mem_nil,or_false]
       · rintro p (rfl | rfl | rfl)
         · exact ⟨g0,by omega,by omega⟩
         · exact ⟨g2,by omega,by omega⟩
         · exact ⟨g4,by omega,by omega⟩
       · rintro p (rfl | rfl | rfl) q (rfl | rfl | rfl) h1 h2 <;> first | rfl | omega
   | false =>
     have hP:zng [p0,p2]:=by
      refine ⟨by simp,by simp,?_,?_⟩ <;> simp only [List.mem_cons,List.not_mem_nil,or_false]
      · rintro p (rfl | rfl)
        · exact ⟨g0,by omega,by omega⟩
        · exact ⟨g2,by omega,by omega⟩
      · rintro p (rfl | rfl) q (rfl | rfl) h1 h2 <;> first | rfl | omega
     obtain ⟨cs,d',e5,o3,o4,hd'⟩:=loop [p0,p2] hP d3 hd3
     refine ⟨[p0,p2],cs,d',start _ (znO _ _ ?_),hP,o3,o4,hd'⟩
     simp (disch:=omega) only [e3,zbr,zai]
     exact e5
 | false =>
   obtain ⟨b',d3,e3,hd3⟩:=zuP d1 2 hd1 (by omega)
   have start:∀ y,zhe (p0,d0) (false,d1)=some y→cw zf8 [.loc 1000 2 0 0] (mD d)=some y:=by
    intro y hy
    refine zs6 d ?_
    simp (disch:=omega) only [e0,e1,zgu,zbr,zai,zac,zaC,hy]
   cases b' with
   | true =>
     obtain ⟨p4,d4,e4,a4,b4,g4,hd4⟩:=zBu d3 1 0 hd3
     have hP:zng [p0,p4]:=by
      refine ⟨by simp,by simp,?_,?_⟩ <;> simp only [List.mem_cons,List.not_mem_nil,or_false]
      · rintro p (rfl | rfl)
        · exact ⟨g0,by omega,by omega⟩
        · exact ⟨g4,by omega,by omega⟩
      · rintro p (rfl | rfl) q (rfl | rfl) h1 h2 <;> first | rfl | omega
     obtain ⟨cs,d',e5,o3,o4,hd'⟩:=loop [p0,p4] hP d4 hd4
     refine ⟨[p0,p4],cs,d',start _ (zmr _ _ ?_),hP,o3,o4,hd'⟩
     simp (disch:=omega) only [e3,e4,zgu,zbr,zap,zac,zaC]
     exact e5
   | false =>
     have hP:zng [p0]:=by
      refine ⟨by simp,by simp,?_,?_⟩ <;> simp only [List.mem_cons,List.not_mem_nil,or_false]
      · rintro p rfl
        exact ⟨g0,by omega,by omega⟩
      · rintro p rfl q rfl h1 h2; rfl
     obtain ⟨cs,d',e5,o3,o4,hd'⟩:=loop [p0] hP d3 hd3
     refine ⟨[p0],cs,d',start _ (zmr _ _ ?_),hP,o3,o4,hd'⟩
     simp (disch:=omega) only [e3,zbr,zai]
     exact e5
def DMarkers (l:List GMarker):Prop:=2≤l.length∧l.length≤5∧zp7 l∧(∀ m∈l,m.Papers.length≤2)∧∀ m∈l,m.ID≤15
theorem c_Markers (d:GmarkDice) (hd:DOk d):∃ (l:List GMarker) (d':GmarkDice),cw zlW [.loc 1000 2 0 0] (mD d)=some (zhZ (l,d'))∧DMarkers l∧DOk d':=by
 have asc1:∀ {l:List GMarker} {m:GMarker},AscBy GMarker.ID l→(∀ x∈l,x.ID < m.ID)→AscBy GMarker.ID (l++[m]):=by
  intro l m h1 h2 j hj
  simp at hj
  by_cases h:j+1 < l.length
  · rw [List.getElem_append_left (by omega),List.getElem_append_left h]; exact h1 j h
  · have hj':j+1=l.length:=by omega
    rw [List.getElem_append_left (by omega),List.getElem_append_right (by omega)]
    simpa using h2 _ (List.getElem_mem (by omega))
 have loop:∀ (k:Nat) (l:List GMarker) (d:GmarkDice) (id:Int),DOk d→0≤id→id≤3*l.length→l.length+k≤5→(∀ m∈l,zkv m∧AscBy _root_.id m.Papers)→AscBy GMarker.ID l→(∀ m∈l,m.ID≤id)→(∀ m∈l,m.Papers.length≤2) →
   ∃ (l':List GMarker) (d':GmarkDice),zgx (List.map zaO l) d id k=some (zhZ (l',d'))∧(l'.length=l.length+k∧(∀ m∈l',zkv m∧AscBy _root_.id m.Papers)∧AscBy GMarker.ID l'∧(∀ m∈l',m.Papers.length≤2)∧∀ m∈l',m.ID≤15)∧DOk d':=by
  intro k
  induction k with
  | zero =>
    intro l d id hd h0 h1 h2 h3 h4 h5 h6
    refine ⟨l,d,zp2 _ _ _ _ ?_,⟨rfl,h3,h4,h6,fun m hm=>by have:=h5 m hm; omega⟩,hd⟩
    simp (disch:=omega) only [zaq,zaC]
    rfl
  | succ k ih =>
    intro l d id hd h0 h1 h2 h3 h4 h5 h6
    obtain ⟨n0,d0,e0,a0,b0,hd0⟩:=zbp d 3 hd (by omega)
    obtain ⟨n1,d1,e1,a1,hd1⟩:=c_Pick d0 [-1,-1,1,2,3] hd0 (by simp) (by simp)
    obtain ⟨n2,d2,e2,a2,hd2⟩:=c_Pick d1 [1,1,1,2,3] hd1 (by simp) (by simp)
    obtain ⟨n3,d3,e3,a3,hd3⟩:=c_Pick d2 [3,2,6,0,1] hd2 (by simp) (by simp)
    obtain ⟨n4,d4,e4,a4,b4,hd4⟩:=zbp d3 4 hd3 (by omega)
    have hlt:n4.toNat < ([[0,1],[0],[1],[0,1]]:List (List Int)).length:=by simp; omega
    have hpapers:∀ q∈([[0,1],[0],[1],[0,1]]:List (List Int)),(∀ n∈q,0≤n∧n≤31)∧AscBy _root_.id q∧q.length≤2:=by
     intro q hq
     simp only [List.mem_cons,List.not_mem_nil,or_false] at hq
     have A:AscBy _root_.id ([0,1]:List Int):=fun j hj=>by
      simp at hj
      have:j=0:=by omega
      subst this
      show (0:Int) < 1
      omega
     rcases hq with rfl | rfl | rfl | rfl
     · exact ⟨by simp,A,by simp⟩
     · exact ⟨by simp,fun j hj=>by simp at hj,by simp⟩
     · exact ⟨by simp,fun j hj=>by simp at hj,by simp⟩
     · exact ⟨by simp,A,by simp⟩
    obtain ⟨q1,q2,q3⟩:=hpapers _ (List.getElem_mem hlt)
    simp only [List.mem_cons,List.not_mem_nil,or_false] at a1 a2 a3
    obtain ⟨l',d',e5,o1,hd'⟩:=ih (l++[⟨id+(1+n0),n1,n2,n3,([[0,1],[0],[1],[0,1]]:List (List Int))[n4.toNat]⟩]) d4 (id+(1+n0)) hd4 (by omega) (by simp; omega) (by simp; omega)
     (by
      intro m hm
      rcases List.mem_append.1 hm with h | h
      · exact h3 m h
      · simp only [List.mem_singleton] at h
        subst h
        refine ⟨⟨?_,?_,?_,?_,q1⟩,q2⟩ <;> dsimp only <;> omega)
     (asc1 h4 (fun x hx=>by have:=h5 x hx; dsimp only; omega))
     (by
      intro m hm
      rcases List.mem_append.1 hm with h | h
      · have:=h5 m h; omega
      · simp only [List.mem_singleton] at h
        subst h
        dsimp only; omega)
     (by
      intro m hm
      rcases List.mem_append.1 hm with h | h
      · exact h6 m h
      · simp only [List.mem_singleton] at h
        subst h
        exact q3)
    refine ⟨l',d',zp2 _ _ _ _ ?_,⟨by have:=o1.1; simp at this; omega,o1.2⟩,hd'⟩
    have e6:w64 (((k+1:Nat):Int) - 1)=(k:Int):=by rw [w64_id (by omega) (by omega)]; omega
    simp (disch:=omega) only [zak,e0,e1,e2,e3,e4,zaH,zkJ,zac,zaC,List.length_map,w64_id,e6]
    rw [show ([zbB [0,1],zbB [0],zbB [1],zbB [0,1]]:List (List AV))=List.map zbB [[0,1],[0],[1],[0,1]] from rfl,zG2,List.getElem?_eq_getElem hlt,Option.bind_some]
    simp (disch:=omega) only [zac,zaC,List.length_map,w64_id,zbu,e5]
 obtain ⟨n,d0,e0,a0,b0,hd0⟩:=zbp d 4 hd (by omega)
 obtain ⟨l',d',e1,⟨o1,o2,o3,o4,o5⟩,hd'⟩:=loop (2+n).toNat [] d0 0 hd0 (by omega) (by simp) (by simp; omega) (by simp) (fun j hj=>by simp at hj) (by simp) (by simp)
 simp at o1
 refine ⟨l',d',zz2 d ?_,⟨by omega,by omega,⟨by omega,o2,o3⟩,o4,o5⟩,hd'⟩
 simp only [e0,zaH]
 rw [w64_id (by omega) (by omega)]
 rw [Int.toNat_of_nonneg (by omega)] at e1
 exact e1
end Go.Proofs.YticojpmhlhfhlaaGreat
namespace Go.Proofs.YticojpmhlhfhlaaGreat
open Go.Ab
set_option linter.unusedSimpArgs false
theorem asc_snoc {α:Type} {f:α→Int} {l:List α} {m:α} (h1:AscBy f l) (h2:∀ x∈l,f x < f m):AscBy f (l++[m]):=by
 intro j hj
 simp at hj
 by_cases h:j+1 < l.length
 · rw [List.getElem_append_left (by omega),List.getElem_append_left h]; exact h1 j h
 · have hj':j+1=l.length:=by omega
   rw [List.getElem_append_left (by omega),List.getElem_append_right (by omega)]
   simpa using h2 _ (List.getElem_mem (by omega))
def zpd (n:Int) (p:GPaper) (x:GScript):Prop:=
 x.Paper=p.Code∧x.Variant=p.Variant∧x.Number=p.Code*10000+x.Candidate∧(1≤x.Candidate∧x.Candidate≤n)∧(1≤x.Centre∧x.Centre≤3)∧x.Pages.length=2∧(∀ y∈x.Pages,0≤y∧y≤1000000)∧OkAns p x.Answers
theorem c_Script (d:GmarkDice) (p:GPaper) (c n:Int) (hd:DOk d) (hp:DPaper p) (h1:0≤p.Code∧p.Code≤31) (hc:1≤c∧c≤n) (hn:n≤9) :
  ∃ (x:GScript) (d':GmarkDice),cw zmP [.loc 1000 2 0 0,.agg (zas p),I c] (mD d)=some (ziy (x,d'))∧zpd n p x∧x.Candidate=c∧DOk d':=by
 have hl:=hp.1
 obtain ⟨n0,d0,e0,a0,b0,hd0⟩:=zbp d 3 hd (by omega)
 obtain ⟨n1,d1,e1,a1,b1,hd1⟩:=zbp d0 3 hd0 (by omega)
 have loop:=zaZ p.Parts (fun i r=>∀ (a:List Int) (d2:GmarkDice),(a.length:Int)=i→DOk d2→(∀ (j:Nat) (x:GPart) (v:Int),p.Parts[j]?=some x→a[j]?=some v→x.Kind≠1→-2≤v∧v < x.Options) →
   ∃ (x:GScript) (d':GmarkDice),ze4 d p c (n0,d0) (n1,d1) (List.map zaa a) d2 i=some (ziy (x,d'))∧zpd n p x∧x.Candidate=c∧DOk d') ?_ ?_ [] d1 (by simp) hd1 (by intro j x v _ h; simp at h)
 · obtain ⟨x,d',e2,h⟩:=loop
   refine ⟨x,d',zBe d p c ?_,h⟩
   simp only [e0,e1,zaH]
   exact e2
 · intro a d2 ha hd2 hok
   refine ⟨⟨p.Code*10000+c,p.Code,c,1+n0,p.Variant,[100*c+p.Code,n1],a⟩,d2,zlh _ _ _ _ _ _ _ _ ?_,?_,rfl,hd2⟩
   · simp (disch:=omega) only [List.length_map,zaq,Nat.zero_add,Nat.le_refl,zaC,w64_id]
     rw [List.take_of_length_le (by simp),List.take_of_length_le (by simp)]
     rfl
   · refine ⟨rfl,rfl,rfl,hc,by dsimp only; omega,rfl,?_,by dsimp only; omega,hok⟩
     intro y hy
     simp only [List.mem_cons,List.not_mem_nil,or_false] at hy
     omega
 · intro i hi r hr ih a d2 ha hd2 hok
   obtain ⟨hx,_⟩:=hp.2.2 _ (List.getElem_mem hi)
   have snoc:∀ v:Int,(p.Parts[i].Kind≠1→-2≤v∧v < p.Parts[i].Options)→∀ (j:Nat) (x:GPart) (w:Int),p.Parts[j]?=some x→(a++[v])[j]?=some w→x.Kind≠1→-2≤w∧w < x.Options:=by
    intro v hv j x w hj hw
    by_cases hja:j < a.length
    · rw [List.getElem?_append_left hja] at hw; exact hok j x w hj hw
    · have:=(List.getElem?_eq_some_iff.1 hw).1
      simp at this
      have hji:j=a.length:=by omega
      subst hji
      simp at hw
      subst hw
      have:i=a.length:=by omega
      subst this
      rw [List.getElem?_eq_getElem hi] at hj
      injection hj with hj
      subst hj
      exact hv
   rcases kind2 hx with hk | hk
   · obtain ⟨x,d',e2,h⟩:=ih (a++[-1]) d2 (by simp; omega) hd2 (snoc _ (fun h=>absurd hk h))
     refine ⟨x,d',zlh _ _ _ _ _ _ _ _ ?_,h⟩
     simp (disch:=omega) only [List.length_map,zak,zac,zaC,Int.toNat_natCast,zdk,List.getElem?_eq_getElem hi,Option.bind_some,show (p.Parts[i].Kind == 2)=false by rw [hk]; rfl,zai,w64_id,zbu zaa,e2]
   · obtain ⟨v,d3,e3,hv,hd3⟩:=c_Pick d2 [p.Parts[i].Key,0,1,-1,-2] hd2 (by simp) (by simp)
     have hv':-2≤v∧v < p.Parts[i].Options:=by
      unfold OkPart at hx
      simp only [List.mem_cons,List.not_mem_nil,or_false] at hv
      omega
     obtain ⟨x,d',e2,h⟩:=ih (a++[v]) d3 (by simp; omega) hd3 (snoc _ (fun _=>hv'))
     refine ⟨x,d',zlh _ _ _ _ _ _ _ _ ?_,h⟩
     simp (disch:=omega) only [List.length_map,zak,zac,zaC,Int.toNat_natCast,zdk,List.getElem?_eq_getElem hi,Option.bind_some,show (p.Parts[i].Kind == 2)=true by rw [hk]; rfl,zap,e3,zkJ,w64_id,zbu zaa,e2]
def zyG (n:Int) (ps:List GPaper) (l:List GScript):Prop:=(∀ x∈l,∃ p∈ps,zpd n p x)∧AscBy GScript.Number l∧(l.length:Int)≤2*n
theorem c_Scripts (d:GmarkDice) (ps:List GPaper) (n:Int) (hd:DOk d) (hps:zng ps) (hn:0≤n∧n≤9) :
  ∃ (l:List GScript) (d':GmarkDice),cw zlP [.loc 1000 2 0 0,.sl 3 (List.map zas ps),I n] (mD d)=some (zhY (l,d'))∧zyG n ps l∧DOk d':=by
 have hpl:=hps.2.1
 let Inv:Int→List GScript→Prop:=fun code l=>(∀ x∈l,(∃ p∈ps,zpd n p x)∧x.Number < code*10000)∧AscBy GScript.Number l∧(l.length:Int)≤code*n
 let Res:Option (AV×Mem)→Prop:=fun o=>∃ (l:List GScript) (d':GmarkDice),o=some (zhY (l,d'))∧zyG n ps l∧DOk d'
 have stage2:∀ (out:List GScript) (d:GmarkDice),Inv 2 out→DOk d→Res (zcS ps n (List.map zaw out) d 2):=by
  intro out d hi hd
  refine ⟨out,d,zp3 _ _ _ _ _ ?_,⟨fun x hx=>(hi.1 x hx).1,hi.2.1,hi.2.2⟩,hd⟩
  simp (disch:=omega) only [zaq,zaC]
  rfl
 have step:∀ (code:Int),0≤code→code≤1→(∀ (out:List GScript) (d:GmarkDice),Inv (code+1) out→DOk d→Res (zcS ps n (List.map zaw out) d (code+1))) →
   ∀ (out:List GScript) (d:GmarkDice),Inv code out→DOk d→Res (zcS ps n (List.map zaw out) d code):=by
  intro code hc0 hc1 next out d hi hd
  have third:∀ (l:List GPaper),(∀ p∈l,p∈ps∧p.Code=code)→l.length≤3→∀ (m:Nat) (c:Int) (out:List GScript) (d:GmarkDice),c+m=n+1→1≤c→(∀ x∈out,(∃ p∈ps,zpd n p x)∧x.Number < code*10000+c)→AscBy GScript.Number out→(out.length:Int)≤code*n+(c - 1)→DOk d →
    Res (zeD ps n code (List.map zas l) (List.map zaw out) d c):=by
   intro l hl hll m
   induction m with
   | zero =>
     intro c out d hc h1 g1 g2 g3 hd
     obtain ⟨l',d',e1,h⟩:=next out d ⟨fun x hx=>⟨(g1 x hx).1,by have:=(g1 x hx).2; rw [Int.add_mul]; omega⟩,g2,by rw [Int.add_mul]; omega⟩ hd
     refine ⟨l',d',zgh _ _ _ _ _ _ _ ?_,h⟩
     simp (disch:=omega) only [zaq,w64_id,e1]
   | succ m ih =>
     intro c out d hc h1 g1 g2 g3 hd
     have hcn:code*n≤9:=by rcases (by omega:code=0∨code=1) with h | h <;> rw [h] <;> omega
     have hol:out.length≤20:=by omega
     by_cases hlz:0 < l.length
     · obtain ⟨n0,d0,e0,a0,b0,hd0⟩:=zbp d 5 hd (by omega)
       by_cases h0:0 < n0
       · obtain ⟨n1,d1,e1,a1,b1,hd1⟩:=zbp d0 l.length hd0 (by omega)
         have hlt:n1.toNat < l.length:=by omega
         obtain ⟨hp1,hp2⟩:=hl _ (List.getElem_mem hlt)
         obtain ⟨q1,q2,q3⟩:=hps.2.2.1 _ hp1
         obtain ⟨x,d2,e2,hx,hxc,hd2⟩:=c_Script d1 l[n1.toNat] c n hd1 q1 (by omega) (by omega) hn.2
         have hxn:=hx.2.2.1
         obtain ⟨l',d',e3,h⟩:=ih (c+1) (out++[x]) d2 (by omega) (by omega)
          (by
           intro y hy
           rcases List.mem_append.1 hy with hy | hy
           · exact ⟨(g1 y hy).1,by have:=(g1 y hy).2; omega⟩
           · simp only [List.mem_singleton] at hy
             subst hy
             exact ⟨⟨_,hp1,hx⟩,by rw [hxn,hp2,hxc]; omega⟩)
          (asc_snoc g2 (fun y hy=>by rw [hxn,hp2,hxc]; exact (g1 y hy).2))
          (by simp; omega) hd2
         refine ⟨l',d',zgh _ _ _ _ _ _ _ ?_,h⟩
         simp (disch:=omega) only [List.length_map,zak,e0,zaH,e1,zac,zaC,Nat.zero_add,zdN,List.getElem?_eq_getElem hlt,Option.bind_some,e2,zwO,w64_id,zbu zaw,e3]
       · obtain ⟨l',d',e3,h⟩:=ih (c+1) out d0 (by omega) (by omega) (fun y hy=>⟨(g1 y hy).1,by have:=(g1 y hy).2; omega⟩) g2 (by omega) hd0
         refine ⟨l',d',zgh _ _ _ _ _ _ _ ?_,h⟩
         simp (disch:=omega) only [List.length_map,zak,zaq,e0,zaH,w64_id,e3]
     · obtain ⟨l',d',e1,h⟩:=next out d ⟨fun x hx=>⟨(g1 x hx).1,by have:=(g1 x hx).2; rw [Int.add_mul]; omega⟩,g2,by rw [Int.add_mul]; omega⟩ hd
       refine ⟨l',d',zgh _ _ _ _ _ _ _ ?_,h⟩
       simp (disch:=omega) only [List.length_map,zak,zaq,w64_id,e1]
  have second:=zaZ ps (fun i r=>∀ l:List GPaper,(∀ p∈l,p∈ps∧p.Code=code)→(l.length:Int)≤i→Res (zeJ ps n (List.map zaw out) d code (List.map zas l) i)) ?_ ?_ [] (by simp) (by simp)
  · obtain ⟨l',d',e1,h⟩:=second
    refine ⟨l',d',zp3 _ _ _ _ _ ?_,h⟩
    simp (disch:=omega) only [zak]
    exact e1
  · intro l hl hll
    obtain ⟨l',d',e1,h⟩:=third l hl (by omega) n.toNat 1 out d (by omega) (by omega) (fun x hx=>⟨(hi.1 x hx).1,by have:=(hi.1 x hx).2; omega⟩) hi.2.1 (by have:=hi.2.2; omega) hd
    refine ⟨l',d',zkc _ _ _ _ _ _ _ ?_,h⟩
    simp (disch:=omega) only [List.length_map,zaq,e1]
  · intro i hi' r hr ih l hl hll
    by_cases hcode:ps[i].Code=code
    · obtain ⟨l',d',e1,h⟩:=ih (l++[ps[i]]) (by
       intro p hp
       rcases List.mem_append.1 hp with hp | hp
       · exact hl p hp
       · simp only [List.mem_singleton] at hp
         subst hp
         exact ⟨List.getElem_mem hi',hcode⟩) (by simp; omega)
      refine ⟨l',d',zkc _ _ _ _ _ _ _ ?_,h⟩
      simp (disch:=omega) only [List.length_map,zak,zac,zaC,Int.toNat_natCast,zdN,List.getElem?_eq_getElem hi',Option.bind_some,show (ps[i].Code == code)=true by simpa using hcode,zap,w64_id,zbu zas,e1]
    · obtain ⟨l',d',e1,h⟩:=ih l hl (by omega)
      refine ⟨l',d',zkc _ _ _ _ _ _ _ ?_,h⟩
      simp (disch:=omega) only [List.length_map,zak,zac,zaC,Int.toNat_natCast,zdN,List.getElem?_eq_getElem hi',Option.bind_some,show (ps[i].Code == code)=false by simpa using hcode,zai,w64_id,e1]
 have stage1:=step 1 (by omega) (by omega) stage2
 have stage0:=step 0 (by omega) (by omega) stage1
 obtain ⟨l,d',e1,h⟩:=stage0 [] d ⟨by simp,fun j hj=>by simp at hj,by simp⟩ hd
 exact ⟨l,d',zzM d ps n e1,h⟩
def zFx:GPaper:=⟨0,0,[]⟩
theorem zyH (ps:List GPaper) (x:GScript) (hl:ps.length≤1000000):cw zm2 [.sl 3 (List.map zas ps),.agg (zaw x)] []=some (zrk (((zhu ps x).map (·.2)).getD zFx)):=by
 refine zIS ps x ?_
 have key:=zhH ps (fun p=>p.Code == x.Paper && p.Variant == x.Variant) (fun i=>zj7 ps x i) (fun o=>zrk ((o.map (·.2)).getD zFx)) ?_ ?_ ?_
 · exact key
 · exact zr1 _ _ _ (by simp (disch:=omega) [zaq] <;> rfl)
 · intro i hi h
   refine zr1 _ _ _ ?_
   rw [Bool.and_eq_true] at h
   simp (disch:=omega) [zak,zac,h.1,h.2]
   rfl
 · intro i hi y h hk
   refine zr1 _ _ _ ?_
   cases h1:(ps[i].Code == x.Paper) with
   | false=>simp (disch:=omega) [zak,zac,w64_id,h1,hk]
   | true =>
     rw [h1,Bool.true_and] at h
     simp (disch:=omega) [zak,zac,w64_id,h1,h,hk]
theorem c_Seed (d:GmarkDice) (ps:List GPaper) (x:GScript) (k:Nat) (p:GPaper) (hd:DOk d) (hps:ps.length≤1000000) (hk:zhu ps x=some (k,p)) (hp:DPaper p) :
  ∃ (y:GSeed) (d':GmarkDice),cw zpg [.loc 1000 2 0 0,.sl 3 (List.map zas ps),.agg (zaw x)] (mD d)=some (zlc (y,d'))∧y.Script=x.Number∧zpT p y.Marks∧DOk d':=by
 have hl:=hp.1
 have loop:=zaZ p.Parts (fun i r=>∀ (a:List Int) (d2:GmarkDice),(a.length:Int)=i→DOk d2→(∀ (j:Nat) (x:GPart) (v:Int),p.Parts[j]?=some x→a[j]?=some v→0≤v∧v≤x.Max) →
   ∃ (y:GSeed) (d':GmarkDice),ziR x p (List.map zaa a) d2 i=some (zlc (y,d'))∧y.Script=x.Number∧zpT p y.Marks∧DOk d') ?_ ?_ [] d (by simp) hd (by intro j x v _ h; simp at h)
 · obtain ⟨y,d',e2,h⟩:=loop
   refine ⟨y,d',zDs d ps x ?_,h⟩
   simp only [zyH ps x hps,hk,zkF]
   exact e2
 · intro a d2 ha hd2 hok
   refine ⟨⟨x.Number,a⟩,d2,zsH _ _ _ _ _ ?_,rfl,⟨by dsimp only; omega,hok⟩,hd2⟩
   simp (disch:=omega) only [List.length_map,zaq,Nat.zero_add,Nat.le_refl,zaC,w64_id]
   rw [List.take_of_length_le (by simp)]
   rfl
 · intro i hi r hr ih a d2 ha hd2 hok
   obtain ⟨hx,hx2⟩:=hp.2.2 _ (List.getElem_mem hi)
   have hm:=hx.1
   obtain ⟨v,d3,e3,a3,b3,hd3⟩:=zbp d2 (p.Parts[i].Max+1) hd2 (by omega)
   obtain ⟨y,d',e2,h⟩:=ih (a++[v]) d3 (by simp; omega) hd3 (by
    intro j x w hj hw
    by_cases hja:j < a.length
    · rw [List.getElem?_append_left hja] at hw; exact hok j x w hj hw
    · have:=(List.getElem?_eq_some_iff.1 hw).1
      simp at this
      have hji:j=a.length:=by omega
      subst hji
      simp at hw
      subst hw
      have:i=a.length:=by omega
      subst this
      rw [List.getElem?_eq_getElem hi] at hj
      injection hj with hj
      subst hj
      omega)
   refine ⟨y,d',zsH _ _ _ _ _ ?_,h⟩
   simp (disch:=omega) only [List.length_map,zak,zac,zaC,Int.toNat_natCast,zdk,List.getElem?_eq_getElem hi,Option.bind_some,w64_id,e3,zaH,zbu zaa,e2]
theorem c_Monitor (d:GmarkDice) (hd:DOk d):∃ (r:GMonitorRule) (d':GmarkDice),cw zlR [.loc 1000 2 0 0] (mD d)=some (zl3 (r,d'))∧OkMon r∧DOk d':=by
 obtain ⟨n0,d0,e0,a0,b0,hd0⟩:=zbp d 3 hd (by omega)
 obtain ⟨n1,d1,e1,a1,b1,hd1⟩:=zbp d0 2 hd0 (by omega)
 obtain ⟨n2,d2,e2,a2,b2,hd2⟩:=zbp d1 3 hd1 (by omega)
 obtain ⟨n3,d3,e3,a3,b3,hd3⟩:=zbp d2 (1+n0) hd2 (by omega)
 refine ⟨⟨n1,n2,1+n0,1+n3⟩,d3,zAb d ?_,by refine ⟨?_,?_,?_,?_⟩ <;> dsimp only <;> omega,hd3⟩
 simp (disch:=omega) only [e0,e1,e2,zaH,w64_id,e3]
 rfl
structure DSetup (s:GSetup):Prop where
 ok:OkSetup s
 papers:zng s.Papers
 markers:DMarkers s.Markers
 scripts:zyG 4 s.Papers s.Scripts
theorem zyt {ps:List GPaper} (hps:zng ps) {n:Int} {p:GPaper} {x:GScript} (hp:p∈ps) (hx:zpd n p x):∃ k,zhu ps x=some (k,p):=by
 unfold zhu
 cases hf:fnd (fun p=>p.Code == x.Paper && p.Variant == x.Variant) 0 ps with
 | none =>
   have:=zsl.1 hf p hp
   rw [hx.1,hx.2.1] at this
   simp at this
 | some q =>
   obtain ⟨k,p'⟩:=q
   obtain ⟨h1,h2,_⟩:=fnd_at hf
   simp only [Bool.and_eq_true,beq_iff_eq] at h2
   have:=hps.2.2.2 p' (List.mem_of_getElem? h1) p hp (by rw [h2.1,hx.1]) (by rw [h2.2,hx.2.1])
   rw [this]
   exact ⟨k,rfl⟩
theorem scripts_ok {n:Int} (hn:n≤9) {ps:List GPaper} (hps:zng ps) {l:List GScript} (h:zyG n ps l):zqd l:=by
 refine ⟨by have:=h.2.2; omega,fun x hx=>?_,h.2.1⟩
 obtain ⟨p,hp,a,b,c,d,e,f,_⟩:=h.1 x hx
 obtain ⟨q1,q2,q3⟩:=hps.2.2.1 p hp
 exact ⟨by omega,by omega,by omega,by omega,by rw [c,a],by omega⟩
theorem c_Setup (d:GmarkDice) (hd:DOk d):∃ (s:GSetup) (d':GmarkDice),cw zod [.loc 1000 2 0 0] (mD d)=some (zjA (s,d'))∧DSetup s∧DOk d':=by
 obtain ⟨ps,cs,d0,e0,o0,p0,q0,hd0⟩:=c_Papers d hd
 obtain ⟨ms,d1,e1,o1,hd1⟩:=c_Markers d0 hd0
 obtain ⟨xs,d2,e2,o2,hd2⟩:=c_Scripts d1 ps 4 hd1 o0 (by omega)
 obtain ⟨mr,d3,e3,o3,hd3⟩:=c_Monitor d2 hd2
 have hxl:=o2.2.2
 have hpl:=o0.2.1
 have hxs:=scripts_ok (by omega) o0 o2
 have loop:=zaZ xs (fun i r=>∀ (sd:List GSeed) (d4:GmarkDice),(sd.length:Int)≤i→DOk d4→AscBy GSeed.Script sd→(∀ y∈sd,∀ x∈r,y.Script < x.Number)→(∀ y∈sd,∃ x∈xs,∃ k p,y.Script=x.Number∧zhu ps x=some (k,p)∧zpT p y.Marks) →
   ∃ (s:GSetup) (d':GmarkDice),zfC ((ps,cs),d0) (ms,d1) (xs,d2) (mr,d3) (List.map zbT sd) d4 i=some (zjA (s,d'))∧DSetup s∧DOk d') ?_ ?_ [] d3 (by simp) hd3 (fun j hj=>by simp at hj) (by simp) (by simp)
 · obtain ⟨s,d',e4,h⟩:=loop
   refine ⟨s,d',zBR d ?_,h⟩
   simp only [e0,e1,e2,e3,zws,zvJ,zvE,zvG]
   exact e4
 · intro sd d4 hl hd4 ha _ hs
   refine ⟨⟨ms,xs,ps,cs,sd,mr⟩,d4,zlQ _ _ _ _ _ _ _ ?_,?_,hd4⟩
   · simp (disch:=omega) only [List.length_map,zaq,Nat.zero_add,Nat.le_refl,zaC]
     rw [List.take_of_length_le (by simp),List.take_of_length_le (by simp),List.take_of_length_le (by simp)]
     rfl
   · refine ⟨⟨o1.2.2.1,hxs,by dsimp only; omega,p0,fun j p c hp hc=>(q0 j p c hp hc).1,fun x hx=>?_,by dsimp only; omega,ha,fun y hy=>?_,o3,fun c hc=>?_,fun m hm=>by have:=o1.2.2.2.1 m hm; omega⟩,o0,o1,o2⟩
     · obtain ⟨p,hp,hxp⟩:=o2.1 x hx
       obtain ⟨k,hk⟩:=zyt o0 hp hxp
       have hpk:=(ziI hk).1
       have hlt:=(List.getElem?_eq_some_iff.1 hpk).1
       exact ⟨k,p,cs[k]'(show k < cs.length by omega),hk,List.getElem?_eq_getElem _,hxp.2.2.2.2.2.2.2⟩
     · obtain ⟨x,hx,k,p,h1,h2,h3⟩:=hs y hy
       refine ⟨k,p,?_,h3⟩
       unfold zgy
       dsimp only
       rw [h1,zkj hxs.2.2 hx]
       exact h2
     · obtain ⟨j,hj,rfl⟩:=List.mem_iff_getElem.1 hc
       exact (q0 j _ _ (List.getElem?_eq_getElem (by simp only at hj; omega)) (List.getElem?_eq_getElem hj)).2
 · intro i hi r hr ih sd d4 hl hd4 ha hlt hs
   obtain ⟨b,d5,e5,hd5⟩:=zuP d4 3 hd4 (by omega)
   have hrm:∀ x∈r,x∈xs∧xs[i].Number < x.Number:=by
    intro x hx
    rw [← hr] at hx
    obtain ⟨j,hj,rfl⟩:=List.mem_iff_getElem.1 hx
    rw [List.getElem_drop]
    exact ⟨List.getElem_mem _,asc_lt hxs.2.2 i _ _ (by omega)⟩
   cases b with
   | false =>
     obtain ⟨s,d',e4,h⟩:=ih sd d5 (by omega) hd5 ha (fun y hy x hx=>hlt y hy x (by simp [hx])) hs
     refine ⟨s,d',zlQ _ _ _ _ _ _ _ ?_,h⟩
     simp (disch:=omega) only [List.length_map,zak,e5,zbr,zai,w64_id,e4]
   | true =>
     obtain ⟨p,hp,hxp⟩:=o2.1 _ (List.getElem_mem hi)
     obtain ⟨k,hk⟩:=zyt o0 hp hxp
     obtain ⟨y,d6,e6,h1,h2,hd6⟩:=c_Seed d5 ps xs[i] k p hd5 (by omega) hk (o0.2.2.1 p hp).1
     obtain ⟨s,d',e4,h⟩:=ih (sd++[y]) d6 (by simp; omega) hd6 (asc_snoc ha (fun z hz=>by rw [h1]; exact hlt z hz _ (by simp)))
      (by
       intro z hz x hx
       rcases List.mem_append.1 hz with hz | hz
       · exact hlt z hz x (by simp [hx])
       · simp only [List.mem_singleton] at hz
         subst hz
         rw [h1]
         exact (hrm x hx).2)
      (by
       intro z hz
       rcases List.mem_append.1 hz with hz | hz
       · exact hs z hz
       · simp only [List.mem_singleton] at hz
         subst hz
         exact ⟨_,List.getElem_mem hi,k,p,h1,hk,h2⟩)
     refine ⟨s,d',zlQ _ _ _ _ _ _ _ ?_,h⟩
     simp (disch:=omega) only [List.length_map,zak,e5,zbr,zap,zac,zaC,Nat.zero_add,Int.toNat_natCast,zej,List.getElem?_eq_getElem hi,Option.bind_some,e6,zx8,w64_id,zbu zbT,e4]
end Go.Proofs.YticojpmhlhfhlaaGreat
namespace Go.Proofs.YticojpmhlhfhlaaGreat
open Go.Ab
set_option linter.unusedSimpArgs false
def Sat {β:Type} (Q:β→Prop) (o:Option β):Prop:=∃ y,o=some y∧Q y
theorem sat_of {β:Type} {Q:β→Prop} {a b:Option β} (h:∀ y,a=some y→b=some y) (ha:Sat Q a):Sat Q b:=by
 obtain ⟨y,e,hq⟩:=ha
 exact ⟨y,h y e,hq⟩
theorem zer {β:Type} {Q:β→Prop} {y:β} (h:Q y):Sat Q (some y):=⟨y,rfl,h⟩
theorem ofScript {s:GSetup} (hs:DSetup s) {x:GScript} (hx:x∈s.Scripts):∃ k p,zhu s.Papers x=some (k,p)∧p∈s.Papers∧zpd 4 p x∧DPaper p:=by
 obtain ⟨p,hp,h⟩:=hs.scripts.1 x hx
 obtain ⟨k,hk⟩:=zyt hs.papers hp h
 exact ⟨k,p,hk,hp,h,(hs.papers.2.2.1 p hp).1⟩
theorem c_Mark (d:GmarkDice) (s:GSetup) (a b:Int) (hd:DOk d) (hs:DSetup s) :
  ∃ (e:GMarkEvent) (d':GmarkDice),cw zpm [.loc 1000 2 0 0,.agg (zat s),I a,I b] (mD d)=some (zps (e,d'))∧e.Pages.length≤12∧DOk d':=by
 have hm:=hs.markers
 have hsl:=hs.scripts.2.2
 have hpl:=hs.papers.2.1
 obtain ⟨n0,d0,e0,a0,b0,hd0⟩:=zbp d s.Markers.length hd (by have:=hm.2.1; omega)
 have hlt:n0.toNat < s.Markers.length:=by have:=hm.1; omega
 by_cases hz:s.Scripts.length=0
 · refine ⟨⟨⟨b,s.Markers[n0.toNat].ID,a⟩,0,0,0,0,0,[]⟩,d0,zpl _ _ _ _ ?_,by simp,hd0⟩
   simp (disch:=omega) only [List.length_map,e0,zaH,zac,zfr,List.getElem?_eq_getElem hlt,Option.bind_some,hz,Int.ofNat_zero,Int.natCast_zero,beq_self_eq_true,zap,Nat.zero_add,Nat.le_refl,zaC]
   rfl
 · obtain ⟨n1,d1,e1,a1,b1,hd1⟩:=zbp d0 s.Scripts.length hd0 (by omega)
   have hl1:n1.toNat < s.Scripts.length:=by omega
   obtain ⟨k,p,hk,hp,hx,hdp⟩:=ofScript hs (List.getElem_mem hl1)
   have hpp:=hdp.1
   have hpq:=hdp.2.1
   have hpg:=hx.2.2.2.2.2.1
   obtain ⟨n2,d2,e2,a2,b2,hd2⟩:=zbp d1 p.Parts.length hd1 (by omega)
   have hl2:n2.toNat < p.Parts.length:=by omega
   have hx2:=(hdp.2.2 _ (List.getElem_mem hl2)).1.1
   obtain ⟨n3,d3,e3,a3,b3,hd3⟩:=zbp d2 (p.Parts[n2.toNat].Max+2) hd2 (by omega)
   obtain ⟨v,d4,e4,hd4⟩:=zuP d3 12 hd3 (by omega)
   have hz':((s.Scripts.length:Int) == 0)=false:=by simp; intro h; exact hz (by simpa using h)
   cases v with
   | true =>
     refine ⟨⟨⟨b,s.Markers[n0.toNat].ID,a⟩,0,s.Scripts[n1.toNat].Number,n2,n3 - 1,0,[]⟩,d4,zpl _ _ _ _ ?_,by simp,hd4⟩
     simp (disch:=omega) only [List.length_map,e0,zaH,zac,zfr,List.getElem?_eq_getElem hlt,Option.bind_some,hz',zai,e1,zej,List.getElem?_eq_getElem hl1,
      zyH s.Papers _ (show s.Papers.length≤1000000 by omega),hk,Option.map_some,Option.getD_some,zkF,e2,zdk,List.getElem?_eq_getElem hl2,w64_id,e3,e4,zbr,zap]
     exact zxQ _ _ _ _ _ _ _ (by simp (disch:=omega) only [Nat.zero_add,Nat.le_refl,zaC,w64_id]; rfl)
   | false =>
     refine ⟨⟨⟨b,s.Markers[n0.toNat].ID,a⟩,0,s.Scripts[n1.toNat].Number,n2,n3 - 1,0,s.Scripts[n1.toNat].Pages⟩,d4,zpl _ _ _ _ ?_,by dsimp only; omega,hd4⟩
     simp (disch:=omega) only [List.length_map,e0,zaH,zac,zfr,List.getElem?_eq_getElem hlt,Option.bind_some,hz',zai,e1,zej,List.getElem?_eq_getElem hl1,
      zyH s.Papers _ (show s.Papers.length≤1000000 by omega),hk,Option.map_some,Option.getD_some,zkF,e2,zdk,List.getElem?_eq_getElem hl2,w64_id,e3,e4,zbr,zai]
     exact zvI _ _ _ _ _ _ _ (by
      simp (disch:=omega) only [Nat.zero_add,List.length_map,Nat.le_refl,zaC,w64_id]
      rw [List.take_of_length_le (by simp)]
      rfl)
set_option maxRecDepth 20000 in
theorem c_Events (d:GmarkDice) (s:GSetup) (n:Int) (hd:DOk d) (hs:DSetup s) (hn:0≤n∧n≤50) :
  ∃ (l:List GMarkEvent) (d':GmarkDice),cw zmL [.loc 1000 2 0 0,.agg (zat s),I n] (mD d)=some (ziz (l,d'))∧(l.length:Int)≤n∧(∀ e∈l,e.Pages.length≤12)∧DOk d':=by
 have hm:=hs.markers
 have hm1:=hm.1
 have hm2:=hm.2.1
 have hsl:=hs.scripts.2.2
 let Q:AV×Mem→Prop:=fun y=>∃ (l:List GMarkEvent) (d':GmarkDice),y=ziz (l,d')∧(l.length:Int)≤n∧(∀ e∈l,e.Pages.length≤12)∧DOk d'
 have loop:∀ (m:Nat) (i:Int) (out:List GMarkEvent) (d:GmarkDice),i+m=n→0≤i→(out.length:Int)≤i→(∀ e∈out,e.Pages.length≤12)→DOk d→Sat Q (zbq s n (List.map zab out) d i):=by
  intro m
  induction m with
  | zero =>
    intro i out d hi h0 hl hp hd
    refine sat_of (fun y=>zrf _ _ _ _ _) ?_
    simp (disch:=omega) only [zaq,zaC]
    exact zer ⟨out,d,rfl,by omega,hp,hd⟩
  | succ m ih =>
    intro i out d hi h0 hl hp hd
    have stay:∀ d',DOk d'→Sat Q (zbq s n (List.map zab out) d' (i+1)):=fun d' hd'=>ih (i+1) out d' (by omega) (by omega) (by omega) hp hd'
    have more:∀ e d',e.Pages.length≤12→DOk d'→Sat Q (zbq s n (List.map zab (out++[e])) d' (i+1)):=fun e d' he hd' =>
     ih (i+1) (out++[e]) d' (by omega) (by omega) (by simp; omega) (by
      intro x hx
      rcases List.mem_append.1 hx with hx | hx
      · exact hp x hx
      · simp only [List.mem_singleton] at hx
        exact hx▸he) hd'
    obtain ⟨n0,d0,e0,a0,b0,hd0⟩:=zbp d 20 hd (by omega)
    obtain ⟨n1,d1,e1,a1,b1,hd1⟩:=zbp d0 14 hd0 (by omega)
    refine sat_of (fun y=>zrf _ _ _ _ _) ?_
    by_cases c0:n1=0
    · obtain ⟨n2,d2,e2,a2,b2,hd2⟩:=zbp d1 s.Markers.length hd1 (by omega)
      have hlt:n2.toNat < s.Markers.length:=by omega
      simp only [eq_self,zaC]
      simp (disch:=omega) only [List.length_map,zak,e0,zaH,e1,show (n1 == 0)=true by simpa using c0,zap,e2,zac,zfr,List.getElem?_eq_getElem hlt,Option.bind_some,zaC,w64_id]
      simp only [zbu zab]
      exact more _ _ (by simp) hd2
    · by_cases c1:n1=1
      · by_cases hz:0 < s.Scripts.length
        · obtain ⟨n2,d2,e2,a2,b2,hd2⟩:=zbp d1 s.Scripts.length hd1 (by omega)
          have hlt:n2.toNat < s.Scripts.length:=by omega
          obtain ⟨n3,d3,e3,a3,b3,hd3⟩:=zbp d2 3 hd2 (by omega)
          simp only [eq_self,zaC]
          simp (disch:=omega) only [List.length_map,zak,e0,zaH,e1,show (n1 == 0)=false by simpa using c0,show (n1 == 1)=true by simpa using c1,zap,zai,e2,e3,zac,zej,List.getElem?_eq_getElem hlt,Option.bind_some,zaC,w64_id]
          simp only [zbu zab]
          exact more _ _ (by simp) hd3
        · simp (disch:=omega) only [List.length_map,zak,zaq,e0,zaH,e1,show (n1 == 0)=false by simpa using c0,show (n1 == 1)=true by simpa using c1,zap,zai,w64_id]
          exact stay _ hd1
      · by_cases c2:n1=2
        · by_cases hz:0 < out.length
          · obtain ⟨n2,d2,e2,a2,b2,hd2⟩:=zbp d1 out.length hd1 (by omega)
            have hlt:n2.toNat < out.length:=by omega
            simp only [eq_self,zaC]
            simp (disch:=omega) only [List.length_map,zak,e0,zaH,e1,show (n1 == 0)=false by simpa using c0,show (n1 == 1)=false by simpa using c1,show (n1 == 2)=true by simpa using c2,zap,zai,e2,zac,Nat.zero_add,zbv,List.getElem?_eq_getElem hlt,Option.bind_some,zaC,w64_id]
            simp only [zbu zab]
            exact more _ _ (hp _ (List.getElem_mem hlt)) hd2
          · simp (disch:=omega) only [List.length_map,zak,zaq,e0,zaH,e1,show (n1 == 0)=false by simpa using c0,show (n1 == 1)=false by simpa using c1,show (n1 == 2)=true by simpa using c2,zap,zai,w64_id]
            exact stay _ hd1
        · by_cases c3:n1=3
          · by_cases hz:0 < out.length
            · obtain ⟨n2,d2,e2,a2,b2,hd2⟩:=zbp d1 out.length hd1 (by omega)
              have hlt:n2.toNat < out.length:=by omega
              simp only [eq_self,zaC]
              simp (disch:=omega) only [List.length_map,zak,e0,zaH,e1,show (n1 == 0)=false by simpa using c0,show (n1 == 1)=false by simpa using c1,show (n1 == 2)=false by simpa using c2,show (n1 == 3)=true by simpa using c3,zap,zai,e2,zac,Nat.zero_add,zbv,List.getElem?_eq_getElem hlt,Option.bind_some,zaC,w64_id (n:=i+1)]
              simp only [zbu zab]
              exact more _ _ (show out[n2.toNat].Pages.length≤12 from hp _ (List.getElem_mem hlt)) hd2
            · simp (disch:=omega) only [List.length_map,zak,zaq,e0,zaH,e1,show (n1 == 0)=false by simpa using c0,show (n1 == 1)=false by simpa using c1,show (n1 == 2)=false by simpa using c2,show (n1 == 3)=true by simpa using c3,zap,zai,w64_id]
              exact stay _ hd1
          · obtain ⟨e,d2,e2,he,hd2⟩:=c_Mark d1 s i (w64 (w64 (5*i)+n0)) hd1 hs
            simp only [eq_self,zaC]
            simp (disch:=omega) only [List.length_map,zak,e0,zaH,e1,show (n1 == 0)=false by simpa using c0,show (n1 == 1)=false by simpa using c1,show (n1 == 2)=false by simpa using c2,show (n1 == 3)=false by simpa using c3,zai,e2,zzh,zac,zaC,w64_id (n:=i+1)]
            simp only [zbu zab]
            exact more _ _ he hd2
 obtain ⟨y,e1,l,d',rfl,h⟩:=loop n.toNat 0 [] d (by omega) (by omega) (by simp) (by simp) hd
 exact ⟨l,d',zAB _ _ _ e1,h⟩
theorem c_Full (d:GmarkDice) (s:GSetup) (n:Int) (hd:DOk d) (hs:DSetup s) :
  ∃ (l:List GMarkEvent) (d':GmarkDice),cw zph [.loc 1000 2 0 0,.agg (zat s),I n] (mD d)=some (zkq (l,d'))∧l.length≤120∧(∀ e∈l,e.Pages.length≤12)∧DOk d':=by
 have hm2:=hs.markers.2.1
 have hsl:=hs.scripts.2.2
 have hpl:=hs.papers.2.1
 let Q:AV×Mem→Prop:=fun y=>∃ (l:List GMarkEvent) (d':GmarkDice),y=zkq (l,d')∧l.length≤120∧(∀ e∈l,e.Pages.length≤12)∧DOk d'
 have loop:=zaZ s.Scripts (fun i _=>∀ (out:List GMarkEvent) (d:GmarkDice),(out.length:Int)≤15*i→(∀ e∈out,e.Pages.length≤12)→DOk d→Sat Q (ziL s n (List.map zab out) d i)) ?_ ?_ [] d (by simp) (by simp) hd
 · obtain ⟨y,e1,l,d',rfl,h⟩:=loop
   exact ⟨l,d',zDJ _ _ _ e1,h⟩
 · intro out d hl hp hd
   refine sat_of (fun y=>zsX _ _ _ _ _) ?_
   simp (disch:=omega) only [List.length_map,zaq,zaC]
   exact zer ⟨out,d,rfl,by omega,hp,hd⟩
 · intro i hi r _ ih out d hl hp hd
   obtain ⟨k,p,hk,hpm,hx,hdp⟩:=ofScript hs (List.getElem_mem hi)
   have hpp:=hdp.1
   have hpg:=hx.2.2.2.2.2.1
   refine sat_of (fun y=>zsX _ _ _ _ _) ?_
   simp (disch:=omega) only [List.length_map,zak,zac,Int.toNat_natCast,zej,List.getElem?_eq_getElem hi,Option.bind_some,zyH s.Papers _ (show s.Papers.length≤1000000 by omega),hk,Option.map_some,Option.getD_some,zkF]
   refine zaZ s.Markers (fun j _=>∀ (out:List GMarkEvent) (d:GmarkDice),(out.length:Int)≤15*i+3*j→(∀ e∈out,e.Pages.length≤12)→DOk d→Sat Q (zij s n i p (List.map zab out) d j)) ?_ ?_ out d (by omega) hp hd
   · intro out d hl hp hd
     refine sat_of (fun y=>zs9 _ _ _ _ _ _ _) ?_
     simp (disch:=omega) only [List.length_map,zaq,w64_id]
     exact ih out d (by omega) hp hd
   · intro j hj r _ ih2 out d hl hp hd
     refine sat_of (fun y=>zs9 _ _ _ _ _ _ _) ?_
     simp (disch:=omega) only [List.length_map,zak]
     refine zaZ p.Parts (fun q _=>∀ (out:List GMarkEvent) (d:GmarkDice),(out.length:Int)≤15*i+3*j+q→(∀ e∈out,e.Pages.length≤12)→DOk d→Sat Q (zeE s n i p j (List.map zab out) d q)) ?_ ?_ out d (by omega) hp hd
     · intro out d hl hp hd
       refine sat_of (fun y=>ztd _ _ _ _ _ _ _ _) ?_
       simp (disch:=omega) only [List.length_map,zaq,w64_id]
       exact ih2 out d (by omega) hp hd
     · intro q hq r _ ih3 out d hl hp hd
       have hmx:=(hdp.2.2 _ (List.getElem_mem hq)).1.1
       refine sat_of (fun y=>ztd _ _ _ _ _ _ _ _) ?_
       by_cases hkd:p.Parts[q].Kind=1
       · obtain ⟨n0,d0,e0,a0,b0,hd0⟩:=zbp d 4 hd (by omega)
         by_cases hz:0 < n0
         · obtain ⟨n1,d1,e1,a1,b1,hd1⟩:=zbp d0 (p.Parts[q].Max+1) hd0 (by omega)
           simp (disch:=omega) only [List.length_map,zak,zac,Int.toNat_natCast,zdk,List.getElem?_eq_getElem hq,Option.bind_some,show (p.Parts[q].Kind == 1)=true by simpa using hkd,zap,e0,zaH,zfr,List.getElem?_eq_getElem hj,zej,List.getElem?_eq_getElem hi,w64_id,e1,zaC,zbu zab]
           refine ih3 (out++[_]) d1 (by simp; omega) ?_ hd1
           intro x hx'
           rcases List.mem_append.1 hx' with hx' | hx'
           · exact hp x hx'
           · simp only [List.mem_singleton] at hx'
             subst hx'
             dsimp only
             omega
         · simp (disch:=omega) only [List.length_map,zak,zaq,zac,Int.toNat_natCast,zdk,List.getElem?_eq_getElem hq,Option.bind_some,show (p.Parts[q].Kind == 1)=true by simpa using hkd,zap,e0,zaH,w64_id]
           exact ih3 out d0 (by omega) hp hd0
       · simp (disch:=omega) only [List.length_map,zak,zaq,zac,Int.toNat_natCast,zdk,List.getElem?_eq_getElem hq,Option.bind_some,show (p.Parts[q].Kind == 1)=false by simpa using hkd,zai,w64_id]
         exact ih3 out d (by omega) hp hd
end Go.Proofs.YticojpmhlhfhlaaGreat
