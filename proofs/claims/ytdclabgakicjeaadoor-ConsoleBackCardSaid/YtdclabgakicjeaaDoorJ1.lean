/- Rules and operations of a board, as the dice make them: each operation has a line. -/
import Derived.Test.YtdclabgakicjeaaDoorJ0
import Derived.Test.YtdclabgakicjeaaDoorXAnn
import Derived.Test.YtdclabgakicjeaaDoorXCs
import Derived.Test.YtdclabgakicjeaaDoorAb2
import Derived.Shelf.Strings.BuilderF
import Derived.Shelf.Strings.OnBuilder
import Derived.Lib.BufferOwn
import Derived.Test.YtdclabgakicjeaaDoorK0
import Derived.Test.YtdclabgakicjeaaDoorXSp
import Derived.Lib.LaidTab
import Derived.OpenShut
import Derived.MakeChecks
import Derived.DataElems
import Derived.ChangeArms
set_option linter.unusedSimpArgs false
set_option linter.unusedVariables false
set_option linter.unusedSectionVars false
noncomputable section
namespace Go.Proofs.YtdclabgakicjeaaDoor
open Go.Ab Go.Str
set_option maxRecDepth 100000
def OkO (o:GOp):Prop:=fmtS o≠none∧OpW o
theorem fits_w {n:Int} (h:fits n):W64 n:=by unfold fits at h; unfold W64; omega
theorem nf_fits {n:Int} (h:Nf n):fits n:=by unfold Nf at h; unfold fits; omega
theorem blank_w {W:Nat} (hW:W < 12):OpW (blankS W):=by
 rcases lt12' hW with rfl | rfl | rfl | rfl | rfl | rfl | rfl | rfl | rfl | rfl | rfl | rfl
 all_goals
  refine ⟨fun k=>?_,fun k=>?_⟩
  · unfold getN W64; split <;> exact ⟨by decide,by decide⟩
  · unfold getL; split <;> exact ⟨by decide,by intro n hn; cases hn⟩
theorem getN_putN (k j:Nat) (v:Int) (o:GOp):getN k (putN v j o)=v∨getN k (putN v j o)=getN k o:=by unfold putN; split <;> (unfold getN; split <;> first | exact Or.inl rfl | exact Or.inr rfl)
theorem getN_putL (k j:Nat) (v:List Int) (o:GOp):getN k (putL v j o)=getN k o:=by unfold putL; split <;> (unfold getN; split <;> rfl)
theorem getL_putN (k j:Nat) (v:Int) (o:GOp):getL k (putN v j o)=getL k o:=by unfold putN; split <;> (unfold getL; split <;> rfl)
theorem getL_putL (k j:Nat) (v:List Int) (o:GOp):getL k (putL v j o)=v∨getL k (putL v j o)=getL k o:=by unfold putL; split <;> (unfold getL; split <;> first | exact Or.inl rfl | exact Or.inr rfl)
theorem copy_w (o:GOp):∀ (ps:List (Bool×Nat)) (c:GOp),(∀ p∈ps,okW o p)→OpW c→OpW (ps.foldl (copy1 o) c)
 | [],c,_,hc=>hc
 | p :: ps,c,h,hc=>by
   refine copy_w o ps _ (fun q hq=>h q (by simp [hq])) ?_; have hp:=h p (by simp); unfold okW at hp; unfold copy1; split
   · rename_i hb; rw [if_pos hb] at hp; refine ⟨fun k=>by rw [getN_putL]; exact hc.num k,fun k=>?_⟩; rcases getL_putL k p.2 (getL p.2 o) c with e | e
     · rw [e]; exact ⟨by omega,fun n hn=>fits_w (hp.2 n hn)⟩
     · rw [e]; exact hc.list k
   · rename_i hb; rw [if_neg hb] at hp; refine ⟨fun k=>?_,fun k=>by rw [getL_putN]; exact hc.list k⟩; rcases getN_putN k p.2 (getN p.2 o) c with e | e
     · rw [e]; exact fits_w hp
     · rw [e]; exact hc.num k
theorem ok_of {o:GOp} {W:Nat} (hW:W < 12) (hok:∀ p∈slotsC W,okW o p) (hc:copyS W o=o):OkO o:=by
 have hf:=znx hW hc; refine ⟨?_,?_⟩
 · unfold fmtS; rw [hf,if_pos ⟨hW,hok,hc⟩]; exact fun e=>by cases e
 · rw [← hc]; exact copy_w o _ _ hok (blank_w hW)
theorem okN {o:GOp} {k:Nat} (h:Nf (getN k o)):okW o (false,k):=by unfold okW; rw [iNs]; exact nf_fits h
theorem okL {o:GOp} {k:Nat} (h:(getL k o).length≤300) (h2:∀ n∈getL k o,Nf n):okW o (true,k):=by unfold okW; rw [if_pos rfl]; exact ⟨h,fun n hn=>nf_fits (h2 n hn)⟩
theorem zie {a b c:Int} (ha:Nf a) (hb:Nf b) (hc:Nf c):OkO ⟨0,⟨a,b,c⟩,⟨0,0,0,0,0,[],[]⟩,⟨⟨0,0,0⟩,0,0,0,0,0,[]⟩,⟨0,0⟩,⟨⟨0,0,0⟩,0,0,0⟩,[],0,0⟩:=
 ok_of (W:=0) (by decide) (fun p hp=>by
  simp only [slotsC,List.mem_cons,List.not_mem_nil,or_false] at hp; rcases hp with rfl | rfl | rfl
  · exact okN ha
  · exact okN hb
  · exact okN hc) rfl
theorem znL {x:zap} (h1:Nf x.Number) (h2:Nf x.Paper) (h3:Nf x.Candidate) (h4:Nf x.Centre) (h5:Nf x.Variant) (h6:∀ y∈x.Pages,Nf y) (h7:∀ y∈x.Answers,Nf y) (h8:x.Pages.length=2) (h9:x.Answers.length≤3):OkO ⟨1,⟨0,0,0⟩,⟨x.Number,x.Paper,x.Candidate,x.Centre,x.Variant,x.Pages,x.Answers⟩,⟨⟨0,0,0⟩,0,0,0,0,0,[]⟩,⟨0,0⟩,⟨⟨0,0,0⟩,0,0,0⟩,[],0,0⟩:=
 ok_of (W:=1) (by decide) (fun p hp=>by
  simp only [slotsC,List.mem_cons,List.not_mem_nil,or_false] at hp; rcases hp with rfl | rfl | rfl | rfl | rfl | rfl | rfl
  · exact okN h1
  · exact okN h2
  · exact okN h3
  · exact okN h4
  · exact okN h5
  · exact okL (by show x.Pages.length≤300; omega) h6
  · exact okL (by show x.Answers.length≤300; omega) h7) (by simp only [copyS,slotsC,blankS,zOp,List.foldl_cons,List.foldl_nil,copy1,putN,putL,getN,getL,if_true,Bool.false_eq_true,if_false])
theorem ok_mark {e:zaz} (h:EvF e):OkO ⟨2,⟨0,0,0⟩,⟨0,0,0,0,0,[],[]⟩,⟨⟨e.Stamp.Time,e.Stamp.Source,e.Stamp.Seq⟩,e.Kind,e.Script,e.Part,e.Value,e.Marker,e.Pages⟩,⟨0,0⟩,⟨⟨0,0,0⟩,0,0,0⟩,[],0,0⟩:=by
 have hk:=h.kind; have hm:=h.marker; have hf:=h.few; rw [hk,hm]
 exact ok_of (W:=2) (by decide) (fun p hp=>by
  simp only [slotsC,List.mem_cons,List.not_mem_nil,or_false] at hp; rcases hp with rfl | rfl | rfl | rfl | rfl | rfl | rfl
  · exact okN h.time
  · exact okN h.source
  · exact okN h.seq
  · exact okN h.script
  · exact okN h.part
  · exact okN h.value
  · exact okL (by show e.Pages.length≤300; omega) h.pages) rfl
theorem zox {a b c m:Int} (ha:Nf a) (hb:Nf b) (hc:Nf c) (hm:Nf m):OkO ⟨2,⟨0,0,0⟩,⟨0,0,0,0,0,[],[]⟩,⟨⟨a,b,c⟩,1,0,0,0,m,[]⟩,⟨0,0⟩,⟨⟨0,0,0⟩,0,0,0⟩,[],0,0⟩:=
 ok_of (W:=3) (by decide) (fun p hp=>by
  simp only [slotsC,List.mem_cons,List.not_mem_nil,or_false] at hp; rcases hp with rfl | rfl | rfl | rfl
  · exact okN ha
  · exact okN hb
  · exact okN hc
  · exact okN hm) rfl
theorem ok_special {a b:Int} (ha:Nf a) (hb:Nf b):OkO ⟨3,⟨0,0,0⟩,⟨0,0,0,0,0,[],[]⟩,⟨⟨0,0,0⟩,0,0,0,0,0,[]⟩,⟨a,b⟩,⟨⟨0,0,0⟩,0,0,0⟩,[],0,0⟩:=
 ok_of (W:=5) (by decide) (fun p hp=>by
  simp only [slotsC,List.mem_cons,List.not_mem_nil,or_false] at hp; rcases hp with rfl | rfl
  · exact okN ha
  · exact okN hb) rfl
theorem ok_review {a b c m:Int} (ha:Nf a) (hb:Nf b) (hc:Nf c) (hm:Nf m):OkO ⟨4,⟨0,0,0⟩,⟨0,0,0,0,0,[],[]⟩,⟨⟨0,0,0⟩,0,0,0,0,0,[]⟩,⟨0,0⟩,⟨⟨a,b,c⟩,0,m,0⟩,[],0,0⟩:=
 ok_of (W:=6) (by decide) (fun p hp=>by
  simp only [slotsC,List.mem_cons,List.not_mem_nil,or_false] at hp; rcases hp with rfl | rfl | rfl | rfl
  · exact okN ha
  · exact okN hb
  · exact okN hc
  · exact okN hm) rfl
theorem ok_remark {a b c m:Int} (ha:Nf a) (hb:Nf b) (hc:Nf c) (hm:Nf m):OkO ⟨4,⟨0,0,0⟩,⟨0,0,0,0,0,[],[]⟩,⟨⟨0,0,0⟩,0,0,0,0,0,[]⟩,⟨0,0⟩,⟨⟨a,b,c⟩,1,0,m⟩,[],0,0⟩:=
 ok_of (W:=7) (by decide) (fun p hp=>by
  simp only [slotsC,List.mem_cons,List.not_mem_nil,or_false] at hp; rcases hp with rfl | rfl | rfl | rfl
  · exact okN ha
  · exact okN hb
  · exact okN hc
  · exact okN hm) rfl
theorem ok_bounds {l:List Int} {t:Int} (hl:l.length≤300) (h:∀ n∈l,Nf n) (ht:Nf t):OkO ⟨5,⟨0,0,0⟩,⟨0,0,0,0,0,[],[]⟩,⟨⟨0,0,0⟩,0,0,0,0,0,[]⟩,⟨0,0⟩,⟨⟨0,0,0⟩,0,0,0⟩,l,t,0⟩:=
 ok_of (W:=8) (by decide) (fun p hp=>by
  simp only [slotsC,List.mem_cons,List.not_mem_nil,or_false] at hp; rcases hp with rfl | rfl
  · exact okN ht
  · exact okL hl h) rfl
theorem ok_time {k t:Int} (hk:k=6∨k=7) (ht:Nf t):OkO ⟨k,⟨0,0,0⟩,⟨0,0,0,0,0,[],[]⟩,⟨⟨0,0,0⟩,0,0,0,0,0,[]⟩,⟨0,0⟩,⟨⟨0,0,0⟩,0,0,0⟩,[],t,0⟩:=by
 rcases hk with rfl | rfl
 · exact ok_of (W:=9) (by decide) (fun p hp=>by
    simp only [slotsC,List.mem_cons,List.not_mem_nil,or_false] at hp; subst hp
    exact okN ht) rfl
 · exact ok_of (W:=10) (by decide) (fun p hp=>by
    simp only [slotsC,List.mem_cons,List.not_mem_nil,or_false] at hp; subst hp
    exact okN ht) rfl
theorem ok_revoke {t n:Int} (ht:Nf t) (hn:Nf n):OkO ⟨8,⟨0,0,0⟩,⟨0,0,0,0,0,[],[]⟩,⟨⟨0,0,0⟩,0,0,0,0,0,[]⟩,⟨0,0⟩,⟨⟨0,0,0⟩,0,0,0⟩,[],t,n⟩:=
 ok_of (W:=11) (by decide) (fun p hp=>by
  simp only [slotsC,List.mem_cons,List.not_mem_nil,or_false] at hp; rcases hp with rfl | rfl
  · exact okN ht
  · exact okN hn) rfl
theorem zom (d:zaa) (hd:DOk d):∃ (r:zaY) (d':zaa),cw zdw [.loc 1000 2 0 0] (mD d)=some (zdE (r,d'))∧DOk d':=by obtain ⟨n0,d0,e0,_,hd0⟩:=zgi d [1000,100,0] hd (by simp) (by simp); obtain ⟨n1,d1,e1,_,_,hd1⟩:=zaG d0 2 hd0 (by omega); obtain ⟨n2,d2,e2,_,_,hd2⟩:=zaG d1 3 hd1 (by omega); refine ⟨⟨n0,w64 (1+n1),n2⟩,d2,ziI d ?_,hd2⟩; simp only [e0,e1,e2,zaj,zaj]; rfl
theorem c_Curve (d:zaa) (hd:DOk d):∃ (c:zca) (d':zaa),cw zfq [.loc 1000 2 0 0] (mD d)=some (zdJ (c,d'))∧DOk d':=by
 have loop:∀ (n:Nat) (pts:List zfu) (d:zaa) (a b:Int),n≤5→pts.length+n≤10→DOk d→∃ (c:zca) (d':zaa),zcY (List.map zhV pts) d a b (n:Nat)=some (zdJ (c,d'))∧DOk d':=by
  intro n
  induction n with
  | zero=>intro pts d a b _ h hd; refine ⟨⟨pts⟩,d,zgN _ _ _ _ _ ?_,hd⟩; rw [zaA (by omega),cPQ,List.take_length]; rfl
  | succ n ih=>intro pts d a b hn h hd; obtain ⟨n1,d1,e1,_,_,hd1⟩:=zaG d 3 hd (by omega); obtain ⟨n2,d2,e2,_,_,hd2⟩:=zaG d1 4 hd1 (by omega); obtain ⟨c,d',e3,hd'⟩:=ih (pts++[⟨⟨w64 (w64 (a+1)+n1),1⟩,⟨w64 (w64 (b+1)+n2),1⟩⟩]) d2 (w64 (w64 (a+1)+n1)) (w64 (w64 (b+1)+n2)) (by omega) (by simp; omega) hd2; refine ⟨c,d',zgN _ _ _ _ _ ?_,hd'⟩; rw [zax (by omega),e1,zaj]; simp only; rw [e2,zaj,zaF,zao (by rw [List.length_map]; omega),w6Q (n:=((n+1:Nat):Int) - 1),show ((n+1:Nat):Int) - 1=(n:Nat) by omega,zbh zhV]; exact e3
 obtain ⟨n0,d0,e0,_,_,hd0⟩:=zaG d 9 hd (by omega); obtain ⟨n1,d1,e1,_,_,hd1⟩:=zaG d0 9 hd0 (by omega); obtain ⟨n2,d2,e2,a2,b2,hd2⟩:=zaG d1 4 hd1 (by omega); obtain ⟨c,d',e3,hd'⟩:=loop (n2.toNat+1) [⟨⟨w64 (n0 - 4),1⟩,⟨w64 (n1 - 4),1⟩⟩] d2 (w64 (n0 - 4)) (w64 (n1 - 4)) (by omega) (by simp; omega) hd2; refine ⟨c,d',zli d ?_,hd'⟩; simp only [e0,e1,e2,zaj]; rw [w6Q (n:=1+n2),show (1+n2:Int)=((n2.toNat+1:Nat):Int) by omega]; exact e3
theorem c_Bounds (d:zaa) (m:Int) (hd:DOk d) (hm:0≤m∧m≤1000):∃ (l:List Int) (d':zaa),cw zdd [.loc 1000 2 0 0,I m] (mD d)=some (zdl (l,d'))∧l.length≤10∧(∀ n∈l,Nf n)∧DOk d':=by
 have loop:∀ (n:Nat) (l:List Int) (d:zaa) (b:Int),n≤5→l.length+n≤10→0≤b∧b≤1001→(∀ n∈l,Nf n)→DOk d→∃ (l':List Int) (d':zaa),zcF (List.map zai l) d b (n:Nat)=some (zdl (l',d'))∧l'.length≤10∧(∀ n∈l',Nf n)∧DOk d':=by
  intro n
  induction n with
  | zero=>intro l d b _ h hb hl hd; refine ⟨l,d,zgA _ _ _ _ ?_,by omega,hl,hd⟩; rw [zaA (by omega),zao rfl]; rfl
  | succ n ih =>
    intro l d b hn h hb hl hd; have ht:b.tdiv 2=b / 2:=Int.tdiv_eq_ediv_of_nonneg hb.1; obtain ⟨n1,d1,e1,a1,b1,hd1⟩:=zaG d (b / 2+1) hd (by omega)
    obtain ⟨l',d',e3,g1,g2,hd'⟩:=ih (l++[b - n1]) d1 (b - n1) (by omega) (by simp; omega) (by omega) (fun x hx=>by
     rcases List.mem_append.1 hx with hx | hx
     · exact hl x hx
     · rw [List.mem_singleton.1 hx]; unfold Nf; omega) hd1
    refine ⟨l',d',zgA _ _ _ _ ?_,g1,g2,hd'⟩; rw [zax (by omega),zao (by decide),ht,w6Q (n:=b / 2),w6Q (n:=b / 2+1),e1,zaj]; simp only; rw [zaF,zao (by rw [List.length_map]; omega),zaF,w6Q (n:=((n+1:Nat):Int) - 1),show ((n+1:Nat):Int) - 1=(n:Nat) by omega,w6Q (n:=b - n1),zbh zai]; exact e3
 obtain ⟨n0,d0,e0,a0,b0,hd0⟩:=zaG d 4 hd (by omega); obtain ⟨l,d',e3,g1,g2,hd'⟩:=loop (n0.toNat+1) [] d0 (m+1) (by omega) (by simp; omega) (by omega) (by simp) hd0; refine ⟨l,d',zkw d m ?_,g1,g2,hd'⟩; simp only [e0,zaj]; rw [w6Q (n:=m+1),w6Q (n:=1+n0),show (1+n0:Int)=((n0.toNat+1:Nat):Int) by omega]; exact e3
theorem c_Award (d:zaa) (n:Nat) (hd:DOk d) (hn:n≤10):∃ (a:zbY) (d':zaa),cw zfp [.loc 1000 2 0 0,I (n:Nat)] (mD d)=some (zdI (a,d'))∧(0≤a.Max∧a.Max≤100)∧DOk d':=by
 obtain ⟨n0,d0,e0,a0,hd0⟩:=zgi d [100,20,60] hd (by simp) (by simp)
 have hm:0≤n0∧n0≤100:=by simp only [List.mem_cons,List.not_mem_nil,or_false] at a0; omega
 have loop:∀ (m i:Nat) (us:List GUnit) (d:zaa),i+m=n→us.length=i→DOk d→∃ (a:zbY) (d':zaa),zcX (n:Nat) (n0,d0) (List.map zgq us) d (i:Nat)=some (zdI (a,d'))∧(0≤a.Max∧a.Max≤100)∧DOk d':=by
  intro m
  induction m with
  | zero=>intro i us d hi hu hd; obtain ⟨l,d1,e1,g1,g2,hd1⟩:=c_Bounds d n0 hd (by omega); refine ⟨⟨us,l,n0⟩,d1,zgM _ _ _ _ _ ?_,hm,hd1⟩; rw [zaA (by omega)]; simp only; rw [e1,zfA,cPQ,cPQ,List.take_length]; simp only [List.take_length]; rfl
  | succ m ih=>intro i us d hi hu hd; obtain ⟨n1,d1,e1,_,hd1⟩:=zgi d [1,2,60,40] hd (by simp) (by simp); obtain ⟨n2,d2,e2,_,hd2⟩:=zgi d1 [10,12,50] hd1 (by simp) (by simp); obtain ⟨a,d',e3,g1,hd'⟩:=ih (i+1) (us++[⟨(i:Nat),n1,n2⟩]) d2 (by omega) (by simp; omega) hd2; refine ⟨a,d',zgM _ _ _ _ _ ?_,g1,hd'⟩; rw [zax (by omega),e1,zaj]; simp only; rw [e2,zaj,zaF,zao (by rw [List.length_map]; omega),w6Q,show ((i:Nat):Int)+1=((i+1:Nat):Int) by omega,zbh zgq]; exact e3
 obtain ⟨a,d',e3,g1,hd'⟩:=loop n 0 [] d0 (by omega) rfl hd0; refine ⟨a,d',zlh d _ ?_,g1,hd'⟩; simp only [e0,zaj]; exact e3
theorem c_SeedP (d:zaa) (ps:List zaq) (x:zap) (hd:DOk d) (hps:zdN ps):∃ (y:GSeed) (d':zaa),cw zfU [.loc 1000 2 0 0,.sl 3 (List.map zas ps),.agg (zan x)] (mD d)=some (zed (y,d'))∧DOk d':=by
 have hl:=hps.2.1
 obtain ⟨q,hq,hql,hqm⟩:∃ q,((zff ps x).map (·.2)).getD zjn=q∧q.Parts.length≤3∧∀ y∈q.Parts,0≤y.Max∧y.Max≤100:=by
  refine ⟨_,rfl,?_⟩
  cases hx:zff ps x with
  | none=>exact ⟨by decide,by intro y hy; cases hy⟩
  | some k=>obtain ⟨k,p⟩:=k; have hp:=(hps.2.2.1 p (List.mem_of_getElem? (paperIx_at hx).1)).1; exact ⟨hp.1,fun y hy=>by have:=hp.2.2 y hy; have:=this.1.1; omega⟩
 have loop:∀ (m i:Nat) (a:List Int) (d:zaa),i+m=q.Parts.length→a.length=i→DOk d→∃ (y:GSeed) (d':zaa),zdj x q (List.map zai a) d (i:Nat)=some (zed (y,d'))∧DOk d':=by
  intro m
  induction m with
  | zero=>intro i a d hi ha hd; refine ⟨⟨x.Number,a⟩,d,zhp _ _ _ _ _ ?_,hd⟩; rw [zaA (by rw [List.length_map]; omega),cPQ,List.take_length]; rfl
  | succ m ih =>
    intro i a d hi ha hd; have hlt:i < q.Parts.length:=by omega
    have hmx:=hqm _ (List.getElem_mem hlt); obtain ⟨n1,d1,e1,_,_,hd1⟩:=zaG d (q.Parts[i].Max+1) hd (by omega); obtain ⟨y,d',e3,hd'⟩:=ih (i+1) (a++[n1]) d1 (by omega) (by simp; omega) hd1; refine ⟨y,d',zhp _ _ _ _ _ ?_,hd'⟩; rw [zax (by rw [List.length_map]; omega),cPQ,zcH,show ((i:Nat):Int).toNat=i from rfl,List.getElem?_eq_getElem hlt,Option.bind_some,w6Q (n:=q.Parts[i].Max+1),e1,zaj,zao rfl,zao (by rw [List.length_map]; omega),w6Q,show ((i:Nat):Int)+1=((i+1:Nat):Int) by omega,zbh zai]; exact e3
 obtain ⟨y,d',e3,hd'⟩:=loop q.Parts.length 0 [] d (by omega) rfl hd; refine ⟨y,d',zmg d ps x ?_,hd'⟩; rw [zjp ps x (by omega),zd4,hq]; exact e3
structure DRules (r:zaV):Prop where
 papers:zdN r.Papers
 markers:zjh r.Markers
 max:0≤r.Award.Max∧r.Award.Max≤100
theorem c_Rules (d:zaa) (hd:DOk d):∃ (r:zaV) (d':zaa),cw zfr [.loc 1000 2 0 0] (mD d)=some (zcD (r,d'))∧DRules r∧DOk d':=by
 obtain ⟨ps,cs,d0,e0,hps,_,_,hd0⟩:=c_Papers d hd; obtain ⟨ms,d1,e1,hms,hd1⟩:=c_Markers d0 hd0; obtain ⟨mo,d2,e2,_,hd2⟩:=c_Monitor d1 hd1; obtain ⟨ru,d3,e3,_,_,hd3⟩:=c_Rule d2 hd2; obtain ⟨ar,d4,e4,hd4⟩:=zom d3 hd3; obtain ⟨n5,d5,e5,_,_,hd5⟩:=zaG d4 1000000 hd4 (by omega); have hpl:=hps.2.1
 have last:∀ (cv:List zca) (d:zaa) (n i:Nat),n≤10→i=ps.length→DOk d→∃ (r:zaV) (d':zaa),zbM ((ps,cs),d0) (ms,d1) (mo,d2) (ru,d3) (ar,d4) (n5,d5) (List.map zf8 cv) d (n:Nat) (i:Nat)=some (zcD (r,d'))∧DRules r∧DOk d':=by
  intro cv d n i hn hi hd; obtain ⟨aw,d6,e6,g6,hd6⟩:=c_Award d n hd hn; obtain ⟨b,d7,e7,hd7⟩:=zeN d6 2 hd6 (by omega)
  cases b with
  | true=>obtain ⟨sd,d8,e8,hd8⟩:=c_SeedP d7 ps ⟨1,0,1,0,0,[],[]⟩ hd7 hps; refine ⟨⟨ms,ps,[sd],mo,ru,cs,cv,aw,ar,w64 (1+n5)⟩,d8,zc4 _ _ _ _ _ _ _ _ _ _ ?_,⟨hps,hms,g6⟩,hd8⟩; rw [zaA (by rw [List.length_map]; dsimp only; omega),e6,zf1]; simp only; rw [e7,zaB,zaD]; simp only; rw [e8,zjv]; refine ziV _ _ _ _ _ _ _ _ _ ?_; rw [cPQ,cPQ]; simp only [List.take_length]; rfl
  | false=>refine ⟨⟨ms,ps,[],mo,ru,cs,cv,aw,ar,w64 (1+n5)⟩,d7,zc4 _ _ _ _ _ _ _ _ _ _ ?_,⟨hps,hms,g6⟩,hd7⟩; rw [zaA (by rw [List.length_map]; dsimp only; omega),e6,zf1]; simp only; rw [e7,zaB,zat]; refine zij _ _ _ _ _ _ _ _ _ ?_; rw [cPQ,cPQ]; simp only [List.take_length]; rfl
 have loop:∀ (m i:Nat) (cv:List zca) (d:zaa) (n:Nat),i+m=ps.length→cv.length=i→n≤10→DOk d→∃ (r:zaV) (d':zaa),zbM ((ps,cs),d0) (ms,d1) (mo,d2) (ru,d3) (ar,d4) (n5,d5) (List.map zf8 cv) d (n:Nat) (i:Nat)=some (zcD (r,d'))∧DRules r∧DOk d':=by
  intro m
  induction m with
  | zero=>intro i cv d n hi hc hn hd; exact last cv d n i hn (by omega) hd
  | succ m ih =>
    intro i cv d n hi hc hn hd; have hlt:i < ps.length:=by omega
    have hcode:=(hps.2.2.1 _ (List.getElem_mem hlt)).2.1
    obtain ⟨n',hn',en⟩:∃ n':Nat,n'≤10∧(if w64 (ps[i].Code+1) > (n:Int) then w64 (ps[i].Code+1) else (n:Int))=(n':Nat):=by
     rw [w6Q]; split
     · exact ⟨(ps[i].Code+1).toNat,by omega,by omega⟩
     · exact ⟨n,hn,rfl⟩
    obtain ⟨b,d6,e6,hd6⟩:=zeN d 4 hd (by omega)
    cases b with
    | true=>obtain ⟨c,d7,e7,hd7⟩:=c_Curve d6 hd6; obtain ⟨r,d',e8,h8,hd'⟩:=ih (i+1) (cv++[c]) d7 n' (by omega) (by simp; omega) hn' hd7; refine ⟨r,d',zc4 _ _ _ _ _ _ _ _ _ _ ?_,h8,hd'⟩; rw [zax (by rw [List.length_map]; dsimp only; omega),cPQ,zcQ,show ((i:Nat):Int).toNat=i from rfl]; simp only; rw [List.getElem?_eq_getElem hlt,Option.bind_some,e6,zaB,zaD]; simp only; rw [e7,zi2,zaF,zao (by rw [List.length_map]; omega),en,w6Q (n:=((i:Nat):Int)+1),show ((i:Nat):Int)+1=((i+1:Nat):Int) by omega,zbh zf8]; exact e8
    | false=>obtain ⟨r,d',e8,h8,hd'⟩:=ih (i+1) (cv++[⟨[]⟩]) d6 n' (by omega) (by simp; omega) hn' hd6; refine ⟨r,d',zc4 _ _ _ _ _ _ _ _ _ _ ?_,h8,hd'⟩; rw [zax (by rw [List.length_map]; dsimp only; omega),cPQ,zcQ,show ((i:Nat):Int).toNat=i from rfl]; simp only; rw [List.getElem?_eq_getElem hlt,Option.bind_some,e6,zaB,zat,zaF,zao (by rw [List.length_map]; omega),en,w6Q (n:=((i:Nat):Int)+1),show ((i:Nat):Int)+1=((i+1:Nat):Int) by omega,zbh zf8]; exact e8
 obtain ⟨r,d',e8,h8,hd'⟩:=loop ps.length 0 [] d5 1 (by omega) rfl (by decide) hd5; refine ⟨r,d',zlj d ?_,h8,hd'⟩; rw [e0,ziE]; simp only; rw [e1,zik]; simp only; rw [e2,zil]; simp only; rw [e3,zju]; simp only; rw [e4,zhr]; simp only; rw [e5,zaj]; exact e8
set_option maxRecDepth 100000
theorem znB {ms:List zaJ} (h:zjh ms) {i:Nat} (hi:i < ms.length):Nf ms[i].ID:=by have:=h.2.2.2.2 _ (List.getElem_mem hi); have:=(h.2.2.1.2.1 _ (List.getElem_mem hi)).1.1; unfold Nf; omega
theorem c_one (d:zaa) (r:zaV) (sc:List zap) (i:Int) (hd:DOk d) (hr:DRules r) (hs:zfL 4 r.Papers sc) (hi:0≤i∧i≤100):∃ (o:GOp) (d':zaa),cw zcu [.loc 1000 2 0 0,.agg (zbp r),.sl 7 (List.map zan sc),I i] (mD d)=some (zb4 (o,d'))∧OkO o∧DOk d':=by
 obtain ⟨n0,d0,e0,a0,b0,hd0⟩:=zaG d 16 hd (by omega); have hpl:=hr.papers.2.1; have hp1:=hr.papers.1; have hml:=hr.markers.2.1; have hm1:=hr.markers.1; have z0:Nf 0:=⟨by decide,by decide⟩
 have hi0:Nf i:=by unfold Nf; omega
 have fin:∀ {y:AV×Mem} {o:GOp} {d':zaa},y=zb4 (o,d')→OkO o→DOk d'→Sat (fun y=>∃ (o:GOp) (d':zaa),y=zb4 (o,d')∧OkO o∧DOk d') (some y):=fun h1 h2 h3=>zjN ⟨_,_,h1,h2,h3⟩
 suffices h:Sat (fun y=>∃ (o:GOp) (d':zaa),y=zb4 (o,d')∧OkO o∧DOk d') (cw zcu [.loc 1000 2 0 0,.agg (zbp r),.sl 7 (List.map zan sc),I i] (mD d)) by obtain ⟨y,e,o,d',rfl,h⟩:=h; exact ⟨o,d',e,h⟩
 refine sat_of (fun y=>zmG d r sc i) ?_; rw [e0,zaj]; simp only; by_cases k0:n0=0
 · rw [show (n0 == 0)=true from beq_iff_eq.2 k0,zaD]; obtain ⟨n1,d1,e1,a1,b1,hd1⟩:=zaG d0 4 hd0 (by omega); obtain ⟨n2,d2,e2,a2,hd2⟩:=zgi d1 [0,20,50] hd1 (by simp) (by simp); rw [e1,zaj]; simp only; rw [e2,zaj,w6Q]; refine fin (o:=⟨3,⟨0,0,0⟩,⟨0,0,0,0,0,[],[]⟩,⟨⟨0,0,0⟩,0,0,0,0,0,[]⟩,⟨1+n1,n2⟩,⟨⟨0,0,0⟩,0,0,0⟩,[],0,0⟩) (d':=d2) rfl (ok_special (by unfold Nf; omega) ?_) hd2; simp only [List.mem_cons,List.not_mem_nil,or_false] at a2; unfold Nf; omega
 rw [show (n0 == 0)=false from beq_eq_false_iff_ne.2 k0,zat]; by_cases k1:n0=1
 · rw [show (n0 == 1)=true from beq_iff_eq.2 k1,zaD]; obtain ⟨n1,d1,e1,a1,b1,hd1⟩:=zaG d0 5 hd0 (by omega); obtain ⟨l,d2,e2,g1,g2,hd2⟩:=c_Bounds d1 r.Award.Max hd1 (by have:=hr.max; omega); rw [e1,zaj]; simp only; rw [e2,zfA,cPQ]; simp only [List.take_length]; exact fin (o:=⟨5,⟨0,0,0⟩,⟨0,0,0,0,0,[],[]⟩,⟨⟨0,0,0⟩,0,0,0,0,0,[]⟩,⟨0,0⟩,⟨⟨0,0,0⟩,0,0,0⟩,l,n1,0⟩) (d':=d2) rfl (ok_bounds (by omega) g2 (by unfold Nf; omega)) hd2
 rw [show (n0 == 1)=false from beq_eq_false_iff_ne.2 k1,zat]; by_cases k2:n0=2
 · rw [show (n0 == 2)=true from beq_iff_eq.2 k2,zaD]; obtain ⟨n1,d1,e1,a1,b1,hd1⟩:=zaG d0 150 hd0 (by omega); obtain ⟨n2,d2,e2,a2,b2,hd2⟩:=zaG d1 3 hd1 (by omega); obtain ⟨n3,d3,e3,a3,b3,hd3⟩:=zaG d2 4 hd2 (by omega); obtain ⟨b,d4,e4,hd4⟩:=zeN d3 4 hd3 (by omega); rw [e1,zaj]; simp only; rw [e2,zaj]; simp only; rw [e3,zaj]; simp only; rw [e4,zaB,w6Q (n:=20+n1),w6Q (n:=1+n2),w6Q (n:=1+n3)]
   cases b with
   | true =>
     obtain ⟨n5,d5,e5,a5,b5,hd5⟩:=zaG d4 r.Markers.length hd4 (by omega); have hlt:n5.toNat < r.Markers.length:=by omega
     rw [zaD,List.length_map]; simp only; rw [e5,zaj,zao a5]; simp only; rw [zc6,List.getElem?_eq_getElem hlt,Option.bind_some]; exact fin (o:=⟨4,⟨0,0,0⟩,⟨0,0,0,0,0,[],[]⟩,⟨⟨0,0,0⟩,0,0,0,0,0,[]⟩,⟨0,0⟩,⟨⟨20+n1,1+n2,i⟩,1,0,r.Markers[n5.toNat].ID⟩,[],0,0⟩) (d':=d5) rfl (ok_remark (by unfold Nf; omega) (by unfold Nf; omega) hi0 (znB hr.markers hlt)) hd5
   | false=>rw [zat]; exact fin (o:=⟨4,⟨0,0,0⟩,⟨0,0,0,0,0,[],[]⟩,⟨⟨0,0,0⟩,0,0,0,0,0,[]⟩,⟨0,0⟩,⟨⟨20+n1,1+n2,i⟩,0,1+n3,0⟩,[],0,0⟩) (d':=d4) rfl (ok_review (by unfold Nf; omega) (by unfold Nf; omega) hi0 (by unfold Nf; omega)) hd4
 rw [show (n0 == 2)=false from beq_eq_false_iff_ne.2 k2,zat]; by_cases k3:n0=3
 · rw [show (n0 == 3)=true from beq_iff_eq.2 k3,zaD]; obtain ⟨n5,d5,e5,a5,b5,hd5⟩:=zaG d0 r.Markers.length hd0 (by omega); have hlt:n5.toNat < r.Markers.length:=by omega
   rw [List.length_map,e5,zaj,zao a5]; simp only; rw [zc6,List.getElem?_eq_getElem hlt,Option.bind_some,w6Q]; exact fin (o:=⟨2,⟨0,0,0⟩,⟨0,0,0,0,0,[],[]⟩,⟨⟨4*i,0,i⟩,1,0,0,0,r.Markers[n5.toNat].ID,[]⟩,⟨0,0⟩,⟨⟨0,0,0⟩,0,0,0⟩,[],0,0⟩) (d':=d5) rfl (zox (by unfold Nf; omega) z0 hi0 (znB hr.markers hlt)) hd5
 rw [show (n0 == 3)=false from beq_eq_false_iff_ne.2 k3,zat]
 have ent:Sat (fun y=>∃ (o:GOp) (d':zaa),y=zb4 (o,d')∧OkO o∧DOk d') (callD zag (cw zah [.loc 1000 2 0 0,I 5] (mD d0)) fun r15 =>
   callD zag (cw zah [.loc 1000 2 0 0,I 3] (mD r15.snd)) fun r16 =>
   callD zag (cw zah [.loc 1000 2 0 0,I ((List.map zas r.Papers).length:Int)] (mD r16.snd)) fun r17 =>
   chk (0≤r17.fst)<|
   elemD zaZ (List.map zas r.Papers) (Int.toNat r17.fst) fun c18 =>
   some (.agg (nGOp (⟨0,⟨w64 (1+r15.fst),w64 (1+r16.fst),c18.Code⟩,⟨0,0,0,0,0,[],[]⟩,⟨⟨0,0,0⟩,0,0,0,0,0,[]⟩,⟨0,0⟩,⟨⟨0,0,0⟩,0,0,0⟩,[],0,0⟩)),mD r17.snd)):=by
  obtain ⟨n1,d1,e1,a1,b1,hd1⟩:=zaG d0 5 hd0 (by omega); obtain ⟨n2,d2,e2,a2,b2,hd2⟩:=zaG d1 3 hd1 (by omega); obtain ⟨n3,d3,e3,a3,b3,hd3⟩:=zaG d2 r.Papers.length hd2 (by omega); have hlt:n3.toNat < r.Papers.length:=by omega
  have hcode:=(hr.papers.2.2.1 _ (List.getElem_mem hlt)).2.1; rw [e1,zaj,List.length_map]; simp only; rw [e2,zaj]; simp only; rw [e3,zaj,zao a3]; simp only; rw [zcQ,List.getElem?_eq_getElem hlt,Option.bind_some,w6Q (n:=1+n1),w6Q (n:=1+n2)]; exact fin (o:=⟨0,⟨1+n1,1+n2,r.Papers[n3.toNat].Code⟩,⟨0,0,0,0,0,[],[]⟩,⟨⟨0,0,0⟩,0,0,0,0,0,[]⟩,⟨0,0⟩,⟨⟨0,0,0⟩,0,0,0⟩,[],0,0⟩) (d':=d3) rfl (zie (by unfold Nf; omega) (by unfold Nf; omega) (by unfold Nf; omega)) hd3
 by_cases k4:n0=4
 · rw [show (n0 == 4)=true from beq_iff_eq.2 k4,zaD]; exact sat_of (fun y=>zjT _ _ _ _) ent
 rw [show (n0 == 4)=false from beq_eq_false_iff_ne.2 k4,zat]; by_cases k5:n0=5
 · rw [show (n0 == 5)=true from beq_iff_eq.2 k5,zaD]; exact sat_of (fun y=>ziW _ _ _ _) ent
 rw [show (n0 == 5)=false from beq_eq_false_iff_ne.2 k5,zat]; by_cases hz:sc.length=0
 · rw [show (((List.map zan sc).length:Int) == 0)=true from by rw [beq_iff_eq,List.length_map]; omega,zaD]; exact fin (o:=⟨0,⟨9,1,0⟩,⟨0,0,0,0,0,[],[]⟩,⟨⟨0,0,0⟩,0,0,0,0,0,[]⟩,⟨0,0⟩,⟨⟨0,0,0⟩,0,0,0⟩,[],0,0⟩) (d':=d0) rfl (zie ⟨by decide,by decide⟩ ⟨by decide,by decide⟩ z0) hd0
 rw [show (((List.map zan sc).length:Int) == 0)=false from by rw [beq_eq_false_iff_ne,List.length_map]; omega,zat]; obtain ⟨n1,d1,e1,a1,b1,hd1⟩:=zaG d0 9 hd0 (by omega); rw [e1,zaj,w6Q (n:=4*i)]; simp only; rw [w6Q (n:=4*i+n1)]; obtain ⟨e,d2,e2,he,hd2⟩:=c_Mark d1 ⟨r.Markers,sc,r.Papers,r.Schemes,[],⟨0,0,0,0⟩⟩ i (4*i+n1) hd1 ⟨hr.papers,hr.markers,hs⟩ hi0 (by unfold Nf; omega); rw [e2,zjt]; exact fin (o:=⟨2,⟨0,0,0⟩,⟨0,0,0,0,0,[],[]⟩,⟨⟨e.Stamp.Time,e.Stamp.Source,e.Stamp.Seq⟩,e.Kind,e.Script,e.Part,e.Value,e.Marker,e.Pages⟩,⟨0,0⟩,⟨⟨0,0,0⟩,0,0,0⟩,[],0,0⟩) (d':=d2) rfl (ok_mark he) hd2
def OkOps (l:List GOp):Prop:=∀ o∈l,OkO o
theorem OkOps.snoc {l:List GOp} {o:GOp} (h:OkOps l) (ho:OkO o):OkOps (l++[o]):=fun x hx=>by
 rcases List.mem_append.1 hx with hx | hx
 · exact h x hx
 · rw [List.mem_singleton.1 hx]; exact ho
theorem c_Ops (d:zaa) (r:zaV) (n:Nat) (hd:DOk d) (hr:DRules r) (hn:n≤20):∃ (l:List GOp) (d':zaa),cw zeE [.loc 1000 2 0 0,.agg (zbp r),I (n:Nat)] (mD d)=some (zeH (l,d'))∧OkOps l∧l.length≤100∧DOk d':=by
 let Q:AV×Mem→Prop:=fun y=>∃ (l:List GOp) (d':zaa),y=zeH (l,d')∧OkOps l∧l.length≤100∧DOk d'
 suffices h:Sat Q (cw zeE [.loc 1000 2 0 0,.agg (zbp r),I (n:Nat)] (mD d)) by obtain ⟨y,e,o,d',rfl,h⟩:=h; exact ⟨o,d',e,h⟩
 obtain ⟨sc,ds,es,hsc,hds⟩:=c_Scripts d r.Papers 3 hd hr.papers (by omega); have hsc4:zfL 4 r.Papers sc:=zoE (by omega) hsc; have hsl:=hsc.2.2
 have hsnf:∀ x∈sc,Nf x.Number∧Nf x.Paper∧Nf x.Candidate∧Nf x.Centre∧Nf x.Variant∧(∀ y∈x.Pages,Nf y)∧(∀ y∈x.Answers,Nf y)∧x.Pages.length=2∧x.Answers.length≤3:=fun x hx=>by obtain ⟨p,hp,h⟩:=hsc.1 x hx; exact zkO (by omega) hr.papers hp h
 have body:∀ (i:Nat) (out:List GOp) (d:zaa) (next next2:List (List AV)→zaa→Int→Option (AV×Mem)),i < n→OkOps out→out.length≤40+i→DOk d→(∀ (out:List GOp) (d:zaa),OkOps out→out.length≤40+(i+1)→DOk d→Sat Q (next (List.map nGOp out) d ((i+1:Nat):Int)))→(∀ (out:List GOp) (d:zaa),OkOps out→out.length≤40+(i+1)→DOk d→Sat Q (next2 (List.map nGOp out) d ((i+1:Nat):Int)))→Sat Q (callD zag (cw zah [.loc 1000 2 0 0,I 9] (mD d)) fun r27 =>
    brn (r27.fst == 0) (next (List.map nGOp out++[nGOp ⟨6,⟨0,0,0⟩,⟨0,0,0,0,0,[],[]⟩,⟨⟨0,0,0⟩,0,0,0,0,0,[]⟩,⟨0,0⟩,⟨⟨0,0,0⟩,0,0,0⟩,[],w64 (20+w64 (2*(i:Nat))),0⟩]) r27.snd (w64 ((i:Nat)+1)))
    (brn (r27.fst == 1) (next (List.map nGOp out++[nGOp ⟨7,⟨0,0,0⟩,⟨0,0,0,0,0,[],[]⟩,⟨⟨0,0,0⟩,0,0,0,0,0,[]⟩,⟨0,0⟩,⟨⟨0,0,0⟩,0,0,0⟩,[],w64 (20+w64 (2*(i:Nat))),0⟩]) r27.snd (w64 ((i:Nat)+1)))
    (brn (r27.fst == 2) (callD zaP (cw zaS [.loc 1000 2 0 0,I 3] (mD r27.snd)) fun r28 =>
     brn r28.fst (callD zag (cw zah [.loc 1000 2 0 0,I 4] (mD r28.snd)) fun r29=>next (List.map nGOp out++[nGOp ⟨8,⟨0,0,0⟩,⟨0,0,0,0,0,[],[]⟩,⟨⟨0,0,0⟩,0,0,0,0,0,[]⟩,⟨0,0⟩,⟨⟨0,0,0⟩,0,0,0⟩,[],w64 (20+w64 (2*(i:Nat))),w64 (1+r29.fst)⟩]) r29.snd (w64 ((i:Nat)+1)))
     (next (List.map nGOp out) r28.snd (w64 ((i:Nat)+1))))
    (callD zcy (cw zcu [.loc 1000 2 0 0,.agg (zbp r),.sl 7 (List.map zan sc),I (i:Nat)] (mD r27.snd)) fun r34=>next2 (List.map nGOp out++[nGOp r34.fst]) r34.snd (w64 ((i:Nat)+1)))))):=by
  intro i out d next next2 hi ho hl hd h h'
  obtain ⟨n0,d0,e0,a0,b0,hd0⟩:=zaG d 9 hd (by omega); have et:w64 (20+w64 (2*((i:Nat):Int)))=20+2*((i:Nat):Int):=by rw [w6Q (n:=2*((i:Nat):Int)),w6Q]
  have ht:Nf (20+2*((i:Nat):Int)):=by unfold Nf; omega
  rw [e0,zaj]; simp only; rw [et,w6Q (n:=((i:Nat):Int)+1),show ((i:Nat):Int)+1=((i+1:Nat):Int) by omega,zbh nGOp,zbh nGOp]; by_cases k0:n0=0
  · rw [show (n0 == 0)=true from beq_iff_eq.2 k0,zaD]; exact h _ d0 (ho.snoc (ok_time (Or.inl rfl) ht)) (by simp; omega) hd0
  rw [show (n0 == 0)=false from beq_eq_false_iff_ne.2 k0,zat]; by_cases k1:n0=1
  · rw [show (n0 == 1)=true from beq_iff_eq.2 k1,zaD]; exact h _ d0 (ho.snoc (ok_time (Or.inr rfl) ht)) (by simp; omega) hd0
  rw [show (n0 == 1)=false from beq_eq_false_iff_ne.2 k1,zat]; by_cases k2:n0=2
  · rw [show (n0 == 2)=true from beq_iff_eq.2 k2,zaD]; obtain ⟨b,d1,e1,hd1⟩:=zeN d0 3 hd0 (by omega); rw [e1,zaB]
    cases b with
    | true=>obtain ⟨n2,d2,e2,a2,b2,hd2⟩:=zaG d1 4 hd1 (by omega); rw [zaD]; simp only; rw [e2,zaj,w6Q (n:=1+n2),zbh nGOp]; exact h _ d2 (ho.snoc (ok_revoke ht (by unfold Nf; omega))) (by simp; omega) hd2
    | false=>rw [zat]; exact h _ d1 ho (by omega) hd1
  rw [show (n0 == 2)=false from beq_eq_false_iff_ne.2 k2,zat]; obtain ⟨o,d1,e1,ho1,hd1⟩:=c_one d0 r sc (i:Nat) hd0 hr hsc4 (by omega); rw [e1,zkb,zbh nGOp]; exact h' _ d1 (ho.snoc ho1) (by simp; omega) hd1
 have threeV:∀ (m i:Nat) (out:List GOp) (d:zaa),i+m=n→OkOps out→out.length≤40+i→DOk d→Sat Q (zaR r (n:Nat) (sc,ds) (List.map nGOp out) d (i:Nat)):=by
  intro m
  induction m with
  | zero=>intro i out d hi ho hl hd; refine sat_of (fun y=>zgO _ _ _ _ _ _) ?_; rw [zaA (by omega),zao rfl]; exact zjN ⟨out,d,rfl,ho,by omega,hd⟩
  | succ m ih=>intro i out d hi ho hl hd; refine sat_of (fun y=>zgO _ _ _ _ _ _) ?_; rw [zax (by omega)]; simp only [List.take_length]; simp (disch:=omega) only [zao,zaF,List.length_map,List.take_length]; exact body i out d (zaR r (n:Nat) (sc,ds)) (zaR r (n:Nat) (sc,ds)) (by omega) ho hl hd (fun out d h1 h2 h3=>ih (i+1) out d (by omega) h1 h2 h3) (fun out d h1 h2 h3=>ih (i+1) out d (by omega) h1 h2 h3)
 have three:∀ (m i:Nat) (out:List GOp) (d:zaa),i+m=n→OkOps out→out.length≤40+i→DOk d→Sat Q (zbt r (n:Nat) (sc,ds) (List.map nGOp out) d (i:Nat)):=by
  intro m
  induction m with
  | zero=>intro i out d hi ho hl hd; refine sat_of (fun y=>zhH _ _ _ _ _ _) ?_; rw [zaA (by omega),zao rfl]; exact zjN ⟨out,d,rfl,ho,by omega,hd⟩
  | succ m ih=>intro i out d hi ho hl hd; refine sat_of (fun y=>zhH _ _ _ _ _ _) ?_; rw [zax (by omega)]; simp only [List.take_length]; simp (disch:=omega) only [zao,zaF,List.length_map,List.take_length,Nat.zero_add,Nat.le_refl]; exact body i out d (zbt r (n:Nat) (sc,ds)) (zaR r (n:Nat) (sc,ds)) (by omega) ho hl hd (fun out d h1 h2 h3=>ih (i+1) out d (by omega) h1 h2 h3) (fun out d h1 h2 h3=>threeV m (i+1) out d (by omega) h1 h2 h3)
 have two:∀ (es:List zaz) (df:zaa),(∀ e∈es,EvF e)→es.length≤120→DOk df→∀ (m i:Nat) (out:List GOp),i+m=24→OkOps out→out.length≤12+i→Sat Q (zdH r (n:Nat) (sc,ds) (es,df) (List.map nGOp out) (i:Nat)):=by
  intro es df hes hel hdf m
  induction m with
  | zero =>
    intro i out hi ho hl; refine sat_of (fun y=>zhG _ _ _ _ _ _) ?_; have hv:=threeV n 0 out df (by omega) ho (by omega) hdf; by_cases h1:i < es.length
    · rw [zax (by rw [List.length_map]; dsimp only; omega),zaA (by omega)]; exact hv
    · rw [zaA (by rw [List.length_map]; dsimp only; omega)]; exact hv
  | succ m ih =>
    intro i out hi ho hl; refine sat_of (fun y=>zhG _ _ _ _ _ _) ?_; have hv:=threeV n 0 out df (by omega) ho (by omega) hdf; by_cases h1:i < es.length
    · rw [zax (by rw [List.length_map]; dsimp only; omega),zax (by omega)]; have he:=hes _ (List.getElem_mem h1); simp (disch:=omega) only [zao,zaF,List.length_map,zmh,Int.toNat_natCast,List.getElem?_eq_getElem h1,Option.bind_some,w64_id,Nat.zero_add,zbh nGOp]; exact ih (i+1) _ (by omega) (ho.snoc (ok_mark he)) (by simp; omega)
    · rw [zaA (by rw [List.length_map]; dsimp only; omega)]; exact hv
 have one:∀ (m i:Nat) (out:List GOp) (d:zaa),i+m=sc.length→OkOps out→out.length≤2*i→DOk d→Sat Q (zb7 r (n:Nat) (sc,ds) (List.map nGOp out) d (i:Nat)):=by
  intro m
  induction m with
  | zero =>
    intro i out d hi ho hl hd; refine sat_of (fun y=>zhF _ _ _ _ _ _) ?_; obtain ⟨b,d1,e1,hd1⟩:=zeN d 2 hd (by omega); rw [zaA (by rw [List.length_map]; dsimp only; omega),e1,zaB]
    cases b with
    | true=>obtain ⟨es,df,e2,g1,g2,hdf⟩:=c_Full d1 ⟨r.Markers,sc,r.Papers,r.Schemes,[],⟨0,0,0,0⟩⟩ 10 hd1 ⟨hr.papers,hr.markers,hsc4⟩ (by omega); rw [zaD]; simp only [List.take_length]; simp (disch:=omega) only [zao,zaF,List.length_map,List.take_length,Nat.zero_add,Nat.le_refl]; rw [show ([AV.loc 1000 2 0 0,AV.agg [AV.sl 5 (List.map zaT r.Markers),AV.sl 7 (List.map zan sc),AV.sl 3 (List.map zas r.Papers),AV.sl 2 (List.map zbF r.Schemes),AV.sl 2 [],I 0,I 0,I 0,I 0],I 10]:List AV)=[AV.loc 1000 2 0 0,AV.agg (zdR ⟨r.Markers,sc,r.Papers,r.Schemes,[],⟨0,0,0,0⟩⟩),I 10] from rfl,e2,zjs]; exact two es df g2 g1 hdf 24 0 out (by omega) ho (by omega)
    | false=>rw [zat]; exact three n 0 out d1 (by omega) ho (by omega) hd1
  | succ m ih =>
    intro i out d hi ho hl hd; have hlt:i < sc.length:=by omega
    obtain ⟨f1,f2,f3,f4,f5,f6,f7,f8,f9⟩:=hsnf _ (List.getElem_mem hlt); obtain ⟨n0,d0,e0,a0,b0,hd0⟩:=zaG d 8 hd (by omega); obtain ⟨n1,d1,e1,a1,b1,hd1⟩:=zaG d0 8 hd0 (by omega)
    have back:∀ (out:List GOp) (d:zaa),OkOps out→out.length≤2*(i+1)→DOk d→Sat Q (zb7 r (n:Nat) (sc,ds) (List.map nGOp out) d (w64 ((i:Nat)+1))):=fun out d h1 h2 h3=>by rw [w6Q,show ((i:Nat):Int)+1=((i+1:Nat):Int) by omega]; exact ih (i+1) out d (by omega) h1 h2 h3
    refine sat_of (fun y=>zhF _ _ _ _ _ _) ?_; rw [zax (by rw [List.length_map]; dsimp only; omega),e0,zaj]; by_cases k0:0 < n0
    · rw [zax k0]; simp (disch:=omega) only [zao,zaF,List.length_map,zcB,Int.toNat_natCast,Nat.zero_add,List.getElem?_eq_getElem hlt,Option.bind_some]; refine sat_of (fun y=>zjS _ _ _ _ _ _ _ _ _) ?_; have h1:OkOps (out++[⟨0,⟨sc[i].Candidate,sc[i].Centre,sc[i].Paper⟩,⟨0,0,0,0,0,[],[]⟩,⟨⟨0,0,0⟩,0,0,0,0,0,[]⟩,⟨0,0⟩,⟨⟨0,0,0⟩,0,0,0⟩,[],0,0⟩]):=ho.snoc (zie f3 f4 f2); rw [e1,zaj]; by_cases k1:0 < n1
      · rw [zax k1]; simp (disch:=omega) only [zao,zaF,List.length_map,List.length_append,List.length_cons,List.length_nil,zcB,Int.toNat_natCast,Nat.zero_add,List.getElem?_eq_getElem hlt,Option.bind_some,zbh nGOp]; refine sat_of (fun y=>zgB _ _ _ _ _ _) ?_; exact back _ d1 (h1.snoc (znL f1 f2 f3 f4 f5 f6 f7 f8 f9)) (by simp; omega) hd1
      · rw [zaA k1,zbh nGOp]; refine sat_of (fun y=>zfF _ _ _ _ _ _) ?_; exact back _ d1 h1 (by simp; omega) hd1
    · rw [zaA k0]; refine sat_of (fun y=>ziU _ _ _ _ _ _) ?_; simp only; rw [e1,zaj]; by_cases k1:0 < n1
      · rw [zax k1]; simp (disch:=omega) only [zao,zaF,List.length_map,List.length_append,List.length_cons,List.length_nil,zcB,Int.toNat_natCast,Nat.zero_add,List.getElem?_eq_getElem hlt,Option.bind_some,zbh nGOp]; refine sat_of (fun y=>zgB _ _ _ _ _ _) ?_; exact back _ d1 (ho.snoc (znL f1 f2 f3 f4 f5 f6 f7 f8 f9)) (by simp; omega) hd1
      · rw [zaA k1]; refine sat_of (fun y=>zfF _ _ _ _ _ _) ?_; exact back _ d1 ho (by omega) hd1
 refine sat_of (fun y=>zmF d r (n:Nat)) ?_; rw [es,zim]; exact one sc.length 0 [] ds (by omega) (by intro o h; cases h) (by simp) hds
end Go.Proofs.YtdclabgakicjeaaDoor
namespace Go.Proofs.YtdclabgakicjeaaDoor
open Go.Ab
abbrev tyB:Nat:=104
set_option maxRecDepth 100000
abbrev nl:ByteArray:={ data:={ toList:=[10] } }
theorem sc0 (l:List GOp):tReg zau zT 0 ⟨[(0,AV.sl 31 (List.map nGOp l))],[]⟩=(some ⟨[(0,AV.sl 31 (List.map nGOp l))],[]⟩):=by kernel_rfl
theorem sc1 (l:List GOp):tReg zau zT 1 ⟨[(0,AV.sl 31 (List.map nGOp l))],[]⟩=(some ⟨[(0,AV.sl 31 (List.map nGOp l)),(11,B (decide (300 < (↑(List.map nGOp l).length:Int))))],[]⟩):=by kernel_rfl
theorem sc10 (l:List GOp) (g:Nat) (n:Int) (i:Int) (s:ByteArray):tSeg zau zT 10 0 2 ⟨[(4,AV.v (.pointer (some ⟨g,0,none⟩))),(7,AV.v (.string s)),(12,AV.sl 31 (List.map nGOp l)),(13,I n),(14,I i)],[]⟩=(chk (s.size+nl.size≤9223372036854775807)<|
 some ⟨[(27,AV.v (.string (s++nl))),(26,AV.v (.string s)),(4,AV.v (.pointer (some ⟨g,0,none⟩))),(7,AV.v (.string s)),(12,AV.sl 31 (List.map nGOp l)),(13,I n),(14,I i)],[]⟩):=by kernel_rfl
theorem sc11 (l:List GOp) (g:Nat) (n:Int) (i:Int):tReg zau zT 11 ⟨[(4,AV.v (.pointer (some ⟨g,0,none⟩))),(12,AV.sl 31 (List.map nGOp l)),(13,I n),(14,I i)],[]⟩=(some ⟨[(4,AV.v (.pointer (some ⟨g,0,none⟩))),(12,AV.sl 31 (List.map nGOp l)),(13,I n),(14,I (w64 (i+1)))],[]⟩):=by kernel_rfl
theorem sc12 (s:ByteArray):tSeg zau zT 12 1 2 ⟨[(30,AV.v (.string s))],[]⟩=(some ⟨[(3,I 0),(2,AV.v (.string s)),(30,AV.v (.string s))],[]⟩):=by kernel_rfl
theorem sc2 (u:Unit):tReg zau zT 2 ⟨[],[]⟩=(some ⟨[(2,AV.v (.string ({ data:={ toList:=[] } }))),(3,I 3)],[]⟩):=by kernel_rfl
theorem sc4 (l:List GOp) (g:Nat):tReg zau zT 4 ⟨[(0,AV.sl 31 (List.map nGOp l)),(4,AV.v (.pointer (some ⟨g,0,none⟩)))],[]⟩=(some ⟨[(4,AV.v (.pointer (some ⟨g,0,none⟩))),(12,AV.sl 31 (List.map nGOp l)),(13,I ((↑(List.map nGOp l).length:Int))),(14,I 0)],[]⟩):=by kernel_rfl
theorem sc5 (l:List GOp) (g:Nat) (n:Int) (i:Int):tReg zau zT 5 ⟨[(4,AV.v (.pointer (some ⟨g,0,none⟩))),(12,AV.sl 31 (List.map nGOp l)),(13,I n),(14,I i)],[]⟩=(some ⟨[(4,AV.v (.pointer (some ⟨g,0,none⟩))),(12,AV.sl 31 (List.map nGOp l)),(13,I n),(14,I i),(15,B (decide (i < n)))],[]⟩):=by kernel_rfl
theorem sc6 (l:List GOp) (g:Nat) (n:Int) (i:Int):tReg zau zT 6 ⟨[(4,AV.v (.pointer (some ⟨g,0,none⟩))),(12,AV.sl 31 (List.map nGOp l)),(13,I n),(14,I i)],[]⟩=(chk ((0:Int)≤i)<|
 elemD dGOp (List.map nGOp l) i.toNat fun (c0:GOp) =>
 some ⟨[(4,AV.v (.pointer (some ⟨g,0,none⟩))),(6,AV.loc 6 31 0 0),(12,AV.sl 31 (List.map nGOp l)),(13,I n),(14,I i)],[(6,⟨31,zaf,[nGOp c0],true⟩)]⟩):=by kernel_rfl
theorem sc7 (l:List GOp) (g:Nat) (n:Int) (i:Int) (o:GOp):tReg zau zT 7 ⟨[(4,AV.v (.pointer (some ⟨g,0,none⟩))),(6,AV.loc 6 31 0 0),(12,AV.sl 31 (List.map nGOp l)),(13,I n),(14,I i)],[(6,⟨31,zaf,[nGOp o],true⟩)]⟩=(callD zbD (cw zbz [AV.agg (nGOp o)] []) fun (r0:ByteArray×Int)=>some ⟨[(4,AV.v (.pointer (some ⟨g,0,none⟩))),(7,AV.v (.string r0.fst)),(8,I r0.snd),(12,AV.sl 31 (List.map nGOp l)),(13,I n),(14,I i)],[]⟩):=by kernel_rfl
theorem sc8 (l:List GOp) (g:Nat) (n:Int) (i:Int) (s:ByteArray) (e:Int):tReg zau zT 8 ⟨[(4,AV.v (.pointer (some ⟨g,0,none⟩))),(7,AV.v (.string s)),(8,I e),(12,AV.sl 31 (List.map nGOp l)),(13,I n),(14,I i)],[]⟩=(some ⟨[(4,AV.v (.pointer (some ⟨g,0,none⟩))),(7,AV.v (.string s)),(8,I e),(12,AV.sl 31 (List.map nGOp l)),(13,I n),(14,I i),(24,B (e != 0))],[]⟩):=by kernel_rfl
end Go.Proofs.YtdclabgakicjeaaDoor
namespace Go.Proofs.YtdclabgakicjeaaDoor
open Go.Shelf Go.RowKit Go.Lib
section
variable {P:Program} {ρ:Ren}
theorem own_append (w:World) (base:Nat) (t u ty e:TypeId) (i:TypeInfo) (ht:P.underlying t=some (.slice e)) (hu:P.underlying u=some .string) (hi:P.info? e=some i) (hz:i.zero=some (.int .u8 0))
  (hsize:i.size=1) (hby:i.bytes=1) (v:Value) (n:Nat) (xs:List Value) (hown:w.ownsRowF base e 1 v n xs) (s:ByteArray)
  (h63:n+s.size≤maxLen) (hbytes:n+s.size≤140737488355328) (hbase:base≤w.heap.size):∃ v' w',(Builtin.append_ #[t,u] ty #[v,.string s]).run P w=.ok v' w'∧w'.ownsRowF base e 1 v' (n+s.size) (xs++strCells s)∧w.grownBy w' v.ownBlock∧∀ k,v'.ownBlock=some k→v.ownBlock=some k∨w.heap.size≤k:=by
 rcases hown.2 with ⟨rfl,rfl⟩ | ⟨g,cap,cur,fz,rfl,hbg,hg,hfz,hnc,hcm,hcs,htake⟩
 · obtain ⟨v',w',h1,h2,h3,h4⟩:=run_append_own_string (P:=P) w w.heap.size t u ty e i ht hu hi hz hsize hby (.slice none 0 0) 0 xs ⟨hown.1,.inl ⟨rfl,rfl⟩⟩ s h63 hbytes (Nat.le_refl _); have h5:=World.ownsRowF_of h2; refine ⟨v',w',h1,⟨h5.1,h5.2.imp id (fun ⟨g,c,cur,fz,e1,e2,r⟩=>⟨g,c,cur,fz,e1,Nat.le_trans hbase e2,r⟩)⟩,h3,fun k hk=>.inr (h5.lt k hk).1⟩
 · have hsmall:n+s.size≤9223372036854775807:=by simp only [maxLen] at h63; omega
   have hxl:xs.length=n:=by simpa using hown.1
   have hlen:(xs++strCells s).length=(n+s.size)*1:=by rw [List.length_append,hxl,strCells_length,Nat.mul_one]
   by_cases hroom:n+s.size≤cap
   · have hcs':cur.size=cap:=by simpa using hcs
     have hr:=run_append_room_stringF (P:=P) w t u ty e i ht hu hi hsize g n cap cur fz hg (by simpa using hfz) s hroom (by omega); refine ⟨_,_,hr,⟨hlen,.inr ⟨g,cap,_,fz,rfl,hbg,setRow_heap w g cur _ e _ hg,by omega,hroom,hcm,?_,?_⟩⟩,⟨rfl,rfl,rfl,by simp,fun k _ hk=>setRow_other w g k _ (fun e=>hk (by simp [Value.ownBlock,e]))⟩,fun k hk=>.inl hk⟩
     · simp only [List.size_toArray,List.length_append,List.length_take,List.length_drop,Array.length_toList,strCells_length]; omega
     · have ht':cur.toList.take n=xs:=by simpa using htake
       rw [ht',← hlen]; exact List.take_left
   · have holds:∀ j u,xs[j]?=some u→w.cell? ((⟨g,0,none⟩:Addr).add j)=some u:=hown.cells (g:=g) rfl; have hr:=run_append_grow_string (P:=P) w t u ty e i (.int .u8 0) ht hu hi hz ⟨g,0,none⟩ n cap xs (by rw [hsize]; simpa using hxl) holds s (by omega) (by omega) (by rw [hby]; exact growslice_fits (by omega) (by omega)); have hge:=grownCap_ge w (n+s.size) cap e; have hcm2:grownCap w (n+s.size) cap e≤maxLen:=grownCap_le_maxLen w (n+s.size) cap e h63; refine ⟨_,_,hr,⟨hlen,.inr ⟨w.heap.size,_,_,(0,0),rfl,hbase,heap_alloc_new w.drew _,Nat.zero_le _,hge,hcm2,?_,?_⟩⟩,⟨rfl,rfl,rfl,by simp,fun k hk _=>heap_alloc_old w.drew _ hk⟩,fun k hk=>.inr (by simp [Value.ownBlock] at hk; omega)⟩
     · have hz1:(Value.int IntKind.u8 0).cells.size=1:=rfl; simp only [Array.size_append,List.size_toArray,size_zeroCells,hz1,hxl,strCells_length]; omega
     · simp only [Array.toList_append,List.append_assoc]; rw [← List.append_assoc,← hlen]; exact List.take_left
theorem zn5 (w:World) {ops:Array Oper} {rest:List Oper} {o:Oper} {a:Act} {Q:Exit→Act→World→Prop} (hgd:o.guard=none) (sl x:Operand) (t u:TypeId)
  (ho:o.op=.call { callee:=.builtin .append,args:=#[sl,x],argTypes:=#[t,u] })
  (base:Nat) (e:TypeId) (i:TypeInfo) (ht:P.underlying t=some (.slice e)) (hu:P.underlying u=some .string) (hi:P.info? e=some i) (hz:i.zero=some (.int .u8 0))
  (hsize:i.size=1) (hby:i.bytes=1)
  (v:Value) (n:Nat) (xs:List Value) (hs:a.eval sl=v) (hown:w.ownsRowF base e 1 v n xs) (s:ByteArray) (hx:a.eval x=.string s)
  (h63:n+s.size≤maxLen) (hbytes:n+s.size≤140737488355328) (hbase:base≤w.heap.size)
  (h:∀ v' w',w'.ownsRowF base e 1 v' (n+s.size) (xs++strCells s)→w.grownBy w' v.ownBlock→(∀ k,v'.ownBlock=some k→v.ownBlock=some k∨w.heap.size≤k)→wpList P ops Q rest (a.put o.dst v') w'):wpList P ops Q (o :: rest) a w:=by
 refine wpList_plain hgd fun K hK=>?_
 obtain ⟨v',w',hr,h2,h3,h4⟩:=own_append (P:=P) w base t u o.type e i ht hu hi hz hsize hby v n xs hown s h63 hbytes hbase; unfold Oper.wp execOp; simp only [ho,resolve,invoke,builtin,Sem.run_bind,Sem.run_pure,Result.andThen_ok,List.map_toArray,List.map_cons,List.map_nil,hs,hx,hr]; exact hK _ _ (h v' w' h2 h3 h4)
structure Bld (T e:TypeId) (w:World) (g:Nat) (l:List UInt8) (v:Value):Prop where
 at_:∃ p,(p=.pointer none∨p=.pointer (some ⟨g,0,none⟩))∧w.heap[g]?=some (.cells #[p,v] T (0,0))
 own:w.ownsRowF 0 e 1 v l.length (byteCells l)
 ne:v.ownBlock≠some g
theorem Bld.isF {T e:TypeId} {w:World} {g:Nat} {l:List UInt8} {v:Value} (h:Bld T e w g l v):IsBuilderF T e 0 g (byteCells l) w:=by
 obtain ⟨p,hp,hg⟩:=h.at_; have:BuilderAtF T e 0 g p (byteCells l) w:=⟨Nat.zero_le _,v,hg,by rw [byteCells_length]; exact h.own,h.ne⟩
 rcases hp with rfl | rfl
 · exact .inl this
 · exact .inr this
theorem check_call (L:Lays.n240 P ρ) (X:Builder.X72 P ρ) {w:World} {g:Nat} {l:List UInt8} {v:Value} (h:Bld (ρ.t 72) (ρ.t 5) w g l v):Calls P (ρ.f 240) #[.pointer (some ⟨g,0,none⟩)] w fun e w'=>e=.returned (.tuple #[])∧Bld (ρ.t 72) (ρ.t 5) w' g l v∧w.grownBy w' (some g)∧w'.heap[g]?=some (.cells #[.pointer (some ⟨g,0,none⟩),v] (ρ.t 72) (0,0))∧w'.heap.size=w.heap.size:=by
 have hF:=h.isF; obtain ⟨p,hp,hg⟩:=h.at_; rcases hF with hf | hf
 · refine (Any.Builder_copyCheck_fresh L X g w hf.cell0 hf.shape hf.frozen0).mono ?_
   rintro e w' ⟨rfl,rfl⟩
   have hh:(w.setCell ⟨g,0,none⟩ (.pointer (some ⟨g,0,none⟩))).heap[g]?=some (.cells #[.pointer (some ⟨g,0,none⟩),v] (ρ.t 72) (0,0)):=by simp [World.setCell,Array.getElem?_modify,hg]
   have hgr:w.grownBy (w.setCell ⟨g,0,none⟩ (.pointer (some ⟨g,0,none⟩))) (some g):=grownBy_setCell w g 0 _; exact ⟨rfl,⟨⟨_,.inr rfl,hh⟩,h.own.kept hgr (.inr h.ne),h.ne⟩,hgr,hh,by simp [World.setCell]⟩
 · refine (Any.Builder_copyCheck_used L X g w hf.cell0).mono ?_
   rintro e w' ⟨rfl,rfl⟩
   have e0:=hf.cell0; rw [Lib.cell_of_heap hg] at e0; have e1:p=.pointer (some ⟨g,0,none⟩):=by simpa using e0
   exact ⟨rfl,h,⟨rfl,rfl,rfl,Nat.le_refl _,fun _ _ _=>rfl⟩,by rw [hg,e1],rfl⟩
structure Wrote (T e:TypeId) (w w':World) (g:Nat) (l s:List UInt8) (v v':Value):Prop where
 bld:Bld T e w' g (l++s) v'
 own:∀ k,v'.ownBlock=some k→v.ownBlock=some k∨w.heap.size≤k
 os:w'.os=w.os
 tape:w'.tape=w.tape
 output:w'.output=w.output
 size:w.heap.size≤w'.heap.size
 block:∀ k,k < w.heap.size→k≠g→v.ownBlock≠some k→w'.heap[k]?=w.heap[k]?
set_option maxHeartbeats 2000000 in
set_option maxRecDepth 100000 in
theorem write_call (L:Lays.n166 P ρ) (X:Builder.Extra P ρ) {w:World} {g:Nat} {l:List UInt8} {v:Value} (h:Bld (ρ.t 72) (ρ.t 5) w g l v) (s:ByteArray) (hlen:l.length+s.size≤140737488355328):Calls P (ρ.f 166) #[.pointer (some ⟨g,0,none⟩),.string s] w fun e w'=>e=.returned (.tuple #[.int .i64 s.size,.nilIface])∧∃ v',Wrote (ρ.t 72) (ρ.t 5) w w' g l s.data.toList v v':=by
 obtain ⟨i0,hi,hz0,hz1,hz2⟩:=info_parts X.infoByte; have mixed:=L.mixed; have t72:=L.t72; have a72:=L.a72; have z72:=L.z72; have v72:=L.v72; have u72:=run_underlying L.t72; have t70:=L.t70; have a70:=L.a70; have z70:=L.z70; have v70:=L.v70; have u70:=run_underlying L.t70; have t37:=L.t37; have a37:=L.a37; have z37:=L.z37; have v37:=L.v37; have u37:=run_underlying L.t37; have t3:=L.t3; have a3:=L.a3; have z3:=L.z3; have v3:=L.v3; have u3:=run_underlying L.t3; have t9:=L.t9; have a9:=L.a9; have z9:=L.z9; have v9:=L.v9; have u9:=run_underlying L.t9; have t4:=L.t4; have a4:=L.a4; have z4:=L.z4; have v4:=L.v4; have u4:=run_underlying L.t4; have t164:=L.t164; have a164:=L.a164; have z164:=L.z164; have v164:=L.v164; have u164:=run_underlying L.t164; have t5:=X.t5; have a5:=X.a5; have z5:=X.z5; have v5:=X.v5; have u5:=run_underlying X.t5; have e240:∀ args w,(callFunc (ρ.f 240) args).run P w=.ok (.enter (ρ.f 240) args) w:=enters_of L.f240 (by kernel_rfl) rfl
 go_enter L.f166,Body.n166_ntmps ρ
 go_wp2_with (go_at_fn (ρ.f 240); refine (check_call { L with } X.toX72 h).mono ?_)
 rintro e w1 ⟨rfl,h1,hb1,hbk,hsz1⟩
 have hown:=h1.own; have hne:=h1.ne; have c0:w1.cell? ⟨g,0,none⟩=some (.pointer (some ⟨g,0,none⟩)):=by rw [Lib.cell_of_heap hbk]; rfl
 have c1:w1.cell? ⟨g,1,none⟩=some v:=by rw [Lib.cell_of_heap hbk]; rfl
 go_wp2_with (at_builtin; refine zn5 _ rfl _ _ (ρ.t 37) (ρ.t 9) rfl 0 (ρ.t 5) i0 L.t37 L.t9 hi hz0 hz1 hz2 _ _ _ rfl hown s rfl ?c3 ?c4 ?c5 ?_)
 case c3=>unfold maxLen; omega
 case c4=>omega
 case c5=>omega
 intro v' w2 hown' hgrow hnew
 have hlt:g < w1.heap.size:=by
  rcases Nat.lt_or_ge g w1.heap.size with h' | h'
  · exact h'
  · simp [Array.getElem?_eq_none h'] at hbk
 have hb2:w2.heap[g]?=some (.cells #[.pointer (some ⟨g,0,none⟩),v] (ρ.t 72) (0,0)):=by rw [hgrow.block g hlt (fun e=>hne e.symm)]; exact hbk
 have d0:w2.cell? ⟨g,0,none⟩=some (.pointer (some ⟨g,0,none⟩)):=by rw [Lib.cell_of_heap hb2]; rfl
 have d1:w2.cell? ⟨g,1,none⟩=some v:=by rw [Lib.cell_of_heap hb2]; rfl
 have f1:w2.frozen? ⟨g,1,none⟩=false:=Lib.frozen_of_heap hb2 1
 obtain ⟨ao,n',cap,rfl⟩:∃ ao n' cap,v'=.slice ao n' cap:=by
  rcases hown'.2 with ⟨hv,_⟩ | ⟨g,cap,cur,fz,hv,_⟩
  · exact ⟨_,_,_,hv⟩
  · exact ⟨_,_,_,hv⟩
 go_wp2
 go_ret2
 have hput:=Lib.BuilderAtF.put (T:=(ρ.t 72)) (e:=(ρ.t 5)) (B:=0) (b:=g) (Nat.zero_le _) hb2 (bs':=byteCells l++strCells s) (by simpa [byteCells_length,strCells_length] using hown') X.neB5; refine ⟨rfl,.slice ao n' cap,?_⟩; obtain ⟨_,v2,q1,q2,q3⟩:=hput; have hset:=grownBy_setCell w2 g 1 (Value.slice ao n' cap)
 have hv2:v2=.slice ao n' cap:=by
  have:(w2.setCell ⟨g,1,none⟩ (.slice ao n' cap)).heap[g]?=some (.cells #[.pointer (some ⟨g,0,none⟩),.slice ao n' cap] (ρ.t 72) (0,0)):=by simp [World.setCell,Array.getElem?_modify,hb2]
  rw [this] at q1; injection q1 with q1; injection q1 with q1; simpa using q1.symm
 subst hv2; refine ⟨⟨⟨_,.inr rfl,q1⟩,?_,q3⟩,fun k hk=>(hnew k hk).imp id (fun q=>by omega),?_,?_,?_,?_,fun k hk hkg hkv=>?_⟩
 · have e1:byteCells (l++s.data.toList)=byteCells l++strCells s:=by simp [byteCells,strCells]
   rw [e1]; have e2:(byteCells l++strCells s).length=(l++s.data.toList).length:=by simp [byteCells,strCells]
   rw [← e2]; exact q2
 · exact hset.os.trans (hgrow.os.trans hb1.os)
 · exact hset.tape.trans (hgrow.tape.trans hb1.tape)
 · exact hset.output.trans (hgrow.output.trans hb1.output)
 · exact Nat.le_trans (by omega) (Nat.le_trans hgrow.size hset.size)
 · rw [hset.block k (Nat.lt_of_lt_of_le (by omega) hgrow.size) (fun e=>hkg (by injection e)),hgrow.block k (by omega) (fun e=>hkv e.symm),hb1.block k hk (fun e=>hkg (by injection e))]
end
theorem bxW:Builder.Extra zP zbB where
 sizeBuilder:=by kernel_rfl
 liesBuilder:=by kernel_rfl
 t5:=Tryd.underlying5
 a5:=Tryd.isAgg5
 z5:=Tryd.sizeOf5
 v5:=Tryd.zeroValue5
 infoByte:=by kernel_rfl
 cellsByte:=by kernel_rfl
 sizeByte:=by kernel_rfl
 neB5:=by decide
theorem bxS:Builder.Extra zP zmN where
 sizeBuilder:=by kernel_rfl
 liesBuilder:=by kernel_rfl
 t5:=Tryd.underlying5
 a5:=Tryd.isAgg5
 z5:=Tryd.sizeOf5
 v5:=Tryd.zeroValue5
 infoByte:=by kernel_rfl
 cellsByte:=by kernel_rfl
 sizeByte:=by kernel_rfl
 neB5:=by decide
section
variable {P:Program} {ρ:Ren}
structure Same1 (w w':World) (v:Value):Prop where
 os:w'.os=w.os
 tape:w'.tape=w.tape
 output:w'.output=w.output
 size:w'.heap.size=w.heap.size
 block:∀ k,v.ownBlock≠some k→w'.heap[k]?=w.heap[k]?
theorem Same1.freeze (w:World) (g n:Nat) {v:Value} (hv:v.ownBlock=some g):Same1 w (w.drew.freeze ⟨g,0,none⟩ n) v:=by
 unfold World.freeze; split
 · exact ⟨rfl,rfl,rfl,rfl,fun _ _=>rfl⟩
 · refine ⟨rfl,rfl,rfl,by simp,fun k hk=>?_⟩; simp only [Array.getElem?_modify]; rw [if_neg (fun e=>hk (by rw [hv]; exact congrArg some e))]; rfl
set_option maxHeartbeats 2000000 in
set_option maxRecDepth 100000 in
theorem str_call (L:Lays.n169 P ρ) (X:Builder.Extra P ρ) {w:World} {b:Nat} {l:List UInt8} {v:Value} (h:Bld (ρ.t 72) (ρ.t 5) w b l v) (hnil:l=[]→v=.slice none 0 0):Calls P (ρ.f 169) #[.pointer (some ⟨b,0,none⟩)] w fun e w'=>e=.returned (.string ⟨l.toArray⟩)∧Same1 w w' v:=by
 obtain ⟨p,hp,hbk⟩:=h.at_; have mixed:=L.mixed; have t72:=L.t72; have a72:=L.a72; have z72:=L.z72; have v72:=L.v72; have u72:=run_underlying L.t72; have t70:=L.t70; have a70:=L.a70; have z70:=L.z70; have v70:=L.v70; have u70:=run_underlying L.t70; have t37:=L.t37; have a37:=L.a37; have z37:=L.z37; have v37:=L.v37; have u37:=run_underlying L.t37; have t127:=L.t127; have a127:=L.a127; have z127:=L.z127; have v127:=L.v127; have u127:=run_underlying L.t127; have t3:=L.t3; have a3:=L.a3; have z3:=L.z3; have v3:=L.v3; have u3:=run_underlying L.t3; have t9:=L.t9; have a9:=L.a9; have z9:=L.z9; have v9:=L.v9; have u9:=run_underlying L.t9; have t5:=X.t5; have a5:=X.a5; have z5:=X.z5; have v5:=X.v5; have u5:=run_underlying X.t5; by_cases h0:l=[]
 · have hv:=hnil h0; subst h0; subst hv; have hUS:=Any.unsafeString_none L X
   have c1:w.drew.cell? ⟨b,1,none⟩=some (.slice none 0 0):=by have:w.drew.heap[b]?=some (.cells #[p,.slice none 0 0] (ρ.t 72) (0,0)):=hbk; rw [Lib.cell_of_heap this]; rfl
   have hSD:(Builtin.unsafeSliceData_ #[(ρ.t 37)] (ρ.t 127) #[.slice none 0 0]).run P w.drew=.ok (.pointer none) w.drew:=rfl
   go_enter L.f169,Body.n169_ntmps ρ
   go_wp2
   go_region_o
   all_goals (go_wp2; go_ret; exact ⟨rfl,rfl,rfl,rfl,rfl,fun _ _=>rfl⟩)
 · have hl0:l.length≠0:=by simpa using h0
   obtain ⟨g,cap,cur,fz,rfl,hbg,hg,hfz,hnc,hcm,hcs,htake⟩:∃ g cap cur fz,v=.slice (some ⟨g,0,none⟩) l.length cap∧0≤g∧w.heap[g]?=some (.cells cur (ρ.t 5) fz)∧fz.2≤l.length*1∧l.length≤cap∧cap≤maxLen∧cur.size=cap*1∧cur.toList.take (l.length*1)=Lib.byteCells l:=by
    rcases h.own.2 with ⟨_,hz⟩ | ⟨g,cap,cur,fz,hv,r⟩
    · exact absurd hz hl0
    · exact ⟨g,cap,cur,fz,hv,r⟩
   have c1:w.drew.cell? ⟨b,1,none⟩=some (.slice (some ⟨g,0,none⟩) l.length cap):=by have:w.drew.heap[b]?=some (.cells #[p,.slice (some ⟨g,0,none⟩) l.length cap] (ρ.t 72) (0,0)):=hbk; rw [Lib.cell_of_heap this]; rfl
   have hSD:(Builtin.unsafeSliceData_ #[(ρ.t 37)] (ρ.t 127) #[.slice (some ⟨g,0,none⟩) l.length cap]).run P w.drew=.ok (.pointer (some ⟨g,0,none⟩)) w.drew:=
    Lib.run_unsafeSliceData_row _ _ _ _ _ _ (by omega)
   have hUS:(Builtin.unsafeString_ #[(ρ.t 127),(ρ.t 3)] (ρ.t 9) #[.pointer (some ⟨g,0,none⟩),.int .i64 l.length]).run P w.drew=.ok (.string ⟨l.toArray⟩) (w.drew.freeze ⟨g,0,none⟩ l.length):=by refine Lib.run_unsafeString_row w.drew (ρ.t 127) (ρ.t 3) (ρ.t 9) (ρ.t 5) L.t127 X.cellsByte g cur.size (by have hg':w.drew.heap[g]?=some (.cells cur (ρ.t 5) fz):=hg; simp [World.shape?,hg']) l h0 (by omega) (by unfold maxLen at hcm; omega) ?_; intro j x hx; have:=h.own.cells (g:=g) rfl j (.int .u8 x.toNat) (by simp [Lib.byteCells,hx]); exact this
   have hsame:Same1 w (w.drew.freeze ⟨g,0,none⟩ l.length) (.slice (some ⟨g,0,none⟩) l.length cap):=Same1.freeze w g _ rfl
   go_enter L.f169,Body.n169_ntmps ρ
   go_wp2
   go_region_o
   all_goals (go_wp2; go_ret; exact ⟨rfl,hsame⟩)
end
end Go.Proofs.YtdclabgakicjeaaDoor
namespace Go.Ab
open Go.Proofs.YtdclabgakicjeaaDoor
theorem NowP.val [Dr] {w0:World} {S0:Nat→Prop} {κ0:Kap} {K:Nat→Prop} {N:Nat} {a:Act} {w:World} {st:St} {X:Sat2} (h:NowP w0 S0 κ0 K N X st a w) {k:Nat} {x:Value} (hk:get st.t k=.v x):a.eval (.tmp k)=x:=by obtain ⟨S,κ,h1,_⟩:=h; have:=h1.slots k; rw [hk] at this; exact this.v_inv
end Go.Ab
namespace Go.Proofs.YtdclabgakicjeaaDoor
open Go.Ab Go.Shelf Go.RowKit Go.Lib
theorem Bld.keep {T e:TypeId} {w w':World} {g:Nat} {l:List UInt8} {v:Value} (h:Bld T e w g l v) (h1:w'.heap[g]?=w.heap[g]?) (h2:∀ k,v.ownBlock=some k→w'.heap[k]?=w.heap[k]?):Bld T e w' g l v:=by
 obtain ⟨p,hp,hg⟩:=h.at_; refine ⟨⟨p,hp,h1.trans hg⟩,⟨h.own.1,?_⟩,h.ne⟩; rcases h.own.2 with hn | ⟨k,cap,cur,fz,rfl,hb,hgg,rest⟩
 · exact .inl hn
 · exact .inr ⟨k,cap,cur,fz,rfl,hb,(h2 k rfl).trans hgg,rest⟩
def Bd (w0:World) (κ0:Kap) (K:Nat→Prop) (g:Nat) (l:List UInt8):Sat2:=fun S κ L w=>∃ v,Bld (zbB.t 72) (zbB.t 5) w g l v∧(l=[]→v=.slice none 0 0)∧(Far S κ L w g∧Mine w0 κ0 K g)∧∀ k,v.ownBlock=some k→Far S κ L w k∧Mine w0 κ0 K k
theorem Bd.stable {w0:World} {κ0:Kap} {K:Nat→Prop} {g:Nat} {l:List UInt8}:Stable (Bd w0 κ0 K g l):=by
 have far:∀ {S:Nat→Prop} {κ κ':Kap} {L L':Nat→Option Ent} {w:World} {g:Nat},(∀ b g c,(L' b).isSome=true→κ' b=some (g,c)→∃ b0 c0,(L b0).isSome=true∧κ b0=some (g,c0))→Far S κ L w g→Far S κ' L' w g:=fun h1 hf=>⟨hf.1,hf.2.1,fun b c hl hb=>by
  obtain ⟨b0,c0,e1,e2⟩:=h1 b _ c hl hb
  exact hf.2.2 b0 c0 e1 e2⟩
 refine ⟨fun h h1 h2 h3=>?_,fun h h1=>?_⟩
 · obtain ⟨v,hb,hn,hg,ho⟩:=h; exact ⟨v,hb.keep (h2 g hg.1).1 (fun k hk=>(h2 k (ho k hk).1).1),hn,⟨(h2 g hg.1).2,hg.2⟩,fun k hk=>⟨(h2 k (ho k hk).1).2,(ho k hk).2⟩⟩
 · obtain ⟨v,hb,hn,hg,ho⟩:=h; exact ⟨v,hb,hn,⟨far h1 hg.1,hg.2⟩,fun k hk=>⟨far h1 (ho k hk).1,(ho k hk).2⟩⟩
section
variable {w0:World} {S0:Nat→Prop} {κ0:Kap} {K:Nat→Prop} {N:Nat} {a:Act} {w:World} {st:St}
theorem znV {P:Program} {ops:Array Oper} {Q:Exit→Act→World→Prop} {i:Nat} {o:Oper} {K':Act→World→Prop} {f:FuncId} {fo:Operand} {args:Array Operand} {ts:Array TypeId} {caps:Array Value} {Q':Ending→World→Prop}
  (hi:ops[i]?=some o) (hg:o.guard=none) (ho:o.op=.call { callee:=.value fo,args:=args,argTypes:=ts }) (hf:a.eval fo=.func (.func f) #[] caps) (he:enters P f=true)
  (hc:Calls P f (args.map a.eval++caps) w Q') (hQ:∀ e w',Q' e w'→∃ x,e=.returned x∧K' (a.put o.dst x) w'):wpOp P ops Q i K' a w:=by
 unfold enters at he; split at he
 case h_2=>cases he
 rename_i fn hfn; simp only [Bool.and_eq_true,Bool.not_eq_true'] at he; have hbody:¬ fn.body=none:=by cases hq:fn.body <;> simp_all
 have hname:¬ fn.name = "runtime.NumGoroutine":=by simpa using he.2
 have hrun:(execOp a.eval o).run P w=.ok (.enter f (args.map a.eval++caps)) w:=by simp [execOp,ho,resolve,hf,Deferred.ofValue,invoke,callFunc,hfn,hbody,hname]
 unfold wpOp; simp only [hi]; rw [if_pos (by unfold Region.wanted; rw [hg])]; left; unfold Oper.wp; rw [hrun]; simp only [Oper.upon]; refine hc.mono ?_; intro e w' hq; obtain ⟨x,rfl,hk⟩:=hQ e w' hq; exact hk
theorem ws_op {ops:Array Oper} {Q:Exit→Act→World→Prop} {i d x:Nat} {y:Operand} {ts:Array TypeId} {g:Nat} {l:List UInt8} {s:ByteArray} {K':Act→World→Prop}
  (ho:opIs ops i d (.call { callee:=.value (.func zdF),args:=#[.tmp x,y],argTypes:=ts })) (hd:d < N) (h:NowP w0 S0 κ0 K N (Bd w0 κ0 K g l) st a w)
  (hx:get st.t x=.v (.pointer (some ⟨g,0,none⟩))) (hy:a.eval y=.string s) (hl:l.length+s.size≤140737488355328) (hs:s.size≠0)
  (hK:∀ a' w',NowP w0 S0 κ0 K N (Bd w0 κ0 K g (l++s.data.toList)) { st with t:=(d,.tup [I s.size,.v .nilIface]) :: st.t } a' w'→K' a' w'):wpOp zP ops Q i K' a w:=by
 obtain ⟨o,o1,o2,o3,o4⟩:=ho.get; have ex:=h.val hx; obtain ⟨S,κ,h1,v,hb,hn,hg,hown⟩:=h; have hc:=write_call (P:=zP) layWs bxW hb s hl
 refine znV (f:=zdF) (caps:=#[]) (Q':=fun e w'=>e=.returned (.tuple #[.int .i64 s.size,.nilIface])∧∃ v',Wrote (zbB.t 72) (zbB.t 5) w w' g l s.data.toList v v') o1 o4 o3 rfl (by kernel_rfl) (by
  rw [show (#[.tmp x,y]:Array Operand).map a.eval++#[]=#[.pointer (some ⟨g,0,none⟩),.string s] by simp [ex,hy]]
  exact hc) ?_
 rintro e w' ⟨rfl,v',hw⟩
 refine ⟨_,rfl,?_⟩; rw [o2]; have hgood:GoodS w0 S0 κ0 K N S κ st a w':=h1.world hw.os hw.tape ⟨hw.output,fun q=>q.elim⟩ hw.size (fun k hk hq=>hw.block k hk (fun e=>hq (e▸hg)) (fun e=>hq (hown k e))); refine hK _ _ ⟨S,κ,hgood.put hd _ _ (.c (.tup _ _ rfl (fun j c u hj hu=>?_))),v',hw.bld,fun e=>?_,⟨⟨Nat.lt_of_lt_of_le hg.1.1 hw.size,hg.1.2⟩,hg.2⟩,fun k hk=>?_⟩
 · match j with
   | 0=>simp at hj hu; subst hj; subst hu; exact .v _
   | 1=>simp at hj hu; subst hj; subst hu; exact .v _
   | j+2=>simp at hj
 · have:s.data.toList=[]:=(List.append_eq_nil_iff.1 e).2; exact absurd (by rw [← Array.length_toList,this]; rfl:s.data.size=0) hs
 · rcases hw.own k hk with q | q
   · exact ⟨⟨Nat.lt_of_lt_of_le (hown k q).1.1 hw.size,(hown k q).1.2⟩,(hown k q).2⟩
   · refine ⟨⟨(hw.bld.own.lt k hk).2,fun hS=>?_,fun b c hl hkb=>?_⟩,.inl (Nat.le_trans h1.grow q)⟩
     · exact absurd (h1.slt k hS) (Nat.not_lt.2 q)
     · obtain ⟨ent,he⟩:=Option.isSome_iff_exists.1 hl; have hE:=h1.ents b ent he; rw [hkb] at hE; exact absurd hE.lt (Nat.not_lt.2 q)
theorem str_op {ops:Array Oper} {Q:Exit→Act→World→Prop} {i d x:Nat} {ts:Array TypeId} {g:Nat} {l:List UInt8} {K':Act→World→Prop}
  (ho:opIs ops i d (.call { callee:=.value (.func zeW),args:=#[.tmp x],argTypes:=ts })) (hd:d < N) (h:NowP w0 S0 κ0 K N (Bd w0 κ0 K g l) st a w)
  (hx:get st.t x=.v (.pointer (some ⟨g,0,none⟩)))
  (hK:∀ a' w',NowP w0 S0 κ0 K N (fun _ _ _ _=>True) { st with t:=(d,.v (.string (tx l))) :: st.t } a' w'→K' a' w'):wpOp zP ops Q i K' a w:=by
 obtain ⟨o,o1,o2,o3,o4⟩:=ho.get; have ex:=h.val hx; obtain ⟨S,κ,h1,v,hb,hn,hg,hown⟩:=h; have hc:=str_call (P:=zP) layStr bxS hb hn
 refine znV (f:=zeW) (caps:=#[]) (Q':=fun e w'=>e=.returned (.string ⟨l.toArray⟩)∧Same1 w w' v) o1 o4 o3 rfl (by kernel_rfl) (by
  rw [show (#[.tmp x]:Array Operand).map a.eval++#[]=#[.pointer (some ⟨g,0,none⟩)] by simp [ex]]
  exact hc) ?_
 rintro e w' ⟨rfl,hw⟩
 refine ⟨_,rfl,?_⟩; rw [o2]; have hgood:GoodS w0 S0 κ0 K N S κ st a w':=h1.world hw.os hw.tape ⟨hw.output,fun q=>q.elim⟩ (by rw [hw.size]; exact Nat.le_refl _) (fun k hk hq=>hw.block k (fun e=>hq (hown k e))); exact hK _ _ ⟨S,κ,hgood.put hd _ _ (.c (.v _)),trivial⟩
end
section
variable {w0:World} {S0:Nat→Prop} {κ0:Kap} {K:Nat→Prop} {N:Nat} {a:Act} {w:World} {st:St}
theorem zero131:(zP.info? (zbB.t 72)).bind (·.zero)=some (.agg #[.pointer none,.slice none 0 0]):=by kernel_rfl
theorem new_op {ops:Array Oper} {Q:Exit→Act→World→Prop} {i d:Nat} {K':Act→World→Prop} (ho:opIs ops i d (.alloc (zbB.t 72))) (hd:d < N) (h:NowP w0 S0 κ0 K N (fun _ _ _ _=>True) st a w)
  (hK:∀ g a' w',NowP w0 S0 κ0 K N (Bd w0 κ0 K g []) { st with t:=(d,.v (.pointer (some ⟨g,0,none⟩))) :: st.t } a' w'→K' a' w'):wpOp zP ops Q i K' a w:=by
 obtain ⟨o,o1,o2,o3,o4⟩:=ho.get; obtain ⟨S,κ,h1,_⟩:=h
 obtain ⟨i0,hi,hz⟩:∃ i0,zP.info? (zbB.t 72)=some i0∧i0.zero=some (.agg #[.pointer none,.slice none 0 0]):=by
  have:=zero131
  cases hi:zP.info? (zbB.t 72) with
  | none=>rw [hi] at this; cases this
  | some i0=>rw [hi] at this; exact ⟨i0,rfl,this⟩
 have hrun:(execOp a.eval o).run zP w=.ok (.value (.pointer (some ⟨w.heap.size,0,none⟩))) (w.alloc (.cells #[.pointer none,.slice none 0 0] (zbB.t 72) (0,0))):=by simp only [execOp,o3,Instr.alloc,Sem.run_bind,zb8 hi hz,Result.andThen_ok]; simp [newVar,newRow,Value.cells]
 refine zhT o1 o4 hrun ?_; rw [o2]; have hold:∀ k,k < w.heap.size→(w.alloc (.cells #[.pointer none,.slice none 0 0] (zbB.t 72) (0,0))).heap[k]?=w.heap[k]?:=fun k hk=>heap_alloc_old w _ hk
 have hgood:GoodS w0 S0 κ0 K N S κ st a (w.alloc (.cells #[.pointer none,.slice none 0 0] (zbB.t 72) (0,0))):=h1.world rfl rfl .of (by simp) (fun k hk _=>hold k hk)
 have hat:(w.alloc (.cells #[.pointer none,.slice none 0 0] (zbB.t 72) (0,0))).heap[w.heap.size]?=some (.cells #[.pointer none,.slice none 0 0] (zbB.t 72) (0,0)):=by show (w.heap.push _)[w.heap.size]?=_; rw [Array.getElem?_push,if_pos rfl]
 refine hK w.heap.size _ _ ⟨S,κ,hgood.put hd _ _ (.c (.v _)),.slice none 0 0,⟨⟨_,.inl rfl,hat⟩,World.ownsRowF_nil _ _ _ _,by simp [Value.ownBlock]⟩,fun _=>rfl,⟨⟨by simp,fun hS=>?_,fun b c hl hkb=>?_⟩,.inl h1.grow⟩,fun k hk=>by simp [Value.ownBlock] at hk⟩
 · exact absurd (h1.slt _ hS) (Nat.lt_irrefl _)
 · obtain ⟨ent,he⟩:=Option.isSome_iff_exists.1 hl; have hE:=h1.ents b ent he; rw [hkb] at hE; exact absurd hE.lt (Nat.lt_irrefl _)
end
end Go.Proofs.YtdclabgakicjeaaDoor
namespace Go.Proofs.YtdclabgakicjeaaDoor
open Go.Ab Go.Str
set_option maxRecDepth 100000
def scC:Code:=(zau.fn.body).getD .skip
def scO (j:Nat):Array Oper:=opsAt j scC
def scD (j:Nat):Bool:=drawnAt j scC
theorem sc_hb:zau.fn.body=some scC:=by kernel_rfl
theorem sc_shape:scC=(.seq (.region 0 (scO 0) (scD 0)) (.seq (.seq (.region 1 (scO 1) (scD 1)) (.cond (.tmp 11) (.seq (.region 2 (scO 2) (scD 2)) .ret) .skip)) (.seq (.region 3 (scO 3) false) (.seq (.seq (.region 4 (scO 4) (scD 4)) (.block 0 (.loop (.seq (.region 5 (scO 5) (scD 5)) (.seq (.cond (.tmp 15) .skip (.exit 0)) (.seq (.block 1 (.seq (.region 6 (scO 6) (scD 6)) (.seq (.region 7 (scO 7) (scD 7)) (.seq (.seq (.region 8 (scO 8) (scD 8)) (.cond (.tmp 24) (.seq (.region 9 (scO 9) (scD 9)) .ret) .skip)) (.region 10 (scO 10) false))))) (.region 11 (scO 11) (scD 11)))))))) (.seq (.region 12 (scO 12) false) .ret))))):=by kernel_rfl
theorem sc_r0:regOf 0 scC=some (.region 0 (scO 0) (scD 0)):=by kernel_rfl
theorem sc_r1:regOf 1 scC=some (.region 1 (scO 1) (scD 1)):=by kernel_rfl
theorem sc_r2:regOf 2 scC=some (.region 2 (scO 2) (scD 2)):=by kernel_rfl
theorem sc_r4:regOf 4 scC=some (.region 4 (scO 4) (scD 4)):=by kernel_rfl
theorem sc_r5:regOf 5 scC=some (.region 5 (scO 5) (scD 5)):=by kernel_rfl
theorem sc_r6:regOf 6 scC=some (.region 6 (scO 6) (scD 6)):=by kernel_rfl
theorem sc_r7:regOf 7 scC=some (.region 7 (scO 7) (scD 7)):=by kernel_rfl
theorem sc_r8:regOf 8 scC=some (.region 8 (scO 8) (scD 8)):=by kernel_rfl
theorem sc_r9:regOf 9 scC=some (.region 9 (scO 9) (scD 9)):=by kernel_rfl
theorem sc_r10:regOf 10 scC=some (.region 10 (scO 10) false):=by kernel_rfl
theorem sc_r11:regOf 11 scC=some (.region 11 (scO 11) (scD 11)):=by kernel_rfl
theorem sc_r12:regOf 12 scC=some (.region 12 (scO 12) false):=by kernel_rfl
theorem sc_n:zau.fn.ntmps≤1000:=by decide
theorem sc_enters:enters zau.P zcg=true:=by kernel_rfl
theorem zmO (o:GOp) (r:List GOp):linesS (o :: r)=match fmtS o,linesS r with
  | some l,some t=>some (l++10 :: t)
  | _,_=>none:=rfl
theorem zkG:∀ (a b:List GOp),linesS (a++b)=(linesS a).bind fun s=>(linesS b).map fun t=>s++t
 | [],b=>by rw [List.nil_append,show linesS []=some [] from rfl]; cases linesS b <;> rfl
 | o :: a,b=>by
   rw [List.cons_append,zmO,zmO,zkG a b]
   cases fmtS o with
   | none=>rfl
   | some l =>
     cases linesS a with
     | none=>rfl
     | some s =>
       simp only [Option.bind_some]
       cases linesS b with
       | none=>rfl
       | some t=>simp
theorem mapO_enc (D:TyD) {es:List (List AV)} {l:List D.α} (h:mapO D.dec es=some l):es=List.map D.enc l:=by
 have:=zmn (f:=id) (t:=D.enc) h (fun a c _ hc=>D.ok a c hc)
 rwa [List.map_id] at this
theorem mapO_dec (D:TyD):∀ l:List D.α,mapO D.dec (List.map D.enc l)=some l
 | []=>rfl
 | x :: r=>by rw [List.map_cons]; unfold mapO; rw [D.de,mapO_dec D r]
theorem fmt_len {o:GOp} (ho:OpW o) {l:List UInt8} (h:fmtS o=some l):l.length≤200000:=by
 unfold fmtS at h; split at h
 case isFalse=>cases h
 rename_i hc; injection h with h; subst h; obtain ⟨hW,hok,_⟩:=hc; generalize zbo o=W at hW hok; have hlen:=zhh W
 have hj:=zgU (k:=21000) 32 (kw W :: (slotsC W).map (wordC o)) (fun w hw=>by
  rcases List.mem_cons.1 hw with rfl | hw
  · have:=kw_len W; omega
  · obtain ⟨p,hp,rfl⟩:=List.mem_map.1 hw
    exact word_len ho p (hok p hp))
 unfold lineS; simp only [List.length_cons,List.length_map] at hj; omega
section
variable {w0:World} {S0:Nat→Prop} {κ0:Kap} {K:Nat→Prop} {a:Act} {w:World}
theorem scStep {X:Sat2} (hX:Stable X) {j:Nat} {st st':St} (hr:regOf j scC=some (.region j (scO j) (scD j))) (ht:tReg zau zT j st=some st')
  (h:NowP w0 S0 κ0 K zau.fn.ntmps X st a w) {Q:Exit→Act→World→Prop} (hQ:∀ a' w',NowP w0 S0 κ0 K zau.fn.ntmps X st' a' w'→Q .normal a' w'):(Code.region j (scO j) (scD j)).wp zau.P Q a w:=stepP hX sc_hb sc_n hr ht h hQ
abbrev stS (l:List GOp) (g:Nat) (i:Int):St:=⟨[(4,AV.v (.pointer (some ⟨g,0,none⟩))),(12,AV.sl 31 (List.map nGOp l)),(13,I l.length),(14,I i)],[]⟩
theorem sc9b:tReg zau zT 9 ⟨[(8,I 1)],[]⟩=some ⟨[(2,AV.v (.string (tx []))),(3,I 1)],[]⟩:=by kernel_rfl
theorem sc_body {l:List GOp} (hl:∀ o∈l,OpW o) (h:NowP w0 S0 κ0 K zau.fn.ntmps X0 ⟨[(0,AV.sl 31 (List.map nGOp l))],[]⟩ a w):scC.wp zau.P (PostC w0 S0 κ0 K zau.fn.ntmps .ret (stOut (scrR l))) a w:=by
 have fin:∀ {X:Sat2} a' w',NowP w0 S0 κ0 K zau.fn.ntmps X (stOut (scrR l)) a' w'→PostC w0 S0 κ0 K zau.fn.ntmps .ret (stOut (scrR l)) .ret a' w':=fun a' w' hn=>by obtain ⟨S,κ,hg,_⟩:=hn; exact ⟨rfl,S,κ,hg⟩
 rw [sc_shape]; refine wp_seq (scStep Stable.none sc_r0 (sc0 l) h (fun a1 w1 h1=>?_)); refine wp_seq (wp_seq (scStep Stable.none sc_r1 (sc1 l) h1 (fun a2 w2 h2=>?_))); refine wp_cond (h2.bool (b:=decide (300 < ((List.map nGOp l).length:Int))) rfl) ?_; by_cases h3:300 < l.length
 · rw [decide_eq_true (by rw [List.length_map]; omega),if_pos rfl]; have h4:=h2.trim Stable.none [] [] (st':=⟨[],[]⟩) (by kernel_rfl); refine wp_seq (scStep Stable.none sc_r2 (sc2 ()) h4 (fun a5 w5 h5=>wp_ret (fin (X:=X0) a5 w5 ?_))); unfold scrR; rw [if_pos h3]; exact h5
 rw [decide_eq_false (by rw [List.length_map]; omega),iNs]; refine wp_skip ?_; have h4:=h2.trim Stable.none [0] [] (st':=⟨[(0,AV.sl 31 (List.map nGOp l))],[]⟩) (by kernel_rfl); have z3:(scO 3).size=1:=by kernel_rfl
 refine wp_seq (wp_region ?_); rw [z3,show List.range 1=[0] from rfl,wpOps_cons]; refine new_op (d:=4) (by unfold opIs; kernel_rfl) (by decide) h4 (fun g a5 w5 h5=>?_); show (Code.wp _ _ _ a5 w5); have h6:=h5.trim Bd.stable [0,4] [] (st':=⟨[(0,AV.sl 31 (List.map nGOp l)),(4,AV.v (.pointer (some ⟨g,0,none⟩)))],[]⟩) (by kernel_rfl); refine wp_seq (wp_seq (scStep Bd.stable sc_r4 (sc4 l g) h6 (fun a7 w7 h7=>?_))); rw [List.length_map] at h7; refine wp_block (wp_loop (fun a w=>∃ k:Nat,k≤l.length∧∃ t,linesS (l.take k)=some t∧t.length≤200001*k∧NowP w0 S0 κ0 K zau.fn.ntmps (Bd w0 κ0 K g t) (stS l g k) a w) (fun a _=>l.length - cnt a 14) ⟨0,Nat.zero_le _,[],rfl,Nat.zero_le _,h7⟩ ?_)
 rintro a w ⟨k,hk,t,ht,htl,hn⟩
 have hc0:cnt a 14=k:=by rw [hn.cnt (n:=(k:Int)) rfl]; simp
 refine wp_seq (scStep Bd.stable sc_r5 (sc5 l g l.length k) hn (fun a8 w8 h8=>?_)); refine wp_seq (wp_cond (h8.bool (b:=decide ((k:Int) < l.length)) rfl) ?_); by_cases hlt:k < l.length
 rotate_left
 · rw [decide_eq_false (by omega),iNs]; have hkl:k=l.length:=by omega
   rw [hkl,List.take_length] at ht; refine wp_exit (wp_seq (wp_region ?_)); have z12:(scO 12).size=3:=by kernel_rfl
   rw [z12,show List.range 3=0 :: (List.range' 1 2++[]) from rfl,wpOps_cons]; refine str_op (ts:=#[tyB]) (d:=30) (x:=4) (by unfold opIs; kernel_rfl) (by decide) h8 rfl (fun a9 w9 h9=>?_); have hA:=h9.trim Stable.none [30] [] (st':=⟨[(30,AV.v (.string (tx t)))],[]⟩) (by kernel_rfl); refine segP Stable.none sc_hb sc_n sc_r12 (sc12 (tx t)) (by rw [z12]; decide) hA (fun aB wB hB=>?_); refine wp_ret (fin (X:=X0) aB wB ?_); have e:scrR l=(t,0):=by unfold scrR; rw [if_neg h3,ht]
   rw [e]; exact hB.trim Stable.none [2,3] [] (by kernel_rfl)
 rw [decide_eq_true (by omega),if_pos rfl]; refine wp_skip ?_; have h9:=h8.trim Bd.stable [4,12,13,14] [] (st':=stS l g k) (by kernel_rfl); have t6:=sc6 l g l.length k; rw [cPQ,zhb,show ((k:Nat):Int).toNat=k from rfl,List.getElem?_eq_getElem hlt,Option.bind_some] at t6; refine wp_seq (wp_block (wp_seq (scStep Bd.stable sc_r6 t6 h9 (fun aA wA hA=>?_)))); have hoW:OpW l[k]:=hl _ (List.getElem_mem hlt); have t7:=sc7 l g l.length k l[k]; rw [zl6 hoW,zcE] at t7; refine wp_seq (scStep Bd.stable sc_r7 t7 hA (fun aB wB hB=>?_)); refine wp_seq (wp_seq (scStep Bd.stable sc_r8 (sc8 l g l.length k _ _) hB (fun aC wC hC=>?_))); refine wp_cond (hC.bool (b:=((fmtR l[k]).2 != 0)) rfl) ?_
 have htk:linesS (l.take (k+1))=(fmtS l[k]).map fun s=>t++(s++[10]):=by rw [List.take_add_one,zkG,ht,Option.bind_some,List.getElem?_eq_getElem hlt]; show (match fmtS l[k],linesS [] with | some l,some t=>some (l++10 :: t) | _,_=>none).map _=_; rw [show linesS []=some [] from rfl]; cases fmtS l[k] <;> rfl
 cases hf:fmtS l[k] with
 | none =>
   have e1:fmtR l[k]=([],1):=by unfold fmtR; rw [hf]
   rw [e1,show ((1:Int) != 0)=true from rfl,if_pos rfl]; rw [e1] at hC; have hD:=hC.trim Bd.stable [8] [] (st':=⟨[(8,I 1)],[]⟩) (by kernel_rfl); refine wp_seq (scStep Bd.stable sc_r9 sc9b hD (fun aE wE hE=>wp_ret (fin (X:=Bd w0 κ0 K g t) aE wE ?_)))
   have e:scrR l=([],1):=by
    have hnone:linesS l=none:=by rw [← List.take_append_drop (k+1) l,zkG,htk,hf]; rfl
    unfold scrR; rw [if_neg h3,hnone]
   rw [e]; exact hE
 | some s =>
   have e1:fmtR l[k]=(s,0):=by unfold fmtR; rw [hf]
   rw [e1,show ((0:Int) != 0)=false from rfl,iNs]; rw [e1] at hC; refine wp_skip ?_; have hsl:=fmt_len hoW hf; have hD:=hC.trim Bd.stable [4,7,12,13,14] [] (st':=⟨[(4,AV.v (.pointer (some ⟨g,0,none⟩))),(7,AV.v (.string (tx s))),(12,AV.sl 31 (List.map nGOp l)),(13,I l.length),(14,I k)],[]⟩) (by kernel_rfl); have z10:(scO 10).size=3:=by kernel_rfl
   refine wp_region ?_; rw [z10,show List.range 3=List.range' 0 2++[2] from rfl]; have t10:=sc10 l g l.length k (tx s); rw [zao (by rw [zbi]; show s.length+1≤_; omega),show tx s++nl=tx (s++[10]) from zdY s [10]] at t10; refine segP Bd.stable sc_hb sc_n sc_r10 t10 (by rw [z10]; decide) hD (fun aE wE hE=>?_); rw [wpOps_cons]; refine ws_op (ts:=#[tyB,9]) (d:=28) (x:=4) (y:=.tmp 27) (s:=tx (s++[10])) (by unfold opIs; kernel_rfl) (by decide) hE rfl (hE.val rfl) (by rw [zbi,List.length_append]; simp only [List.length_cons,List.length_nil]; omega) (by rw [zbi,List.length_append]; simp) (fun aF wF hF=>?_); rw [zc7] at hF; have hG:=hF.trim Bd.stable [4,12,13,14] [] (st':=stS l g k) (by kernel_rfl); show Exit.inBlock 1 _ .normal aF wF; refine scStep Bd.stable sc_r11 (sc11 l g l.length k) hG (fun aH wH hH=>?_); rw [w6Q] at hH; refine ⟨⟨k+1,hlt,t++(s++[10]),by rw [htk,hf]; rfl,by simp only [List.length_append,List.length_cons,List.length_nil]; omega,by exact_mod_cast hH⟩,?_⟩; have:cnt aH 14=k+1:=by rw [hH.cnt (n:=(k:Int)+1) rfl]; omega
   show l.length - cnt aH 14 < l.length - cnt a 14; omega
theorem scr_ok:CallOK zP (single zcg zOrc):=by
 refine ora (o:=oScr) (fun args=>by unfold zOrc; simp (decide:=true) only [if_false,if_true]) sc_enters (fun args r ms' hr=>?_); unfold oScr at hr; split at hr
 case h_2=>cases hr
 rename_i es; split at hr
 case h_2=>cases hr
 rename_i l hd; split at hr
 case isFalse=>cases hr
 rename_i ho; injection hr with hr; injection hr with h1 h2; subst h1 h2; have he:es=List.map nGOp l:=mapO_enc dGOp hd; subst he; refine ⟨rfl,fun w S κ vals hvl hS hk hv=>?_⟩; have hf:zau.P.funcs[zcg]?=some zau.fn:=by kernel_rfl
 refine ziw (args:=[AV.sl 31 (List.map nGOp l)]) (ms:=[]) (frz:=false) (ex:=.ret) (st:=stOut (scrR l)) hf sc_hb (show 1≤zau.fn.ntmps by decide) hvl hS hk hv (fun b ent hb=>by simp [Ab.look] at hb) (fun b b' g c c' hd=>by simp [Dm,Ab.look] at hd) (fun id=>by simp) (fun a hg=>?_) ?_ ?_ ?_
 · obtain ⟨S,κ,hg⟩:=hg; exact sc_body ho ⟨S,κ,hg,trivial⟩
 · kernel_rfl
 · kernel_rfl
 · kernel_rfl
theorem c_Script {l:List GOp} (hl:∀ o∈l,OpW o):cw zcg [.sl 31 (List.map nGOp l)] []=some (zd9 (tx (scrR l).1,(scrR l).2)):=by refine zf9 scr_ok ?_; have hd:mapO dGOp.dec (List.map nGOp l)=some l:=mapO_dec dGOp l; show oScr [.sl 31 (List.map nGOp l)]=_; simp only [oScr,hd]; rw [if_pos hl]; rfl
end
set_option maxRecDepth 100000
theorem kw_line:∀ W < 12,(10:UInt8) ∉ kw W:=by decide
theorem znv {c:UInt8}:∀ (ws:List (List UInt8)),c≠32→(∀ w∈ws,c ∉ w)→c ∉ Lib.join ws [32]
 | [],_,_=>by simp [Lib.join]
 | [w],h,hw=>by rw [show Lib.join [w] [32]=w by simp [Lib.join]]; exact hw w (by simp)
 | w :: v :: r,h,hw=>by
   have ih:=znv (v :: r) h (fun x hx=>hw x (by simp [hx])); rw [show Lib.join (w :: v :: r) [32]=w++32 :: Lib.join (v :: r) [32] by simp [Lib.join,List.intercalate]]; intro hc; rcases List.mem_append.1 hc with hc | hc
   · exact hw w (by simp) hc
   · rcases List.mem_cons.1 hc with hc | hc
     · exact h hc
     · exact ih hc
theorem line_free {W:Nat} (hW:W < 12) (o:GOp):(10:UInt8) ∉ lineS W o:=by
 refine znv _ (by decide) (fun w hw=>?_); rcases List.mem_cons.1 hw with rfl | hw
 · exact kw_line W hW
 · obtain ⟨p,_,rfl⟩:=List.mem_map.1 hw; unfold wordC; split
   · exact zm8 (by decide) (by decide) (by decide)
   · exact ziy (by decide) (by decide)
theorem fmt_back {o:GOp} {l:List UInt8} (h:fmtS o=some l):parS l=some o∧(10:UInt8) ∉ l:=by
 unfold fmtS at h; split at h
 · rename_i hc; obtain ⟨hW,hok,hcp⟩:=hc; injection h with h; subst h; refine ⟨?_,line_free hW o⟩; rw [par_line hW,if_pos hok,hcp]
 · cases h
theorem znO:∀ (l:List GOp) (t:List UInt8) (acc:List GOp) (n:Int),linesS l=some t→acc.length+l.length≤300→readP (splitC 10 t) acc n=(acc++l,0,0)
 | [],t,acc,n,h,hl=>by rw [show linesS []=some [] from rfl] at h; injection h with h; subst h; simp only [List.length_nil] at hl; rw [show splitC 10 []=[[]] from rfl,readP,if_pos rfl,iNQ,List.append_nil]
 | o :: r,t,acc,n,h,hl=>by
   rw [zev] at h; split at h
   · rename_i a b ha hb; injection h with h; subst h; obtain ⟨h1,h2⟩:=fmt_back ha; rw [zhx 10 a b h2]
     obtain ⟨y,s,hy⟩:∃ y s,splitC 10 b=y :: s:=by
      cases h:splitC 10 b with
      | nil=>exact absurd h (zhi 10 _)
      | cons y r=>exact ⟨y,r,rfl⟩
     simp only [List.length_cons] at hl; rw [hy,zm1 h1,← hy,znO r b (acc++[o]) (n+1) hb (by simp; omega),List.append_assoc]; rfl
   · cases h
theorem lines_ok:∀ (l:List GOp),(∀ o∈l,fmtS o≠none)→∃ t,linesS l=some t
 | [],_=>⟨[],rfl⟩
 | o :: r,h=>by
   obtain ⟨t,ht⟩:=lines_ok r (fun q hq=>h q (by simp [hq]))
   cases ho:fmtS o with
   | none=>exact absurd ho (h o (by simp))
   | some a=>exact ⟨a++10 :: t,by rw [zev,ho,ht]⟩
theorem zmP:∀ (l:List GOp) (o:GOp) (t a:List UInt8),linesS l=some t→fmtS o=some a→linesS (l++[o])=some (t++(a++[10]))
 | [],o,t,a,h,ho=>by rw [show linesS []=some [] from rfl] at h; injection h with h; subst h; rw [List.nil_append,zev,ho]; rfl
 | q :: r,o,t,a,h,ho=>by
   rw [zev] at h; split at h
   · rename_i b c hb hc; injection h with h; subst h; rw [List.cons_append,zev,hb,zmP r o c a hc ho]; simp
   · cases h
set_option maxRecDepth 100000
def opA:GOp:=⟨0,⟨7,3,0⟩,⟨0,0,0,0,0,[],[]⟩,⟨⟨0,0,0⟩,0,0,0,0,0,[]⟩,⟨0,0⟩,⟨⟨0,0,0⟩,0,0,0⟩,[],0,0⟩
def opB:GOp:=⟨5,⟨0,0,0⟩,⟨0,0,0,0,0,[],[]⟩,⟨⟨0,0,0⟩,0,0,0,0,0,[]⟩,⟨0,0⟩,⟨⟨0,0,0⟩,0,0,0⟩,[70,60,50],5,0⟩
def opC:GOp:=⟨6,⟨0,0,0⟩,⟨0,0,0,0,0,[],[]⟩,⟨⟨0,0,0⟩,0,0,0,0,0,[]⟩,⟨0,0⟩,⟨⟨0,0,0⟩,0,0,0⟩,[],4,0⟩
def opD:GOp:=⟨7,⟨0,0,0⟩,⟨0,0,0,0,0,[],[]⟩,⟨⟨0,0,0⟩,0,0,0,0,0,[]⟩,⟨0,0⟩,⟨⟨0,0,0⟩,0,0,0⟩,[],5,0⟩
theorem s_A:parR [101,110,116,114,121,32,55,32,51,32,48]=(opA,0):=by kernel_rfl
theorem s_B:parR [98,111,117,110,100,115,32,53,32,55,48,44,54,48,44,53,48]=(opB,0):=by kernel_rfl
theorem s_E:parR [101,110,116,114,121,32,55,32,51]=(zOp,7):=by kernel_rfl
theorem s_R:readS [112,117,98,108,105,115,104,32,52,10,99,101,114,116,105,102,121,32,53,10]=([opC,opD],0,0):=by kernel_rfl
theorem itoa1 {n:Nat} (h:n < 10):Lib.itoa (n:Int)=[UInt8.ofNat (48+n)]:=by unfold Lib.itoa; rw [iNQ,Lib.decDigits,Int.toNat_natCast,dif_pos h]
theorem s_F:fmtR opA=([101,110,116,114,121,32,55,32,51,32,48],0):=by
 have h:OkO opA:=zie ⟨by decide,by decide⟩ ⟨by decide,by decide⟩ ⟨by decide,by decide⟩
 have e:fmtS opA=some (lineS 0 opA):=by
  have hf:zbo opA=0:=znx (by decide) rfl; unfold fmtS
  rw [hf,if_pos ⟨by decide,fun p hp=>by
   simp only [slotsC,List.mem_cons,List.not_mem_nil,or_false] at hp
   rcases hp with rfl | rfl | rfl <;> exact okN ⟨by decide,by decide⟩,rfl⟩]
 unfold fmtR; rw [e]; have l:lineS 0 opA=Lib.join [kw 0,Lib.itoa (7:Nat),Lib.itoa (3:Nat),Lib.itoa (0:Nat)] [32]:=rfl; rw [l,itoa1 (by decide),itoa1 (by decide),itoa1 (by decide)]; rfl
theorem s_O:outS ⟨3,0,1,6,0⟩=[51,32,103,114,97,100,101,32,49,32,54]:=by have l:outS ⟨3,0,1,6,0⟩=(Lib.itoa (3:Nat)++[32,103,114,97,100,101])++32 :: Lib.itoa (1:Nat)++32 :: Lib.itoa (6:Nat):=rfl; rw [l,itoa1 (by decide),itoa1 (by decide),itoa1 (by decide)]; rfl
theorem c_sane:cw zgl [] []=some (zay true):=by
 refine zoo ?_; have hA:OpW opA:=(zie (a:=7) (b:=3) (c:=0) ⟨by decide,by decide⟩ ⟨by decide,by decide⟩ ⟨by decide,by decide⟩).2; have w:∀ {n:Int},(-1000≤n∧n≤1000)→W64 n:=fun h=>by unfold W64; omega
 rw [show (zgh:ByteArray)=tx [101,110,116,114,121,32,55,32,51,32,48] from rfl,show (zir:ByteArray)=tx [98,111,117,110,100,115,32,53,32,55,48,44,54,48,44,53,48] from rfl,show (zis:ByteArray)=tx [101,110,116,114,121,32,55,32,51] from rfl,show (zit:ByteArray)=tx [112,117,98,108,105,115,104,32,52,10,99,101,114,116,105,102,121,32,53,10] from rfl,show (ziu:ByteArray)=tx [51,32,103,114,97,100,101,32,49,32,54] from rfl,zi1 (by decide),zcb,zi1 (by decide),zcb,s_A,s_B]; simp only; rw [zl6 hA,zcE,zi1 (by decide),zcb,s_E,s_F,c_Read (by decide),zg8,s_R,c_Outcome ⟨w (by decide),w (by decide),w (by decide),w (by decide)⟩,za4,s_O]; rfl
theorem zkH:∀ (l:List GOp) (t:List UInt8),(∀ o∈l,OpW o)→linesS l=some t→t.length≤200001*l.length
 | [],t,_,h=>by rw [show linesS []=some [] from rfl] at h; injection h with h; subst h; simp
 | o :: r,t,hw,h=>by
   rw [zev] at h; split at h
   · rename_i a b ha hb; injection h with h; subst h; have h1:=fmt_len2 (hw o (by simp)) ha; have h2:=zkH r b (fun x hx=>hw x (by simp [hx])) hb; simp only [List.length_append,List.length_cons]; omega
   · cases h
set_option maxRecDepth 100000
theorem k_back (l:List GOp) (d:zaa) (hl:OkOps l) (hn:l.length≤100) (t:List UInt8) (ht:linesS l=some t):zbU (l,d) (tx t,0) (tx []) (0:Nat)=some (zay true):=by
 have loop:∀ (m i:Nat) (s:List UInt8),i+m=l.length→linesS (l.take i)=some s→zbU (l,d) (tx t,0) (tx s) (i:Nat)=some (zay true):=by
  intro m
  induction m with
  | zero =>
    intro i s hi hs; have hil:i=l.length:=by omega
    rw [hil,List.take_length,ht] at hs; injection hs with hs; subst hs; refine zgd _ _ _ _ ?_; rw [zaA (by rw [List.length_map]; dsimp only; omega),tx_beq,decide_eq_true rfl,zaD,c_sane,zaE]; rfl
  | succ m ih =>
    intro i s hi hs; have hlt:i < l.length:=by omega
    obtain ⟨h1,h2⟩:=hl _ (List.getElem_mem hlt)
    cases ho:fmtS l[i] with
    | none=>exact absurd ho h1
    | some a =>
      have e:fmtR l[i]=(a,0):=by unfold fmtR; rw [ho]
      have ha:=fmt_len2 h2 ho; have hb:=fmt_back ho; have hp:parR a=(l[i],0):=by unfold parR; rw [hb.1]
      have hsl:=zkH (l.take i) s (fun q hq=>(hl q (List.mem_of_mem_take hq)).2) hs; rw [List.length_take] at hsl; obtain ⟨s1,s2,s3,s4⟩:=(parS_sm hb.1).smo; refine zgd _ _ _ _ ?_; rw [zax (by rw [List.length_map]; dsimp only; omega),cPQ,zao (by rw [List.length_map]; dsimp only; omega),zhb,Nat.zero_add,Int.toNat_natCast]; simp only; rw [List.getElem?_eq_getElem hlt,Option.bind_some,zl6 h2,zcE,e]; simp only; rw [zi1 (by omega),zcb,hp,show ((0:Int) != 0)=false from rfl,zat,zat,cPQ,zao (by rw [List.length_map]; omega),zhb,List.getElem?_eq_getElem hlt,Option.bind_some,c_rSame _ _ s1 s2 s3 s4,zaE,decide_eq_true rfl,Bool.not_true,zat,show (zcj:ByteArray)=tx [10] from rfl,zdY,zdY,zao (by rw [zbi,zbi]; simp; omega),zao (by rw [zbi,zbi]; simp; omega),w6Q,show ((i:Nat):Int)+1=((i+1:Nat):Int) by omega]; exact ih (i+1) _ (by omega) (by rw [List.take_succ_eq_append_getElem hlt]; exact zmP _ _ _ _ hs ho)
 exact loop l.length 0 [] (by omega) rfl
theorem law_Back (t:List Int) (w:World):cw zgK [.sl 1 (List.map zai t)] []=some (zay true):=by
 refine zkd t ?_; rw [c_Light,zaE]; by_cases h0:(t.length:Int)≤600
 rotate_left
 · rw [decide_eq_false h0,Bool.not_false,zaD,c_sane,zaE]; rfl
 rw [decide_eq_true h0,Bool.not_true,zat,c_Roll,zmz]; have hd:DOk ⟨t,0⟩:=⟨Int.le_refl 0,by show t.length≤600; omega⟩
 obtain ⟨r,d0,e0,hr,hd0⟩:=c_Rules ⟨t,0⟩ hd; obtain ⟨l,d1,e1,ho1,hl1,hd1⟩:=c_Ops d0 r 10 hd0 hr (by decide); have hlw:∀ q∈l,OpW q:=fun q hq=>(ho1 q hq).2
 obtain ⟨s,hs⟩:=lines_ok l (fun q hq=>(ho1 q hq).1); have hsl:=zkH l s hlw hs; have e2:scrR l=(s,0):=by unfold scrR; rw [iNQ,hs]
 have e3:readS s=(l,0,0):=by have:=znO l s [] 1 hs (by simp; omega); rw [List.nil_append] at this; exact this
 rw [e0,zi3]; simp only; rw [show (10:Int)=((10:Nat):Int) from rfl,e1,zka]; simp only; rw [cPQ,List.take_length,c_Script hlw,zcE,e2]; simp only; rw [c_Read (by omega),zg8,e3]; simp only
 rw [show ((0:Int) != 0)=false from rfl,zat,zat,zat,cPQ,c_ops l l (fun q hq=>by
  have h:=hlw q hq; have l9:q.Script.Pages.length≤1000:=(h.list 9).1; have l10:q.Script.Answers.length≤1000:=(h.list 10).1; have l19:q.Event.Pages.length≤1000:=(h.list 19).1; have l28:q.Bounds.length≤1000:=(h.list 28).1
  exact ⟨by omega,by omega,by omega,by omega⟩) (by omega),zaE,decide_eq_true rfl,Bool.not_true,zat,show (zfy:ByteArray)=tx [] from rfl]
 exact k_back l d1 ho1 hl1 s hs
end Go.Proofs.YtdclabgakicjeaaDoor
namespace Go.Proofs.YtdclabgakicjeaaDoor
open Go.Ab Go.RowKit
def VarRd (P:Program) (w:World) (n:String) (d:DataW Unit):Prop:=
 ∃ g t cs fuel p,P.globalNamed n=some g∧(P.globals[g]?).map (·.type)=some t∧w.var? P n=some cs∧DataW.trod (fun _=>()) P w 0 (fun _=>true) false fuel t cs.toList=some (d,p)
theorem laid_rd {P:Program} {w:World}:∀ {l:List (String×DataW Unit)} {ps:List MemPlace},DataW.LaidVars P w l ps→∀ n d,(n,d)∈l→VarRd P w n d
 | [],_,_,_,_,hm=>by cases hm
 | (n',d') :: r,ps,h,n,d,hm=>by
   obtain ⟨g,t,cs,fuel,p,q,h1,h2,h3,h4,h5,_⟩:=h; rcases List.mem_cons.1 hm with e | e
   · cases e; exact ⟨g,t,cs,fuel,p,h1,h2,h3,h4⟩
   · exact laid_rd h5 n d e
theorem pairs_of {α β:Type} (f:α→List β) (hf:∀ x,(f x).length=2):∀ (l:List α) (cs:List β),cs.length=2*l.length→(∀ i x,l[i]?=some x→(cs.drop (i*2)).take 2=f x)→cs=l.flatMap f
 | [],cs,h,_=>by have:cs=[]:=List.length_eq_zero_iff.1 (by simpa using h); rw [this]; rfl
 | x :: l,cs,h,hi=>by
   have h0:=hi 0 x rfl; rw [Nat.zero_mul,List.drop_zero] at h0
   have ih:=pairs_of f hf l (cs.drop 2) (by rw [List.length_drop,h]; simp; omega) (fun i y hy=>by
    rw [List.drop_drop,show 2+i*2=(i+1)*2 by omega]
    exact hi (i+1) y (by simpa using hy))
   rw [List.flatMap_cons,← h0,← ih,List.take_append_drop]
theorem zo7 {P:Program} {w:World} {base:Nat} {sp:Nat→Bool} {held:Bool} {fuel:Nat} {t e:TypeId} {f0 f1:Field} {l:List (List UInt8×Int)} {cs:List Value} {p:List MemPlace}
  (ht:P.underlying t=some (.array l.length e)) (he:P.underlying e=some (.struct #[f0,f1])) (hc:P.cellsOf e=2) (hct:P.cellsOf t=2*l.length)
  (h0:P.underlying f0.type=some .string∧f0.offset=0∧P.cellsOf f0.type=1) (h1:P.underlying f1.type=some (.int .i64)∧f1.offset=1∧P.cellsOf f1.type=1)
  (h:DataW.trod (fun _=>()) P w base sp held fuel t cs=some (.agg (l.map fun q=>.agg [.lit (.string q.1),.lit (.int .i64 q.2)]),p)):cs=l.flatMap fun q=>[.string (tx q.1),.int .i64 q.2]:=by
 obtain ⟨xs,m,rfl,hx,hl,hxl,hall⟩:=DataW.trod_array ht h; refine pairs_of _ (fun _=>rfl) l cs (by rw [hl,hct]) (fun i q hq=>?_); have hlt:i < l.length:=(List.getElem?_eq_some_iff.1 hq).1
 have hmap:l.map (fun q=>(DataW.agg [.lit (.string q.1),.lit (.int .i64 q.2)]:DataW Unit))=xs.map (·.1):=by have:=congrArg Prod.fst hx; simpa using this
 have hi:=hall i hlt; obtain ⟨b,hb⟩:∃ b,xs[i]?=some b:=⟨xs[i]'(by omega),List.getElem?_eq_getElem (by omega)⟩
 have hb1:b.1=.agg [.lit (.string q.1),.lit (.int .i64 q.2)]:=by have:=congrArg (·[i]?) hmap; simp only [List.getElem?_map,hq,hb,Option.map_some,Option.some.injEq] at this; exact this.symm
 rw [hb,hc] at hi; obtain ⟨b1,b2⟩:=b; simp only at hb1; subst hb1; generalize (cs.drop (i*2)).take 2=c2 at hi; obtain ⟨ys,n,rfl,hy,hl2,hyl,hf⟩:=DataW.trod_struct he hi; rw [hc] at hl2
 have hy2:[(DataW.lit (.string q.1):DataW Unit),.lit (.int .i64 q.2)]=ys.map (·.1):=by have:=congrArg Prod.fst hy; simpa using this
 have e0:=hf 0 f0 rfl; have e1:=hf 1 f1 rfl
 match ys,hy2,hyl with
 | [y0,y1],hy2,_ =>
   simp only [List.map_cons,List.map_nil,List.cons.injEq,and_true] at hy2; rw [h0.2.1,h0.2.2,List.getElem?_cons_zero] at e0; rw [h1.2.1,h1.2.2,List.getElem?_cons_succ,List.getElem?_cons_zero] at e1; obtain ⟨s,k1,rfl,_⟩:=DataW.trod_string h0.1 e0; obtain ⟨z,k2,rfl,_⟩:=DataW.trod_int h1.1 e1; simp only [DataW.lit.injEq,Lit.string.injEq,Lit.int.injEq,true_and] at hy2
   match c2,hl2 with
   | [v0,v1],_=>simp only [List.drop_zero,List.take_succ_cons,List.take_zero,List.cons.injEq,and_true] at k1; simp only [List.drop_succ_cons,List.drop_zero,List.take_succ_cons,List.take_zero,List.cons.injEq,and_true] at k2; rw [k1,k2,hy2.1,hy2.2]; rfl
theorem g_type0:(Tryd.prog.globals[0]?).map (·.type)=some zbk:=by kernel_rfl
theorem forms_of {w:World} {d:DataW Unit} (hd:d=.agg (formsT.map fun q=>.agg [.lit (.string q.1),.lit (.int .i64 q.2)])) (h:VarRd Tryd.prog w "awardingbody/console.forms" d):w.var? Tryd.prog "awardingbody/console.forms"=some za1.toArray:=by obtain ⟨g,t,cs,fuel,p,hg,ht,hv,hr⟩:=h; obtain rfl:=Option.some.inj (g0.symm.trans hg); obtain rfl:=Option.some.inj (g_type0.symm.trans ht); rw [hd] at hr; have e:=zo7 (l:=formsT) (by kernel_rfl) Tryd.underlying118 (by kernel_rfl) (by kernel_rfl) ⟨by kernel_rfl,rfl,by kernel_rfl⟩ ⟨by kernel_rfl,rfl,by kernel_rfl⟩ hr; rw [hv]; unfold za1; rw [← e]
theorem pow_of {w:World} {n:Nat} {t e:TypeId} (hty:(Tryd.prog.globals[2]?).map (·.type)=some t) (ht:Tryd.prog.underlying t=some (.array n e)) (he:Tryd.prog.underlying e=some (.int .u64)) (hce:Tryd.prog.cellsOf e=1) (hct:Tryd.prog.cellsOf t=n)
  (h:VarRd Tryd.prog w "internal/strconv.uint64pow10" (Lib.tabData .u64 Lib.pow10Tab)):Lib.TabIs Tryd.prog w "internal/strconv.uint64pow10" .u64 Lib.pow10Tab:=by
 obtain ⟨g,t',cs,fuel,p,hg,ht',hv,hr⟩:=h; obtain rfl:=Option.some.inj (g2.symm.trans hg); obtain rfl:=Option.some.inj (hty.symm.trans ht'); unfold Lib.TabIs; rw [hv,← Lib.cells_of_tab ht he hce hct hr]
theorem var_lt {w:World} {n:String} {g:Nat} {cs:Array Value} (hg:Tryd.prog.globalNamed n=some g) (h:w.var? Tryd.prog n=some cs):g < w.heap.size:=by
 by_cases hb:g < w.heap.size
 · exact hb
 · have e:w.heap[g]?=none:=Array.getElem?_eq_none (by omega); unfold World.var? at h; rw [hg] at h; simp [e] at h
theorem vars_of {w:World} {laid:List (String×DataW Unit)} {dF:DataW Unit} (hF:dF=.agg (formsT.map fun q=>.agg [.lit (.string q.1),.lit (.int .i64 q.2)])) (h1:("awardingbody/console.forms",dF)∈laid) (h2:("internal/strconv.uint64pow10",(Lib.tabData .u64 Lib.pow10Tab:DataW Unit))∈laid)
  (hn:(laid.all fun x=>x.2.handleName?.isNone)=true) (hL:laidMetH Tryd.prog laid w) (hS:w.ShapedOpen Tryd.prog)
  {n:Nat} {t e:TypeId} (hty:(Tryd.prog.globals[2]?).map (·.type)=some t) (ht:Tryd.prog.underlying t=some (.array n e)) (he:Tryd.prog.underlying e=some (.int .u64)) (hce:Tryd.prog.cellsOf e=1) (hct:Tryd.prog.cellsOf t=n):Dr.ok (fun g=>g < w.heap.size) w:=by
 rw [Go.MakeChecks.laidMetH_plain _ _ _ hn] at hL; obtain ⟨ps,hl,_⟩:=hL; have a:=forms_of hF (laid_rd hl _ _ h1); have c:=pow_of hty ht he hce hct (laid_rd hl _ _ h2); obtain ⟨m,hm⟩:=zmk.s1_3 w hS; exact ⟨⟨var_lt g0 a,a⟩,⟨block_lt hm,m,hm⟩,var_lt g2 c,c⟩
end Go.Proofs.YtdclabgakicjeaaDoor
namespace Go.Ab
open Go.RowKit
abbrev Old (w:World):Nat→Prop:=fun g=>g < w.heap.size
def Rd (P:Program) (w:World) (t:TypeId) (n:Nat) {T:Type} (nT:T→List AV):Prop:=
 P.cellsOf t=n∧(∀ v,(nT v).length=n)∧∀ (H:Type) (enc:TypeId×Value→H) (base:Nat) (spare:Nat→Bool) (held:Bool) (fuel:Nat) (cs:List Value) (x:DataW H×List MemPlace),DataW.trod enc P w base spare held fuel t cs=some x→∃ v:T,cs.length=n∧∀ (j:Nat) (c:AV) (y:Value),(nT v)[j]?=some c→cs[j]?=some y→CRel (Old w) w c y∧y.oneCell'=true
theorem rd_int {P:Program} {w:World} {t:TypeId} {k:IntKind} (hc:P.cellsOf t=1) (ht:P.underlying t=some (.int k)):Rd P w t 1 (fun n:Int=>[AV.v (.int k n)]):=by
 refine ⟨hc,fun _=>rfl,fun H enc base spare held fuel cs x h=>?_⟩; obtain ⟨n,rfl,_,_⟩:=DataW.trod_int ht h; refine ⟨n,rfl,fun j c y h1 h2=>?_⟩
 cases j with
 | zero=>simp at h1 h2; subst h1; subst h2; exact ⟨.v _,rfl⟩
 | succ j=>simp at h1
theorem list_of {T:Type} {R:Nat→T→Prop}:∀ n:Nat,(∀ i,i < n→∃ v,R i v)→∃ l:List T,l.length=n∧∀ i v,l[i]?=some v→R i v
 | 0,_=>⟨[],rfl,fun i v h=>by simp at h⟩
 | n+1,h=>by
   obtain ⟨l,h1,h2⟩:=list_of n (fun i hi=>h i (by omega)); obtain ⟨v,hv⟩:=h n (by omega); refine ⟨l++[v],by simp [h1],fun i u hu=>?_⟩; by_cases hi:i < n
   · rw [List.getElem?_append_left (by omega)] at hu; exact h2 i u hu
   · have hlt:=(List.getElem?_eq_some_iff.1 hu).1; simp at hlt; have:i=l.length:=by omega
     subst this; rw [List.getElem?_append_right (by omega)] at hu; simp at hu; subst hu; rw [h1]; exact hv
theorem rd_slice {P:Program} {w:World} {t e:TypeId} {n:Nat} {T:Type} {nT:T→List AV} (hc:P.cellsOf t=1) (ht:P.underlying t=some (.slice e)) (hn:0 < n) (he:Rd P w e n nT):Rd P w t 1 (fun l:List T=>[AV.sl n (l.map nT)]):=by
 refine ⟨hc,fun _=>rfl,fun H enc base spare held fuel cs x h=>?_⟩
 have done:∀ (l:List T) (y:Value),CRel (Old w) w (.sl n (l.map nT)) y→y.oneCell'=true→∃ v:List T,[y].length=1∧∀ (j:Nat) (c:AV) (z:Value),[AV.sl n (v.map nT)][j]?=some c→[y][j]?=some z→CRel (Old w) w c z∧z.oneCell'=true:=by
  intro l y hy h1; refine ⟨l,rfl,fun j c z hj hz=>?_⟩
  cases j with
  | zero=>simp at hj hz; subst hj; subst hz; exact ⟨hy,h1⟩
  | succ j=>simp at hj
 rcases DataW.trod_slice ht h with ⟨rfl,_⟩ | ⟨a,len,cap,elems,rest,m,rfl,rfl,_,hb,hl,_,hlen,hel,_,_⟩
 · exact done [] _ (CRel.nil_sl n) rfl
 · have each:∀ i,i < len→∃ v:T,a.block < w.heap.size∧∀ (j:Nat) (c:AV),(nT v)[j]?=some c→∃ y,w.cell? (a.add (i*n+j))=some y∧CRel (Old w) w c y∧y.oneCell'=true:=by
    intro i hi; have h1:=hel i hi; rw [List.getElem?_eq_getElem (by omega),he.1] at h1; obtain ⟨cs',h2,h3⟩:=Option.bind_eq_some_iff.1 h1; obtain ⟨v,h4,h5⟩:=he.2.2 H enc base spare held m cs' _ h3; obtain ⟨h6,h7,h8⟩:=World.cells?_some h2; have hblk:=World.cells?_block h2 hn; rw [zdV] at hblk; refine ⟨v,hblk,fun j c hj=>?_⟩; have hjn:j < n:=by have:=(List.getElem?_eq_some_iff.1 hj).1; rw [he.2.1] at this; exact this
    have h9:=h8 j hjn; rw [Go.Addr.add_add] at h9; have h10:cs'[j]?=some (cs'[j]'(by omega)):=List.getElem?_eq_getElem (by omega); refine ⟨cs'[j]'(by omega),by rw [h9,h10],h5 j c _ hj h10⟩
   obtain ⟨l,hll,hlr⟩:=list_of len each; refine done l _ (.sl n _ (some a) len cap (fun i j=>(w.cell? (a.add (i*n+j))).getD undef) (by simp; omega) hl (fun cs hcs=>by obtain ⟨v,_,rfl⟩:=List.mem_map.1 hcs; exact he.2.1 v) ?_ ?_) rfl
   · cases l with
     | nil=>left; rfl
     | cons v l'=>right; refine ⟨a,rfl,(hlr 0 v rfl).1,fun i j cs c h1 h2=>?_⟩; rw [List.getElem?_map] at h1; obtain ⟨u,hu,rfl⟩:=Option.map_eq_some_iff.1 h1; obtain ⟨y,hy,hr,ho⟩:=(hlr i u hu).2 j c h2; rw [hy]; exact ⟨rfl,ho⟩
   · intro i j cs c h1 h2; rw [List.getElem?_map] at h1; obtain ⟨u,hu,rfl⟩:=Option.map_eq_some_iff.1 h1; obtain ⟨y,hy,hr,ho⟩:=(hlr i u hu).2 j c h2; rw [hy]; exact hr
theorem arg_cell {P:Program} {w:World} {t:TypeId} {T:Type} {f:T→AV} (hr:Rd P w t 1 (fun v=>[f v])) {H:Type} {enc:TypeId×Value→H} {base:Nat} {spare:Nat→Bool} {held:Bool} {y:Value} (hy:y.cells.toList=[y]) {d:DataW H} {ps:List MemPlace}
  (h:DataW.Trod enc P w base spare held t y d ps) {κ:Kap} {D:Nat→Prop}:∃ v:T,VRel (Old w) κ D w (f v) y:=by
 obtain ⟨fuel,hf⟩:=h; rw [hy] at hf; obtain ⟨v,_,h2⟩:=hr.2.2 H enc base spare held fuel _ _ hf; exact ⟨v,.c (h2 0 _ _ rfl rfl).1⟩
end Go.Ab
end
