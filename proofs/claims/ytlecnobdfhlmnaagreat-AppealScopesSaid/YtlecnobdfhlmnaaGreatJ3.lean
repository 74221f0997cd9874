/- The log of marks: what the functions compute; Canonical answers as said. -/
import Derived.Test.YtlecnobdfhlmnaaGreatJ2
import Derived.Test.YtlecnobdfhlmnaaGreatXAnn
import Derived.Test.YtlecnobdfhlmnaaGreatAb10
import Derived.Control
set_option linter.unusedSimpArgs false
set_option linter.unusedVariables false
set_option linter.unusedSectionVars false
noncomputable section
namespace Go.Proofs.YtlecnobdfhlmnaaGreat
open Go.Ab
set_option maxRecDepth 10000
section
variable{α:Type}{lt:α->α->Bool}
theorem zDG(x:α):∀l:List α,List.Perm (ins lt x l) (x::l)
 |[]=>zfU _
 |y::r=>by
   unfold ins;split
   ·exact zfU _
   ·exact((zDG x r).cons y).trans (List.Perm.swap x y r)
theorem zht:∀l:List α,List.Perm (isort lt l) l
 |[]=>zfU _
 |x::r=>(zDG x (isort lt r)).trans ((zht r).cons x)
theorem zFi(ht:∀a b c,lt b a=false->lt c b=false->lt c a=false)(ha:∀a b,lt a b=true->lt b a=false)(x:α):∀l:List α,l.Pairwise (λa b=>lt b a=false)->(ins lt x l).Pairwise (λa b=>lt b a=false)
 |[],_=>by simp[ins]
 |y::r,h=>by
   unfold ins;split
   · rename_i hxy;refine zcR.2 ⟨λz hz=>?_,h⟩;rcases za4.1 hz with rfl|hz
     ·exact ha _ _ hxy
     ·exact ht _ _ _ (ha _ _ hxy) ((zcR.1 h).1 z hz)
   · rename_i hxy;obtain⟨h1,h2⟩:=zcR.1 h;refine zcR.2 ⟨λz hz=>?_,zFi ht ha x r h2⟩;rcases za4.1 ((zDG x r).mem_iff.1 hz)with rfl|hz
     ·simpa using hxy
     ·exact h1 z hz
theorem zow(ht:∀a b c,lt b a=false->lt c b=false->lt c a=false)(ha:∀a b,lt a b=true->lt b a=false):∀l:List α,(isort lt l).Pairwise (λa b=>lt b a=false)
 |[]=>List.Pairwise.nil
 |x::r=>zFi ht ha x _ (zow ht ha r)
theorem zkL:∀{l1 l2:List α},List.Perm l1 l2->l1.Pairwise (λa b=>lt b a=false)->l2.Pairwise (λa b=>lt b a=false)->(∀a∈l1,∀b∈l1,lt a b=false->lt b a=false->a=b)->l1=l2
 |[],l2,hp,_,_,_=>(List.nil_perm.1 hp).symm
 |x::r,l2,hp,h1,h2,ha=>by
   cases l2 with
   |nil=>simp_all
   |cons y s =>
     obtain⟨h3,h4⟩:=zcR.1 h1;obtain⟨h5,h6⟩:=zcR.1 h2
     have hxy:x=y:=by
      have m1:y∈x::r:=hp.mem_iff.2 (by simp);have m2:x∈y::s:=hp.mem_iff.1 (by simp);rcases za4.1 m1 with e|m1
      ·exact e.symm
      rcases za4.1 m2 with e|m2
      ·exact e
      exact ha x (by simp) y (by simp[m1]) (h5 x m2) (h3 y m1)
     subst hxy;rw[zkL ((List.perm_cons x).1 hp) h4 h6 (λa ha' b hb=>ha a (by simp[ha']) b (by simp[hb]))]
end
theorem zj1{a b:za6}(h:lessS a b=true):lessS b a=false:=by
 rcases zwC a b with q|q
 ·rw[h]at q;cases q
 ·exact q
theorem zDN{a b:za6}(h1:lessS a b=false)(h2:lessS b a=false):a=b:=by
 unfold lessS at h1 h2;obtain⟨t,s,q⟩:=a;obtain⟨t',s',q'⟩:=b
 grind
theorem zuK(s:za6):cw znj [.agg (zb6 s)] []=some (zap (stampB s)):=by
 refine zHX ?_;unfold stampB;simp only[zeL,decide_eq_true_eq]
 repeat' split
 all_goals first
  |(rw[decide_eq_false (by omega)];rfl)
  |(rw[show decide ((0<=s.Time/\s.Time<=1000000)/\(0<=s.Source/\s.Source<=99)/\(0<=s.Seq/\s.Seq<=9999))=decide (s.Seq<=9999)from decide_eq_decide.2 (by omega)];rfl)
theorem zy3(n:Int):cw zd5 [I n] []=some (zap (!decide (0<=n/\n<=1152921504606846976))):=by
 refine zxg ?_;rw[zfe];split
 ·rw[show decide (0<=n/\n<=1152921504606846976)=false from decide_eq_false (by omega)];rfl
 · rw[show(!decide (0<=n/\n<=1152921504606846976))=decide (1152921504606846976<n)by grind]
   rfl
theorem c_idx_v(l:List Int)(hl:l.length<=1000000):cw zdE [.sl 1 (List.map zai l),.fn zd5 []] []=some (zbm (match fnd (λn=>!decide (0<=n/\n<=1152921504606846976)) 0 l with|some (i,_)=>(i:Int)|none=>-1)):=by
 refine zsf ?_;refine zh6 l (λn=>!decide (0<=n/\n<=1152921504606846976)) (λi=>zgs l i) (λo=>zbm (match o with|some (i,_)=>(i:Int)|none=>-1)) ?_ ?_ ?_
 ·exact zii (by simp(disch:=omega)only[zad,zaN];rfl)
 ·intro i hi h;refine zii ?_;simp(disch:=omega)only[zad,zaB,zao,zah,zce,zaa hi,zae,zy3,zKA];rw[h,zaV];rfl
 ·intro i hi y h hk;refine zii ?_;simp(disch:=omega)only[zad,zaB,zao,zah,zce,zaa hi,zae,zy3,zKA];rw[h,zaz,w6Q];exact hk
theorem zIK(l:List Int)(hl:l.length<=1000000):cw zdb [.sl 1 (List.map zai l),.fn zd5 []] []=some (zap (l.any λn=>!decide (0<=n/\n<=1152921504606846976))):=by
 refine zqR ?_;rw[c_idx_v l hl,za7,<-fnd_any]
 cases fnd (λn=>!decide (0<=n/\n<=1152921504606846976)) 0 l with
 |none=>rfl
 |some q=>simp;rfl
theorem zJI{α:Type}(p:α->Bool)(l:List α):(!l.any λn=>!p n)=l.all p:=by grind
theorem zJP(e:zac)(hp:e.Pages.length<=1000000):cw znJ [.agg (zab e)] []=some (zap (decide (1<=e.Stamp.Source/\(0<=e.Part/\e.Part<=23)/\(-1<=e.Value/\e.Value<=40)/\e.Marker=0)&&decide (e.Pages.length<=12)&&e.Pages.all (λn=>decide (0<=n/\n<=1152921504606846976)))):=by
 refine zzE ?_;rw[zIK _ hp,zKA,zJI,zad];simp only[zeL,decide_eq_true_eq,bne_iff_ne,ne_eq];by_cases hl:12<e.Pages.length
 · rw[if_pos (show(12:Int)<(e.Pages.length:Int)by omega),show decide (e.Pages.length<=12)=false from decide_eq_false (by omega),zez,zcF]
   repeat' split
   all_goals rfl
 · rw[if_neg (show¬(12:Int)<(e.Pages.length:Int)by omega),show decide (e.Pages.length<=12)=true from decide_eq_true (by omega),zha]
   repeat' split
   all_goals first
    |(rw[decide_eq_false (by omega),zcF];rfl)
    |(rw[decide_eq_true (by omega),zcx];rfl)
theorem c_Valid(e:zac)(hp:e.Pages.length<=1000000):cw znS [.agg (zab e)] []=some (zap (eventB e)):=by
 refine zEZ ?_;rw[zuK,zKA,zJP e hp,zKA,zad];unfold eventB
 cases hs:stampB e.Stamp with
 |false=>simp only[zbe,zaV,zcF];rfl
 |true =>
 simp only[zaF,zaz,zcx,zeL,decide_eq_true_eq,beq_iff_eq,zbt,if_false];by_cases h1:0<=e.Script/\e.Script<=319999
 case neg =>
  rw[decide_eq_false h1,zcF,zcF,zcF];by_cases h2:e.Script<0
  ·rw[if_pos h2];rfl
  ·rw[if_neg h2,if_pos (show 319999<e.Script by omega)];rfl
 rw[if_neg (show¬e.Script<0 by omega),if_neg (show¬319999<e.Script by omega),decide_eq_true h1,zcx];by_cases k0:e.Kind=0
 ·rw[if_pos k0];have:decide ((e.Kind=0/\1<=e.Stamp.Source/\(0<=e.Part/\e.Part<=23)/\(-1<=e.Value/\e.Value<=40)/\e.Marker=0)\/(e.Kind=1/\e.Stamp.Source=0/\e.Script=0/\e.Part=0/\e.Value=0/\(1<=e.Marker/\e.Marker<=99)/\e.Pages.length=0)\/(e.Kind=2/\e.Stamp.Source=0/\e.Value=0/\e.Marker=0/\(-1<=e.Part/\e.Part<=23)/\e.Pages.length=0))=decide (1<=e.Stamp.Source/\(0<=e.Part/\e.Part<=23)/\(-1<=e.Value/\e.Value<=40)/\e.Marker=0):=decide_eq_decide.2 (by omega);rw[this];generalize decide (1<=e.Stamp.Source/\(0<=e.Part/\e.Part<=23)/\(-1<=e.Value/\e.Value<=40)/\e.Marker=0)=x;generalize decide (e.Pages.length<=12)=y;generalize (e.Pages.all λn=>decide (0<=n/\n<=1152921504606846976))=z;cases x<;>cases y<;>cases z<;>rfl
 rw[if_neg k0];by_cases hl:e.Pages.length=0
 · have hnil:e.Pages=[]:=zcU hl;rw[hnil];simp only[zcZ,List.all_nil,zha,and_true];rw[show decide ((0:Nat)<=12)=true from rfl,zcx]
   repeat' split
   all_goals first
    |(rw[decide_eq_false (by omega)];rfl)
    |(rw[decide_eq_true (by omega)];rfl)
 · have:decide ((e.Kind=0/\1<=e.Stamp.Source/\(0<=e.Part/\e.Part<=23)/\(-1<=e.Value/\e.Value<=40)/\e.Marker=0) \/
    (e.Kind=1/\e.Stamp.Source=0/\e.Script=0/\e.Part=0/\e.Value=0/\(1<=e.Marker/\e.Marker<=99)/\e.Pages.length=0)\/(e.Kind=2/\e.Stamp.Source=0/\e.Value=0/\e.Marker=0/\(-1<=e.Part/\e.Part<=23)/\e.Pages.length=0))=false:=decide_eq_false (by omega)
   rw[this,zez,show((e.Pages.length:Int)==0)=false by simp_all]
   repeat' split
   all_goals rfl
theorem c_Same(a b:zac)(hl:a.Pages.length<=1000000):cw zoV [.agg (zab a),.agg (zab b)] []=some (zap (decide (a=b))):=by
 refine zGf ?_;rw[c_Equal _ _ hl,zKA,zEP];obtain⟨⟨t,s,q⟩,k,sc,pa,v,m,pg⟩:=a;obtain⟨⟨t',s',q'⟩,k',sc',pa',v',m',pg'⟩:=b;simp only[zeL,zaO,beq_iff_eq,and_true,zac.mk.injEq,za6.mk.injEq]
 repeat' split
 all_goals first
  |(rw[decide_eq_false (by simp_all)];rfl)
  |(rename_i h1 h2 h3 h4 h5 h6
    rw[show decide ((t=t'/\s=s'/\q=q')/\k=k'/\sc=sc'/\pa=pa'/\v=v'/\m=m'/\pg=pg')=decide (pg=pg')from decide_eq_decide.2 (by simp_all)]
    rfl)
theorem c_clone(e:zac)(hl:e.Pages.length<=1000000):cw zjp [.agg (zab e)] []=some (zlg e):=by refine zE0 ?_;rw[c_CloneI ci_ok _ hl,znC,cPQ,zaJ (by omega)];rfl
theorem zHz[Dr](a b:zac):cw ze2 [.agg (zab a),.agg (zab b)] []=some (zbm (cmpS a.Stamp b.Stamp)):=by refine zxf ?_;rw[zw6,za7];rfl
theorem zrq{l:List zac}{m:zfw}{i:Nat}{e:zac}(hm:∀p∈m,0<=p.2.first/\p.2.first<(i:Int)):∀p∈zgg l m i e,0<=p.2.first/\p.2.first<((i+1:Nat):Int):=by
 intro p hp;have up:p∈m->0<=p.2.first/\p.2.first<((i+1:Nat):Int):=λh=>by have:=hm p h;omega
 unfold zgg at hp;split at hp
 · split at hp
   · rcases zlB hp with rfl|h
     ·simp;omega
     ·exact up h
   · rename_i g hg;have:=hm _ (zjh hg);rcases zlB hp with rfl|h
     ·grind
     ·exact up h
 ·exact up hp
theorem zJ5(l:List zac)(hl:l.length<=1000000)(hp:∀e∈l,e.Pages.length<=1000000):∀(n i:Nat) (m:zfw),i+n=l.length->(∀p∈m,0<=p.2.first/\p.2.first<(i:Int))->zfP l (mY m) i=some (zgG (ze0 l (l.drop i) i m,l)):=by
 intro n
 induction n with
 |zero=>intro i m hi hm;refine zth ?_;rw[zad,zaN (by omega),zcd (by omega)];rfl
 |succ n ih =>
   intro i m hi hm;have hlt:i<l.length:=by omega
   have hpe:=hp _ (zar hlt)
   have IH:∀m':zfw,zgg l m i l[i]=m'->zfP l (mY m') ((i+1:Nat):Int)=some (zgG (ze0 l (l.drop i) i m,l)):=by intro m' hm';rw[zbd hlt];unfold ze0;rw[hm'];refine ih (i+1) m' (by omega) ?_;rw[<-hm'];exact zrq hm
   refine zth ?_;rw[zaB (by simp;omega),cPQ,zao (by simp;omega),zaY,zah,zcs,zaa hlt,zae,c_Valid _ hpe,zKA,w6Q,show((i:Int)+1)=((i+1:Nat):Int)by omega];unfold zgg at IH
   cases hv:eventB l[i]with
   |false=>simp_all
   |true =>
     rw[zaF,zaz,zsV (y:=zlh (l[i].Stamp.Source,l[i].Stamp.Seq)) rfl,zpB];rw[show(AV.agg (zgd.enc (l[i].Stamp.Source,l[i].Stamp.Seq)))=.agg (zbT (l[i].Stamp.Source,l[i].Stamp.Seq))from rfl,znZ];rw[hv]at IH;simp only[if_true]at IH
     cases hf:mfind (l[i].Stamp.Source,l[i].Stamp.Seq) m with
     |none=>rw[hf]at IH;simp only[zem,zbe,zaV,Option.getD_none];rw[zfv];exact IH _ rfl
     |some g =>
       rw[hf]at IH;have hg:=hm _ (zjh hf);simp only at hg;have hgl:g.first.toNat<l.length:=by omega
       simp only[zcS,zaF,zaz,zbN];rw[zao hg.1,zao (by simp;omega),zaY,zcs,zaa hgl,zae,c_Same _ _ (hp _ (zar hgl)),zKA];by_cases he:l[g.first.toNat]=l[i]
       · rw[decide_eq_true he,zaF,zaz,zfv]
         simp_all
       · rw[decide_eq_false he,zbe,zaV,zfv]
         simp_all
theorem c_groups(l:List zac)(hl:l.length<=1000000)(hp:∀e∈l,e.Pages.length<=1000000):cw zfq [.row 1000 9 0 (mA l).length] [(1000,gB (mA l))]=some (zgG (zda l,l)):=by refine zDx ?_;have:=zJ5 l hl hp l.length 0 [] (by omega) (by simp);rw[zgT]at this;exact this
theorem zH0(l:List zac)(hl:l.length<=1000000)(hp:∀e∈l,e.Pages.length<=1000000):∀(n i:Nat) (m:zfw),i+n=l.length->(∀p∈m,0<=p.2.first/\p.2.first<(i:Int))->zfj l (mY m) i=some (zfS (ze0 l (l.drop i) i m)):=by
 intro n
 induction n with
 |zero=>intro i m hi hm;refine zrI ?_;rw[zad,zaN (by omega),zcd (by omega)];rfl
 |succ n ih =>
   intro i m hi hm;have hlt:i<l.length:=by omega
   have hpe:=hp _ (zar hlt)
   have IH:∀m':zfw,zgg l m i l[i]=m'->zfj l (mY m') ((i+1:Nat):Int)=some (zfS (ze0 l (l.drop i) i m)):=by intro m' hm';rw[zbd hlt];unfold ze0;rw[hm'];refine ih (i+1) m' (by omega) ?_;rw[<-hm'];exact zrq hm
   refine zrI ?_;rw[zaB (by simp;omega),cPQ,zah,zcs,zaa hlt,zae,c_Valid _ hpe,zKA,w6Q,show((i:Int)+1)=((i+1:Nat):Int)by omega];unfold zgg at IH
   cases hv:eventB l[i]with
   |false=>simp_all
   |true =>
     rw[zaF,zaz,zsV (y:=zlh (l[i].Stamp.Source,l[i].Stamp.Seq)) rfl,zpB];rw[show(AV.agg (zgd.enc (l[i].Stamp.Source,l[i].Stamp.Seq)))=.agg (zbT (l[i].Stamp.Source,l[i].Stamp.Seq))from rfl,znZ];rw[hv]at IH;simp only[if_true]at IH
     cases hf:mfind (l[i].Stamp.Source,l[i].Stamp.Seq) m with
     |none=>rw[hf]at IH;simp only[zem,zbe,zaV,Option.getD_none];rw[zfv];exact IH _ rfl
     |some g =>
       rw[hf]at IH;have hg:=hm _ (zjh hf);simp only at hg;have hgl:g.first.toNat<l.length:=by omega
       simp only[zcS,zaF,zaz,zbN];rw[zao hg.1,zcs,zaa hgl,zae,c_Same _ _ (hp _ (zar hgl)),zKA];by_cases he:l[g.first.toNat]=l[i]
       · rw[decide_eq_true he,zaF,zaz,zfv]
         simp_all
       · rw[decide_eq_false he,zbe,zaV,zfv]
         simp_all
theorem c_groups_d(l:List zac)(hl:l.length<=1000000)(hp:∀e∈l,e.Pages.length<=1000000):cw zfq [.sl 9 (mA l)] []=some (zfS (zda l)):=by refine zAF ?_;have:=zH0 l hl hp l.length 0 [] (by omega) (by simp);rw[zgT]at this;exact this
theorem zu4{l:List zac}:∀{r:List zac} {i:Nat} {m:zfw},(∀p∈m,0<=p.2.first/\p.2.first<(i:Int))->∀p∈ze0 l r i m,0<=p.2.first/\p.2.first<((i+r.length:Nat):Int)
 |[],i,m,h,p,hp=>by simpa using h p hp
 |e::r,i,m,h,p,hp=>by
   have:=zu4 (zrq h) p hp
   grind
theorem zAT(l:List zac):∀p∈zda l,0<=p.2.first/\p.2.first<(l.length:Int):=λp hp=>by have:=zu4 (l:=l) (r:=l) (i:=0) (m:=[]) (by simp) p hp;simpa using this
theorem zss{κ ν:Type}[DecidableEq κ]{k:κ}{v:ν}:∀{l:List (κ×ν)},(mput k v l).length<=l.length+1
 |[]=>by simp[mput]
 |p::r=>by
   unfold mput;split
   ·simp
   · have:=zss (k:=k) (v:=v) (l:=r)
     simp_all
theorem zHZ{l:List zac}{m:zfw}{i:Nat}{e:zac}:(zgg l m i e).length<=m.length+1:=by
 unfold zgg;split
 · split
   ·exact zss
   ·exact zss
 ·omega
theorem zxk{l:List zac}:∀{r:List zac} {i:Nat} {m:zfw},(ze0 l r i m).length<=m.length+r.length
 |[],i,m=>by simp[ze0]
 |e::r,i,m=>by
   have h1:=zxk (l:=l) (r:=r) (i:=i+1) (m:=zgg l m i e);have h2:=zHZ (l:=l) (m:=m) (i:=i) (e:=e);unfold ze0
   grind
theorem zFg(l:List zac):(zda l).length<=l.length:=by have:=zxk (l:=l) (r:=l) (i:=0) (m:=[]);rw[zcZ,zaY]at this;exact this
theorem zmr{κ ν:Type}[DecidableEq κ]{k:κ}{v:ν}{l:List (κ×ν)}(h:(l.map (·.1)).Nodup):((mput k v l).map (·.1)).Nodup/\∀x,x∈(mput k v l).map (·.1)->x=k\/x∈l.map (·.1):=by
 induction l with
 |nil=>simp[mput]
 |cons p r ih =>
   obtain⟨h1,h2⟩:=zfE.1 h;unfold mput
   grind
def Keyed(l:List zac)(m:zfw):Prop:=(m.map (·.1)).Nodup/\∀p∈m,∃e,l[p.2.first.toNat]?=some e/\(e.Stamp.Source,e.Stamp.Seq)=p.1/\eventB e=true
theorem zFf{l:List zac}{m:zfw}{i:Nat}{e:zac}(h:Keyed l m)(he:l[i]?=some e):Keyed l (zgg l m i e):=by
 unfold zgg;split
 · rename_i hv;split
   · refine⟨(zmr h.1).1,λp hp=>?_⟩;rcases zlB hp with rfl|hp
     ·simp_all
     ·exact h.2 p hp
   · rename_i g hg;refine⟨(zmr h.1).1,λp hp=>?_⟩;rcases zlB hp with rfl|hp
     · obtain⟨e',h1,h2,h3⟩:=h.2 _ (zjh hg)
       simp_all
     ·exact h.2 p hp
 ·exact h
theorem zu5{l:List zac}:∀{r:List zac} {i:Nat} {m:zfw},Keyed l m->l.drop i=r->Keyed l (ze0 l r i m)
 |[],i,m,h,_=>h
 |e::r,i,m,h,hd=>by
   unfold ze0
   have he:l[i]?=some e:=by have:=congrArg (·[0]?) hd;simpa using this
   refine zu5 (zFf h he) ?_;have:=congrArg (List.drop 1) hd;simpa[List.drop_drop]using this
theorem zrr(l:List zac):Keyed l (zda l):=zu5 ⟨by simp,by simp⟩ (by simp)
theorem zy6{l:List zac}{m:zfw}(h:Keyed l m):(m.filterMap (pickG l)).Pairwise (λa b=>(a.Stamp.Source,a.Stamp.Seq)≠(b.Stamp.Source,b.Stamp.Seq))/\∀e∈m.filterMap (pickG l),eventB e=true/\e∈l:=by
 constructor
 · rw[List.pairwise_filterMap];have hn:=h.1;rw[List.Nodup,zew]at hn;refine zgu ?_ hn;intro a b ha hb hab x hx y hy;obtain⟨e,h1,h2,_⟩:=h.2 a ha;obtain⟨f,h3,h4,_⟩:=h.2 b hb
   have e1:x=e:=by
    unfold pickG at hx;split at hx
    ·cases hx
    ·simp_all
   have e2:y=f:=by
    unfold pickG at hy;split at hy
    ·cases hy
    ·simp_all
   simp_all
 · intro x hx;obtain⟨p,hp,hpx⟩:=zel.1 hx;obtain⟨e,h1,_,h3⟩:=h.2 p hp;unfold pickG at hpx
   grind
theorem keep_mem{l:List zac}{e:zac}(h:e∈keepS l):eventB e=true/\e∈l:=(zy6 (zrr l)).2 e h
theorem zDH(l:List zac):(keepS l).Pairwise (λa b=>(a.Stamp.Source,a.Stamp.Seq)≠(b.Stamp.Source,b.Stamp.Seq)):=(zy6 (zrr l)).1
theorem zA3{α:Type}{f:α->Int×Int}{l:List α}(h:l.Pairwise (λa b=>f a≠f b)){a b:α}(ha:a∈l)(hb:b∈l)(e:f a=f b):a=b:=by
 induction l with
 |nil=>cases ha
 |cons x r ih =>
   obtain⟨h1,h2⟩:=zcR.1 h
   grind
theorem keep_inj{l:List zac}{a b:zac}(ha:a∈keepS l)(hb:b∈keepS l)(e:a.Stamp=b.Stamp):a=b:=zA3 (f:=λx=>(x.Stamp.Source,x.Stamp.Seq)) (zDH l) ha hb (by simp only[e])
theorem zAu(l:List zac):(canonS l).Pairwise (λa b=>lessS b.Stamp a.Stamp=false):=
 zow (lt:=λa b:zac=>lessS a.Stamp b.Stamp) (λ_ _ _ h1 h2=>znw h1 h2) (λ_ _ h=>zj1 h) _
theorem zhr(l:List zac):List.Perm (canonS l) (keepS l):=zht _
theorem canon_of{l r:List zac}(hp:List.Perm r (keepS l))(hs:r.Pairwise (λa b=>lessS b.Stamp a.Stamp=false)):r=canonS l:=
 zkL (lt:=λa b:zac=>lessS a.Stamp b.Stamp) (hp.trans (zhr l).symm) hs (zAu l) (λ_ ha _ hb h1 h2=>keep_inj (hp.mem_iff.1 ha) (hp.mem_iff.1 hb) (zDN h1 h2))
theorem swoE:Go.Sort.SWO (λa b:zac=>lessS a.Stamp b.Stamp) where
 irrefl:=λx=>by rcases zwC x.Stamp x.Stamp with h|h<;>exact h
 trans:=λx y z h1 h2=>by
  cases h:lessS x.Stamp z.Stamp with
  |true=>rfl
  |false =>
    have h3:=znw (zj1 h2) h
    simp_all
 ntrans:=λx y z h1 h2=>znw h2 h1
theorem cmpE[Dr](x y:zac):∃v:Int,cw ze2 [.agg (zab x),.agg (zab y)] []=some (.v (.int .i64 v),[])/\decide (v<0)=evLt x y:=⟨_,zHz x y,cmpS_neg _ _⟩
theorem sortE_ok:CallOK zP (single zcX zOrc):=
 zDS (C:=zC) (A:=zA) (ty:=zak) (nT:=zab) (lt:=evLt) layE rfl (by kernel_rfl) aggE sizeE (by decide) (λ_=>rfl) (by kernel_rfl) swoE (@cmpE drOn) (λargs ms=>by unfold zOrc;simp(decide:=true) only [if_false,if_true])
theorem c_sortE(ev:List zac)(h:ev.length<1000000):cw zcX [.row 1000 9 0 (mA ev).length,.fn ze2 []] [bL ev]=some (zeb (sortS evLt ev)):=by
 rw[zad];refine zim sortE_ok ?_;have hz:∀args ms,zOrc zcX args ms=oSort 9 zak ze2 zab evLt args ms:=λargs ms=>by unfold zOrc;simp(decide:=true) only [if_false,if_true]
 exact(hz _ _).trans (zA0 (λx y h=>zaZ.inj h) h)
theorem cnLegs(b:Bool){l:List zac}(h:FewEv l):CnLegs b l where
 len:=h.1
 glen:=by have:=zFg l;have:=h.1;omega
 few:=by have:=h.2.1;omega
 cGroups:=by
  cases b with
  |true=>exact c_groups l (by have:=h.1;omega) h.2.2
  |false=>exact c_groups_d l (by have:=h.1;omega) h.2.2
 first:=zAT l
 cSort:=λev hp=>by have h1:=c_sortE ev (by have:=hp.length_eq;have:=h.2.1;omega);rw[show sortS evLt ev=canonS l from canon_of ((zui (lt:=evLt) swoE ev).trans hp) (zvf (lt:=evLt) swoE ev)]at h1;exact h1
 perm:=zhr l
 cClone:=λe he=>c_clone e (h.2.2 e (keep_mem ((zhr l).mem_iff.1 he)).2)
set_option maxRecDepth 100000
theorem f0(b:Bool)(s:zan)(l:List zac):tReg zby zT 0 ⟨[(0,AV.agg [sE s.Markers,sH s.Scripts,sG s.Papers,sP s.Schemes,sN s.Seeds,I s.Monitor.Part,I s.Monitor.Total,I s.Monitor.Window,I s.Monitor.Fails]),(1,frA b 1001 l)],frM b 1001 l⟩=(some ⟨[(1,frA b 1001 l),(2,gQ 2 9),(4,gQ 4 2)],[(2,pJ s),(4,bI)]++frM b 1001 l⟩):=by cases b<;>kernel_rfl
theorem f1(b:Bool)(s:zan)(l:List zac):tReg zby zT 1 ⟨[(1,frA b 1001 l),(2,gQ 2 9),(4,gQ 4 2)],[(2,pJ s),(4,bI)]++frM b 1001 l⟩=(callD zaR (cw zh2 [sS s] []) λ(r0:Int)=>some ⟨[(1,frA b 1001 l),(2,gQ 2 9),(4,gQ 4 2),(17,B (r0 !=0))],[(2,pJ s),(4,bI)]++frM b 1001 l⟩):=by cases b<;>kernel_rfl
theorem f4(b:Bool)(s:zan)(l:List zac)(ev:List zac)(c:Int):tReg zby zT 4 ⟨[(2,gQ 2 9),(4,gQ 4 2),(6,sC ev),(7,I c)],[(2,pJ s),(4,bI)]++frM b 1001 l⟩=(some ⟨[(2,gQ 2 9),(4,gQ 4 2),(6,sC ev),(7,I c),(25,B (c !=0))],[(2,pJ s),(4,bI)]++frM b 1001 l⟩):=by cases b<;>kernel_rfl
theorem f6(b:Bool)(s:zan)(l:List zac)(ev:List zac):tReg zby zT 6 ⟨[(2,gQ 2 9),(4,gQ 4 2),(6,sC ev)],[(2,pJ s),(4,bI)]++frM b 1001 l⟩=(callD zo7 (cw zgb [sS s,sC ev] []) λ(r0:List (Option zay)×List (zaP×za6))=>some ⟨[(4,gQ 4 2),(8,AV.fa 1 (mS r0.1)),(9,sF r0.2)],[(4,bI)]++frM b 1001 l⟩):=by cases b<;>kernel_rfl
theorem f7(b:Bool)(l:List zac)(ds:List (Option zay))(R:List (zaP×za6)):tReg zby zT 7 ⟨[(4,gQ 4 2),(8,AV.fa 1 (mS ds)),(9,sF R)],[(4,bI)]++frM b 1001 l⟩=(some ⟨[(4,gQ 4 2),(8,AV.fa 1 (mS ds)),(9,sF R),(10,gQ 10 2)],[(4,bI),(10,⟨2,zaS,[[AV.row 301 8 0 0,AV.row 302 12 0 0]],true⟩),(301,⟨8,zbl,[],false⟩),(302,⟨12,zaD,[],false⟩)]++frM b 1001 l⟩):=by cases b<;>kernel_rfl
theorem f8(b:Bool)(l:List zac)(ds:List (Option zay))(R:List (zaP×za6))(xs:List (List AV))(ys:List (List AV)):tReg zby zT 8 ⟨[(4,gQ 4 2),(8,AV.fa 1 (mS ds)),(9,sF R),(10,gQ 10 2)],[(4,bI),(10,⟨2,zaS,[[gR 301 8 xs,gR 302 12 ys]],true⟩),(301,gE xs),(302,gA ys)]++frM b 1001 l⟩=(some ⟨[(4,gQ 4 2),(9,sF R),(10,gQ 10 2),(34,AV.fa 1 (mS ds)),(35,I 0)],[(4,bI),(10,⟨2,zaS,[[gR 301 8 xs,gR 302 12 ys]],true⟩),(301,gE xs),(302,gA ys)]++frM b 1001 l⟩):=by cases b<;>kernel_rfl
theorem f9(b:Bool)(l:List zac)(ds:List (Option zay))(R:List (zaP×za6))(xs:List (List AV))(ys:List (List AV))(i:Int):tReg zby zT 9 ⟨[(4,gQ 4 2),(9,sF R),(10,gQ 10 2),(34,AV.fa 1 (mS ds)),(35,I i)],[(4,bI),(10,⟨2,zaS,[[gR 301 8 xs,gR 302 12 ys]],true⟩),(301,gE xs),(302,gA ys)]++frM b 1001 l⟩=(some ⟨[(4,gQ 4 2),(9,sF R),(10,gQ 10 2),(34,AV.fa 1 (mS ds)),(35,I i),(36,B (decide (i<100)))],[(4,bI),(10,⟨2,zaS,[[gR 301 8 xs,gR 302 12 ys]],true⟩),(301,gE xs),(302,gA ys)]++frM b 1001 l⟩):=by cases b<;>kernel_rfl
theorem f10(b:Bool)(l:List zac)(ds:List (Option zay))(R:List (zaP×za6))(xs:List (List AV))(ys:List (List AV))(i:Int):tReg zby zT 10 ⟨[(4,gQ 4 2),(9,sF R),(10,gQ 10 2),(34,AV.fa 1 (mS ds)),(35,I i)],[(4,bI),(10,⟨2,zaS,[[gR 301 8 xs,gR 302 12 ys]],true⟩),(301,gE xs),(302,gA ys)]++frM b 1001 l⟩=(chk ((0:Int)<=i)<|
 chk ((i:Int)<(↑100:Int))<|
 elemP zkF (mS ds) i.toNat (some ⟨[(4,gQ 4 2),(9,sF R),(10,gQ 10 2),(11,I i),(12,AV.v (.pointer none)),(34,AV.fa 1 (mS ds)),(35,I i)],[(4,bI),(10,⟨2,zaS,[[gR 301 8 xs,gR 302 12 ys]],true⟩),(301,gE xs),(302,gA ys)]++frM b 1001 l⟩)
 (λ(p0:Addr)=>some ⟨[(4,gQ 4 2),(9,sF R),(10,gQ 10 2),(11,I i),(12,AV.v (.pointer (some p0))),(34,AV.fa 1 (mS ds)),(35,I i)],[(4,bI),(10,⟨2,zaS,[[gR 301 8 xs,gR 302 12 ys]],true⟩),(301,gE xs),(302,gA ys)]++frM b 1001 l⟩)
 λ(c1:zay) =>
 some ⟨[(4,gQ 4 2),(9,sF R),(10,gQ 10 2),(11,I i),(12,AV.fp [I c1.level,sJ c1.marks,I c1.period,I c1.started.Time,I c1.started.Source,I c1.started.Seq,sK c1.noted,AV.sl 1 (List.map nBool c1.watch.Last),B c1.watch.Suspended,I c1.good.Time,I c1.good.Source,I c1.good.Seq,B c1.some,sI c1.suspensions]),(34,AV.fa 1 (mS ds)),(35,I i)],[(4,bI),(10,⟨2,zaS,[[gR 301 8 xs,gR 302 12 ys]],true⟩),(301,gE xs),(302,gA ys)]++frM b 1001 l⟩):=by cases b<;>kernel_rfl
theorem f11n(b:Bool)(l:List zac)(ds:List (Option zay))(R:List (zaP×za6))(xs:List (List AV))(ys:List (List AV))(i:Int):tReg zby zT 11 ⟨[(4,gQ 4 2),(9,sF R),(10,gQ 10 2),(11,I i),(12,AV.v (.pointer none)),(34,AV.fa 1 (mS ds)),(35,I i)],[(4,bI),(10,⟨2,zaS,[[gR 301 8 xs,gR 302 12 ys]],true⟩),(301,gE xs),(302,gA ys)]++frM b 1001 l⟩=(some ⟨[(4,gQ 4 2),(9,sF R),(10,gQ 10 2),(11,I i),(12,AV.v (.pointer none)),(34,AV.fa 1 (mS ds)),(35,I i),(42,B true)],[(4,bI),(10,⟨2,zaS,[[gR 301 8 xs,gR 302 12 ys]],true⟩),(301,gE xs),(302,gA ys)]++frM b 1001 l⟩):=by cases b<;>kernel_rfl
theorem f11d(b:Bool)(l:List zac)(ds:List (Option zay))(R:List (zaP×za6))(xs:List (List AV))(ys:List (List AV))(i:Int)(d:zay):tReg zby zT 11 ⟨[(4,gQ 4 2),(9,sF R),(10,gQ 10 2),(11,I i),(12,AV.fp [I d.level,sJ d.marks,I d.period,I d.started.Time,I d.started.Source,I d.started.Seq,sK d.noted,AV.sl 1 (List.map nBool d.watch.Last),B d.watch.Suspended,I d.good.Time,I d.good.Source,I d.good.Seq,B d.some,sI d.suspensions]),(34,AV.fa 1 (mS ds)),(35,I i)],[(4,bI),(10,⟨2,zaS,[[gR 301 8 xs,gR 302 12 ys]],true⟩),(301,gE xs),(302,gA ys)]++frM b 1001 l⟩=(some ⟨[(4,gQ 4 2),(9,sF R),(10,gQ 10 2),(11,I i),(12,AV.fp [I d.level,sJ d.marks,I d.period,I d.started.Time,I d.started.Source,I d.started.Seq,sK d.noted,AV.sl 1 (List.map nBool d.watch.Last),B d.watch.Suspended,I d.good.Time,I d.good.Source,I d.good.Seq,B d.some,sI d.suspensions]),(34,AV.fa 1 (mS ds)),(35,I i),(42,B false)],[(4,bI),(10,⟨2,zaS,[[gR 301 8 xs,gR 302 12 ys]],true⟩),(301,gE xs),(302,gA ys)]++frM b 1001 l⟩):=by cases b<;>kernel_rfl
theorem f12(b:Bool)(l:List zac)(ds:List (Option zay))(R:List (zaP×za6))(xs:List (List AV))(ys:List (List AV))(i:Int)(d:zay):tReg zby zT 12 ⟨[(4,gQ 4 2),(9,sF R),(10,gQ 10 2),(11,I i),(12,AV.fp [I d.level,sJ d.marks,I d.period,I d.started.Time,I d.started.Source,I d.started.Seq,sK d.noted,AV.sl 1 (List.map nBool d.watch.Last),B d.watch.Suspended,I d.good.Time,I d.good.Source,I d.good.Seq,B d.some,sI d.suspensions]),(34,AV.fa 1 (mS ds)),(35,I i)],[(4,bI),(10,⟨2,zaS,[[gR 301 8 xs,gR 302 12 ys]],true⟩),(301,gE xs),(302,gA ys)]++frM b 1001 l⟩=(chk (ys.length=ys.length)<|
 chk ((ys.length+(mC d.suspensions).length)*(88+1)<=1099511627776)<|
 some ⟨[(4,gQ 4 2),(9,sF R),(10,gQ 10 2),(11,I i),(12,AV.fp [I d.level,sJ d.marks,I d.period,I d.started.Time,I d.started.Source,I d.started.Seq,sK d.noted,AV.sl 1 (List.map nBool d.watch.Last),B d.watch.Suspended,I d.good.Time,I d.good.Source,I d.good.Seq,B d.some,sI d.suspensions]),(34,AV.fa 1 (mS ds)),(35,I i)],[(4,bI),(10,⟨2,zaS,[[gR 301 8 xs,gR 302 12 (ys++(mC d.suspensions))]],true⟩),(301,gE xs),(302,⟨12,zaD,ys++(mC d.suspensions),false⟩)]++frM b 1001 l⟩):=by cases b<;>kernel_rfl
theorem f13(b:Bool)(l:List zac)(ds:List (Option zay))(R:List (zaP×za6))(xs:List (List AV))(ys:List (List AV))(i:Int)(d:zay):tSeg zby zT 13 0 3 ⟨[(4,gQ 4 2),(9,sF R),(10,gQ 10 2),(11,I i),(12,AV.fp [I d.level,sJ d.marks,I d.period,I d.started.Time,I d.started.Source,I d.started.Seq,sK d.noted,AV.sl 1 (List.map nBool d.watch.Last),B d.watch.Suspended,I d.good.Time,I d.good.Source,I d.good.Seq,B d.some,sI d.suspensions]),(34,AV.fa 1 (mS ds)),(35,I i)],[(4,bI),(10,⟨2,zaS,[[gR 301 8 xs,gR 302 12 ys]],true⟩),(301,gE xs),(302,gA ys)]++frM b 1001 l⟩=(callD ziw (cw zgU [AV.fp [I d.level,sJ d.marks,I d.period,I d.started.Time,I d.started.Source,I d.started.Seq,sK d.noted,AV.sl 1 (List.map nBool d.watch.Last),B d.watch.Suspended,I d.good.Time,I d.good.Source,I d.good.Seq,B d.some,sI d.suspensions],sF R] []) λ(r0:(List (zaP×zac)))=>some ⟨[(53,AV.map 53),(52,sF R),(51,AV.fp [I d.level,sJ d.marks,I d.period,I d.started.Time,I d.started.Source,I d.started.Seq,sK d.noted,AV.sl 1 (List.map nBool d.watch.Last),B d.watch.Suspended,I d.good.Time,I d.good.Source,I d.good.Seq,B d.some,sI d.suspensions]),(4,gQ 4 2),(9,sF R),(10,gQ 10 2),(11,I i),(12,AV.fp [I d.level,sJ d.marks,I d.period,I d.started.Time,I d.started.Source,I d.started.Seq,sK d.noted,AV.sl 1 (List.map nBool d.watch.Last),B d.watch.Suspended,I d.good.Time,I d.good.Source,I d.good.Seq,B d.some,sI d.suspensions]),(34,AV.fa 1 (mS ds)),(35,I i)],[(53,⟨0,zdA,sA r0,false⟩),(4,bI),(10,⟨2,zaS,[[gR 301 8 xs,gR 302 12 ys]],true⟩),(301,gE xs),(302,gA ys)]++frM b 1001 l⟩):=by cases b<;>kernel_rfl
theorem f15(b:Bool)(l:List zac)(ds:List (Option zay))(R:List (zaP×za6))(xs:List (List AV))(ys:List (List AV))(i:Int)(d:zay)(p:Addr)(k:zaP)(e:zac):tSeg zby zT 15 1 3 ⟨[(4,gQ 4 2),(9,sF R),(10,gQ 10 2),(11,I i),(12,AV.fp [I d.level,sJ d.marks,I d.period,I d.started.Time,I d.started.Source,I d.started.Seq,sK d.noted,AV.sl 1 (List.map nBool d.watch.Last),B d.watch.Suspended,I d.good.Time,I d.good.Source,I d.good.Seq,B d.some,sI d.suspensions]),(34,AV.fa 1 (mS ds)),(35,I i),(54,AV.v (.pointer (some p))),(57,AV.tup [AV.agg [I k.script,I k.part],AV.agg [I e.Stamp.Time,I e.Stamp.Source,I e.Stamp.Seq,I e.Kind,I e.Script,I e.Part,I e.Value,I e.Marker,AV.sl 1 (List.map zai e.Pages)]])],[(4,bI),(10,⟨2,zaS,[[gR 301 8 xs,gR 302 12 ys]],true⟩),(301,gE xs),(302,gA ys)]++frM b 1001 l⟩=(some ⟨[(14,gQ 14 9),(58,AV.agg [I e.Stamp.Time,I e.Stamp.Source,I e.Stamp.Seq,I e.Kind,I e.Script,I e.Part,I e.Value,I e.Marker,AV.sl 1 (List.map zai e.Pages)]),(4,gQ 4 2),(9,sF R),(10,gQ 10 2),(11,I i),(12,AV.fp [I d.level,sJ d.marks,I d.period,I d.started.Time,I d.started.Source,I d.started.Seq,sK d.noted,AV.sl 1 (List.map nBool d.watch.Last),B d.watch.Suspended,I d.good.Time,I d.good.Source,I d.good.Seq,B d.some,sI d.suspensions]),(34,AV.fa 1 (mS ds)),(35,I i),(54,AV.v (.pointer (some p))),(57,AV.tup [AV.agg [I k.script,I k.part],AV.agg [I e.Stamp.Time,I e.Stamp.Source,I e.Stamp.Seq,I e.Kind,I e.Script,I e.Part,I e.Value,I e.Marker,AV.sl 1 (List.map zai e.Pages)]])],[(14,pK e),(4,bI),(10,⟨2,zaS,[[gR 301 8 xs,gR 302 12 ys]],true⟩),(301,gE xs),(302,gA ys)]++frM b 1001 l⟩):=by cases b<;>kernel_rfl
theorem f16(b:Bool)(l:List zac)(ds:List (Option zay))(R:List (zaP×za6))(xs:List (List AV))(ys:List (List AV))(i:Int)(d:zay)(p:Addr)(e:zac):tReg zby zT 16 ⟨[(4,gQ 4 2),(9,sF R),(10,gQ 10 2),(11,I i),(12,AV.fp [I d.level,sJ d.marks,I d.period,I d.started.Time,I d.started.Source,I d.started.Seq,sK d.noted,AV.sl 1 (List.map nBool d.watch.Last),B d.watch.Suspended,I d.good.Time,I d.good.Source,I d.good.Seq,B d.some,sI d.suspensions]),(14,gQ 14 9),(34,AV.fa 1 (mS ds)),(35,I i),(54,AV.v (.pointer (some p)))],[(4,bI),(10,⟨2,zaS,[[gR 301 8 xs,gR 302 12 ys]],true⟩),(14,pK e),(301,gE xs),(302,gA ys)]++frM b 1001 l⟩=(chk (xs.length=xs.length)<|
 chk ((xs.length+1)*(64+1)<=1099511627776)<|
 some ⟨[(4,gQ 4 2),(9,sF R),(10,gQ 10 2),(11,I i),(12,AV.fp [I d.level,sJ d.marks,I d.period,I d.started.Time,I d.started.Source,I d.started.Seq,sK d.noted,AV.sl 1 (List.map nBool d.watch.Last),B d.watch.Suspended,I d.good.Time,I d.good.Source,I d.good.Seq,B d.some,sI d.suspensions]),(34,AV.fa 1 (mS ds)),(35,I i),(54,AV.v (.pointer (some p)))],[(4,bI),(10,⟨2,zaS,[[gR 301 8 (xs++([[I e.Script,I e.Part,I i,I d.level,I e.Value,I e.Stamp.Time,I e.Stamp.Source,I e.Stamp.Seq]])),gR 302 12 ys]],true⟩),(301,⟨8,zbl,xs++([zaC (⟨e.Script,e.Part,i,d.level,e.Value,⟨e.Stamp.Time,e.Stamp.Source,e.Stamp.Seq⟩⟩)]),false⟩),(302,gA ys)]++frM b 1001 l⟩):=by cases b<;>kernel_rfl
theorem f17(b:Bool)(l:List zac)(ds:List (Option zay))(R:List (zaP×za6))(xs:List (List AV))(ys:List (List AV))(i:Int):tReg zby zT 17 ⟨[(4,gQ 4 2),(9,sF R),(10,gQ 10 2),(34,AV.fa 1 (mS ds)),(35,I i)],[(4,bI),(10,⟨2,zaS,[[gR 301 8 xs,gR 302 12 ys]],true⟩),(301,gE xs),(302,gA ys)]++frM b 1001 l⟩=(some ⟨[(4,gQ 4 2),(9,sF R),(10,gQ 10 2),(34,AV.fa 1 (mS ds)),(35,I (w64 (i+1)))],[(4,bI),(10,⟨2,zaS,[[gR 301 8 xs,gR 302 12 ys]],true⟩),(301,gE xs),(302,gA ys)]++frM b 1001 l⟩):=by cases b<;>kernel_rfl
theorem f18(b:Bool)(l:List zac)(gs:List za5)(ys:List (List AV)):tReg zby zT 18 ⟨[(4,gQ 4 2),(10,gQ 10 2)],[(4,bI),(10,⟨2,zaS,[[gR 301 8 (mF gs),gR 302 12 ys]],true⟩),(301,gE (mF gs)),(302,gA ys)]++frM b 1001 l⟩=(callD ze7 (cw zdG [gR 1000 8 (mF gs),AV.fn zeG []] [(1000,gE (mF gs))]) λ(r0:(List za5))=>some ⟨[(4,gQ 4 2),(10,gQ 10 2)],[(4,bI),(10,⟨2,zaS,[[AV.row 301 8 0 ((mF gs).length),gR 302 12 ys]],true⟩),(301,gE (mF r0)),(302,gA ys)]++frM b 1001 l⟩):=by cases b<;>kernel_rfl
theorem f19(b:Bool)(l:List zac)(xs:List (List AV))(ys:List (List AV)):tReg zby zT 19 ⟨[(4,gQ 4 2),(10,gQ 10 2)],[(4,bI),(10,⟨2,zaS,[[gR 301 8 xs,gR 302 12 ys]],true⟩),(301,gE xs),(302,gA ys)]++frM b 1001 l⟩=(some ⟨[(4,gQ 4 2),(5,I 0)],[(4,⟨2,zaS,[[gR 301 8 xs,gR 302 12 ys]],true⟩),(301,gE xs),(302,gA ys)]++frM b 1001 l⟩):=by cases b<;>kernel_rfl
theorem f3(s:zan)(l:List zac):tReg zby zT 3 ⟨[(1,gR 1001 9 (mA l)),(2,gQ 2 9),(4,gQ 4 2)],[(2,pJ s),(4,bI),(1001,gB (mA l))]⟩=(callD zkC (cw zcB [gR 1000 9 (mA l)] [(1000,gB (mA l))]) λ(r0:((List zac)×Int)×(List zac))=>some ⟨[(2,gQ 2 9),(4,gQ 4 2),(6,sC r0.1.1),(7,I r0.1.2)],[(2,pJ s),(4,bI),(1001,gB (mA r0.2))]⟩):=by kernel_rfl
theorem f3f(s:zan)(l:List zac):tReg zby zT 3 ⟨[(1,sC l),(2,gQ 2 9),(4,gQ 4 2)],[(2,pJ s),(4,bI)]⟩=(callD zgk (cw zcB [sC l] []) λ(r0:(List zac)×Int)=>some ⟨[(2,gQ 2 9),(4,gQ 4 2),(6,sC r0.1),(7,I r0.2)],[(2,pJ s),(4,bI)]⟩):=by kernel_rfl
set_option maxRecDepth 100000
def foC:Code:=(zby.fn.body).getD .skip
def foO(j:Nat):Array Oper:=opsAt j foC
def foD(j:Nat):Bool:=zur j foC
theorem fo_hb:zby.fn.body=some foC:=by kernel_rfl
theorem fo_shape:foC=(.seq (.region 0 (foO 0) (foD 0)) (.seq (.seq (.region 1 (foO 1) (foD 1)) (.cond (.tmp 17) (.seq (.region 2 (foO 2) (foD 2)) .ret) .skip)) (.seq (.region 3 (foO 3) (foD 3)) (.seq (.seq (.region 4 (foO 4) (foD 4)) (.cond (.tmp 25) (.seq (.region 5 (foO 5) (foD 5)) .ret) .skip)) (.seq (.region 6 (foO 6) (foD 6)) (.seq (.region 7 (foO 7) (foD 7)) (.seq (.seq (.region 8 (foO 8) (foD 8)) (.block 0 (.loop (.seq (.region 9 (foO 9) (foD 9)) (.seq (.cond (.tmp 36) .skip (.exit 0)) (.seq (.block 1 (.seq (.region 10 (foO 10) (foD 10)) (.seq (.seq (.region 11 (foO 11) (foD 11)) (.cond (.tmp 42) (.exit 1) .skip)) (.seq (.region 12 (foO 12) (foD 12)) (.seq (.region 13 (foO 13) false) (.block 2 (.loop (.seq (.region 14 (foO 14) false) (.seq (.cond (.tmp 56) .skip (.exit 2)) (.block 3 (.seq (.region 15 (foO 15) false) (.region 16 (foO 16) (foD 16))))))))))))) (.region 17 (foO 17) (foD 17)))))))) (.seq (.region 18 (foO 18) (foD 18)) (.seq (.region 19 (foO 19) (foD 19)) .ret))))))))):=by kernel_rfl
theorem fo_r0:regOf 0 foC=some (.region 0 (foO 0) (foD 0)):=by kernel_rfl
theorem fo_r1:regOf 1 foC=some (.region 1 (foO 1) (foD 1)):=by kernel_rfl
theorem fo_r3:regOf 3 foC=some (.region 3 (foO 3) (foD 3)):=by kernel_rfl
theorem fo_r4:regOf 4 foC=some (.region 4 (foO 4) (foD 4)):=by kernel_rfl
theorem fo_r6:regOf 6 foC=some (.region 6 (foO 6) (foD 6)):=by kernel_rfl
theorem fo_r7:regOf 7 foC=some (.region 7 (foO 7) (foD 7)):=by kernel_rfl
theorem fo_r8:regOf 8 foC=some (.region 8 (foO 8) (foD 8)):=by kernel_rfl
theorem fo_r9:regOf 9 foC=some (.region 9 (foO 9) (foD 9)):=by kernel_rfl
theorem fo_r10:regOf 10 foC=some (.region 10 (foO 10) (foD 10)):=by kernel_rfl
theorem fo_r11:regOf 11 foC=some (.region 11 (foO 11) (foD 11)):=by kernel_rfl
theorem fo_r12:regOf 12 foC=some (.region 12 (foO 12) (foD 12)):=by kernel_rfl
theorem fo_r16:regOf 16 foC=some (.region 16 (foO 16) (foD 16)):=by kernel_rfl
theorem fo_r17:regOf 17 foC=some (.region 17 (foO 17) (foD 17)):=by kernel_rfl
theorem fo_r18:regOf 18 foC=some (.region 18 (foO 18) (foD 18)):=by kernel_rfl
theorem fo_r19:regOf 19 foC=some (.region 19 (foO 19) (foD 19)):=by kernel_rfl
theorem fo_r13:regOf 13 foC=some (.region 13 (foO 13) false):=by kernel_rfl
theorem fo_r15:regOf 15 foC=some (.region 15 (foO 15) false):=by kernel_rfl
theorem fo_n:zby.fn.ntmps<=1000:=by decide
def zdQ(ds:Desks)(R:Reop)(n:Nat):List za5:=(List.range n).flatMap λ(i:Nat)=>match ds i with
 |some d=>(countS d R).map λp=>zdv i d p.2
 |none=>[]
def suspTo(ds:Desks)(n:Nat):List zbS:=(List.range n).flatMap λ(i:Nat)=>match ds i with
 |some d=>d.suspensions
 |none=>[]
theorem zou(ds:Desks)(R:Reop)(n:Nat):zdQ ds R (n+1)=zdQ ds R n++(match ds n with
 |some d=>(countS d R).map λp=>zdv n d p.2
 |none=>[]):=by
 unfold zdQ;rw[zeT,zfC];simp
theorem zpI(ds:Desks)(n:Nat):suspTo ds (n+1)=suspTo ds n++(match ds n with
 |some d=>d.suspensions
 |none=>[]):=by
 unfold suspTo;rw[zeT,zfC];simp
theorem deskL_get(ds:Desks){i:Nat}(hi:i<100):(mS (deskL ds))[i]?=some (nDp (ds i)):=by
 unfold deskL
 simp_all
def gotOf(i:Nat)(d:zay)(cs:Counts)(done:List Nat):List za5:=done.filterMap λj=>cs[j]?.map λp=>zdv i d p.2
noncomputable section
abbrev fA(b:Bool)(l:List zac):Nat×AV:=(1,frA b 1001 l)
abbrev fB2(s:zan):Nat×Ent:=(2,pJ s)
abbrev fB4:Nat×Ent:=(4,⟨2,zaS,[[.v (.slice none 0 0),.v (.slice none 0 0)]],true⟩)
abbrev fS2:Nat×AV:=(2,.loc 2 9 0 0)
abbrev fS4:Nat×AV:=(4,.loc 4 2 0 0)
abbrev fS10:Nat×AV:=(10,.loc 10 2 0 0)
abbrev fS9(R:Reop):Nat×AV:=(9,.mp (mK R))
abbrev fS34(ds:Desks):Nat×AV:=(34,.fa 1 (mS (deskL ds)))
abbrev fS35(i:Nat):Nat×AV:=(35,I (i:Int))
abbrev fS11(i:Nat):Nat×AV:=(11,I (i:Int))
abbrev fS12(d:zay):Nat×AV:=(12,.fp (zf6 d))
abbrev fS54(r:Nat):Nat×AV:=(54,.v (.pointer (some ⟨r,0,none⟩)))
abbrev fM(b:Bool)(gs:List za5)(us:List zbS)(l:List zac):Mem:=[fB4,(10,⟨2,zaS,[[.row 301 8 0 (mF gs).length,.row 302 12 0 (mC us).length]],true⟩),(301,gE (mF gs)),(302,gA (mC us))]++frM b 1001 l
abbrev stF(b:Bool)(l:List zac)(ds:Desks)(R:Reop)(gs:List za5)(us:List zbS)(i:Nat):St:=⟨[fS4,fS9 R,fS10,fS34 ds,fS35 i],fM b gs us l⟩
abbrev stG(b:Bool)(l:List zac)(ds:Desks)(R:Reop)(gs:List za5)(us:List zbS)(i:Nat)(d:zay)(r:Nat):St:=⟨[fS4,fS9 R,fS10,fS11 i,fS12 d,fS34 ds,fS35 i,fS54 r],fM b gs us l⟩
structure FoLegs(b:Bool)(s:zan)(l:List zac)(ds:Desks)(R:Reop):Prop where
 cCheck:cw zh2 [.agg (zas s)] []=some (zbm 0)
 cCanon:cw zcB [frA b 1000 l] (frM b 1000 l)=some (bif b then zg8 ((canonS l,0),l)else ze3 (canonS l,0))
 cWalk:cw zgb [.agg (zas s),.sl 9 (mA (canonS l))] []=some (zmc (deskL ds,R))
 cCount:∀i d,ds i=some d->cw zgU [.fp (zf6 d),.mp (mK R)] []=some (zfa (countS d R))
 cSort:∀gs,List.Perm gs (zdQ ds R 100)->cw zdG [.row 1000 8 0 (mF gs).length,.fn zeG []] [(1000,gE (mF gs))]=some (ze6 (isort zbW (zdQ ds R 100)))
 few:(zdQ ds R 100).length<1000000
 fewS:(suspTo ds 100).length<1000000
theorem f3b(b:Bool)(s:zan)(l:List zac){ev:List zac}(h:cw zcB [frA b 1000 l] (frM b 1000 l)=some (bif b then zg8 ((ev,0),l)else ze3 (ev,0))):tReg zby zT 3 ⟨[(1,frA b 1001 l),(2,gQ 2 9),(4,gQ 4 2)],[(2,pJ s),(4,bI)]++frM b 1001 l⟩=some ⟨[(2,gQ 2 9),(4,gQ 4 2),(6,sC ev),(7,I 0)],[(2,pJ s),(4,bI)]++frM b 1001 l⟩:=by
 cases b with
 |true=>have t:=f3 s l;rw[show cw zcB [gR 1000 9 (mA l)] [(1000,gB (mA l))]=some (zg8 ((ev,0),l))from h,zvo]at t;exact t
 |false=>have t:=f3f s l;rw[show cw zcB [sC l] []=some (ze3 (ev,0))from h,zKN]at t;exact t
section
variable{w0:World}{S0:Nat->Prop}{κ0:Kap}{K:Nat->Prop}{a:Act}{w:World}
abbrev Y0:Sat2:=λ_ _ _ _=>True
theorem foStep{j:Nat}{st st':St}{X:Sat2}(hX:Stable X)(hr:regOf j foC=some (.region j (foO j) (foD j)))(ht:tReg zby zT j st=some st')
  (h:NowP w0 S0 κ0 K zby.fn.ntmps X st a w) {Q:Exit->Act->World->Prop} (hQ:∀a' w',NowP w0 S0 κ0 K zby.fn.ntmps X st' a' w'->Q .normal a' w'):(Code.region j (foO j) (foD j)).wp zby.P Q a w:=stepP hX fo_hb fo_n hr ht h hQ
theorem got_snoc(i:Nat)(d:zay)(cs:Counts)(done:List Nat){j:Nat}{k:zaP}{e:zac}(hj:cs[j]?=some (k,e)):gotOf i d cs (done++[j])=gotOf i d cs done++[zdv i d e]:=by
 unfold gotOf
 simp_all
theorem got_perm(i:Nat)(d:zay)(cs:Counts){done:List Nat}(hd:done.Nodup)(h1:∀i∈done,i<cs.length)(h2:∀i,i<cs.length->i∈done):List.Perm (gotOf i d cs done) (cs.map λp=>zdv i d p.2):=by
 have hp:List.Perm done (List.range cs.length):=(zcN hd zjQ).2 (λi=>⟨λh=>ze9.2 (h1 i h),λh=>h2 i (ze9.1 h)⟩);refine(hp.filterMap _).trans (.of_eq ?_)
 have e:(List.range cs.length).filterMap (λj=>cs[j]?.map λp=>zdv i d p.2)=((List.range cs.length).filterMap (λj=>cs[j]?)).map λp=>zdv i d p.2:=by grind
 rw[e,zs4]
theorem fo_range{b:Bool}{l:List zac}{ds:Desks}{R:Reop}{gs:List za5}{us:List zbS}{i:Nat}{d:zay}(hc:cw zgU [.fp (zf6 d),.mp (mK R)] []=some (zfa (countS d R)))(hfew:gs.length+(countS d R).length<1000000)
  (h:NowP w0 S0 κ0 K zby.fn.ntmps Y0 ⟨[fS4,fS9 R,fS10,fS11 i,fS12 d,fS34 ds,fS35 i],fM b gs us l⟩ a w) {Q:Exit->Act->World->Prop}
  (hQ:∀xs a' w',List.Perm xs ((countS d R).map λp=>zdv i d p.2)->NowP w0 S0 κ0 K zby.fn.ntmps Y0 (stF b l ds R (gs++xs) us i) a' w'->Q .normal a' w'):(Code.seq (.region 13 (foO 13) false) (.block 2 (.loop (.seq (.region 14 (foO 14) false) (.seq (.cond (.tmp 56) .skip (.exit 2)) (.block 3 (.seq (.region 15 (foO 15) false) (.region 16 (foO 16) (foD 16))))))))).wp zby.P Q a w:=by
 refine wp_seq (wp_region ?_);have z2:(foO 13).size=4:=by kernel_rfl
 rw[z2,show List.range 4=List.range' 0 3++[3]from rfl];have t2:=f13 b l (deskL ds) R (mF gs) (mC us) i d;unfold zf6 at hc;rw[hc,zsS]at t2;refine segP Stable.none fo_hb fo_n fo_r13 t2 (by rw[z2];decide) h (λa1 w1 h1=>?_);have h2:=h1.freeze Stable.none fo_n [53] (by cases b<;>kernel_rfl) (st':=⟨[(53,.mp (sA (countS d R))),(52,.mp (mK R)),(51,.fp (zf6 d)),fS4,fS9 R,fS10,fS11 i,fS12 d,fS34 ds,fS35 i],fM b gs us l⟩) (by cases b<;>kernel_rfl);rw[wpOps_cons];refine zDU (t:=178) (k:=181) (e:=85) (by unfold opIs;kernel_rfl) (by cases b<;>kernel_rfl) (by decide) h2 (m:=53) (d:=54) rfl (λa3 w3 r q en clock h3=>?_);have h4:=h3.trim Rng.stable [4,9,10,11,12,34,35,54] [] (st':=stG b l ds R gs us i d r) (by cases b<;>kernel_rfl);rw[show gs=gs++gotOf i d (countS d R) []by simp[gotOf]]at h4;refine zDW (it:=54) (d1:=55) (d2:=56) (r:=r) (stf:=λdone=>stG b l ds R (gs++gotOf i d (countS d R) done) us i d r) [4,9,10,11,12,34,35,54] (by cases b<;>kernel_rfl) (by unfold opIs;kernel_rfl) (by unfold opIs;kernel_rfl) (by decide) (by decide) (λ_=>rfl) (λ_ _ _=>by cases b<;>kernel_rfl) ?_ h4 ?_
 · intro done j k v hd hl hjd hkv a w hn
   have hj:j<(countS d R).length:=by have:=(zam.1 hkv).1;simpa using this
   rw[zbC,zaa hj]at hkv
   have hlen:(gs++gotOf i d (countS d R) done).length<1000000:=by have h1:(gotOf i d (countS d R) done).length<=done.length:=zdg _ _;have h2:=zvQ hd (n:=(countS d R).length) (λi hi=>by simpa using hl i hi);rw[zcb];omega
   have hev:=got_snoc i d (countS d R) done (j:=j) (k:=(countS d R)[j].1) (e:=(countS d R)[j].2) (zaa hj);simp only[hev,<-zdC];generalize gs++gotOf i d (countS d R) done=xs at hn hlen ⊢;generalize hx:(countS d R)[j]=x at hkv ⊢;obtain⟨kk,e⟩:=x;simp only[zbg,zaf,zdK,zax,and_true]at hkv;obtain⟨rfl,rfl⟩:=hkv;refine wp_block (wp_seq (wp_region ?_));have z4:(foO 15).size=4:=by kernel_rfl
   rw[z4,show List.range 4=0::(List.range' 1 3++[])from rfl,wpOps_cons];refine zDD (by unfold opIs;kernel_rfl) (by decide) hn (it:=54) (d:=57) rfl (by rw[zbC,zaa hj,hx];rfl) (λa1 w1 h1=>?_);have h2:=h1.trim Rng.stable [4,9,10,11,12,34,35,54,57] [] (st':=⟨[fS4,fS9 R,fS10,fS11 i,fS12 d,fS34 ds,fS35 i,fS54 r,(57,.tup [.agg (zcu kk),.agg (zab e)])],fM b xs us l⟩) (by cases b<;>kernel_rfl);refine segP Rng.stable fo_hb fo_n fo_r15 (f15 b l (deskL ds) R (mF xs) (mC us) i d _ kk e) (by rw[z4];decide) h2 (λa3 w3 h3=>?_);have h4:=h3.trim Rng.stable [4,9,10,11,12,14,34,35,54] [] (st':=⟨[fS4,fS9 R,fS10,fS11 i,fS12 d,(14,.loc 14 9 0 0),fS34 ds,fS35 i,fS54 r],[fB4,(10,⟨2,zaS,[[.row 301 8 0 (mF xs).length,.row 302 12 0 (mC us).length]],true⟩),(14,pK e),(301,gE (mF xs)),(302,gA (mC us))]++frM b 1001 l⟩) (by cases b<;>kernel_rfl);have t6:=f16 b l (deskL ds) R (mF xs) (mC us) i d ⟨r,0,none⟩ e;rw[zao rfl,zao (by grind)]at t6;refine foStep Rng.stable fo_r16 t6 h4 (λa7 w7 h7=>⟨rfl,?_⟩);have e1:mF (xs++[zdv i d e])=mF xs++[zaC (zdv i d e)]:=by simp
   unfold stG fM;rw[e1];exact h7
 ·intro done hd hl hall a' w' hn;refine hQ _ a' w' (got_perm i d (countS d R) hd (λi hi=>by simpa using hl i hi) (λi hi=>hall i (by simpa using hi))) ?_;exact(hn.trim Rng.stable [4,9,10,34,35] [] (st':=stF b l ds R (gs++gotOf i d (countS d R) done) us i) (by cases b<;>kernel_rfl)).drop
theorem fo_loop{b:Bool}{s:zan}{l:List zac}{ds:Desks}{R:Reop}(g:FoLegs b s l ds R)(h:NowP w0 S0 κ0 K zby.fn.ntmps Y0 (stF b l ds R [] [] 0) a w){Q:Exit->Act->World->Prop}
  (hQ:∀gs a' w',List.Perm gs (zdQ ds R 100)->NowP w0 S0 κ0 K zby.fn.ntmps Y0 (stF b l ds R gs (suspTo ds 100) 100) a' w'->Q .normal a' w'):(Code.wp zby.P (.block 0 (.loop (.seq (.region 9 (foO 9) (foD 9)) (.seq (.cond (.tmp 36) .skip (.exit 0)) (.seq (.block 1 (.seq (.region 10 (foO 10) (foD 10)) (.seq (.seq (.region 11 (foO 11) (foD 11)) (.cond (.tmp 42) (.exit 1) .skip)) (.seq (.region 12 (foO 12) (foD 12)) (.seq (.region 13 (foO 13) false) (.block 2 (.loop (.seq (.region 14 (foO 14) false) (.seq (.cond (.tmp 56) .skip (.exit 2)) (.block 3 (.seq (.region 15 (foO 15) false) (.region 16 (foO 16) (foD 16))))))))))))) (.region 17 (foO 17) (foD 17))))))) Q a w):=by
 have mono:∀k,k<=100->(zdQ ds R k).length<=(zdQ ds R 100).length/\(suspTo ds k).length<=(suspTo ds 100).length:=λk hk=>by
  induction hn:100-k generalizing k with
  |zero=>grind
  |succ n ih=>have h1:=ih (k+1) (by omega) (by omega);rw[zou,zpI,zcb,zcb]at h1;omega
 have hfew:=g.few;have hfewS:=g.fewS;refine wp_block (wp_loop (λa w=>∃k gs,k<=100/\List.Perm gs (zdQ ds R k)/\NowP w0 S0 κ0 K zby.fn.ntmps Y0 (stF b l ds R gs (suspTo ds k) k) a w) (λa _=>100-cnt a 35) ⟨0,[],zdh _,zfU _,h⟩ ?_)
 rintro a w ⟨k,gs,hk,hp,hn⟩
 have hc0:cnt a 35=k:=by rw[hn.cnt (n:=(k:Int)) rfl];simp
 have hup:∀(a':Act) (w':World) (gs':List za5),k<100->List.Perm gs' (zdQ ds R (k+1))->NowP w0 S0 κ0 K zby.fn.ntmps Y0 (stF b l ds R gs' (suspTo ds (k+1)) k) a' w'->(Code.region 17 (foO 17) (foD 17)).wp zby.P (Exit.then (λa' w'=>(∃k gs,k<=100/\List.Perm gs (zdQ ds R k)/\NowP w0 S0 κ0 K zby.fn.ntmps Y0 (stF b l ds R gs (suspTo ds k) k) a' w')/\100-cnt a' 35<100-cnt a 35) (Exit.inBlock 0 Q)) a' w':=λa' w' gs' hk' hp' hn'=>by
  refine foStep Stable.none fo_r17 (f17 b l (deskL ds) R _ _ _) hn' (λa6 w6 h6=>?_);rw[w6Q]at h6;refine⟨⟨k+1,gs',hk',hp',by exact_mod_cast h6⟩,?_⟩;have:cnt a6 35=k+1:=by rw[h6.cnt (n:=(k:Int)+1) rfl];omega
  omega
 refine wp_seq (foStep Stable.none fo_r9 (f9 b l (deskL ds) R _ _ _) hn (λa2 w2 h2=>?_));refine wp_seq (wp_cond (h2.bool (b:=decide ((k:Int)<100)) rfl) ?_);by_cases hlt:k<100
 · rw[decide_eq_true (by omega),if_pos rfl];refine wp_skip ?_;have h3:=h2.trim Stable.none [4,9,10,34,35] [] (st':=stF b l ds R gs (suspTo ds k) k) (by cases b<;>kernel_rfl);have t:=f10 b l (deskL ds) R (mF gs) (mC (suspTo ds k)) k;have hget:=deskL_get ds hlt;rw[cPQ,zao (show((k:Int))<100 by omega)]at t;refine wp_seq (wp_block (wp_seq ?_))
   cases hd:ds k with
   |none =>
     rw[hd]at hget;rw[zAO (by simpa[nDp]using hget)]at t;refine foStep Stable.none fo_r10 t h3 (λa4 w4 h4=>?_);refine wp_seq (wp_seq (foStep Stable.none fo_r11 (f11n b l (deskL ds) R _ _ _) h4 (λa5 w5 h5=>?_)));refine wp_cond (h5.bool (b:=true) rfl) ?_;rw[if_pos rfl];refine wp_exit ?_;have h6:=h5.trim Stable.none [4,9,10,34,35] [] (st':=stF b l ds R gs (suspTo ds k) k) (by cases b<;>kernel_rfl);refine hup a5 w5 gs hlt ?_ ?_
     ·rw[zou,hd];simpa using hp
     ·rw[zpI,hd];simpa using h6
   |some d =>
     rw[hd]at hget;rw[elemP_dat (D:=zkF) (x:=d) (by simpa[nDp]using hget)]at t;refine foStep Stable.none fo_r10 t h3 (λa4 w4 h4=>?_);refine wp_seq (wp_seq (foStep Stable.none fo_r11 (f11d b l (deskL ds) R _ _ _ d) h4 (λa5 w5 h5=>?_)));refine wp_cond (h5.bool (b:=false) rfl) ?_;rw[iNs];refine wp_skip ?_;have h6:=h5.trim Stable.none [4,9,10,11,12,34,35] [] (st':=⟨[fS4,fS9 R,fS10,fS11 k,fS12 d,fS34 ds,fS35 k],fM b gs (suspTo ds k) l⟩) (by cases b<;>kernel_rfl);have hm:=mono (k+1) (by omega);rw[zou,zpI,hd,zcb,zcb]at hm;simp only[zad]at hm;have t12:=f12 b l (deskL ds) R (mF gs) (mC (suspTo ds k)) k d;rw[zao rfl,zao (by grind)]at t12;refine wp_seq (foStep Stable.none fo_r12 t12 h6 (λa7 w7 h7=>?_))
     have e1:mC (suspTo ds (k+1))=mC (suspTo ds k)++mC d.suspensions:=by rw[zpI,hd];simp
     have h8:NowP w0 S0 κ0 K zby.fn.ntmps Y0 ⟨[fS4,fS9 R,fS10,fS11 k,fS12 d,fS34 ds,fS35 k],fM b gs (suspTo ds (k+1)) l⟩ a7 w7:=by unfold fM;rw[e1];exact h7
     have hgl:gs.length=(zdQ ds R k).length:=hp.length_eq;refine fo_range (g.cCount k d hd) (by omega) h8 (λxs a9 w9 hx h9=>?_);refine hup a9 w9 (gs++xs) hlt ?_ h9;rw[zou,hd];exact hp.append hx
 · rw[decide_eq_false (by omega),iNs];have:k=100:=by omega
   subst this;exact wp_exit (hQ _ _ _ hp (h2.trim Stable.none [4,9,10,34,35] [] (by cases b<;>kernel_rfl)))
abbrev stZ(b:Bool)(l:List zac)(ds:Desks)(R:Reop):St:=⟨[fS4,(5,I 0)],[(4,⟨2,zaS,[[.row 301 8 0 (mF (isort zbW (zdQ ds R 100))).length,.row 302 12 0 (mC (suspTo ds 100)).length]],true⟩),(301,gE (mF (isort zbW (zdQ ds R 100)))),(302,gA (mC (suspTo ds 100)))]++frM b 1001 l⟩
theorem fo_body{b:Bool}{s:zan}{l:List zac}{ds:Desks}{R:Reop}(g:FoLegs b s l ds R)(hl:(isort zbW (zdQ ds R 100)).length=(zdQ ds R 100).length)(h:NowP w0 S0 κ0 K zby.fn.ntmps Y0 ⟨[(0,.agg (zas s)),fA b l],(frM b 1001 l)⟩ a w):foC.wp zby.P (PostC w0 S0 κ0 K zby.fn.ntmps .ret (stZ b l ds R)) a w:=by
 rw[fo_shape];refine wp_seq (foStep Stable.none fo_r0 (f0 b s l) h (λa1 w1 h1=>?_));have t1:=f1 b s l;rw[g.cCheck,za7]at t1;refine wp_seq (wp_seq (foStep Stable.none fo_r1 t1 h1 (λa2 w2 h2=>?_)));refine wp_cond (h2.bool (b:=false) rfl) ?_;rw[iNs];refine wp_skip ?_;have h3:=h2.trim Stable.none [1,2,4] [] (st':=⟨[fA b l,fS2,fS4],[fB2 s,fB4]++frM b 1001 l⟩) (by cases b<;>kernel_rfl);have t3:=f3b b s l g.cCanon;refine wp_seq (foStep Stable.none fo_r3 t3 h3 (λa4 w4 h4=>?_));refine wp_seq (wp_seq (foStep Stable.none fo_r4 (f4 b s l (canonS l) 0) h4 (λa5 w5 h5=>?_)));refine wp_cond (h5.bool (b:=false) rfl) ?_;rw[iNs];refine wp_skip ?_;have h6:=h5.trim Stable.none [2,4,6] [] (st':=⟨[fS2,fS4,(6,.sl 9 (mA (canonS l)))],[fB2 s,fB4]++frM b 1001 l⟩) (by cases b<;>kernel_rfl);have t6:=f6 b s l (canonS l);rw[g.cWalk,zAt]at t6;refine wp_seq (foStep Stable.none fo_r6 t6 h6 (λa7 w7 h7=>?_));refine wp_seq (foStep Stable.none fo_r7 (f7 b l (deskL ds) R) h7 (λa8 w8 h8=>?_));refine wp_seq (wp_seq (foStep Stable.none fo_r8 (f8 b l (deskL ds) R [] []) h8 (λa9 w9 h9=>?_)));refine fo_loop g h9 (λgs a10 w10 hp h10=>?_);have h11:=h10.trim Stable.none [4,10] [] (st':=⟨[fS4,fS10],fM b gs (suspTo ds 100) l⟩) (by cases b<;>kernel_rfl);have t18:=f18 b l gs (mC (suspTo ds 100));rw[show List.length (mF gs)=(mF gs).length from rfl,g.cSort gs hp,zmm]at t18;refine wp_seq (foStep Stable.none fo_r18 t18 h11 (λa12 w12 h12=>?_))
 have hlen:(mF gs).length=(mF (isort zbW (zdQ ds R 100))).length:=by rw[zad,zad,hp.length_eq,hl]
 rw[hlen]at h12;refine wp_seq (foStep Stable.none fo_r19 (f19 b l _ _) h12 (λa13 w13 h13=>?_));refine wp_ret ⟨rfl,?_⟩;obtain⟨S,κ,hg,_⟩:=h13;exact⟨S,κ,hg⟩
theorem zGD:enters zby.P zdY=true:=by kernel_rfl
theorem fo_calls{b:Bool}{s:zan}{l:List zac}{ds:Desks}{R:Reop}(g:FoLegs b s l ds R)(hl:(isort zbW (zdQ ds R 100)).length=(zdQ ds R 100).length)(w:World)(S:Nat->Prop)(κ:Kap)(vals:Array Value)(hvl:vals.size=2)(hS:∀g,S g->g<w.heap.size)
  (hv:∀(k:Nat) (a:AV) (x:Value),[sS s,frA b 1001 l][k]?=some a->vals[k]?=some x->VRel S κ (Dm (frM b 1001 l)) w a x)
  (hms:∀d ent,Ab.look (frM b 1001 l) d=some ent->EntAt S κ (Dm (frM b 1001 l)) w (κ d) ent) (hinj:∀d d' g c c',Dm (frM b 1001 l) d->Dm (frM b 1001 l) d'->κ d=some (g,c)->κ d'=some (g,c')->d=d'):Calls zby.P zdY vals w (Ab.Left S κ (frM b 1001 l) (frM b 1001 l) (.tup [.agg (zbI ⟨isort zbW (zdQ ds R 100),suspTo ds 100⟩),I 0]) w):=by
 have hf:zby.P.funcs[zdY]?=some zby.fn:=by kernel_rfl
 refine zqw (args:=[sS s,frA b 1001 l]) (frz:=false) (ex:=.ret) (st:=stZ b l ds R) hf fo_hb (show 2<=zby.fn.ntmps by decide) hvl hS hv hms hinj (λid=>by simp) (λa hg=>?_) ?_ ?_ ?_
 ·obtain⟨S,κ,hg⟩:=hg;exact fo_body g hl ⟨S,κ,hg,trivial⟩
 ·unfold stZ zbI;simp only;generalize hx:mF (isort zbW (zdQ ds R 100))=xs;generalize hy:mC (suspTo ds 100)=ys;rw[show ziU zby.P false zby.fn ⟨[fS4,(5,I 0)],[(4,⟨2,zaS,[[.row 301 8 0 xs.length,.row 302 12 0 ys.length]],true⟩),(301,gE xs),(302,gA ys)]++frM b 1001 l⟩=outOf false ([(4,⟨2,zaS,[[.row 301 8 0 xs.length,.row 302 12 0 ys.length]],true⟩),(301,gE xs),(302,gA ys)]++frM b 1001 l) (.tup [.agg [.row 301 8 0 xs.length,.row 302 12 0 ys.length],I 0])from by cases b<;>kernel_rfl];simp[outOf,snap,mapO,Ab.look]<;>exact⟨hx.symm,hy.symm⟩
 ·cases b<;>kernel_rfl
 ·cases b<;>kernel_rfl
end
end
def markEv(s:zan)(i:Nat)(e:zac):Bool:=e.Kind==0&&e.Stamp.Source.toNat==i&&(fitS s e).isSome&&(seedS s e.Script).isNone
theorem zsC(ds:Desks)(i:Nat)(d:zay):upd ds i d i=some d:=by simp[upd]
theorem ztj(ds:Desks){i j:Nat}(d:zay)(h:j≠i):upd ds i d j=ds j:=by simp[upd,h]
theorem zKm(a:za6)(d:zay):(reinS a d).marks=d.marks:=by unfold reinS;split<;>rfl
theorem zKl(a:za6)(d:zay):(reinS a d).level=d.level:=by unfold reinS;split<;>rfl
theorem zoM(p:Int)(f:Bool)(g:za6)(i:Nat)(m:zb5):(voidIf p f g i m).event=m.event:=by unfold voidIf;split<;>rfl
theorem zKq(id:Int)(a:za6)(d:zay):(suspS id a d).marks.map (·.event)=d.marks.map (·.event):=by
 unfold suspS;simp only;apply zcI;intro j;rw[zbC,zbC,zf8]
 cases d.marks[j]? with
 |none=>rfl
 |some m=>simp[zoM]
theorem zKb(s:zan)(p:zaM)(sd:GSeed)(e:zac)(d:zay):(noteS s p sd e d).marks.map (·.event)=d.marks.map (·.event):=by
 unfold noteS;split
 ·rfl
 · simp only;split
   ·rfl
   · split
     ·rfl
     · split
       ·rw[zKq]
       ·split<;>rfl
theorem zKa(s:zan)(p:zaM)(sd:GSeed)(e:zac)(d:zay):(noteS s p sd e d).level=d.level:=by
 unfold noteS;split
 ·rfl
 · simp only;split
   ·rfl
   · split
     ·rfl
     · split
       ·rfl
       ·split<;>rfl
theorem evS_desk(s:zan)(st:Desks×Reop)(e:zac)(i:Nat):(∀d,st.1 i=some d->∃d',(evS s st e).1 i=some d'/\d'.marks.map (·.event)=d.marks.map (·.event)++(if markEv s i e then[e]else[])/\d'.level=d.level)/\(st.1 i=none->(evS s st e).1 i=none):=by
 have same:(evS s st e).1 i=st.1 i->markEv s i e=false->(∀d,st.1 i=some d->∃d',(evS s st e).1 i=some d'/\d'.marks.map (·.event)=d.marks.map (·.event)++(if markEv s i e then[e]else[])/\d'.level=d.level)/\(st.1 i=none->(evS s st e).1 i=none):=λh1 h2=>⟨λd hd=>⟨d,by rw[h1,hd],by rw[h2];simp,rfl⟩,λhn=>by rw[h1,hn]⟩
 by_cases k1:e.Kind=1
 · have hm:markEv s i e=false:=by unfold markEv;simp[k1]
   cases hd:st.1 e.Marker.toNat with
   |none=>exact same (by unfold evS;simp_all) hm
   |some d =>
     have he:(evS s st e).1=upd st.1 e.Marker.toNat (reinS e.Stamp d):=by unfold evS;rw[if_pos k1];simp only[hd]
     by_cases hi:i=e.Marker.toNat
     · subst hi;refine⟨λd' hd'=>⟨_,by rw[he,zsC],?_,?_⟩,λhn=>by grind⟩
       ·rw[hd]at hd';injection hd' with hd';subst hd';rw[hm,zKm];simp
       ·rw[hd]at hd';injection hd' with hd';subst hd';exact zKl _ _
     ·exact same (by rw[he,ztj _ _ hi]) hm
 by_cases k2:e.Kind=2
 · have hm:markEv s i e=false:=by unfold markEv;simp[k2]
   exact same (by unfold evS;rw[if_neg k1,if_pos k2]) hm
 by_cases k0:e.Kind=0
 case neg =>
  have hm:markEv s i e=false:=by unfold markEv;simp[k0]
  exact same (by unfold evS;simp_all) hm
 cases hd:st.1 e.Stamp.Source.toNat with
 |none =>
   have he:(evS s st e).1=st.1:=by unfold evS;rw[if_neg k1,if_neg k2,if_pos k0];simp only[hd]
   refine⟨λd hd'=>⟨d,by rw[he,hd'],?_,rfl⟩,λhn=>by rw[he,hn]⟩
   have:markEv s i e=false:=by
    unfold markEv
    have:(e.Stamp.Source.toNat==i)=false:=by rw[beq_eq_false_iff_ne];intro h;rw[h]at hd;rw[hd]at hd';cases hd'
    simp[this]
   rw[this];simp
 |some d =>
   cases hf:fitS s e with
   |none =>
     have he:(evS s st e).1=st.1:=by unfold evS;rw[if_neg k1,if_neg k2,if_pos k0];simp only[hd,hf]
     exact same (by rw[he]) (by unfold markEv;simp[hf])
   |some q =>
     obtain⟨x,p,y,h1,h2,h3,h4,h5,h6,h7,h8⟩:=zqE hf;have hp:s.Papers[q]?=some p:=(zfl h3).1
     cases hs:seedS s e.Script with
     |some sd =>
       have he:(evS s st e).1=upd st.1 e.Stamp.Source.toNat (noteS s p sd e d):=by unfold evS;rw[if_neg k1,if_neg k2,if_pos k0];simp only[hd,hf,hs,hp]
       have hm:markEv s i e=false:=by unfold markEv;simp[hs]
       by_cases hi:i=e.Stamp.Source.toNat
       · subst hi;refine⟨λd' hd'=>⟨_,by rw[he,zsC],?_,?_⟩,λhn=>by grind⟩
         ·rw[hd]at hd';injection hd' with hd';subst hd';rw[hm,zKb];simp
         ·rw[hd]at hd';injection hd' with hd';subst hd';exact zKa _ _ _ _ _
       ·exact same (by rw[he,ztj _ _ hi]) hm
     |none =>
       have he:(evS s st e).1=upd st.1 e.Stamp.Source.toNat { d with marks:=d.marks++[⟨e,d.watch.Suspended⟩] }:=by unfold evS;rw[if_neg k1,if_neg k2,if_pos k0];simp only[hd,hf,hs]
       by_cases hi:i=e.Stamp.Source.toNat
       · subst hi;have hm:markEv s e.Stamp.Source.toNat e=true:=by unfold markEv;simp[k0,hf,hs]
         refine⟨λd' hd'=>⟨_,by rw[he,zsC],?_,?_⟩,λhn=>by grind⟩
         ·simp_all
         simp_all
       ·exact same (by rw[he,ztj _ _ hi]) (by unfold markEv;grind)
theorem zv6(s:zan):∀(ev:List zac) (st:Desks×Reop) (i:Nat),(∀d,st.1 i=some d->∃d',(ev.foldl (evS s) st).1 i=some d'/\d'.marks.map (·.event)=d.marks.map (·.event)++ev.filter (markEv s i)/\d'.level=d.level)/\(st.1 i=none->(ev.foldl (evS s) st).1 i=none)
 |[],st,i=>⟨λd hd=>⟨d,hd,by simp,rfl⟩,λh=>h⟩
 |e::r,st,i=>by
   obtain⟨h1,h2⟩:=evS_desk s st e i;obtain⟨h3,h4⟩:=zv6 s r (evS s st e) i
   grind
theorem zvT(ms:List za3)(i:Nat):∀d,seats ms i=some d->∃m∈ms,m.ID.toNat=i/\d=desk0 m.Level:=by
 have key:∀(ms:List za3) (ds:Desks) d,(ms.foldl (λds m=>upd ds m.ID.toNat (desk0 m.Level)) ds) i=some d->ds i=some d\/∃m∈ms,m.ID.toNat=i/\d=desk0 m.Level:=by
  intro ms
  induction ms with
  |nil=>simp_all
  |cons m ms ih =>
    intro ds d h;rcases ih _ d h with h|⟨m',h1,h2⟩
    · replace h:upd ds m.ID.toNat (desk0 m.Level) i=some d:=h;by_cases hi:i=m.ID.toNat
      · rw[hi,zsC]at h
        simp_all
      ·rw[ztj _ _ hi]at h;exact .inl h
    grind
 intro d h;rcases key ms (λ_=>none) d h with h|h
 ·cases h
 ·exact h
theorem zuo{s:zan}{ev:List zac}{i:Nat}{d:zay}(h:(walkS s ev).1 i=some d):d.marks.map (·.event)=ev.filter (markEv s i):=by
 obtain⟨h1,h2⟩:=zv6 s ev (seats s.Markers,[]) i
 cases hs:seats s.Markers i with
 |none=>rw[show(walkS s ev).1 i=none from h2 hs]at h;cases h
 |some d0=>obtain⟨d',e1,e2,_⟩:=h1 d0 hs;obtain⟨m,_,_,hd0⟩:=zvT _ _ _ hs;rw[show(walkS s ev).1 i=some d' from e1]at h;injection h with h;subst h;rw[e2,hd0];simp[desk0]
theorem filters_le{α:Type}(p:Nat->α->Bool)(hp:∀x i j,p i x=true->p j x=true->i=j):∀(n:Nat) (l:List α),((List.range n).map λi=>(l.filter (p i)).length).sum<=l.length:=by
 intro n l
 induction l with
 |nil =>
   simp only[zeQ,zcZ]
   induction n with
   |zero=>simp
   |succ n ih=>rw[zeT];simp only[zcC];rw[zgx];simp;omega
 |cons x r ih =>
   have:((List.range n).map λi=>((x::r).filter (p i)).length).sum<=((List.range n).map λi=>(r.filter (p i)).length).sum+1:=by
    have key:∀n,((List.range n).map λi=>((x::r).filter (p i)).length).sum=((List.range n).map λi=>(r.filter (p i)).length).sum+(if∃i,i<n/\p i x=true then 1 else 0):=by
     intro n
     induction n with
     |zero=>simp
     |succ n ihn =>
       rw[zeT];simp only[zcC];rw[zgx,zgx,ihn];simp only[zbJ,ze1,List.sum_cons,List.sum_nil,zer,zcn];by_cases hn:p n x=true
       · rw[if_pos hn,if_neg (λ⟨i,h1,h2⟩=>by grind),if_pos ⟨n,by omega,hn⟩]
         grind
       · rw[if_neg hn];by_cases h:∃i,i<n/\p i x=true
         ·rw[if_pos h,if_pos (by grind)];omega
         grind
    rw[key n];split<;>omega
   grind
theorem zCm(d:zay)(R:Reop):∀(l:List zb5) (m:Counts),(l.foldl (zgB d R) m).length<=m.length+l.length
 |[],m=>by simp
 |x::r,m=>by
   have h1:=zCm d R r (zgB d R m x)
   have h2:(zgB d R m x).length<=m.length+1:=by
    unfold zgB;split
    ·omega
    · split
      ·omega
      ·exact zss
   grind
theorem countS_len(d:zay)(R:Reop):(countS d R).length<=d.marks.length:=by have:=zCm d R d.marks [];simpa[countS]using this
theorem sum_flat{α:Type}(f:Nat->List α):∀n,((List.range n).flatMap f).length=((List.range n).map λi=>(f i).length).sum:=by simp_all
theorem sum_le_sum{f g:Nat->Nat}(h:∀i,f i<=g i):∀n,((List.range n).map f).sum<=((List.range n).map g).sum:=by
 intro n
 induction n with
 |zero=>simp
 |succ n ih =>
   rw[zeT];simp only[zcC];rw[zgx,zgx]
   grind
theorem zwA(s:zan)(ev:List zac)(R:Reop)(n:Nat):(zdQ (walkS s ev).1 R n).length<=ev.length:=by
 unfold zdQ;rw[sum_flat];refine zbP (sum_le_sum (g:=λi=>(ev.filter (markEv s i)).length) (λi=>?_) n) (filters_le (markEv s) (λx i j h1 h2=>?_) n ev)
 · cases hd:(walkS s ev).1 i with
   |none=>simp
   |some d =>
     simp only[zad];have h1:=countS_len d R;have h2:=congrArg List.length (zuo hd)
     simp_all
 · unfold markEv at h1 h2
   simp_all
def KeyedC(m:Counts):Prop:=(m.map (·.1)).Nodup/\∀p∈m,p.1=⟨p.2.Script,p.2.Part⟩
theorem zuP(d:zay)(R:Reop):KeyedC (countS d R):=by
 have key:∀(l:List zb5) (m:Counts),KeyedC m->KeyedC (l.foldl (zgB d R) m):=by
  intro l
  induction l with
  |nil=>intro m h;exact h
  |cons x r ih =>
    intro m h;refine ih _ ?_;unfold zgB;split
    ·exact h
    · split
      ·exact h
      · refine⟨(zmr h.1).1,λp hp=>?_⟩;rcases zlB hp with rfl|hp
        ·rfl
        ·exact h.2 p hp
 exact key _ [] ⟨by simp,by simp⟩
theorem zvJ{d:zay}{R:Reop}:∀{l:List zb5} {m:Counts} {p:zaP×zac},p∈l.foldl (zgB d R) m->p∈m\/∃x∈l,p.2=x.event/\x.void=false/\¬(d.level<2/\reopB R x.event=true)
 |[],m,p,h=>.inl h
 |x::r,m,p,h=>by
   rcases zvJ (l:=r) (m:=zgB d R m x) h with h|⟨y,h1,h2⟩
   · unfold zgB at h;split at h
     ·exact .inl h
     · split at h
       ·exact .inl h
       · rename_i hv hr;rcases zlB h with rfl|h
         ·simp_all
         ·exact .inl h
   grind
theorem countS_mem{d:zay}{R:Reop}{p:zaP×zac}(h:p∈countS d R):∃x∈d.marks,p.2=x.event/\x.void=false/\¬(d.level<2/\reopB R x.event=true):=by
 rcases zvJ h with h|h
 ·cases h
 ·exact h
theorem zpE{ds:Desks}{R:Reop}{n:Nat}{g:za5}:g∈zdQ ds R n↔∃i,i<n/\∃d,ds i=some d/\∃p∈countS d R,g=zdv i d p.2:=by
 unfold zdQ
 grind
theorem zGI{ds:Desks}{R:Reop}{n:Nat}{a b:za5}(ha:a∈zdQ ds R n)(hb:b∈zdQ ds R n)(h1:a.Script=b.Script)(h2:a.Part=b.Part)(h3:a.Marker=b.Marker):a=b:=by
 obtain⟨i,hi,d,hd,p,hp,rfl⟩:=zpE.1 ha;obtain⟨j,hj,f,hf,q,hq,rfl⟩:=zpE.1 hb;unfold zdv at h1 h2 h3;simp only at h1 h2 h3;have:i=j:=by omega
 subst this;rw[hd]at hf;injection hf with hf;subst hf;obtain⟨k1,k2⟩:=zuP d R;have e:p.1=q.1:=by grind
 have:p=q:=by
  have:∀{l:Counts},(l.map (·.1)).Nodup->p∈l->q∈l->p=q:=by
   intro l
   induction l with
   |nil=>intro _ h;cases h
   |cons x r ih=>grind
  exact this k1 hp hq
 rw[this]
set_option maxRecDepth 10000
theorem ev_inj{l l':List zac}(h:mA l=mA l'):l=l':=Eq.mp (TyD.minj zaZ) h
theorem canon_ok:CallOK zP (single zcB zOrc):=by
 intro f args ms r ms' h;unfold single at h;split at h
 case isFalse=>cases h
 rename_i hf;subst hf
 cases ms with
 |nil =>
   have hz:zOrc zcB args []=zxt args:=by unfold zOrc;simp(decide:=true) only [if_false,if_true]
   rw[hz]at h;clear hz;unfold zxt at h;split at h
   case isFalse=>cases h
   rename_i hex;have hsp:=hex.choose_spec;generalize hex.choose=l at h hsp;obtain⟨rfl,hl⟩:=hsp;injection h with h;injection h with h1 h2;subst h1 h2;refine⟨zGA,λw S κ vals hvl hS hv hms hinj=>?_⟩;exact cn_calls (cnLegs false hl) w S κ vals hvl hS hv hms hinj
 |cons a m =>
   have hz:zOrc zcB args (a::m)=oCanon args (a::m):=by unfold zOrc;simp(decide:=true) only [if_false,if_true]
   rw[hz]at h;clear hz;unfold oCanon at h;split at h
   case isFalse=>cases h
   rename_i hex;have hsp:=hex.choose_spec;generalize hex.choose=l at h hsp;obtain⟨⟨ha,hm⟩,hl⟩:=hsp;subst ha;rw[hm]at h ⊢;injection h with h;injection h with h1 h2;subst h1 h2;refine⟨zGA,λw S κ vals hvl hS hv hms hinj=>?_⟩;exact cn_calls (cnLegs true hl) w S κ vals hvl hS hv hms hinj
theorem c_canon(b:Bool){l:List zac}(h:FewEv l):cw zcB [frA b 1000 l] (frM b 1000 l)=some (bif b then zg8 ((canonS l,0),l)else ze3 (canonS l,0)):=by
 cases b with
 |true =>
   refine zim canon_ok ?_;show zOrc zcB [(lentEv 1000 l).1] (lentEv 1000 l).2=_
   have hz:zOrc zcB [(lentEv 1000 l).1] (lentEv 1000 l).2=oCanon [(lentEv 1000 l).1] (lentEv 1000 l).2:=by unfold zOrc;simp(decide:=true) only [if_false,if_true];rfl
   rw[hz];unfold oCanon;have hex:∃l',([(lentEv 1000 l).1]=[(lentEv 1000 l').1]/\(lentEv 1000 l).2=(lentEv 1000 l').2)/\FewEv l':=⟨l,⟨rfl,rfl⟩,h⟩
   rw[dif_pos hex];have hsp:=hex.choose_spec;generalize hex.choose=l' at hsp
   have:l=l':=by have h2:=hsp.1.2;unfold lentEv at h2;simp only[zax,zav,Ent.mk.injEq,true_and,and_true]at h2;exact ev_inj h2
   subst this;rfl
 |false =>
   refine zim canon_ok ?_;show zOrc zcB [.sl 9 (mA l)] []=_
   have hz:zOrc zcB [.sl 9 (mA l)] []=zxt [.sl 9 (mA l)]:=by unfold zOrc;simp(decide:=true) only [if_false,if_true]
   rw[hz];unfold zxt;have hex:∃l',[sC l]=[sC l']/\FewEv l':=⟨l,rfl,h⟩
   rw[dif_pos hex];have hsp:=hex.choose_spec;generalize hex.choose=l' at hsp
   have:l=l':=by have h2:=hsp.1;simp only[zax,AV.sl.injEq,true_and,and_true]at h2;exact ev_inj h2
   subst this;rfl
theorem c_walk{s:zan}{ev:List zac}(h:OkRun s ev):cw zgb [.agg (zas s),.sl 9 (mA ev)] []=some (zmc (deskL (walkS s ev).1,(walkS s ev).2)):=by
 refine zim (walk_ok ci_ok cb_ok) ?_;show zOrc zgb [.agg (zas s),.sl 9 (mA ev)] []=_
 have hz:zOrc zgb [.agg (zas s),.sl 9 (mA ev)] []=oWalk [.agg (zas s),.sl 9 (mA ev)]:=by unfold zOrc;simp(decide:=true) only [if_false,if_true]
 rw[hz];unfold oWalk;have hex:∃s' ev',[sS s,sC ev]=[.agg (zas s'),.sl 9 (mA ev')]/\OkRun s' ev':=⟨s,ev,rfl,h⟩
 rw[dif_pos hex];have hsp:=hex.choose_spec.choose_spec;generalize hex.choose_spec.choose=ev' at hsp;generalize hex.choose=s' at hsp;obtain⟨h1,_⟩:=hsp;simp only[zax,AV.agg.injEq,AV.sl.injEq,true_and,and_true]at h1;obtain⟨h1,h2⟩:=h1;have e1:s=s':=zqy.inj h1;have e2:ev=ev':=ev_inj h2;subst e1 e2;rfl
theorem zIM(R:Reop)(e:zac):cw zmH [.mp (mK R),.agg (zab e)] []=some (zap (reopB R e)):=by
 refine zyl ?_;have last:zgc R e 2=some (zap false):=zlH (by rw[zaN (by omega)];rfl)
 have one:zgc R e 1=some (zap (match mfind ⟨e.Script,-1⟩ R with|some a=>lessS e.Stamp a|none=>false)):=by
  refine zlH ?_;rw[zaB (by omega),cPQ,show[zbi.enc e.Part,zbi.enc (-1)]=List.map zai [e.Part,-1]from rfl,zce];simp only[show(1:Int).toNat=1 from rfl,zfg,zbR,zae];rw[zlJ,w6Q,show(1:Int)+1=2 from rfl,last]
  cases mfind ⟨e.Script,-1⟩ R with
  |none=>rfl
  |some a=>simp only[zcS,zaV,zbN];rw[zw6,za7,zDj];cases lessS e.Stamp a<;>rfl
 refine zlH ?_;rw[zaB (by omega),cPQ,show[zbi.enc e.Part,zbi.enc (-1)]=List.map zai [e.Part,-1]from rfl,zce];simp only[show(0:Int).toNat=0 from rfl,zbR,zae];rw[zlJ,w6Q,show(0:Int)+1=1 from rfl,one];unfold reopB
 cases mfind ⟨e.Script,e.Part⟩ R with
 |none=>rw[zei];rfl
 |some a =>
   simp only[zcS,zaV,zbN];rw[zw6,za7,zDj]
   cases lessS e.Stamp a with
   |true=>rfl
   |false=>rw[zei];rfl
theorem c_counting(d:zay)(R:Reop)(hl:d.marks.length<=1000000):cw zgU [.fp (zf6 d),.mp (mK R)] []=some (zfa (countS d R)):=by
 refine zvq ?_
 have key:∀(n i:Nat) (m:Counts),i+n=d.marks.length->zea d R (sA m) i=some (zfa ((d.marks.drop i).foldl (zgB d R) m)):=by
  intro n
  induction n with
  |zero=>intro i m hi;refine zn4 ?_;rw[zad,zaN (by omega),zcd (by omega)];rfl
  |succ n ih =>
    intro i m hi;have hlt:i<d.marks.length:=by omega
    refine zn4 ?_;rw[zad,zaB (by omega),cPQ,zah,zoi,zaa hlt,zae,w6Q,show((i:Int)+1)=((i+1:Nat):Int)by omega,zbd hlt,zcJ]
    have put:msetD zP 181 85 (.agg (zfK.enc ⟨d.marks[i].event.Script,d.marks[i].event.Part⟩)) (.agg (zab d.marks[i].event)) (sA m) (λm4=>zea d R m4 ((i+1:Nat):Int)) =
      some (zfa ((d.marks.drop (i+1)).foldl (zgB d R) (mput ⟨d.marks[i].event.Script,d.marks[i].event.Part⟩ d.marks[i].event m))):=by
     rw[show(AV.agg (zfK.enc ⟨d.marks[i].event.Script,d.marks[i].event.Part⟩))=.agg (zcu ⟨d.marks[i].event.Script,d.marks[i].event.Part⟩)from rfl,zpH];exact ih (i+1) _ (by omega)
    unfold zgB
    cases hv:d.marks[i].void with
    |true=>rw[zaV,if_pos rfl];exact ih (i+1) m (by omega)
    |false =>
      rw[zaz,iNs,zfe];by_cases hlv:d.level<2
      · rw[if_pos hlv,zIM,zKA]
        cases hr:reopB R d.marks[i].event with
        |true=>rw[zaV,if_pos ⟨hlv,rfl⟩];exact ih (i+1) m (by omega)
        |false=>rw[zaz,iNs];exact put
      ·rw[if_neg hlv,if_neg (λh=>hlv h.1)];exact put
 exact key d.marks.length 0 [] (by omega)
theorem zF2[Dr](a b:za5):∃v:Int,cw zeG [.agg (zaC a),.agg (zaC b)] []=some (zbm v)/\decide (v<0)=zbW a b:=by
 refine⟨znt [cmpI a.Script b.Script,cmpI a.Part b.Part,cmpI a.Marker b.Marker],zws ?_,?_⟩
 ·rw[c_cmp,za7,c_cmp,za7,c_cmp,za7,c_Or _ (by simp),za7];rfl
 · unfold cmpI zbW;simp only[znt]
   grind
theorem zpY{a b:za5}(h:zbW a b=true):zbW b a=false:=by
 unfold zbW at h ⊢
 grind
theorem zsp{a b c:za5}(h1:zbW b a=false)(h2:zbW c b=false):zbW c a=false:=by
 unfold zbW at h1 h2 ⊢
 grind
theorem zyw{a b:za5}(h1:zbW a b=false)(h2:zbW b a=false):a.Script=b.Script/\a.Part=b.Part/\a.Marker=b.Marker:=by
 unfold zbW at h1 h2
 grind
theorem swoG:Go.Sort.SWO zbW where
 irrefl:=λx=>by unfold zbW;simp
 trans:=λx y z h1 h2=>by unfold zbW at h1 h2 ⊢;grind
 ntrans:=λx y z h1 h2=>zsp h2 h1
theorem cmpG[Dr](x y:za5):∃v:Int,cw zeG [.agg (zaC x),.agg (zaC y)] []=some (.v (.int .i64 v),[])/\decide (v<0)=zbW x y:=zF2 x y
theorem sortG_ok:CallOK zP (single zdG zOrc):=
 zDS (C:=zC) (A:=zA) (ty:=zbl) (nT:=zaC) layG rfl (by kernel_rfl) aggG sizeG (by decide) (λ_=>rfl) (by kernel_rfl) swoG (@cmpG drOn) (λargs ms=>by unfold zOrc;simp(decide:=true) only [if_false,if_true])
theorem c_sortG(l:List za5)(h:l.length<1000000):cw zdG [.row 1000 8 0 (mF l).length,.fn zeG []] [(1000,gE (mF l))]=some (ze6 (sortS zbW l)):=by
 rw[zad];refine zim sortG_ok ?_;have hz:∀args ms,zOrc zdG args ms=oSort 8 zbl zeG zaC zbW args ms:=λargs ms=>by unfold zOrc;simp(decide:=true) only [if_false,if_true]
 exact(hz _ _).trans (zA0 (λx y h=>zdX.inj h) h)
theorem okRun{s:zan}(hs:zb3 s){l:List zac}(h:FewEv l):OkRun s (canonS l):=
 ⟨hs,λe he=>(keep_mem ((zhr l).mem_iff.1 he)).1,by have:=(zhr l).length_eq;have:=h.2.1;omega⟩
theorem desk_ok{s:zan}(hs:zb3 s):∀(ev:List zac) {i:Nat} {d:zay},(walkS s ev).1 i=some d->DeskOk s.Monitor ev.length d:=by
 have key:∀(ev:List zac) (k:Nat) (st:Desks×Reop),(∀i d,st.1 i=some d->DeskOk s.Monitor k d)->∀i d,(ev.foldl (evS s) st).1 i=some d->DeskOk s.Monitor (k+ev.length) d:=by
  intro ev
  induction ev with
  |nil=>intro k st h;exact h
  |cons e r ih =>
    intro k st h i d hd;have:=ih (k+1) (evS s st e) ?_ i d hd
    ·grind
    · intro j f hj;have up:∀x,(∀g,st.1 x=some g->DeskOk s.Monitor (k+1) g):=λx g hg=>(h x g hg).up
      unfold evS at hj;split at hj
      · split at hj
        · rename_i d0 hd0;unfold upd at hj;simp only at hj;split at hj
          ·injection hj with hj;rw[<-hj];exact(h _ _ hd0).rein hs.monitor _
          ·exact up _ _ hj
        ·exact up _ _ hj
      · split at hj
        ·exact up _ _ hj
        · split at hj
          · split at hj
            · rename_i d0 q hd0 _;split at hj
              · unfold upd at hj;simp only at hj;split at hj
                ·injection hj with hj;rw[<-hj];exact(h _ _ hd0).note rfl _ _ _
                ·exact up _ _ hj
              · unfold upd at hj;simp only at hj;split at hj
                ·injection hj with hj;rw[<-hj];exact(h _ _ hd0).app _
                ·exact up _ _ hj
              ·exact up _ _ hj
            ·exact up _ _ hj
          ·exact up _ _ hj
 intro ev i d hd
 have:=key ev 0 (seats s.Markers,[]) (λi d h=>by
  obtain⟨m,_,_,rfl⟩:=zvT _ _ _ h
  exact DeskOk.zero hs.monitor _) i d hd
 simpa using this
theorem suspTo_len{s:zan}(hs:zb3 s)(ev:List zac):∀n,(suspTo (walkS s ev).1 n).length<=n*ev.length:=by
 intro n
 induction n with
 |zero=>simp[suspTo]
 |succ n ih =>
   rw[zpI,zcb,zgv]
   cases hd:(walkS s ev).1 n with
   |none=>simp;omega
   |some d=>have:=(desk_ok hs ev hd).susp;simp;omega
theorem foLegs(b:Bool){s:zan}(hs:zb3 s){l:List zac}(h:FewEv l):FoLegs b s l (walkS s (canonS l)).1 (walkS s (canonS l)).2 where
 cCheck:=znQ hs
 cCanon:=c_canon b h
 cWalk:=c_walk (okRun hs h)
 cCount:=λi d hd=>c_counting d _ (by
  have h1:=(desk_ok hs _ hd).marks;have h2:=(okRun hs h).2.2
  omega)
 cSort:=λgs hp=>by
  have h1:=zwA s (canonS l) (walkS s (canonS l)).2 100;have h2:=(zhr l).length_eq;have h3:=h.2.1;have h4:=hp.length_eq;have e1:=c_sortG gs (by omega);have e2:=zui swoG gs
  have:sortS zbW gs=isort zbW (zdQ (walkS s (canonS l)).1 (walkS s (canonS l)).2 100):=
   zkL (lt:=zbW) ((e2.trans hp).trans (zht _).symm) (zvf swoG gs) (zow (lt:=zbW) (λ_ _ _ h1 h2=>zsp h1 h2) (λ_ _ h=>zpY h) _) (λa ha b hb h1 h2=>by
    have q:=zyw h1 h2
    exact zGI ((e2.trans hp).mem_iff.1 ha) ((e2.trans hp).mem_iff.1 hb) q.1 q.2.1 q.2.2)
  simp_all
 few:=by have h1:=zwA s (canonS l) (walkS s (canonS l)).2 100;have h2:=(zhr l).length_eq;have h3:=h.2.1;omega
 fewS:=by have h1:=suspTo_len hs (canonS l) 100;have h2:=(zhr l).length_eq;have h3:=h.2.1;omega
theorem zxi(s:zan)(l:List zac):foldS s l=⟨isort zbW (zdQ (walkS s (canonS l)).1 (walkS s (canonS l)).2 100),suspTo (walkS s (canonS l)).1 100⟩:=rfl
theorem fold_ok:CallOK zP (single zdY zOrc):=by
 intro f args ms r ms' h;unfold single at h;split at h
 case isFalse=>cases h
 rename_i hf;subst hf
 cases ms with
 |nil =>
   have hz:zOrc zdY args []=oFoldD args:=by unfold zOrc;simp(decide:=true) only [if_false,if_true]
   rw[hz]at h;clear hz;unfold oFoldD at h;split at h
   case isFalse=>cases h
   rename_i hex;have hsp:=hex.choose_spec.choose_spec;generalize hex.choose_spec.choose=l at h hsp;generalize hex.choose=s at h hsp;obtain⟨rfl,hs,hl⟩:=hsp;injection h with h;injection h with h1 h2;subst h1 h2;refine⟨zGD,λw S κ vals hvl hS hv hms hinj=>?_⟩;exact fo_calls (foLegs false hs hl) (zht _).length_eq w S κ vals hvl hS hv hms hinj
 |cons a m =>
   have hz:zOrc zdY args (a::m)=oFold args (a::m):=by unfold zOrc;simp(decide:=true) only [if_false,if_true]
   rw[hz]at h;clear hz;unfold oFold at h;split at h
   case isFalse=>cases h
   rename_i hex;have hsp:=hex.choose_spec.choose_spec;generalize hex.choose_spec.choose=l at h hsp;generalize hex.choose=s at h hsp;obtain⟨⟨ha,hm⟩,hs,hl⟩:=hsp;subst ha;rw[hm]at h ⊢;injection h with h;injection h with h1 h2;subst h1 h2;refine⟨zGD,λw S κ vals hvl hS hv hms hinj=>?_⟩;exact fo_calls (foLegs true hs hl) (zht _).length_eq w S κ vals hvl hS hv hms hinj
theorem c_fold{s:zan}(hs:zb3 s){l:List zac}(h:FewEv l):cw zdY [.agg (zas s),.row 1001 9 0 (mA l).length] [(1001,gB (mA l))]=some (zsx ((foldS s l,0),l)):=by
 refine zim fold_ok ?_;show zOrc zdY [.agg (zas s),(lentEv 1001 l).1] (lentEv 1001 l).2=_
 have hz:zOrc zdY [.agg (zas s),(lentEv 1001 l).1] (lentEv 1001 l).2=oFold [.agg (zas s),(lentEv 1001 l).1] (lentEv 1001 l).2:=by unfold zOrc;simp(decide:=true) only [if_false,if_true];rfl
 rw[hz];unfold oFold;have hex:∃s' l',([.agg (zas s),(lentEv 1001 l).1]=[.agg (zas s'),(lentEv 1001 l').1]/\(lentEv 1001 l).2=(lentEv 1001 l').2)/\zb3 s'/\FewEv l':=⟨s,l,⟨rfl,rfl⟩,hs,h⟩
 rw[dif_pos hex];have hsp:=hex.choose_spec.choose_spec;generalize hex.choose_spec.choose=l' at hsp;generalize hex.choose=s' at hsp;obtain⟨⟨h1,h2⟩,_⟩:=hsp
 have e2:l=l':=by unfold lentEv at h2;simp only[zax,zav,Ent.mk.injEq,true_and,and_true]at h2;exact ev_inj h2
 simp only[zax,AV.agg.injEq]at h1;have e1:s=s':=zqy.inj h1.1;subst e1 e2;rfl
theorem zK3{s:zan}(hs:zb3 s){l:List zac}(h:FewEv l):cw zdY [.agg (zas s),.sl 9 (mA l)] []=some (zme (foldS s l,0)):=by
 refine zim fold_ok ?_;show zOrc zdY [.agg (zas s),.sl 9 (mA l)] []=_
 have hz:zOrc zdY [.agg (zas s),.sl 9 (mA l)] []=oFoldD [.agg (zas s),.sl 9 (mA l)]:=by unfold zOrc;simp(decide:=true) only [if_false,if_true]
 rw[hz];unfold oFoldD;have hex:∃s' l',[.agg (zas s),sC l]=[.agg (zas s'),sC l']/\zb3 s'/\FewEv l':=⟨s,l,rfl,hs,h⟩
 rw[dif_pos hex];have hsp:=hex.choose_spec.choose_spec;generalize hex.choose_spec.choose=l' at hsp;generalize hex.choose=s' at hsp;obtain⟨h1,_⟩:=hsp;simp only[zax,AV.agg.injEq,AV.sl.injEq,true_and,and_true]at h1;have e1:s=s':=zqy.inj h1.1;have e2:l=l':=ev_inj h1.2;subst e1 e2;rfl
set_option maxRecDepth 10000
abbrev idE(e:zac):Int×Int:=(e.Stamp.Source,e.Stamp.Seq)
theorem zc5{κ ν:Type}[DecidableEq κ](k:κ)(v:ν):∀l:List (κ×ν),mfind k (mput k v l)=some v
 |[]=>by simp[mput,mfind]
 |p::r=>by
   unfold mput;split
   ·simp[mfind]
   ·rename_i h;unfold mfind;rw[if_neg h];exact zc5 k v r
theorem zdr{κ ν:Type}[DecidableEq κ]{k j:κ}(v:ν)(h:j≠k):∀l:List (κ×ν),mfind j (mput k v l)=mfind j l
 |[]=>by simp[mput,mfind,Ne.symm h]
 |p::r=>by
   unfold mput;split
   · rename_i hp;simp only[mfind]
     grind
   ·simp only[mfind];rw[zdr v h r]
theorem zry{κ ν:Type}[DecidableEq κ]:∀{l:List (κ×ν)} {p:κ×ν},(l.map (·.1)).Nodup->p∈l->mfind p.1 l=some p.2
 |[],_,_,h=>by cases h
 |x::r,p,hn,h=>by
   obtain⟨n1,n2⟩:=zfE.1 hn;unfold mfind;rcases za4.1 h with e|h
   ·rw[e,if_pos rfl]
   ·rw[if_neg (λe=>n1 (zbs.2 ⟨p,h,e.symm⟩))];exact zry n2 h
def Said(l:List zac)(i:Nat)(m:zfw):Prop:=∀k,match mfind k m with
 |none=>∀j e,j<i->l[j]?=some e->eventB e=true->idE e≠k
 |some g=>g.disputed=true↔∃j e,j<i/\l[j]?=some e/\eventB e=true/\idE e=k/\l[g.first.toNat]?≠some e
theorem zGn{l:List zac}{m:zfw}{i:Nat}{e:zac}(h:Said l i m)(he:l[i]?=some e):Said l (i+1) (zgg l m i e):=by
 intro k;have hk:=h k;unfold zgg;by_cases hv:eventB e=true
 case neg=>grind
 rw[if_pos hv];by_cases hke:k=idE e
 · subst hke
   cases hf:mfind (idE e) m with
   |none =>
     simp only;rw[show(e.Stamp.Source,e.Stamp.Seq)=idE e from rfl,zc5]
     grind
   |some g =>
     simp only;rw[show(e.Stamp.Source,e.Stamp.Seq)=idE e from rfl,zc5]
     grind
 · have other:∀v:zbO,mfind k (mput (e.Stamp.Source,e.Stamp.Seq) v m)=mfind k m:=λv=>zdr v hke m
   grind
theorem zvK{l:List zac}:∀{r:List zac} {i:Nat} {m:zfw},Said l i m->l.drop i=r->Said l (i+r.length) (ze0 l r i m)
 |[],i,m,h,_=>h
 |e::r,i,m,h,hd=>by
   unfold ze0
   have he:l[i]?=some e:=by have:=congrArg (·[0]?) hd;simpa using this
   have:=zvK (zGn h he) (r:=r) (by
    have:=congrArg (List.drop 1) hd
    simpa[List.drop_drop]using this)
   grind
theorem zJ6(l:List zac):Said l l.length (zda l):=by have:=zvK (l:=l) (r:=l) (i:=0) (m:=[]) (λk=>by simp[mfind]) rfl;rw[zaY]at this;exact this
def Stays(l:List zac)(e:zac):Prop:=e∈l/\eventB e=true/\∀f∈l,eventB f=true->idE f=idE e->f=e
theorem keep_iff{l:List zac}{e:zac}:e∈keepS l↔Stays l e:=by
 have hK:=zrr l;have hS:=zJ6 l;constructor
 · intro h;obtain⟨p,hp,hpe⟩:=zel.1 (show e∈(zda l).filterMap (pickG l)from h);obtain⟨e',h1,h2,h3⟩:=hK.2 p hp;unfold pickG at hpe;split at hpe
   ·cases hpe
   rename_i hd;rw[h1]at hpe;injection hpe with hpe;subst hpe;refine⟨zaq h1,h3,λf hf hvf hid=>?_⟩;have:=hS p.1;rw[zry hK.1 hp]at this;simp only at this;obtain⟨j,hj,hjf⟩:=zbz.1 hf;by_cases hfe:l[p.2.first.toNat]?=some f
   ·simp_all
   ·exact absurd (this.2 ⟨j,f,hj,by simp_all,hvf,by rw[hid];exact h2,hfe⟩) hd
 · rintro⟨h1,h2,h3⟩
   obtain⟨j,hj,hje⟩:=zbz.1 h1;have hje':l[j]?=some e:=by simp_all
   have:=hS (idE e)
   cases hf:mfind (idE e) (zda l)with
   |none=>grind
   |some g =>
     rw[hf]at this;simp only at this;have hp:=zjh hf;obtain⟨e',q1,q2,q3⟩:=hK.2 _ hp;have he':e'=e:=h3 e' (zaq q1) q3 q2;subst he';show e'∈(zda l).filterMap (pickG l);refine zel.2 ⟨_,hp,?_⟩;unfold pickG
     grind
theorem keep_nodup(l:List zac):(keepS l).Nodup:=by
 refine List.Pairwise.imp ?_ (zDH l)
 grind
theorem zGz{l:List zac}{e:zac}:e∈canonS l↔Stays l e:=by rw[(zhr l).mem_iff,keep_iff]
def Alike(fb:DMap)(m:zfw):Prop:=∀k,mfind k fb.1=(mfind k m).map (·.first)/\(mfind k fb.2).getD false=((mfind k m).map (·.disputed)).getD false
theorem step_alike{l:List zac}{i:Nat}{e:zac}{fb:DMap}{m:zfw}(h:Alike fb m):Alike (dstep l i e fb) (zgg l m i e):=by
 unfold dstep zgg;by_cases hv:eventB e=true
 case neg=>rw[if_neg (λq=>hv (ok_eventB q)),if_neg hv];exact h
 rw[if_pos (zqD hv),if_pos hv];obtain⟨h1,h2⟩:=h (dKey e)
 cases hf:mfind (dKey e) m with
 |none =>
   rw[hf]at h1;rw[h1]
   try rw[show mfind (e.Stamp.Source,e.Stamp.Seq) m=none from hf]
   simp only[Option.map_none];intro k;by_cases hk:k=dKey e
   · subst hk;rw[zc5,show mfind (dKey e) (mput (e.Stamp.Source,e.Stamp.Seq) (⟨(i:Int),false⟩:zbO) m)=some ⟨i,false⟩from zc5 _ _ _]
     simp_all
   ·rw[zdr _ hk,show mfind k (mput (e.Stamp.Source,e.Stamp.Seq) (⟨(i:Int),false⟩:zbO) m)=mfind k m from zdr _ hk _];exact h k
 |some g =>
   rw[hf]at h1 h2;rw[h1]
   try rw[show mfind (e.Stamp.Source,e.Stamp.Seq) m=some g from hf]
   simp only[zbg];intro k;by_cases hs:l[g.first.toNat]?=some e
   · rw[if_pos hs,if_pos hs];by_cases hk:k=dKey e
     ·subst hk;rw[show mfind (dKey e) (mput (e.Stamp.Source,e.Stamp.Seq) (⟨g.first,g.disputed⟩:zbO) m)=some ⟨g.first,g.disputed⟩from zc5 _ _ _];exact⟨h1,h2⟩
     ·rw[show mfind k (mput (e.Stamp.Source,e.Stamp.Seq) (⟨g.first,g.disputed⟩:zbO) m)=mfind k m from zdr _ hk _];exact h k
   · rw[if_neg hs,if_neg hs];by_cases hk:k=dKey e
     ·subst hk;rw[show mfind (dKey e) (mput (e.Stamp.Source,e.Stamp.Seq) (⟨g.first,true⟩:zbO) m)=some ⟨g.first,true⟩from zc5 _ _ _];exact⟨h1,by rw[zc5];rfl⟩
     ·rw[show mfind k (mput (e.Stamp.Source,e.Stamp.Seq) (⟨g.first,true⟩:zbO) m)=mfind k m from zdr _ hk _];exact⟨(h k).1,by rw[zdr _ hk];exact(h k).2⟩
theorem zFc{l:List zac}:∀{r:List zac} {i:Nat} {fb:DMap} {m:zfw},Alike fb m->Alike (dfold l r i fb) (ze0 l r i m)
 |[],_,_,_,h=>h
 |e::r,i,fb,m,h=>by unfold dfold ze0;exact zFc (step_alike h)
theorem zAy{fb:DMap}{m:zfw}(h:Alike fb m):∀{l:List zac} {i:Nat} {e:zac},e∈ckeep fb l i↔∃j,l[j]?=some e/\∃g,mfind (dKey e) m=some g/\g.first=((i+j:Nat):Int)/\g.disputed=false
 |[],i,e=>by simp[ckeep]
 |x::r,i,e=>by
   have cond:(mfind (dKey x) fb.1=some (i:Int)/\(mfind (dKey x) fb.2).getD false=false)↔∃g,mfind (dKey x) m=some g/\g.first=(i:Int)/\g.disputed=false:=by
    obtain⟨h1,h2⟩:=h (dKey x);rw[h1,h2]
    cases hf:mfind (dKey x) m with
    |none=>simp
    |some g=>simp
   have ih:=zAy h (l:=r) (i:=i+1) (e:=e)
   have tail:(∃j,r[j]?=some e/\∃g,mfind (dKey e) m=some g/\g.first=((i+1+j:Nat):Int)/\g.disputed=false)↔∃j,0<j/\(x::r)[j]?=some e/\∃g,mfind (dKey e) m=some g/\g.first=((i+j:Nat):Int)/\g.disputed=false:=by
    constructor
    · rintro⟨j,h1,g,h2,h3,h4⟩
      exact⟨j+1,by omega,by simpa using h1,g,h2,by rw[h3];omega,h4⟩
    ·grind
   unfold ckeep
   grind
theorem zAx{fb:DMap}{m:zfw}(h:Alike fb m):∀{l:List zac} {i:Nat},(ckeep fb l i).Pairwise (λa b=>idE a≠idE b)
 |[],_=>by simp[ckeep]
 |x::r,i=>by
   unfold ckeep;split
   · rename_i hc;refine zcR.2 ⟨λy hy e=>?_,zAx h⟩;obtain⟨j,_,g,h1,h2,_⟩:=(zAy h).1 hy;have:=(h (dKey x)).1
     grind
   ·exact zAx h
theorem zEK(l:List zac):List.Perm (ckeep (dispF l) l 0) (keepS l):=by
 have hA:Alike (dispF l) (zda l):=zFc (λk=>by simp[mfind]);refine(zcN ?_ (keep_nodup l)).2 (λe=>?_)
 · refine List.Pairwise.imp ?_ (zAx hA)
   grind
 · rw[zAy hA];have hK:=zrr l;constructor
   · rintro⟨j,h1,g,h2,h3,h4⟩
     show e∈(zda l).filterMap (pickG l);refine zel.2 ⟨_,zjh h2,?_⟩;unfold pickG
     simp_all
   · intro h;obtain⟨p,hp,hpe⟩:=zel.1 (show e∈(zda l).filterMap (pickG l)from h);obtain⟨e',h1,h2,h3⟩:=hK.2 p hp;unfold pickG at hpe;split at hpe
     ·cases hpe
     rename_i hd;have q:=hpe;rw[h1]at q;injection q with q;subst q;have:=zAT l p hp;refine⟨p.2.first.toNat,hpe,p.2,?_,by omega,by simpa using hd⟩;rw[show dKey e'=p.1 from h2];exact zry hK.1 hp
theorem zIN(l:List zac)(hl:l.length<=2000)(hp:∀e∈l,e.Pages.length<=1000000):cw zlQ [.sl 9 (mA l)] []=some (ze3 (canonS l,0)):=by obtain⟨r,h1,h2,h3⟩:=zJM l hl hp;rw[h1,canon_of (h2.trans (zEK l)) (h3.imp λ{a b} h=>by unfold leE at h;simpa using h)]
end Go.Proofs.YtlecnobdfhlmnaaGreat
end
