/- The reference of the log of marks: sorting, what is disputed, the canonical list. -/
import Derived.Test.YtlecnobdfhlmnaaGreatJ0
import Derived.Test.YtlecnobdfhlmnaaGreatXAnn
import Derived.Test.YtlecnobdfhlmnaaGreatAb9
import Derived.Control
import Derived.Test.YtlecnobdfhlmnaaGreatAb10
set_option linter.unusedSimpArgs false
set_option linter.unusedVariables false
set_option linter.unusedSectionVars false
noncomputable section
namespace Go.Proofs.YtlecnobdfhlmnaaGreat
open Go.Ab
theorem znw{a b c:za6}(h1:lessS b a=false)(h2:lessS c b=false):lessS c a=false:=by
 unfold lessS at *
 grind
theorem zwC(a b:za6):lessS a b=false\/lessS b a=false:=by
 unfold lessS
 grind
theorem leE_trans(a b c:zac)(h1:leE a b=true)(h2:leE b c=true):leE a c=true:=by simp only[leE,zc4]at *;exact znw h1 h2
theorem leE_total(a b:zac):(leE a b||leE b a)=true:=by simp only[leE,zfd,zc4];exact zwC _ _
theorem zIS:∀(n:Nat) (l:List zac),l.length<=n->l.length<=100000->∃r,cw zoq [.sl 9 (mA l)] []=some (zdu r)/\r.Perm l/\r.Pairwise (λa b=>leE a b=true):=by
 intro n
 induction n with
 |zero=>intro l hl _;have:l=[]:=zcU (by omega);subst this;refine⟨[],zuU ?_,zfU _,List.Pairwise.nil⟩;simp(disch:=omega)only[zad,zcZ,zaB,zao,zbx];rfl
 |succ n ih =>
   intro l hl h5;by_cases h2:l.length<2
   · refine⟨l,zuU ?_,zfU _,?_⟩
     ·simp(disch:=omega)only[zad,zaB,zao,zbx];rfl
     · match l,h2 with
       |[],_=>exact List.Pairwise.nil
       |[x],_=>simp_all
   · have ht:(l.length:Int).tdiv 2=((l.length / 2:Nat):Int):=by rw[Int.tdiv_eq_ediv_of_nonneg (by omega)];omega
     obtain⟨a,ea,pa,sa⟩:=ih (l.take (l.length / 2)) (by simp;omega) (by simp;omega);obtain⟨b,eb,pb,sb⟩:=ih (l.drop (l.length / 2)) (by simp;omega) (by simp;omega);have la:=pa.length_eq;have lb:=pb.length_eq;simp only[zeC,zhQ]at la lb;refine⟨List.merge a b leE,zuU ?_,?_,List.pairwise_merge leE_trans leE_total a b sa sb⟩
     ·simp only[List.map_take]at ea;simp only[ziY]at eb;have hloop:=merge_loop a b (by omega) (by omega) _ 0 0 [] rfl (by omega) (by omega) (by simp);simp only[zgT,zeS,ze1]at hloop;have e1:List.take (List.length l) (mA l)=mA l:=zaJ (by simp);simp(disch:=omega)only[zad,zaN,ht,w64_id,zao,zah,ea,ziy,e1,eb];exact hloop
     · refine(List.merge_perm_append leE).trans ?_;have:=pa.append pb
       simp_all
abbrev dKey(e:zac):Int×Int:=(e.Stamp.Source,e.Stamp.Seq)
abbrev DMap:=List ((Int×Int)×Int)×List ((Int×Int)×Bool)
open Classical in
def dstep(l:List zac)(i:Nat)(e:zac)(fb:DMap):DMap:=
 if zup e then
  match mfind (dKey e) fb.1 with
  |none=>(mput (dKey e) (i:Int) fb.1,fb.2)
  |some n=>if l[n.toNat]?=some e then fb else(fb.1,mput (dKey e) true fb.2)
 else fb
def dfold(l:List zac):List zac->Nat->DMap->DMap
 |[],_,fb=>fb
 |e::r,i,fb=>dfold l r (i+1) (dstep l i e fb)
theorem zlB{κ ν:Type}[DecidableEq κ]{k:κ}{v:ν}:∀{l:List (κ×ν)} {p:κ×ν},p∈mput k v l->p=(k,v)\/p∈l
 |[],p,h=>by simpa[mput]using h
 |q::r,p,h=>by
   unfold mput at h;split at h
   ·grind
   · rcases za4.1 h with h|h
     ·simp_all
     · rcases zlB h with h|h
       ·exact Or.inl h
       simp_all
theorem zjh{κ ν:Type}[DecidableEq κ]{k:κ}:∀{l:List (κ×ν)} {v:ν},mfind k l=some v->(k,v)∈l
 |[],v,h=>by simp[mfind]at h
 |q::r,v,h=>by
   unfold mfind at h;split at h
   ·grind
   ·exact zc7 _ (zjh h)
theorem disp_loop(l:List zac)(hl:l.length<=100000)(hp:∀e∈l,e.Pages.length<=1000000):∀(n i:Nat) (fb:DMap),i+n=l.length->(∀p∈fb.1,0<=p.2/\p.2<i)->zfQ l (mZ fb.1) (mN fb.2) i=some (zkh (dfold l (l.drop i) i fb)):=by
 intro n
 induction n with
 |zero=>intro i fb hi hf;refine zti ?_;rw[zdF (by omega),dfold];simp(disch:=omega)only[zad,zaN];rfl
 |succ n ih =>
   intro i fb hi hf;have hlt:i<l.length:=by omega
   refine zti ?_;rw[zbd hlt,dfold];simp(disch:=omega)only[zad,zaB,zao,zah,zcs,zaa hlt,zae,zHD,zKA];have stay:zfQ l (mZ fb.1) (mN fb.2) ((i:Int)+1)=some (zkh (dfold l (l.drop (i+1)) (i+1) fb)):=ih (i+1) fb (by omega) (λp hp=>by have:=hf p hp;omega);by_cases hv:zup l[i]
   · simp(disch:=omega)only[zbj hv,zaF,zaz,zvL,zFB,zvg];unfold dstep;rw[if_pos hv]
     cases hm:mfind (dKey l[i]) fb.1 with
     |none =>
       simp(disch:=omega)only[hm,zem,zbe,zaV,w64_id]
       exact ih (i+1) (mput (dKey l[i]) (i:Int) fb.1,fb.2) (by omega) (by
        intro p hp;rcases zlB hp with rfl|hp
        ·dsimp only;omega
        grind)
     |some m =>
       have hb:=hf _ (zjh hm);have hml:m.toNat<l.length:=by have:=hb.2;simp only at this;omega
       have hm0:0<=m:=hb.1;simp(disch:=omega)only[hm,zcS,zbN,zaF,zaz,zao,zcs,zaa hml,zaa hlt,zae,zah,zIR _ _ (hp _ (zar hml)),zKA];by_cases he:l[m.toNat]=l[i]
       · simp(disch:=omega)only[zbj he,zaF,zaz,w64_id]
         simp_all
       · simp(disch:=omega)only[zbB he,zbe,zaV,w64_id]
         grind
   · simp(disch:=omega)only[zbB hv,zbe,zaV,w64_id];unfold dstep
     simp_all
def dispF(l:List zac):DMap:=dfold l l 0 ([],[])
theorem c_disputes(l:List zac)(hl:l.length<=100000)(hp:∀e∈l,e.Pages.length<=1000000):cw zqf [.sl 9 (mA l)] []=some (zkh (dispF l)):=
 zDz (disp_loop l hl hp l.length 0 ([],[]) (by omega) (by simp))
def ckeep(fb:DMap):List zac->Nat->List zac
 |[],_=>[]
 |e::r,i=>if mfind (dKey e) fb.1=some (i:Int)/\(mfind (dKey e) fb.2).getD false=false then e::ckeep fb r (i+1)else ckeep fb r (i+1)
theorem zAz{fb:DMap}:∀{l:List zac} {i:Nat},(ckeep fb l i).length<=l.length
 |[],_=>by simp[ckeep]
 |x::r,i=>by
   unfold ckeep;have:=zAz (fb:=fb) (l:=r) (i:=i+1)
   grind
theorem zJM(l:List zac)(hl:l.length<=2000)(hp:∀e∈l,e.Pages.length<=1000000):∃r,cw zlQ [.sl 9 (mA l)] []=some (ze3 (r,0))/\r.Perm (ckeep (dispF l) l 0)/\r.Pairwise (λa b=>leE a b=true):=by
 have hlen:=zAz (fb:=dispF l) (l:=l) (i:=0);obtain⟨r,er,pr,sr⟩:=zIS _ (ckeep (dispF l) l 0) (zaX _) (by omega);have hrl:=pr.length_eq;refine⟨r,zB5 ?_,pr,sr⟩;simp only[c_disputes l (by omega) hp,zye]
 have loop:∀(n i:Nat) (out:List zac),i+n=l.length->out.length<=i->out++ckeep (dispF l) (l.drop i) i=ckeep (dispF l) l 0->zfA l (dispF l) (mA out) i=some (ze3 (r,0)):=by
  intro n
  induction n with
  |zero=>intro i out hi ho hk;rw[zdF (by omega),ckeep,zdx]at hk;subst hk;refine zr3 ?_;simp(disch:=omega)only[zad,zaN,zaY,zaX,zbx];rw[zaJ (by simp)];simp(disch:=omega)only[er,ziy,zad,zaX,zbx];rw[zaJ (by simp)];rfl
  |succ n ih =>
    intro i out hi ho hk;have hlt:i<l.length:=by omega
    have hpg:=hp _ (zar hlt);rw[zbd hlt,ckeep]at hk;refine zr3 ?_;simp(disch:=omega)only[zad,zaB,zao,zah,zcs,zaa hlt,zae,zvL,zu6]
    have stay:¬(mfind (dKey l[i]) (dispF l).1=some (i:Int)/\(mfind (dKey l[i]) (dispF l).2).getD false=false)->zfA l (dispF l) (mA out) ((i:Int)+1)=some (ze3 (r,0)):=by intro hn;rw[if_neg hn]at hk;exact ih (i+1) out (by omega) (by omega) hk
    cases hm:mfind (dKey l[i]) (dispF l).1 with
    |none =>
      simp(disch:=omega)only[hm,zem,zaz,w64_id]
      simp_all
    |some m =>
      by_cases hmi:m=i
      · subst hmi;simp(disch:=omega)only[hm,zcS,zbN,zaV,beq_self_eq_true]
        cases hb:(mfind (dKey l[i]) (dispF l).2).getD false with
        |true =>
          simp(disch:=omega)only[hb,zaF,zaz,w64_id]
          simp_all
        |false=>rw[if_pos ⟨hm,hb⟩]at hk;have h2:=ih (i+1) (out++[l[i]]) (by omega) (by simp;omega) (by simp_all);simp only[<-zd3 zab]at h2;simp(disch:=omega)only[hb,zbe,zaV,zao,zah,zcs,zaa hlt,zae,zad,zaY,zaX,zbx,w64_id];rw[zaJ (by simp)];exact h2
      · simp(disch:=omega)only[hm,zcS,zbN,zaV,show(m==(i:Int))=false by simpa using hmi,zaz,w64_id]
        simp_all
 exact loop l.length 0 [] (by omega) (by simp) rfl
end Go.Proofs.YtlecnobdfhlmnaaGreat
namespace Go.Proofs.YtlecnobdfhlmnaaGreat
open Go.Ab
def seedR:Option (Nat×GSeed)->List Int×Bool
 |some (_,y)=>(y.Marks,true)
 |none=>([],false)
theorem zod(l:List GSeed)(n:Int)(hl:l.length<=1000000)(hm:∀y∈l,y.Marks.length<=1000000):cw zje [.sl 2 (mM l),I n] []=some (zhM (seedR (seedOf l n))):=by
 refine zAJ ?_;refine zh6 l (λy=>y.Script==n) (λi=>zjW l n i) (λo=>zhM (seedR o)) ?_ ?_ ?_
 ·refine zm8 ?_;simp(disch:=omega)only[zad,zaN,zaY,zaX,zbx];rfl
 ·intro i hi h;have:=hm _ (zar hi);refine zm8 ?_;simp(disch:=omega)only[zad,zaB,zao,zah,zls,zaa hi,zae,h,zaV,zaY,zaX,zbx];rw[zaJ (by simp)];rfl
 ·intro i hi y h hk;refine zm8 ?_;simp(disch:=omega)only[zad,zaB,zao,zah,zls,zaa hi,zae,h,zaz,w64_id,hk]
def zJK:za3:=⟨0,0,0,0,[]⟩
def zg7:Option (Nat×za3)->za3×Bool
 |some (_,y)=>(y,true)
 |none=>(zJK,false)
theorem zq0(l:List za3)(n:Int)(hl:l.length<=1000000):cw zl7 [.sl 5 (mH l),I n] []=some (zmd (zg7 (zgl l n))):=by
 refine zI4 ?_;refine zh6 l (λy=>y.ID==n) (λi=>zo1 l n i) (λo=>zmd (zg7 o)) ?_ ?_ ?_
 ·refine zsA ?_;simp(disch:=omega)only[zad,zaN];rfl
 ·intro i hi h;refine zsA ?_;simp(disch:=omega)only[zad,zaB,zao,zah,zfB,zaa hi,zae,h,zaV];rfl
 ·intro i hi y h hk;refine zsA ?_;simp(disch:=omega)only[zad,zaB,zao,zah,zfB,zaa hi,zae,h,zaz,w64_id,hk]
theorem zIO(m:za3)(x:zaT)(hl:m.Papers.length<=1000000):cw zuX [.agg (zbb m),.agg (za1 x)] []=some (zap (dec (FitsM m x))):=by
 refine zI5 ?_;have H:=any_bool m.Papers.length (λj hj=>m.Papers[j]=x.Paper) (λi=>zo2 m x i) (λb=>zap (b&&(m.Centre !=x.Centre))) ?_ ?_ ?_
 ·rw[H];congr 2;rw[zdB];simp only[zaO,zns,FitsM,bne_iff_ne];refine and_congr_left' ⟨λ⟨j,hj,e⟩=>e▸zar hj,λh=>?_⟩;obtain⟨j,hj,e⟩:=zbz.1 h;exact⟨j,hj,e⟩
 ·exact zsB (by simp(disch:=omega)only[zad,zaN];rfl)
 ·intro i hi h;refine zsB ?_;simp(disch:=omega)only[zad,zaB,zao,zah,zce,zaa hi,zae,show(m.Papers[i]==x.Paper)=true by simpa using h,zaV,zcx];rfl
 ·intro i hi y h hk;refine zsB ?_;simp(disch:=omega)only[zad,zaB,zao,zah,zce,zaa hi,zae,show(m.Papers[i]==x.Paper)=false by simpa using h,zaz,w64_id,hk]
theorem zDh(l:List za3)(n:Int)(x:zaT)(hl:l.length<=1000000)(hm:∀m∈l,m.Papers.length<=1000000):cw zqe [.sl 5 (mH l),I n,.agg (za1 x)] []=some (zap (dec (Elig l n x))):=by
 refine zDy ?_;simp only[zq0 l n hl,zkb]
 cases h:zgl l n with
 |none=>simp only[zg7,zaz];rw[zbB (by rintro⟨k,m,h2,_⟩;rw[h]at h2;cases h2)];rfl
 |some q=>obtain⟨k,m⟩:=q;have hmem:=zaq (fnd_at h).1;simp only[zg7,zaV,zIO m x (hm m hmem),zKA];rw[show dec (Elig l n x)=dec (FitsM m x)from zhE ⟨by rintro⟨k',m',h2,h3⟩;simp_all,λh3=>⟨k,m,h,h3⟩⟩];rfl
theorem zBQ(p:zaM)(c:zbu)(j:Nat)(x:GPart)(v:Int)(hs:Short c)(hok:ze8 p c)(hx:p.Parts[j]?=some x):cw zpq [.agg (zaQ p),.agg (zbL c),I j,I v] []=some (zap (dec (PermP x v))):=by
 obtain⟨hj,hx⟩:=zam.1 hx;refine zB4 ?_;simp(disch:=omega)only[zjA p c hs,zKA,zbj hok,zaF,zaz,zad,zaN,zao,zah,zej,zaa hj,zae,hx];simp only[zeL,decide_eq_true_eq,beq_iff_eq];by_cases h:x.Kind=2
 · rw[if_pos h,show dec (PermP x v)=dec (v=-1\/v=0\/v=x.Max)from zhE (by unfold PermP;rw[if_pos h])]
   repeat' split
   all_goals first
    |(rw[zbj (by omega)];rfl)
    |(rw[show(v==x.Max)=dec (v=-1\/v=0\/v=x.Max)from zfG (by simp_all)];rfl)
 · rw[if_neg h,show dec (PermP x v)=dec (-1<=v/\v<=x.Max)from zhE (by unfold PermP;rw[if_neg h])];split
   ·rw[show decide (v<=x.Max)=dec (-1<=v/\v<=x.Max)from zfG (by simp_all)];rfl
   ·rw[zbB (by omega)];rfl
theorem zAp(p:zaM)(n:Int):cw zrl [.agg (zaQ p),I n] []=some (zap (dec (OpenP p n))):=by
 refine zJe ?_;by_cases h0:0<=n
 · by_cases h1:n.toNat<p.Parts.length
   · simp(disch:=omega)only[zaB,zad,zao,zej,zaa h1,zae]
     rw[show(p.Parts[n.toNat].Kind==1)=dec (OpenP p n)from zfG (by
      simp only[beq_iff_eq]
      exact⟨λh=>⟨h0,_,zaa h1,h⟩,λ⟨_,x,h2,h3⟩=>by simp_all⟩)]
     rfl
   ·simp(disch:=omega)only[zaB,zad,zaN];rw[zbB (by rintro⟨_,x,h2,_⟩;simp_all)];rfl
 ·simp(disch:=omega)only[zaN];rw[zbB (λh=>h0 h.1)];rfl
theorem zAo(s:zan)(hs:zb3 s)(e:zac)(hm:∀m∈s.Markers,m.Papers.length<=1000000)(hp:e.Pages.length<=1000000):cw zrk [.agg (zas s),.agg (zab e)] []=some (zap (dec (FitsE s e))):=by
 have hm16:=hs.markers.1;have hx60:=hs.scripts.1;have hp32:=hs.papers;refine zJc ?_;simp only[zw8 s.Scripts e.Script (by omega),zjb]
 cases h1:zgm s.Scripts e.Script with
 |none=>simp only[scR,zbe,zaV];rw[zbB (by rintro⟨x,h2,_⟩;grind)];rfl
 |some x =>
   have hmem:=(zCF h1).1;obtain⟨k,p,c,hk,hc,_⟩:=hs.script x hmem;simp only[scR,zaF,zaz];by_cases h2:e.Kind=0
   · simp only[show(e.Kind !=0)=false by simp[h2],zaz,zDh s.Markers e.Stamp.Source x (by omega) hm,zKA];by_cases h3:Elig s.Markers e.Stamp.Source x
     · have hpk:=(zfl hk).1;have hlt:=(zam.1 hpk).1;simp(disch:=omega)only[zbj h3,zaF,zaz,ztn s.Papers x (by omega),hk,ixR,zg0,zao,zah,zfH,hpk,zae,zAp,zKA,zpW,hc];by_cases h4:OpenP p e.Part
       · obtain⟨h0,y,hy,hyk⟩:=h4;have hy1:1<=y.Max:=((hs.okPaper hpk).2.2.2.1 y (zaq hy)).1.1;have hje:((e.Part.toNat:Nat):Int)=e.Part:=by omega
         have hperm:=zBQ p c e.Part.toNat y e.Value (hs.short c (zaq hc)) (hs.schemes k p c hpk hc) hy;rw[hje]at hperm
         have hiff:FitsE s e↔(-1<=e.Value/\e.Value<=y.Max)/\e.Pages=x.Pages:=by
          constructor
          · rintro⟨x',a1,_,_,k',p',y',a2,_,a3,_,a4,a5⟩
            simp_all
          · rintro⟨a4,a5⟩
            exact⟨x,h1,h2,h3,k,p,y,hk,h0,hy,hyk,a4,a5⟩
         rw[zhE hiff];simp only[zbj (show OpenP p e.Part from⟨h0,y,hy,hyk⟩),zaV,zCk e.Pages x.Pages hp,zKA,hperm,zKA];by_cases h5:e.Value=-1
         ·simp only[show(e.Value==-1)=true by simp[h5],zaV];rw[show dec ((-1<=e.Value/\e.Value<=y.Max)/\e.Pages=x.Pages)=dec (e.Pages=x.Pages)from zhE ⟨λh=>h.2,λh=>⟨by omega,h⟩⟩];rfl
         · simp only[show(e.Value==-1)=false by simpa using h5,zaz];by_cases h6:-1<=e.Value/\e.Value<=y.Max
           · rw[zbj (show PermP y e.Value by unfold PermP;simp_all),zaV,
              show dec ((-1<=e.Value/\e.Value<=y.Max)/\e.Pages=x.Pages)=dec (e.Pages=x.Pages)from zhE ⟨λh=>h.2,λh=>⟨h6,h⟩⟩]
             rfl
           ·rw[zbB (show¬PermP y e.Value by unfold PermP;simp_all),zaz,zbB (λh=>h6 h.1)];rfl
       · simp only[zbB h4,zaz]
         rw[zbB (by
          rintro⟨x',a1,_,_,k',p',y',a2,a0,a3,a6,_⟩
          rw[h1]at a1;cases a1;rw[hk]at a2;cases a2
          exact h4 ⟨a0,y',a3,a6⟩)]
         rfl
     · simp only[zbB h3,zbe,zaV]
       rw[zbB (by
        rintro⟨x',a1,_,a3,_⟩
        simp_all)]
       rfl
   ·simp only[show(e.Kind !=0)=true by simpa using h2,zaV];rw[zbB (by rintro⟨_,_,a,_⟩;exact h2 a)];rfl
end Go.Proofs.YtlecnobdfhlmnaaGreat
namespace Go.Proofs.YtlecnobdfhlmnaaGreat
open Go.Ab
section
variable[Dr]
set_option maxRecDepth 10000
theorem c_isNaN(a:Int):cw znR [I a] []=some (zap false):=by refine zEU ?_;simp;rfl
theorem c_cmp(a b:Int):cw zge [I a,I b] []=some (zbm (cmpI a b)):=by
 refine zBV ?_;rw[c_isNaN a,zKA,c_isNaN b,zKA,zaz,zaz,zfe,zfe];unfold cmpI;split
 ·rfl
 ·split<;>rfl
theorem c_Or(l:List Int)(hl:l.length<=1000000):cw zrb [.sl 1 (List.map zai l)] []=some (zbm (znt l)):=by
 refine zI0 ?_;refine zvR l (λi r=>zo0 l (i:Nat)=some (zbm (znt r))) ?_ ?_
 ·refine zxC ?_;rw[zad,zfe,iNQ];rfl
 · intro i x r hi hx hr ih;refine zxC ?_;rw[zad,zfe,iPQ,cPQ,zah,zce,zaa hi,zae,hx,w6Q];by_cases h0:x=0
   ·subst h0;simpa[znt]using ih
   ·simp only[h0,znt,if_false,show(x !=0)=true from by simpa using h0,zaV];rfl
theorem zw6(a b:za6):cw zh5 [.agg (zb6 a),.agg (zb6 b)] []=some (zbm (cmpS a b)):=by refine zE8 ?_;rw[c_cmp _ _,za7,c_cmp _ _,za7,c_cmp _ _,za7,c_Or _ (by simp),za7];rfl
theorem zDj(a b:za6):decide (0<cmpS a b)=lessS b a:=by
 unfold cmpS cmpI lessS;simp only[znt]
 grind
theorem cmpS_neg(a b:za6):decide (cmpS a b<0)=lessS a b:=by
 unfold cmpS cmpI lessS;simp only[znt]
 grind
end
theorem c_Equal(a b:List Int)(hl:a.length<=1000000):cw zi1 [.sl 1 (List.map zai a),.sl 1 (List.map zai b)] []=some (zap (dec (a=b))):=by
 refine zwv ?_;by_cases h:a.length=b.length
 · simp only[zad,h,bne_self_eq_false,zaz];have H:=zmx a.length (λj hj=>a[j]=b[j]'(by omega)) (λi=>zic a b i) zap ?_ ?_ ?_
   ·rw[H,zhE];exact⟨λhh=>zeB h (λi h1 h2=>hh i h1),λhh=>by subst hh;intros;rfl⟩
   ·exact zkn (by simp(disch:=omega)only[zad,zaN];rfl)
   ·intro i hi hn;refine zkn ?_;simp(disch:=omega)only[zad,zaB,zao,zah,zce,zaa hi,zaa (show i<b.length by omega),zae,show(a[i] !=b[i]'(by omega))=true by simpa using hn,zaV];rfl
   ·intro i hi y hn hk;refine zkn ?_;simp(disch:=omega)only[zad,zaB,zao,zah,zce,zaa hi,zaa (show i<b.length by omega),zae,show(a[i] !=b[i]'(by omega))=false by simpa using hn,zaz,w64_id,hk]
 ·rw[zbB (λhh=>h (by rw[hh]))];simp only[zad,show((a.length:Int) !=(b.length:Int))=true by grind,zaV];rfl
theorem zEP{p:Prop}[Decidable p]:dec p=decide p:=by
 by_cases h:p
 ·rw[zbj h,decide_eq_true h]
 ·rw[zbB h,decide_eq_false h]
theorem c_idx_t(l:List Int)(hl:l.length<=1000000):cw zdE [.sl 1 (List.map zai l),.fn zeD []] []=some (zbm (match fnd (λm=>decide (200<m)) 0 l with|some (i,_)=>(i:Int)|none=>-1)):=by
 refine zse ?_;refine zh6 l (λm=>decide (200<m)) (λi=>zgr l i) (λo=>zbm (match o with|some (i,_)=>(i:Int)|none=>-1)) ?_ ?_ ?_
 ·exact zih (by simp(disch:=omega)only[zad,zaN];rfl)
 ·intro i hi h;refine zih ?_;simp(disch:=omega)only[zad,zaB,zao,zah,zce,zaa hi,zae];rw[zq4 (y:=zap (decide (200<l[i]))) rfl,zKA,h,zaV];rfl
 ·intro i hi y h hk;refine zih ?_;simp(disch:=omega)only[zad,zaB,zao,zah,zce,zaa hi,zae];rw[zq4 (y:=zap (decide (200<l[i]))) rfl,zKA,h,zaz,w6Q];exact hk
theorem fnd_any{α:Type}{p:α->Bool}{l:List α}:(fnd p 0 l).isSome=l.any p:=by
 cases h:fnd p 0 l with
 |none =>
   have:=zsn.1 h
   simp_all
 |some q =>
   obtain⟨i,x⟩:=q;obtain⟨h1,h2,_⟩:=fnd_at h
   grind
theorem zIJ(l:List Int)(hl:l.length<=1000000):cw zdb [.sl 1 (List.map zai l),.fn zeD []] []=some (zap (l.any λm=>decide (200<m))):=by
 refine zqQ ?_;rw[c_idx_t l hl,za7,<-fnd_any]
 cases fnd (λm=>decide (200<m)) 0 l with
 |none=>rfl
 |some q=>simp;rfl
theorem zEH(l:List Int)(hl:l.length<=1000000):cw zkU [.sl 1 (List.map zai l)] []=some (zap (greatB l)):=by
 refine zAH ?_;unfold greatB;rw[zIJ l hl,zKA,zad];by_cases h:24<l.length
 ·rw[zaB (by omega)];simp[h];rfl
 ·rw[zaN (by omega)];simp[h];rfl
theorem zED(a b:Int)(ha:0<=a/\a<=1000000)(hb:0<=b/\b<=1000000):cw zkT [I a,I b] []=some (zbm (distI a b)):=by refine zAG ?_;rw[w6Q,w6Q];rfl
theorem zBs{a:Int}(h:a<=200):0<=posI a/\posI a<=200:=by unfold posI;split<;>omega
theorem c_Good(r:zbv)(hr:OkMon r)(a b:List Int)(ha:a.length<=1000000)(hb:b.length<=1000000):cw zsi [.agg (zbQ r),.sl 1 (List.map zai a),.sl 1 (List.map zai b)] []=some (zap (goodS r a b)):=by
 refine zGg ?_;rw[zqZ _ hr,za7,show((0:Int) !=0)=false from rfl,zaz,zEH a ha,zKA,zEH b hb,zKA,zad,zad];unfold goodS;by_cases hl:a.length=b.length
 case neg=>rw[show((a.length:Int) !=(b.length:Int))=true by grind,zaV,show(a.length==b.length)=false by simpa using hl];rfl
 rw[show((a.length:Int) !=(b.length:Int))=false by simp[hl],zaz,show(a.length==b.length)=true by simpa using hl]
 cases hga:greatB a with
 |true=>rfl
 |false =>
 cases hgb:greatB b with
 |true=>rfl
 |false =>
 rw[zaz,zaz]
 have small:∀l:List Int,greatB l=false->l.length<=24/\∀m∈l,m<=200:=λl h=>by
  unfold greatB at h
  simp_all
 obtain⟨sa1,sa2⟩:=small a hga;obtain⟨sb1,sb2⟩:=small b hgb
 have key:∀(n i:Nat) (x y:Int),i+n=a.length->0<=x/\x<=200*i->0<=y/\y<=200*i->zmN r a b x y i=some (zap (zsq r (a.drop i) (b.drop i) x y)):=by
  intro n
  induction n with
  |zero=>intro i x y hi hx hy;refine zvk ?_;rw[zad,zaN (by omega),zED x y (by omega) (by omega),za7,zcd (by omega)];rfl
  |succ n ih =>
    intro i x y hi hx hy;have h1:i<a.length:=by omega
    have h2:i<b.length:=by omega
    have p1:=zBs (sa2 _ (zar h1));have p2:=zBs (sb2 _ (zar h2));refine zvk ?_;rw[zbd h1,zbd h2];simp(disch:=omega)only[zad,zaB,zao,zah,zce,zaa h1,zaa h2,zae];rw[show(if(0:Int) > a[i]then 0 else a[i])=posI a[i]from rfl,show(if(0:Int) > b[i]then 0 else b[i])=posI b[i]from rfl,zED _ _ (by omega) (by omega),za7,zfe];unfold zsq;split
    ·rfl
    · rw[w6Q,w6Q,w6Q]
      grind
 exact key a.length 0 0 0 (by omega) (by omega) (by omega)
theorem zGw(r:zbv)(l:List Bool)(hl:l.length<=1000000):cw zlO [.agg (zbQ r),.sl 1 (List.map nBool l)] []=some (zap (decide (r.Fails<=failsN l))):=by
 refine zB1 ?_
 have key:∀(n i:Nat) (x:Int),i+n=l.length->0<=x/\x<=i->ziE r l x i=some (zap (decide (r.Fails<=x+failsN (l.drop i)))):=by
  intro n
  induction n with
  |zero=>intro i x hi hx;refine zr2 ?_;rw[zad,zaN (by omega),zcd (by omega)];rw[show x+failsN []=x by simp[failsN]];rfl
  |succ n ih =>
    intro i x hi hx;have h1:i<l.length:=by omega
    refine zr2 ?_;rw[zbd h1];simp(disch:=omega)only[zad,zaB,zao,zah,zoT,zaa h1,zae]
    cases hb:l[i]with
    |true=>rw[zaF,zaz,w6Q];have:=ih (i+1) x (by omega) (by omega);rw[show((i:Int)+1)=((i+1:Nat):Int)by omega,this,show failsN (true::List.drop (i+1) l)=failsN (List.drop (i+1) l)by simp[failsN]]
    |false =>
      rw[zbe,zaV,w6Q,w6Q];have:=ih (i+1) (x+1) (by omega) (by omega);rw[show((i:Int)+1)=((i+1:Nat):Int)by omega,this]
      have e:x+1+failsN (List.drop (i+1) l)=x+failsN (false::List.drop (i+1) l):=by simp[failsN];omega
      rw[e]
 have:=key l.length 0 0 (by omega) (by omega);simpa using this
theorem c_MValid(r:zbv)(hr:OkMon r)(w:zbZ)(hw:zno r w):cw zrh [.agg (zbQ r),.agg (zdw w)] []=some (zap true):=by have h1:=hw.1;have h2:=hr.2.2.1;refine zE2 ?_;rw[zqZ _ hr,za7,show((0:Int)==0)=true from rfl,zaV,zad,zaB (by omega),zGw r w.Last (by omega),zKA,<-hw.2];simp;rfl
theorem c_CloneB(hok:CallOK zP (single zc1 zOrc))(l:List Bool)(hl:l.length<=1000000):cw zc1 [.sl 1 (List.map nBool l)] []=some (zki l):=zim hok (by
 show(if(List.map nBool l).length<=100000000 then some (AV.new 1 zdq (List.map nBool l),([]:Mem))else none)=_;rw[if_pos (by simp;omega)]
 rfl)
theorem c_CloneI(hok:CallOK zP (single zcL zOrc))(l:List Int)(hl:l.length<=1000000):cw zcL [.sl 1 (List.map zai l)] []=some (zkJ l):=zim hok (by
 show(if(List.map zai l).length<=100000000 then some (AV.new 1 zcO (List.map zai l),([]:Mem))else none)=_;rw[if_pos (by simp;omega)]
 rfl)
theorem c_Step(hok:CallOK zP (single zc1 zOrc))(r:zbv)(hr:OkMon r)(w:zbZ)(hw:zno r w)(b:Bool):cw zsj [.agg (zbQ r),.agg (zdw w),B b] []=some (zoD (if w.Suspended then(⟨[],false⟩,8)else(stepW r w b,0))):=by
 have h1:=hw.1;have h2:=hr.2.2.1;refine zGh ?_;rw[c_MValid r hr w hw,zKA,zaF,zaz]
 cases hs:w.Suspended with
 |true=>rfl
 |false =>
 have hlen:(List.map nBool w.Last++[[B b]]).length=w.Last.length+1:=by simp
 rw[zaz,c_CloneB hok _ (by omega),zr8,zao rfl,zao (by grind),zao rfl,hlen]
 have fin:∀x2 x3:Nat,x2+x3=w.Last.length+1->(x3:Int)<=r.Window->(w.Last++[b]).drop x2=lastW r w b->zmO r w b w.Last x2 x3=some (zoD (stepW r w b,0)):=by
  intro x2 x3 h3 h4 h5
  have e:List.take x3 (List.drop x2 (List.map nBool w.Last++[nBool b]))=List.map nBool (lastW r w b):=by simp only[zd3 nBool];rw[<-ziY,h5,zaJ];rw[<-h5];simp;omega
  have hle:(lastW r w b).length<=1000000:=by rw[<-h5];simp;omega
  refine zvl ?_;rw[zaN (by omega),zao (by rw[hlen];omega),e,zGw r _ hle,zKA,zao (by rw[hlen];omega),show List.take x3 (List.drop x2 (List.map nBool w.Last++[[B b]]))=List.map nBool (lastW r w b)from e];rfl
 by_cases hc:r.Window<(w.Last.length:Int)+1
 · refine zvl ?_;rw[zaB (by omega),cPQ,cPQ,cPQ];refine fin _ _ (by omega) (by omega) ?_;unfold lastW
   simp_all
 · refine fin 0 _ (by omega) (by omega) ?_;unfold lastW
   grind
theorem zwh(x:GPart)(v:Int):cw zkX [.agg (za0 x),I v] []=some (zap (permB x v)):=by
 refine zAL ?_;unfold permB;simp only[zeL,decide_eq_true_eq,beq_iff_eq];by_cases h1:v=-1
 ·rw[if_pos h1,if_pos h1];rfl
 rw[if_neg h1,if_neg h1];by_cases h2:x.Kind=2
 · rw[if_pos h2,if_pos h2];by_cases h3:v=0
   ·rw[if_pos h3,h3];rfl
   ·rw[if_neg h3,show(v==0)=false by simpa using h3,zei];rfl
 rw[if_neg h2,if_neg h2];split
 ·rename_i h;rw[show decide (0<=v/\v<=x.Max)=decide (v<=x.Max)by simp[h]];rfl
 ·rename_i h;rw[show decide (0<=v/\v<=x.Max)=false by simp[h]];rfl
theorem zJN(p:zaM)(c:zbu)(j:Nat)(x:GPart)(v:Int)(hs:Short c)(hok:ze8 p c)(hx:p.Parts[j]?=some x):cw zor [.agg (zaQ p),.agg (zbL c),I j,I v] []=some (zap (permB x v)):=by obtain⟨hj,hx⟩:=zam.1 hx;refine zAK ?_;simp(disch:=omega)only[ziH p c hs,zKA,zbj hok,zaV,zad,zaB,zao,zah,zej,zaa hj,zae,hx,zwh,zKA];rfl
theorem c_mayMark(m:za3)(x:zaT)(hl:m.Papers.length<=1000000):cw zqd [.agg (zbb m),.agg (za1 x)] []=some (zap (mayB m x)):=by
 refine zDv ?_;unfold mayB;rw[zEC _ _ hl,zKA]
 cases h:(m.Centre !=x.Centre)with
 |true=>rw[zaV,zha,zEP,List.elem_eq_contains.symm,List.elem_eq_mem];rfl
 |false=>rw[zaz,zez];rfl
theorem c_Find(hok:CallOK zP (single zcL zOrc))(l:List za3)(n:Int)(hl:l.length<=1000000)(hm:∀m∈l,m.Papers.length<=1000000):cw ztv [.sl 5 (mH l),I n] []=some (zmd (zg7 (zgl l n))):=by
 refine zHL ?_;refine zh6 l (λy=>y.ID==n) (λi=>znV l n i) (λo=>zmd (zg7 o)) ?_ ?_ ?_
 ·exact zrG (by simp(disch:=omega)only[zad,zaN];rfl)
 ·intro i hi h;refine zrG ?_;simp(disch:=omega)only[zad,zaB,zao,zah,zfB,zaa hi,zae,h,zaV];rw[c_CloneI hok _ (hm _ (zar hi)),znC,zaJ (by simp)];rfl
 ·intro i hi y h hk;refine zrG ?_;simp(disch:=omega)only[zad,zaB,zao,zah,zfB,zaa hi,zae,h,zaz,w64_id,hk]
theorem c_Eligible(hok:CallOK zP (single zcL zOrc))(l:List za3)(n:Int)(x:zaT)(hl:l.length<=1000000)(hm:∀m∈l,m.Papers.length<=1000000):cw zpo [.sl 5 (mH l),I n,.agg (za1 x)] []=some (zap (eligB l n x)):=by
 refine zBY ?_;rw[c_Find hok l n hl hm,zkb];unfold eligB
 cases h:zgl l n with
 |none=>rfl
 |some q=>obtain⟨k,m⟩:=q;have hmem:=zaq (fnd_at h).1;simp only[zg7,zaV,c_mayMark m x (hm m hmem),zKA];rfl
end Go.Proofs.YtlecnobdfhlmnaaGreat
namespace Go.Proofs.YtlecnobdfhlmnaaGreat
open Go.Ab
set_option maxRecDepth 100000
def cells(x:Nat->Option Addr):List AV:=(List.range 100).map λi=>.v (.pointer (x i))
theorem w0(s:zan)(ev:List zac):tReg zba zT 0 ⟨[(0,AV.agg [sE s.Markers,sH s.Scripts,sG s.Papers,sP s.Schemes,sN s.Seeds,I s.Monitor.Part,I s.Monitor.Total,I s.Monitor.Window,I s.Monitor.Fails]),(1,sC ev)],[]⟩=(some ⟨[(1,sC ev),(2,gQ 2 9)],[(2,pJ s)]⟩):=by kernel_rfl
theorem w1(s:zan)(ev:List zac):tReg zba zT 1 ⟨[(1,sC ev),(2,gQ 2 9)],[(2,pJ s)]⟩=(some ⟨[(1,sC ev),(2,gQ 2 9),(6,gQ 18 100)],[(2,pJ s),(18,⟨100,za2,[cells λ_=>none],true⟩)]⟩):=by kernel_rfl
theorem w2(s:zan)(ev:List zac)(x:Nat->Option Addr):tReg zba zT 2 ⟨[(1,sC ev),(2,gQ 2 9),(6,gQ 18 100)],[(2,pJ s),(18,⟨100,za2,[cells x],true⟩)]⟩=(some ⟨[(1,sC ev),(2,gQ 2 9),(6,gQ 18 100),(20,sE s.Markers),(21,I ((↑(mH s.Markers).length:Int))),(22,I 0)],[(2,pJ s),(18,⟨100,za2,[cells x],true⟩)]⟩):=by kernel_rfl
theorem w3(s:zan)(ev:List zac)(x:Nat->Option Addr)(n:Int)(i:Int):tReg zba zT 3 ⟨[(1,sC ev),(2,gQ 2 9),(6,gQ 18 100),(20,sE s.Markers),(21,I n),(22,I i)],[(2,pJ s),(18,⟨100,za2,[cells x],true⟩)]⟩=(some ⟨[(1,sC ev),(2,gQ 2 9),(6,gQ 18 100),(20,sE s.Markers),(21,I n),(22,I i),(23,B (decide (i<n)))],[(2,pJ s),(18,⟨100,za2,[cells x],true⟩)]⟩):=by kernel_rfl
theorem w4(s:zan)(ev:List zac)(x:Nat->Option Addr)(n:Int)(i:Int):tReg zba zT 4 ⟨[(1,sC ev),(2,gQ 2 9),(6,gQ 18 100),(20,sE s.Markers),(21,I n),(22,I i)],[(2,pJ s),(18,⟨100,za2,[cells x],true⟩)]⟩=(chk ((0:Int)<=i)<|
 elemD zdU (mH s.Markers) i.toNat λ(c0:za3) =>
 some ⟨[(1,sC ev),(2,gQ 2 9),(6,gQ 18 100),(8,gQ 8 5),(20,sE s.Markers),(21,I n),(22,I i)],[(2,pJ s),(8,pV c0),(18,⟨100,za2,[cells x],true⟩)]⟩):=by kernel_rfl
theorem w6(s:zan)(ev:List zac)(x:Nat->Option Addr)(n:Int)(i:Int):tReg zba zT 6 ⟨[(1,sC ev),(2,gQ 2 9),(6,gQ 18 100),(20,sE s.Markers),(21,I n),(22,I i)],[(2,pJ s),(18,⟨100,za2,[cells x],true⟩)]⟩=(some ⟨[(1,sC ev),(2,gQ 2 9),(6,gQ 18 100),(20,sE s.Markers),(21,I n),(22,I (w64 (i+1)))],[(2,pJ s),(18,⟨100,za2,[cells x],true⟩)]⟩):=by kernel_rfl
theorem w7(s:zan)(ev:List zac)(xs:List (List AV)):tReg zba zT 7 ⟨[(1,sC ev),(2,gQ 2 9),(6,gQ 18 1)],[(2,pJ s),(18,gC xs)]⟩=(some ⟨[(1,sC ev),(2,gQ 2 9),(6,gQ 18 1),(9,AV.map 37)],[(2,pJ s),(18,gC xs),(37,⟨0,zaK,[],false⟩)]⟩):=by kernel_rfl
theorem w8(s:zan)(ev:List zac)(xs:List (List AV))(R:List (List AV)):tReg zba zT 8 ⟨[(1,sC ev),(2,gQ 2 9),(6,gQ 18 1),(9,AV.map 37)],[(2,pJ s),(18,gC xs),(37,gD R)]⟩=(some ⟨[(2,gQ 2 9),(6,gQ 18 1),(9,AV.map 37),(38,sC ev),(39,I ((↑(mA ev).length:Int))),(40,I 0)],[(2,pJ s),(18,gC xs),(37,gD R)]⟩):=by kernel_rfl
theorem w9(s:zan)(ev:List zac)(xs:List (List AV))(R:List (List AV))(n:Int)(i:Int):tReg zba zT 9 ⟨[(2,gQ 2 9),(6,gQ 18 1),(9,AV.map 37),(38,sC ev),(39,I n),(40,I i)],[(2,pJ s),(18,gC xs),(37,gD R)]⟩=(some ⟨[(2,gQ 2 9),(6,gQ 18 1),(9,AV.map 37),(38,sC ev),(39,I n),(40,I i),(41,B (decide (i<n)))],[(2,pJ s),(18,gC xs),(37,gD R)]⟩):=by kernel_rfl
theorem w10(s:zan)(ev:List zac)(xs:List (List AV))(R:List (List AV))(n:Int)(i:Int):tReg zba zT 10 ⟨[(2,gQ 2 9),(6,gQ 18 1),(9,AV.map 37),(38,sC ev),(39,I n),(40,I i)],[(2,pJ s),(18,gC xs),(37,gD R)]⟩=(chk ((0:Int)<=i)<|
 elemD zaZ (mA ev) i.toNat λ(c0:zac) =>
 some ⟨[(2,gQ 2 9),(6,gQ 18 1),(9,AV.map 37),(11,gQ 11 9),(38,sC ev),(39,I n),(40,I i)],[(2,pJ s),(11,pK c0),(18,gC xs),(37,gD R)]⟩):=by kernel_rfl
theorem w11(s:zan)(ev:List zac)(xs:List (List AV))(R:List (List AV))(n:Int)(i:Int)(e:zac):tReg zba zT 11 ⟨[(2,gQ 2 9),(6,gQ 18 1),(9,AV.map 37),(11,gQ 11 9),(38,sC ev),(39,I n),(40,I i)],[(2,pJ s),(11,pK e),(18,gC xs),(37,gD R)]⟩=(some ⟨[(2,gQ 2 9),(6,gQ 18 1),(9,AV.map 37),(11,gQ 11 9),(38,sC ev),(39,I n),(40,I i),(45,I e.Kind)],[(2,pJ s),(11,pK e),(18,gC xs),(37,gD R)]⟩):=by kernel_rfl
theorem w12(s:zan)(ev:List zac)(xs:List (List AV))(R:List (List AV))(n:Int)(i:Int)(e:zac):tReg zba zT 12 ⟨[(2,gQ 2 9),(6,gQ 18 1),(9,AV.map 37),(11,gQ 11 9),(38,sC ev),(39,I n),(40,I i),(45,I e.Kind)],[(2,pJ s),(11,pK e),(18,gC xs),(37,gD R)]⟩=(some ⟨[(2,gQ 2 9),(6,gQ 18 1),(9,AV.map 37),(11,gQ 11 9),(38,sC ev),(39,I n),(40,I i),(45,I e.Kind),(46,B (e.Kind==1))],[(2,pJ s),(11,pK e),(18,gC xs),(37,gD R)]⟩):=by kernel_rfl
theorem w13(s:zan)(ev:List zac)(xs:List (List AV))(R:List (List AV))(n:Int)(i:Int)(e:zac):tReg zba zT 13 ⟨[(2,gQ 2 9),(6,gQ 18 1),(9,AV.map 37),(11,gQ 11 9),(38,sC ev),(39,I n),(40,I i)],[(2,pJ s),(11,pK e),(18,gC xs),(37,gD R)]⟩=(chk ((0:Int)<=e.Marker)<|
 chk ((e.Marker:Int)<(↑100:Int))<|
 elemP zkF xs (0+e.Marker.toNat) (some ⟨[(2,gQ 2 9),(6,gQ 18 1),(9,AV.map 37),(11,gQ 11 9),(12,AV.v (.pointer none)),(38,sC ev),(39,I n),(40,I i)],[(2,pJ s),(11,pK e),(18,gC xs),(37,gD R)]⟩)
 (λ(p0:Addr)=>some ⟨[(2,gQ 2 9),(6,gQ 18 1),(9,AV.map 37),(11,gQ 11 9),(12,AV.v (.pointer (some p0))),(38,sC ev),(39,I n),(40,I i)],[(2,pJ s),(11,pK e),(18,gC xs),(37,gD R)]⟩)
 λ(c1:zay) =>
 some ⟨[(2,gQ 2 9),(6,gQ 18 1),(9,AV.map 37),(11,gQ 11 9),(12,AV.fp [I c1.level,sJ c1.marks,I c1.period,I c1.started.Time,I c1.started.Source,I c1.started.Seq,sK c1.noted,AV.sl 1 (List.map nBool c1.watch.Last),B c1.watch.Suspended,I c1.good.Time,I c1.good.Source,I c1.good.Seq,B c1.some,sI c1.suspensions]),(38,sC ev),(39,I n),(40,I i)],[(2,pJ s),(11,pK e),(18,gC xs),(37,gD R)]⟩):=by kernel_rfl
theorem w14n(s:zan)(ev:List zac)(xs:List (List AV))(R:List (List AV))(n:Int)(i:Int)(e:zac):tReg zba zT 14 ⟨[(2,gQ 2 9),(6,gQ 18 1),(9,AV.map 37),(11,gQ 11 9),(12,AV.v (.pointer none)),(38,sC ev),(39,I n),(40,I i)],[(2,pJ s),(11,pK e),(18,gC xs),(37,gD R)]⟩=(some ⟨[(2,gQ 2 9),(6,gQ 18 1),(9,AV.map 37),(11,gQ 11 9),(12,AV.v (.pointer none)),(38,sC ev),(39,I n),(40,I i),(55,B (!true))],[(2,pJ s),(11,pK e),(18,gC xs),(37,gD R)]⟩):=by kernel_rfl
theorem w14p(s:zan)(ev:List zac)(xs:List (List AV))(R:List (List AV))(n:Int)(i:Int)(e:zac)(p:Addr):tReg zba zT 14 ⟨[(2,gQ 2 9),(6,gQ 18 1),(9,AV.map 37),(11,gQ 11 9),(12,AV.v (.pointer (some p))),(38,sC ev),(39,I n),(40,I i)],[(2,pJ s),(11,pK e),(18,gC xs),(37,gD R)]⟩=(some ⟨[(2,gQ 2 9),(6,gQ 18 1),(9,AV.map 37),(11,gQ 11 9),(12,AV.v (.pointer (some p))),(38,sC ev),(39,I n),(40,I i),(55,B (!false))],[(2,pJ s),(11,pK e),(18,gC xs),(37,gD R)]⟩):=by kernel_rfl
theorem w15(s:zan)(ev:List zac)(xs:List (List AV))(R:List (List AV))(n:Int)(i:Int)(e:zac)(p:Addr)(d:zay):tReg0 zba zT 15 ⟨[(12,gQ 1300 14),(2,gQ 2 9),(6,gQ 18 1),(9,AV.map 37),(11,gQ 11 9),(12,AV.v (.pointer (some p))),(38,sC ev),(39,I n),(40,I i)],[(1300,⟨14,zb0,[[I d.level,gR 301 10 (mG d.marks),I d.period,I d.started.Time,I d.started.Source,I d.started.Seq,AV.map 302,AV.sl 1 (List.map nBool d.watch.Last),B d.watch.Suspended,I d.good.Time,I d.good.Source,I d.good.Seq,B d.some,gR 303 12 (mC d.suspensions)]],true⟩),(301,gG (mG d.marks)),(302,gH (mL d.noted)),(303,gA (mC d.suspensions)),(2,pJ s),(11,pK e),(18,gC xs),(37,gD R)]⟩=(chk ((mG d.marks).length=(mG d.marks).length)<|
 chk ((mC d.suspensions).length=(mC d.suspensions).length)<|
 callD zep (cw zh3 [gQ 1000 14,sV e.Stamp] [(1000,⟨14,zb0,[[I d.level,AV.row 900 10 0 ((mG d.marks).length),I d.period,I d.started.Time,I d.started.Source,I d.started.Seq,AV.map 901,AV.sl 1 (List.map nBool d.watch.Last),B d.watch.Suspended,I d.good.Time,I d.good.Source,I d.good.Seq,B d.some,AV.row 902 12 0 ((mC d.suspensions).length)]],true⟩),(900,gG (mG d.marks)),(901,gH (mL d.noted)),(902,gA (mC d.suspensions))]) λ(r0:zay) =>
 some ⟨[(59,AV.tup []),(58,AV.agg [I e.Stamp.Time,I e.Stamp.Source,I e.Stamp.Seq]),(57,AV.loc 11 9 0 (0+0)),(56,gQ 1300 14),(12,gQ 1300 14),(2,gQ 2 9),(6,gQ 18 1),(9,AV.map 37),(11,gQ 11 9),(12,AV.v (.pointer (some p))),(38,sC ev),(39,I n),(40,I i)],[(301,gG (mG r0.marks)),(302,gH (mL r0.noted)),(303,gA (mC r0.suspensions)),(1300,⟨14,zb0,[[I r0.level,gR 301 10 (mG r0.marks),I r0.period,I r0.started.Time,I r0.started.Source,I r0.started.Seq,AV.map 302,AV.sl 1 (List.map nBool r0.watch.Last),B r0.watch.Suspended,I r0.good.Time,I r0.good.Source,I r0.good.Seq,B r0.some,gR 303 12 (mC r0.suspensions)]],true⟩),(2,pJ s),(11,pK e),(18,gC xs),(37,gD R)]⟩):=by kernel_rfl
theorem w16(s:zan)(ev:List zac)(xs:List (List AV))(R:List (List AV))(n:Int)(i:Int)(e:zac):tReg zba zT 16 ⟨[(2,gQ 2 9),(6,gQ 18 1),(9,AV.map 37),(11,gQ 11 9),(38,sC ev),(39,I n),(40,I i),(45,I e.Kind)],[(2,pJ s),(11,pK e),(18,gC xs),(37,gD R)]⟩=(some ⟨[(2,gQ 2 9),(6,gQ 18 1),(9,AV.map 37),(11,gQ 11 9),(38,sC ev),(39,I n),(40,I i),(45,I e.Kind),(60,B (e.Kind==2))],[(2,pJ s),(11,pK e),(18,gC xs),(37,gD R)]⟩):=by kernel_rfl
theorem w17(s:zan)(ev:List zac)(xs:List (List AV))(R:List (zaP×za6))(n:Int)(i:Int)(e:zac):tReg zba zT 17 ⟨[(2,gQ 2 9),(6,gQ 18 1),(9,AV.map 37),(11,gQ 11 9),(38,sC ev),(39,I n),(40,I i)],[(2,pJ s),(11,pK e),(18,gC xs),(37,gD (mK R))]⟩=(msetD zP 181 60 (AV.agg (zcu (⟨e.Script,e.Part⟩))) (sV e.Stamp) (mK R) λ(m0:List (List AV))=>some ⟨[(2,gQ 2 9),(6,gQ 18 1),(9,AV.map 37),(38,sC ev),(39,I n),(40,I i)],[(2,pJ s),(18,gC xs),(37,gD m0)]⟩):=by kernel_rfl
theorem w18(s:zan)(ev:List zac)(xs:List (List AV))(R:List (List AV))(n:Int)(i:Int)(e:zac):tReg zba zT 18 ⟨[(2,gQ 2 9),(6,gQ 18 1),(9,AV.map 37),(11,gQ 11 9),(38,sC ev),(39,I n),(40,I i),(45,I e.Kind)],[(2,pJ s),(11,pK e),(18,gC xs),(37,gD R)]⟩=(some ⟨[(2,gQ 2 9),(6,gQ 18 1),(9,AV.map 37),(11,gQ 11 9),(38,sC ev),(39,I n),(40,I i),(70,B (e.Kind==0))],[(2,pJ s),(11,pK e),(18,gC xs),(37,gD R)]⟩):=by kernel_rfl
theorem w19(s:zan)(ev:List zac)(xs:List (List AV))(R:List (List AV))(n:Int)(i:Int)(e:zac):tReg zba zT 19 ⟨[(2,gQ 2 9),(6,gQ 18 1),(9,AV.map 37),(11,gQ 11 9),(38,sC ev),(39,I n),(40,I i)],[(2,pJ s),(11,pK e),(18,gC xs),(37,gD R)]⟩=(chk (0<xs.length)<|
 callD zjZ (cw zjR [AV.fa 1 xs,sS s,sU e] []) λ(r0:Int×(Option Addr)) =>
 some ⟨[(2,gQ 2 9),(6,gQ 18 1),(9,AV.map 37),(11,gQ 11 9),(13,I r0.1),(14,AV.v (.pointer (r0.2))),(38,sC ev),(39,I n),(40,I i)],[(2,pJ s),(11,pK e),(18,gC xs),(37,gD R)]⟩):=by kernel_rfl
theorem w20n(s:zan)(ev:List zac)(xs:List (List AV))(R:List (List AV))(n:Int)(i:Int)(e:zac)(q:Int):tReg zba zT 20 ⟨[(2,gQ 2 9),(6,gQ 18 1),(9,AV.map 37),(11,gQ 11 9),(13,I q),(14,AV.v (.pointer none)),(38,sC ev),(39,I n),(40,I i)],[(2,pJ s),(11,pK e),(18,gC xs),(37,gD R)]⟩=(some ⟨[(2,gQ 2 9),(6,gQ 18 1),(9,AV.map 37),(11,gQ 11 9),(13,I q),(14,AV.v (.pointer none)),(38,sC ev),(39,I n),(40,I i),(80,B true)],[(2,pJ s),(11,pK e),(18,gC xs),(37,gD R)]⟩):=by kernel_rfl
theorem w20p(s:zan)(ev:List zac)(xs:List (List AV))(R:List (List AV))(n:Int)(i:Int)(e:zac)(q:Int)(p:Addr):tReg zba zT 20 ⟨[(2,gQ 2 9),(6,gQ 18 1),(9,AV.map 37),(11,gQ 11 9),(13,I q),(14,AV.v (.pointer (some p))),(38,sC ev),(39,I n),(40,I i)],[(2,pJ s),(11,pK e),(18,gC xs),(37,gD R)]⟩=(some ⟨[(2,gQ 2 9),(6,gQ 18 1),(9,AV.map 37),(11,gQ 11 9),(13,I q),(14,AV.v (.pointer (some p))),(38,sC ev),(39,I n),(40,I i),(80,B false)],[(2,pJ s),(11,pK e),(18,gC xs),(37,gD R)]⟩):=by kernel_rfl
theorem w21(s:zan)(ev:List zac)(xs:List (List AV))(R:List (List AV))(n:Int)(i:Int)(e:zac)(q:Int)(p:Addr):tReg zba zT 21 ⟨[(2,gQ 2 9),(6,gQ 18 1),(9,AV.map 37),(11,gQ 11 9),(13,I q),(14,AV.v (.pointer (some p))),(38,sC ev),(39,I n),(40,I i)],[(2,pJ s),(11,pK e),(18,gC xs),(37,gD R)]⟩=(callD zm2 (cw zmI [sS s,I e.Script] []) λ(r0:GSeed×Bool)=>some ⟨[(2,gQ 2 9),(6,gQ 18 1),(9,AV.map 37),(11,gQ 11 9),(13,I q),(14,AV.v (.pointer (some p))),(15,gQ 15 2),(16,B r0.2),(38,sC ev),(39,I n),(40,I i)],[(2,pJ s),(11,pK e),(15,pT r0.1),(18,gC xs),(37,gD R)]⟩):=by kernel_rfl
theorem w22(s:zan)(ev:List zac)(xs:List (List AV))(R:List (List AV))(n:Int)(i:Int)(e:zac)(q:Int)(p:Addr)(sd:GSeed)(b:Bool):tReg zba zT 22 ⟨[(2,gQ 2 9),(6,gQ 18 1),(9,AV.map 37),(11,gQ 11 9),(13,I q),(14,AV.v (.pointer (some p))),(15,gQ 15 2),(16,B b),(38,sC ev),(39,I n),(40,I i)],[(2,pJ s),(11,pK e),(15,pT sd),(18,gC xs),(37,gD R)]⟩=(some ⟨[(2,gQ 2 9),(6,gQ 18 1),(9,AV.map 37),(11,gQ 11 9),(13,I q),(14,AV.v (.pointer (some p))),(15,gQ 15 2),(38,sC ev),(39,I n),(40,I i),(88,B b)],[(2,pJ s),(11,pK e),(15,pT sd),(18,gC xs),(37,gD R)]⟩):=by kernel_rfl
theorem w23(s:zan)(ev:List zac)(xs:List (List AV))(R:List (List AV))(n:Int)(i:Int)(e:zac)(q:Int)(p:Addr)(sd:GSeed)(d:zay):tReg0 zba zT 23 ⟨[(14,gQ 1300 14),(2,gQ 2 9),(6,gQ 18 1),(9,AV.map 37),(11,gQ 11 9),(13,I q),(14,AV.v (.pointer (some p))),(15,gQ 15 2),(38,sC ev),(39,I n),(40,I i)],[(1300,⟨14,zb0,[[I d.level,gR 301 10 (mG d.marks),I d.period,I d.started.Time,I d.started.Source,I d.started.Seq,AV.map 302,AV.sl 1 (List.map nBool d.watch.Last),B d.watch.Suspended,I d.good.Time,I d.good.Source,I d.good.Seq,B d.some,gR 303 12 (mC d.suspensions)]],true⟩),(301,gG (mG d.marks)),(302,gH (mL d.noted)),(303,gA (mC d.suspensions)),(2,pJ s),(11,pK e),(15,pT sd),(18,gC xs),(37,gD R)]⟩=(chk ((0:Int)<=q)<|
 elemD zcV (mJ s.Papers) q.toNat λ(c0:zaM) =>
 chk ((mG d.marks).length=(mG d.marks).length)<|
 chk ((mC d.suspensions).length=(mC d.suspensions).length)<|
 callD zep (cw zkr [gQ 1000 14,sS s,sT c0,AV.agg (zcA sd),sU e] [(1000,⟨14,zb0,[[I d.level,AV.row 900 10 0 ((mG d.marks).length),I d.period,I d.started.Time,I d.started.Source,I d.started.Seq,AV.map 901,AV.sl 1 (List.map nBool d.watch.Last),B d.watch.Suspended,I d.good.Time,I d.good.Source,I d.good.Seq,B d.some,AV.row 902 12 0 ((mC d.suspensions).length)]],true⟩),(900,gG (mG d.marks)),(901,gH (mL d.noted)),(902,gA (mC d.suspensions))]) λ(r1:zay) =>
 some ⟨[(98,AV.tup []),(97,AV.agg [I e.Stamp.Time,I e.Stamp.Source,I e.Stamp.Seq,I e.Kind,I e.Script,I e.Part,I e.Value,I e.Marker,AV.sl 1 (List.map zai e.Pages)]),(96,AV.agg [I sd.Script,AV.sl 1 (List.map zai sd.Marks)]),(95,AV.agg [I c0.Code,I c0.Variant,sL c0.Parts]),(94,AV.fp [I c0.Code,I c0.Variant,sL c0.Parts]),(93,I q),(92,sG s.Papers),(91,AV.loc 2 9 0 (0+2)),(90,AV.agg [sE s.Markers,sH s.Scripts,sG s.Papers,sP s.Schemes,sN s.Seeds,I s.Monitor.Part,I s.Monitor.Total,I s.Monitor.Window,I s.Monitor.Fails]),(89,gQ 1300 14),(14,gQ 1300 14),(2,gQ 2 9),(6,gQ 18 1),(9,AV.map 37),(11,gQ 11 9),(13,I q),(14,AV.v (.pointer (some p))),(15,gQ 15 2),(38,sC ev),(39,I n),(40,I i)],[(301,gG (mG r1.marks)),(302,gH (mL r1.noted)),(303,gA (mC r1.suspensions)),(1300,⟨14,zb0,[[I r1.level,gR 301 10 (mG r1.marks),I r1.period,I r1.started.Time,I r1.started.Source,I r1.started.Seq,AV.map 302,AV.sl 1 (List.map nBool r1.watch.Last),B r1.watch.Suspended,I r1.good.Time,I r1.good.Source,I r1.good.Seq,B r1.some,gR 303 12 (mC r1.suspensions)]],true⟩),(2,pJ s),(11,pK e),(15,pT sd),(18,gC xs),(37,gD R)]⟩):=by kernel_rfl
theorem w24(s:zan)(ev:List zac)(xs:List (List AV))(R:List (List AV))(n:Int)(i:Int)(e:zac)(q:Int)(p:Addr)(sd:GSeed)(d:zay):tReg0 zba zT 24 ⟨[(14,gQ 1300 14),(2,gQ 2 9),(6,gQ 18 1),(9,AV.map 37),(11,gQ 11 9),(13,I q),(14,AV.v (.pointer (some p))),(15,gQ 15 2),(38,sC ev),(39,I n),(40,I i)],[(1300,⟨14,zb0,[[I d.level,gR 301 10 (mG d.marks),I d.period,I d.started.Time,I d.started.Source,I d.started.Seq,AV.map 302,AV.sl 1 (List.map nBool d.watch.Last),B d.watch.Suspended,I d.good.Time,I d.good.Source,I d.good.Seq,B d.some,gR 303 12 (mC d.suspensions)]],true⟩),(301,gG (mG d.marks)),(302,gH (mL d.noted)),(303,gA (mC d.suspensions)),(2,pJ s),(11,pK e),(15,pT sd),(18,gC xs),(37,gD R)]⟩=(chk ((mG d.marks).length=(mG d.marks).length)<|
 chk (((mG d.marks).length+1)*(96+1)<=1099511627776)<|
 some ⟨[(114,AV.loc 1300 14 0 (0+1)),(113,gQ 1300 14),(112,gR 112 10 ((mG d.marks)++([[I e.Stamp.Time,I e.Stamp.Source,I e.Stamp.Seq,I e.Kind,I e.Script,I e.Part,I e.Value,I e.Marker,AV.sl 1 (List.map zai e.Pages),B d.watch.Suspended]]))),(111,AV.sl 10 ([[I e.Stamp.Time,I e.Stamp.Source,I e.Stamp.Seq,I e.Kind,I e.Script,I e.Part,I e.Value,I e.Marker,AV.sl 1 (List.map zai e.Pages),B d.watch.Suspended]])),(110,AV.agg [I e.Stamp.Time,I e.Stamp.Source,I e.Stamp.Seq,I e.Kind,I e.Script,I e.Part,I e.Value,I e.Marker,AV.sl 1 (List.map zai e.Pages),B d.watch.Suspended]),(109,B d.watch.Suspended),(108,AV.loc 1300 14 0 (0+7+1)),(107,AV.loc 1300 14 0 (0+7)),(106,gQ 1300 14),(105,gQ 1300 14),(104,AV.agg [I e.Stamp.Time,I e.Stamp.Source,I e.Stamp.Seq,I e.Kind,I e.Script,I e.Part,I e.Value,I e.Marker,AV.sl 1 (List.map zai e.Pages)]),(103,.bot),(102,AV.loc 1300 14 0 (0+1)),(101,gQ 1300 14),(100,gQ 1300 14),(99,gQ 1300 14),(14,gQ 1300 14),(2,gQ 2 9),(6,gQ 18 1),(9,AV.map 37),(11,gQ 11 9),(13,I q),(14,AV.v (.pointer (some p))),(15,gQ 15 2),(38,sC ev),(39,I n),(40,I i)],[(112,⟨10,zb1,(mG d.marks)++([zaH (⟨⟨⟨e.Stamp.Time,e.Stamp.Source,e.Stamp.Seq⟩,e.Kind,e.Script,e.Part,e.Value,e.Marker,e.Pages⟩,d.watch.Suspended⟩)]),false⟩),(1300,⟨14,zb0,[[I d.level,gR 112 10 ((mG d.marks)++([[I e.Stamp.Time,I e.Stamp.Source,I e.Stamp.Seq,I e.Kind,I e.Script,I e.Part,I e.Value,I e.Marker,AV.sl 1 (List.map zai e.Pages),B d.watch.Suspended]])),I d.period,I d.started.Time,I d.started.Source,I d.started.Seq,AV.map 302,AV.sl 1 (List.map nBool d.watch.Last),B d.watch.Suspended,I d.good.Time,I d.good.Source,I d.good.Seq,B d.some,gR 303 12 (mC d.suspensions)]],true⟩),(302,gH (mL d.noted)),(303,gA (mC d.suspensions)),(2,pJ s),(11,pK e),(15,pT sd),(18,gC xs),(37,gD R)]⟩):=by kernel_rfl
theorem w25(s:zan)(ev:List zac)(xs:List (List AV))(R:List (List AV))(n:Int)(i:Int):tReg zba zT 25 ⟨[(2,gQ 2 9),(6,gQ 18 1),(9,AV.map 37),(38,sC ev),(39,I n),(40,I i)],[(2,pJ s),(18,gC xs),(37,gD R)]⟩=(some ⟨[(2,gQ 2 9),(6,gQ 18 1),(9,AV.map 37),(38,sC ev),(39,I n),(40,I (w64 (i+1)))],[(2,pJ s),(18,gC xs),(37,gD R)]⟩):=by kernel_rfl
theorem w26(xs:List (List AV))(R:List (List AV)):tReg zba zT 26 ⟨[(6,gQ 18 1),(9,AV.map 37)],[(18,gC xs),(37,gD R)]⟩=(some ⟨[(4,gQ 18 1),(5,AV.map 37)],[(18,gC xs),(37,gD R)]⟩):=by kernel_rfl
end Go.Proofs.YtlecnobdfhlmnaaGreat
namespace Go.Proofs.YtlecnobdfhlmnaaGreat
open Go.Ab
set_option maxRecDepth 100000
theorem below_succ{p:Nat->Prop}{n:Nat}(h:∀k,k<n->p k)(hn:p n):∀k,k<n+1->p k:=λk hk=>by
 rcases Nat.lt_succ_iff_lt_or_eq.1 hk with q|q
 ·exact h k q
 ·rw[q];exact hn
theorem w5:∀k:Nat,k<100->∀(s:zan) (ev:List zac) (x:Nat->Option Addr) (n:Int) (i:Int) (c:Int) (l:Int) (cap:Int) (ps:List Int),tReg zba zT 5 ⟨[(1,sC ev),(2,gQ 2 9),(6,gQ 18 100),(8,gQ 8 5),(20,sE s.Markers),(21,I n),(22,I i)],[(2,pJ s),(8,pV (⟨(k:Int),c,l,cap,ps⟩)),(18,⟨100,za2,[cells x],true⟩)]⟩=(some ⟨[(1,sC ev),(2,gQ 2 9),(6,gQ 18 100),(20,sE s.Markers),(21,I n),(22,I i)],[(2,pJ s),(18,⟨100,za2,[(cells x).set k (gQ 33 14)],true⟩),(33,⟨14,zb0,[[I l,AV.row 301 10 0 0,I 0,I 0,I 0,I 0,AV.map 302,AV.sl 1 [],B false,I 0,I 0,I 0,B false,AV.row 303 12 0 0]],true⟩),(301,⟨10,zb1,[],false⟩),(302,⟨0,zbk,[],false⟩),(303,⟨12,zaD,[],false⟩)]⟩):=by
 repeat(first|exact λ_ h=>absurd h (Nat.not_lt_zero _)|refine below_succ ?_ ?_)
 all_goals intros;kernel_rfl
end Go.Proofs.YtlecnobdfhlmnaaGreat
namespace Go.Proofs.YtlecnobdfhlmnaaGreat
open Go.Ab
set_option maxRecDepth 100000
def wkC:Code:=(zba.fn.body).getD .skip
def wkO(j:Nat):Array Oper:=opsAt j wkC
def wkD(j:Nat):Bool:=zur j wkC
theorem wk_hb:zba.fn.body=some wkC:=by kernel_rfl
theorem wk_shape:wkC=(.seq (.region 0 (wkO 0) (wkD 0)) (.seq (.region 1 (wkO 1) (wkD 1)) (.seq (.seq (.region 2 (wkO 2) (wkD 2)) (.block 0 (.loop (.seq (.region 3 (wkO 3) (wkD 3)) (.seq (.cond (.tmp 23) .skip (.exit 0)) (.seq (.block 1 (.seq (.region 4 (wkO 4) (wkD 4)) (.region 5 (wkO 5) (wkD 5)))) (.region 6 (wkO 6) (wkD 6)))))))) (.seq (.region 7 (wkO 7) (wkD 7)) (.seq (.seq (.region 8 (wkO 8) (wkD 8)) (.block 2 (.loop (.seq (.region 9 (wkO 9) (wkD 9)) (.seq (.cond (.tmp 41) .skip (.exit 2)) (.seq (.block 3 (.seq (.region 10 (wkO 10) (wkD 10)) (.seq (.region 11 (wkO 11) (wkD 11)) (.block 4 (.seq (.region 12 (wkO 12) (wkD 12)) (.cond (.tmp 46) (.seq (.region 13 (wkO 13) (wkD 13)) (.seq (.region 14 (wkO 14) (wkD 14)) (.cond (.tmp 55) (.region 15 (wkO 15) (wkD 15)) .skip))) (.seq (.region 16 (wkO 16) (wkD 16)) (.cond (.tmp 60) (.region 17 (wkO 17) (wkD 17)) (.seq (.region 18 (wkO 18) (wkD 18)) (.cond (.tmp 70) (.seq (.region 19 (wkO 19) (wkD 19)) (.seq (.seq (.region 20 (wkO 20) (wkD 20)) (.cond (.tmp 80) (.exit 3) .skip)) (.seq (.region 21 (wkO 21) (wkD 21)) (.seq (.region 22 (wkO 22) (wkD 22)) (.cond (.tmp 88) (.region 23 (wkO 23) (wkD 23)) (.region 24 (wkO 24) (wkD 24))))))) .skip)))))))))) (.region 25 (wkO 25) (wkD 25)))))))) (.seq (.region 26 (wkO 26) (wkD 26)) .ret)))))):=by kernel_rfl
theorem wk_r0:regOf 0 wkC=some (.region 0 (wkO 0) (wkD 0)):=by kernel_rfl
theorem wk_r1:regOf 1 wkC=some (.region 1 (wkO 1) (wkD 1)):=by kernel_rfl
theorem wk_r2:regOf 2 wkC=some (.region 2 (wkO 2) (wkD 2)):=by kernel_rfl
theorem wk_r3:regOf 3 wkC=some (.region 3 (wkO 3) (wkD 3)):=by kernel_rfl
theorem wk_r4:regOf 4 wkC=some (.region 4 (wkO 4) (wkD 4)):=by kernel_rfl
theorem wk_r5:regOf 5 wkC=some (.region 5 (wkO 5) (wkD 5)):=by kernel_rfl
theorem wk_r6:regOf 6 wkC=some (.region 6 (wkO 6) (wkD 6)):=by kernel_rfl
theorem wk_r7:regOf 7 wkC=some (.region 7 (wkO 7) (wkD 7)):=by kernel_rfl
theorem wk_r8:regOf 8 wkC=some (.region 8 (wkO 8) (wkD 8)):=by kernel_rfl
theorem wk_r9:regOf 9 wkC=some (.region 9 (wkO 9) (wkD 9)):=by kernel_rfl
theorem wk_r10:regOf 10 wkC=some (.region 10 (wkO 10) (wkD 10)):=by kernel_rfl
theorem wk_r11:regOf 11 wkC=some (.region 11 (wkO 11) (wkD 11)):=by kernel_rfl
theorem wk_r12:regOf 12 wkC=some (.region 12 (wkO 12) (wkD 12)):=by kernel_rfl
theorem wk_r13:regOf 13 wkC=some (.region 13 (wkO 13) (wkD 13)):=by kernel_rfl
theorem wk_r14:regOf 14 wkC=some (.region 14 (wkO 14) (wkD 14)):=by kernel_rfl
theorem wk_r15:regOf 15 wkC=some (.region 15 (wkO 15) (wkD 15)):=by kernel_rfl
theorem wk_r16:regOf 16 wkC=some (.region 16 (wkO 16) (wkD 16)):=by kernel_rfl
theorem wk_r17:regOf 17 wkC=some (.region 17 (wkO 17) (wkD 17)):=by kernel_rfl
theorem wk_r18:regOf 18 wkC=some (.region 18 (wkO 18) (wkD 18)):=by kernel_rfl
theorem wk_r19:regOf 19 wkC=some (.region 19 (wkO 19) (wkD 19)):=by kernel_rfl
theorem wk_r20:regOf 20 wkC=some (.region 20 (wkO 20) (wkD 20)):=by kernel_rfl
theorem wk_r21:regOf 21 wkC=some (.region 21 (wkO 21) (wkD 21)):=by kernel_rfl
theorem wk_r22:regOf 22 wkC=some (.region 22 (wkO 22) (wkD 22)):=by kernel_rfl
theorem wk_r23:regOf 23 wkC=some (.region 23 (wkO 23) (wkD 23)):=by kernel_rfl
theorem wk_r24:regOf 24 wkC=some (.region 24 (wkO 24) (wkD 24)):=by kernel_rfl
theorem wk_r25:regOf 25 wkC=some (.region 25 (wkO 25) (wkD 25)):=by kernel_rfl
theorem wk_r26:regOf 26 wkC=some (.region 26 (wkO 26) (wkD 26)):=by kernel_rfl
theorem wk_n:zba.fn.ntmps<=1000:=by decide
section
variable{w0:World}{S0:Nat->Prop}{κ0:Kap}{K:Nat->Prop}{S S':Nat->Prop}{κ κ':Kap}{a:Act}{w w':World}
theorem wkStep{j:Nat}{st st':St}{M:Nat->Option Mem}{κd:Nat->Kap}(hr:regOf j wkC=some (.region j (wkO j) (wkD j)))(ht:tReg zba zT j st=some st')
  (h:Now w0 S0 κ0 K zba.fn.ntmps M κd st a w) {Q:Exit->Act->World->Prop} (hQ:∀a' w',Now w0 S0 κ0 K zba.fn.ntmps M κd st' a' w'->Q .normal a' w'):(Code.region j (wkO j) (wkD j)).wp zba.P Q a w:=by
 obtain⟨S,κ,h1,h2⟩:=h;exact leafR wk_hb hr ht wk_n h1 (λa' w' S' κ' hg hS hf hw=>hQ a' w' ⟨S',κ',hg,h2.step hS hf hw⟩)
end
abbrev deskM(d:zay):Mem:=[(300,⟨14,zb0,[[I d.level,.row 301 10 0 ((mG d.marks).length),I d.period,I d.started.Time,I d.started.Source,I d.started.Seq,.map 302,AV.sl 1 (List.map nBool d.watch.Last),B d.watch.Suspended,I d.good.Time,I d.good.Source,I d.good.Seq,B d.some,.row 303 12 0 ((mC d.suspensions).length)]],true⟩),(301,gG (mG d.marks)),(302,gH (mL d.noted)),(303,gA (mC d.suspensions))]
abbrev mems(ds:Desks):Nat->Option Mem:=λi=>(ds i).map deskM
def Points(ds:Desks)(κd:Nat->Kap)(x:Nat->Option Addr):Prop:=∀i,i<100->match ds i with
 |none=>x i=none
 |some _=>∃g c,κd i 300=some (g,c)/\x i=some ⟨g,0,none⟩
end Go.Proofs.YtlecnobdfhlmnaaGreat
namespace Go.Proofs.YtlecnobdfhlmnaaGreat
open Go.Ab
set_option maxRecDepth 100000
noncomputable section
abbrev tH(s:zan)(ev:List zac)(i:Int):Tab:=[(1,sC ev),(2,gQ 2 9),(6,gQ 18 100),(20,sE s.Markers),(21,I ((mH s.Markers).length:Int)),(22,I i)]
abbrev bS(s:zan):Nat×Ent:=(2,pJ s)
abbrev bB(x:Nat->Option Addr):Nat×Ent:=(18,⟨100,za2,[cells x],true⟩)
abbrev stH(s:zan)(ev:List zac)(x:Nat->Option Addr)(i:Int):St:=⟨tH s ev i,[bS s,bB x]⟩
abbrev m5(s:zan)(l:Int)(cs:List AV):Mem:=[bS s,(18,⟨100,za2,[cs],true⟩),(33,⟨14,zb0,[[I l,.row 301 10 0 0,I 0,I 0,I 0,I 0,.map 302,AV.sl 1 [],B false,I 0,I 0,I 0,B false,.row 303 12 0 0]],true⟩),(301,⟨10,zb1,[],false⟩),(302,⟨0,zbk,[],false⟩),(303,⟨12,zaD,[],false⟩)]
theorem zAw(x:Nat->Option Addr)(j:Nat)(hj:j<100):(cells x)[j]?=some (.v (.pointer (x j))):=by
 unfold cells
 simp_all
theorem cells_set(x:Nat->Option Addr)(k:Nat)(p:Option Addr):(cells x).set k (.v (.pointer p))=cells λi=>if i=k then p else x i:=by
 refine zcI λj=>?_
 by_cases hj:j<100
 · rw[zAw _ _ hj,zfD];by_cases h:k=j
   · subst h;have hl:k<(cells x).length:=by unfold cells;simpa using hj
     simp[hl]
   ·rw[if_neg h,zAw _ _ hj,if_neg (λe=>h e.symm)]
 · have h1:∀y,(cells y).length=100:=λy=>by unfold cells;simp
   simp_all
section
variable{w0:World}{S0:Nat->Prop}{κ0:Kap}{K:Nat->Prop}{N:Nat}{a:Act}{w:World}
theorem wk_new{s:zan}{ev:List zac}{i l:Int}{x:Nat->Option Addr}{ds:Desks}{κd:Nat->Kap}{k:Nat}(hk:k<100)
  (h:Now w0 S0 κ0 K N (mems ds) κd ⟨tH s ev i,m5 s l ((cells x).set k (.loc 33 14 0 0))⟩ a w) (hp:Points ds κd x):∃κd' x',Now w0 S0 κ0 K N (mems (upd ds k (desk0 l))) κd' (stH s ev x' i) a w/\Points (upd ds k (desk0 l)) κd' x':=by
 obtain⟨S,κ,hg,ho⟩:=h
 have h33:∃g c,κ 33=some (g,c):=by
  have hE:=hg.ents 33 _ rfl
  cases hq:κ 33 with
  |some gc=>grind
  |none=>rw[hq]at hE;have:=(hE.1 (.inl rfl)).2.2;cases this
 obtain⟨g,c,hκ⟩:=h33;have hl:k<(cells x).length:=by unfold cells;simpa using hk
 have g1:GoodS w0 S0 κ0 K N S κ ⟨tH s ev i,m5 s l (cells λi=>if i=k then some ⟨g,0,none⟩else x i)⟩ a w:=by
  have q:=Good.recell (B:=18) (j:=k) (cs:=(cells x).set k (.loc 33 14 0 0)) (a0:=.loc 33 14 0 0) (a1:=.v (.pointer (some ⟨g,0,none⟩))) hg rfl rfl rfl (by simp[hl]) (λv hv=>by
   obtain⟨g',c',_,hk',rfl⟩:=hv.loc_inv;rw[hκ]at hk';injection hk' with hk';injection hk' with e1 _;subst e1
   exact .c (.v _))
  have e:(λb=>if b=18 then some ({ z:=100,e:=za2,es:=[((cells x).set k (.loc 33 14 0 0)).set k (.v (.pointer (some ⟨g,0,none⟩)))],box:=true }:Ent)else Ab.look (m5 s l ((cells x).set k (.loc 33 14 0 0))) b)=Ab.look (m5 s l (cells λi=>if i=k then some ⟨g,0,none⟩else x i)):=by
   funext b;rw[List.set_set,cells_set];simp only[m5,bS,Ab.look];by_cases h2:b=2
   ·simp[h2]
   ·simp_all
  unfold GoodS;rw[<-e];exact q
 have o1:Objs w0 κ0 K S κ (Ab.look (m5 s l (cells λi=>if i=k then some ⟨g,0,none⟩else x i))) w (mems ds) κd:=ho.kap (λb g c hl hk=>⟨b,c,by
  simp only[m5,bS,Ab.look]at hl ⊢
  grind,hk⟩)
 have g2:=g1.ren (b:=33) (s:=300) (by omega) (by omega) (by omega) rfl;have e2:renS 33 300 ⟨tH s ev i,m5 s l (cells λi=>if i=k then some ⟨g,0,none⟩else x i)⟩=⟨tH s ev i,[bS s,bB (λi=>if i=k then some ⟨g,0,none⟩else x i)]++deskM (desk0 l)⟩:=by kernel_rfl
 rw[e2]at g2
 have o2:Objs w0 κ0 K S (λc=>if c=300 then κ 33 else κ c) (Ab.look ([bS s,bB (λi=>if i=k then some ⟨g,0,none⟩else x i)]++deskM (desk0 l))) w (mems ds) κd:=o1.kap (λb g c hl hk=>by
  by_cases hb:b=300
  ·rw[if_pos hb]at hk;exact⟨33,c,rfl,hk⟩
  · rw[if_neg hb]at hk;refine⟨b,c,?_,hk⟩;simp only[zgn,zeS,m5,bS,bB,deskM,Ab.look]at hl ⊢
    grind)
 have g3:=g2.trim [1,2,6,20,21,22] [300,301,302,303];have e3:trim [1,2,6,20,21,22] [300,301,302,303] ⟨tH s ev i,[bS s,bB (λi=>if i=k then some ⟨g,0,none⟩else x i)]++deskM (desk0 l)⟩=stH s ev (λi=>if i=k then some ⟨g,0,none⟩else x i) i:=by kernel_rfl
 rw[e3]at g3
 have o3:=o2.away (i:=k) (md:=deskM (desk0 l)) (L':=Ab.look [bS s,bB (λi=>if i=k then some ⟨g,0,none⟩else x i)]) g2 (λb ent hb=>by
   simp only[zgn,zeS,bS,bB,deskM,Ab.look]at hb ⊢
   grind) (zKe (by kernel_rfl)) (λb hb=>by
   simp only[deskM,Ab.look]at hb
   grind) (λb hb=>by
   simp only[bS,bB,Ab.look]at hb
   repeat' split at hb
   all_goals first|(subst_vars;exact⟨rfl,λh=>by cases h⟩)|cases hb)
 have e4:(λj=>if j=k then some (deskM (desk0 l))else mems ds j)=mems (upd ds k (desk0 l)):=by funext j;simp only[mems,upd];split<;>rfl
 rw[e4]at o3;refine⟨_,_,⟨S,_,g3,o3⟩,λj hj=>?_⟩;simp only[upd];by_cases hjk:j=k
 ·simp_all
 ·simp only[if_neg hjk];exact hp j hj
theorem zBr{M:Nat->Option Mem}{κd:Nat->Kap}{st:St}(h:Now w0 S0 κ0 K N M κd st a w){k:Nat}{n:Int}(hk:get st.t k=I n):cnt a k=n.toNat:=by obtain⟨S,κ,h1,_⟩:=h;have:=h1.slots k;rw[hk]at this;unfold cnt;rw[this.v_inv]
theorem wk_markers{s:zan}{ev:List zac}(hm:∀m∈s.Markers,0<=m.ID/\m.ID<100)(hlen:s.Markers.length<1000000){κd0:Nat->Kap}
  (h:Now w0 S0 κ0 K zba.fn.ntmps (λ_=>none) κd0 (stH s ev (λ_=>none) 0) a w) {Q:Exit->Act->World->Prop}
  (hQ:∀a' w' κd x,Now w0 S0 κ0 K zba.fn.ntmps (mems (seats s.Markers)) κd (stH s ev x s.Markers.length) a' w'->Points (seats s.Markers) κd x->Q .normal a' w'):(Code.block 0 (.loop (.seq (.region 3 (wkO 3) (wkD 3)) (.seq (.cond (.tmp 23) .skip (.exit 0)) (.seq (.block 1 (.seq (.region 4 (wkO 4) (wkD 4)) (.region 5 (wkO 5) (wkD 5)))) (.region 6 (wkO 6) (wkD 6))))))).wp zba.P Q a w:=by
 refine wp_block (wp_loop (λa w=>∃k κd x,k<=s.Markers.length/\Now w0 S0 κ0 K zba.fn.ntmps (mems (seats (s.Markers.take k))) κd (stH s ev x k) a w/\Points (seats (s.Markers.take k)) κd x)
  (λa _=>s.Markers.length-cnt a 22) ⟨0,κd0,_,zdh _,h,λ_ _=>rfl⟩ ?_)
 rintro a w ⟨k,κd,x,hk,hn,hp⟩
 have hc0:cnt a 22=k:=by rw[zBr hn (n:=(k:Int)) rfl];simp
 refine wp_seq (wkStep wk_r3 (w3 s ev x _ _) hn (λa1 w1 h1=>?_));refine wp_seq (wp_cond (h1.bool (b:=decide ((k:Int)<(mH s.Markers).length)) rfl) ?_);by_cases hlt:k<s.Markers.length
 · rw[decide_eq_true (by simp;omega),if_pos rfl];refine wp_skip ?_;have h2:=h1.trim [1,2,6,20,21,22] [] (st':=stH s ev x k) (by kernel_rfl);refine wp_seq (wp_block (wp_seq ?_));have ht4:=w4 s ev x ((mH s.Markers).length:Int) (k:Int);rw[cPQ,zfB,show((k:Int)).toNat=k from rfl,zaa hlt,zae]at ht4;refine wkStep wk_r4 ht4 h2 (λa3 w3 h3=>?_);obtain⟨hm0,hm1⟩:=hm _ (zar hlt);generalize hmk:s.Markers[k]=m at h3 hm0 hm1;obtain⟨id,cen,lev,cap,ps⟩:=m;obtain⟨q,rfl⟩:∃q:Nat,id=(q:Int):=⟨id.toNat,by grind⟩
   have hq:q<100:=by simp only at hm1;omega
   refine wkStep wk_r5 (w5 q hq s ev x _ _ cen lev cap ps) h3 (λa4 w4 h4=>?_);obtain⟨κd',x',h5,hp'⟩:=wk_new hq h4 hp;refine wkStep wk_r6 (w6 s ev x' _ _) h5 (λa6 w6 h6=>?_);rw[w6Q]at h6
   have e:seats (s.Markers.take (k+1))=upd (seats (s.Markers.take k)) q (desk0 lev):=by rw[zco hlt,hmk];simp[seats]
   refine⟨⟨k+1,κd',x',hlt,by rw[e];exact_mod_cast h6,by rw[e];exact hp'⟩,?_⟩;have:cnt a6 22=k+1:=by rw[zBr h6 (n:=(k:Int)+1) rfl];omega
   omega
 · rw[decide_eq_false (by simp;omega),iNs];refine wp_exit ?_;have hkl:k=s.Markers.length:=by omega
   subst hkl;rw[zdm]at h1 hp;exact hQ _ _ _ _ (h1.trim [1,2,6,20,21,22] [] (by kernel_rfl)) hp
end
end
end Go.Proofs.YtlecnobdfhlmnaaGreat
namespace Go.Proofs.YtlecnobdfhlmnaaGreat
open Go.Ab
set_option maxRecDepth 100000
noncomputable section
def rows(x:Nat->Option Addr):List (List AV):=(List.range 100).map λi=>[.v (.pointer (x i))]
theorem zsy(x:Nat->Option Addr)(j:Nat)(hj:j<100):(rows x)[j]?=some [.v (.pointer (x j))]:=by
 unfold rows
 simp_all
abbrev bA(x:Nat->Option Addr):Nat×Ent:=(18,gC (rows x))
abbrev bR(R:List (zaP×za6)):Nat×Ent:=(37,gD (mK R))
abbrev bE(e:zac):Nat×Ent:=(11,pK e)
abbrev bD(sd:GSeed):Nat×Ent:=(15,pT sd)
section
variable{w0:World}{S0:Nat->Prop}{κ0:Kap}{K:Nat->Prop}{N:Nat}{a:Act}{w:World}
theorem wk_toRow{s:zan}{ev:List zac}{x:Nat->Option Addr}{M:Nat->Option Mem}{κd:Nat->Kap}{i:Int}(h:Now w0 S0 κ0 K N M κd (stH s ev x i) a w):Now w0 S0 κ0 K N M κd ⟨[(1,sC ev),(2,gQ 2 9),(6,.loc 18 1 0 0)],[bS s,bA x]⟩ a w:=by
 obtain⟨S,κ,hg,ho⟩:=h
 have h18:∃g c,κ 18=some (g,c):=by
  have hE:=hg.ents 18 _ rfl
  cases hq:κ 18 with
  |some gc=>grind
  |none=>rw[hq]at hE;have:=(hE.1 (.inl rfl)).2.2;cases this
 obtain⟨g,c,hκ⟩:=h18;have hE:=hg.ents 18 _ rfl;rw[hκ]at hE
 have h6:a.tmps.getD 6 undef=.pointer (some ⟨g,0,none⟩):=by obtain⟨g',c',_,hk',e⟩:=(show VRel _ _ _ _ (.loc 18 100 0 0) _ from hg.slots 6).loc_inv;rw[hκ]at hk';injection hk' with hk';injection hk' with e1 _;subst e1;simpa using e
 have hl:(cells x).length=100:=by unfold cells;simp
 have hrow:=toRow hE (by unfold maxLen;omega) (xs:=rows x) (by rw[hl];unfold rows;simp) (λj y u hj hv=>by
  have hj':j<100:=by rw[<-hl];exact(zam.1 hj).1
  rw[zAw x j hj']at hj;injection hj with hj;subst hj
  rw[hv.v_inv,zsy x j hj'])
 have g1:=hg.swap (B:=18) (c2:=100) rfl (by omega) hκ hrow;have o1:=ho.swap (B:=18) (c2:=100) (e2:=gC (rows x)) rfl hκ
 have g2:=g1.set 6 (.loc 18 1 0 0) (by
  rw[h6];have:=VRel.loc (S:=S) (κ:=overK κ (λ_=>some (g,100)) (Ab.look [(18,gC (rows x))])) (D:=λb=>(Ab.look ((18,gC (rows x))::(del 18 (stH s ev x i)).m) b).isSome=true) (w:=w) 18 1 0 0 g 100 (by simp[Ab.look]) (by unfold overK;simp[Ab.look])
  simpa using this)
 exact Now.trim ⟨S,_,g2,o1⟩ [1,2,6] [] (by kernel_rfl)
abbrev e0D(d:zay):Ent:=⟨14,zb0,[[I d.level,.row 301 10 0 ((mG d.marks).length),I d.period,I d.started.Time,I d.started.Source,I d.started.Seq,.map 302,AV.sl 1 (List.map nBool d.watch.Last),B d.watch.Suspended,I d.good.Time,I d.good.Source,I d.good.Seq,B d.some,.row 303 12 0 ((mC d.suspensions).length)]],true⟩
abbrev mrD(d:zay):Mem:=[(301,gG (mG d.marks)),(302,gH (mL d.noted)),(303,gA (mC d.suspensions))]
abbrev deskB(d:zay):Mem:=(1300,e0D d)::mrD d
theorem zDR{d:zay}{b:Nat}(h:(Ab.look (mrD d) b).isSome=true):300<b/\b<304:=by
 simp only[mrD,Ab.look]at h
 grind
theorem mrD_only(d:zay)(Bn b:Nat)(ent:Ent)(h:Ab.look ((Bn,e0D d)::mrD d) b=some ent)(hbx:ent.box=true):∀cs∈ent.es,∀x∈cs,only ((mrD d).map (·.1)) x=true:=by
 simp only[mrD,Ab.look]at h
 repeat' split at h
 all_goals first|cases h|skip
 · have e:∀cs∈(e0D d).es,∀x∈cs,only ((mrD d).map (·.1)) x=true:=λcs hcs x hx=>by simp only[e0D,zcr]at hcs;subst hcs;have:∀x∈[I d.level,.row 301 10 0 ((mG d.marks).length),I d.period,I d.started.Time,I d.started.Source,I d.started.Seq,.map 302,AV.sl 1 (List.map nBool d.watch.Last),B d.watch.Suspended,I d.good.Time,I d.good.Source,I d.good.Seq,B d.some,.row 303 12 0 ((mC d.suspensions).length)],only [301,302,303] x=true:=zbH.1 (by kernel_rfl);exact this x hx
   exact e
 all_goals cases hbx
theorem wk_desk{j k0 i:Nat}{t:Tab}{m:Mem}{st1 st2 stN:St}{d d':zay}{x:Nat->Option Addr}{ds:Desks}{κd:Nat->Kap}(hr:regOf j wkC=some (.region j (wkO j) (wkD j)))
  (hn:Now w0 S0 κ0 K zba.fn.ntmps (mems ds) κd ⟨t,m⟩ a w) (hp:Points ds κd x) (hi:i<100) (hd:ds i=some d) (hk0:get t k0=.v (.pointer (x i))) (hm:∀b,(Ab.look m b).isSome=true->b<300)
  (ht:tReg0 zba zT j ⟨(k0,.loc 1300 14 0 0)::t,deskB d++m⟩=some st1) (h12:st2=st1\/(st2=renS 112 301 st1/\Ab.look st1.m 301=none))
  (hd':∀b ent,Ab.look (deskB d') b=some ent->Ab.look st2.m b=some ent) (ks drop:List Nat) (e:trim ks drop st2=stN) (hN:∀b,(Ab.look stN.m b).isSome=true->b<300)
  {Q:Exit->Act->World->Prop} (hQ:∀a' w' κd',Now w0 S0 κ0 K zba.fn.ntmps (mems (upd ds i d')) κd' stN a' w'->Points (upd ds i d') κd' x->Q .normal a' w'):(Code.region j (wkO j) (wkD j)).wp zba.P Q a w:=by
 obtain⟨S,κ,hg,ho⟩:=hn;have hi':mems ds i=some ((300,e0D d)::mrD d):=by simp[mems,hd]
 have hpi:=hp i hi;rw[hd]at hpi;obtain⟨g,c,hκ,hx⟩:=hpi
 have hk0':a.tmps.getD k0 undef=.pointer (some ⟨g,0,none⟩):=by have:=hg.slots k0;rw[hk0,hx]at this;exact this.v_inv
 have hmr:∀b,(Ab.look (mrD d) b).isSome=true->b<1000/\b≠300/\Ab.look m b=none:=λb hb=>by
  obtain⟨q1,q2⟩:=zDR hb;refine⟨by omega,by omega,?_⟩
  cases hq:Ab.look m b with
  |none=>rfl
  |some e=>grind
 have hm':∀b,(Ab.look m b).isSome=true->b<1000:=λb hb=>by have:=hm b hb;omega
 have h1:=hg.lend (B:=300) (ho.obj i _ hi') (λb g c hb hk=>(ho.far i _ b g c hi' hb hk).1) hmr hm' (mrD_only d 300) (z:=14) hk0' hκ;refine zA6 (zuO (C:=zba.C) (A:=zba.F)) wk_n (zKs wk_hb hr ht) ⟨S,_,h1⟩ ?_
 rintro a' w' ⟨S',κ1,hg1⟩
 have hg2:∃κ2,GoodS w S (lentK κ (κd i) (mrD d) 300) (λb=>(Ab.look (lentM (e0D d) (mrD d) m 300) b).isSome=true) zba.fn.ntmps S' κ2 st2 a' w':=by
  rcases h12 with rfl|⟨rfl,h301⟩
  ·exact⟨κ1,hg1⟩
  ·exact⟨_,GoodS.ren hg1 (by omega) (by omega) (by omega) h301⟩
 obtain⟨κ2,hg2⟩:=hg2
 obtain⟨r1,r2⟩:=lent_back (B:=300) (e0':=e0D d') (mr':=mrD d') hg ho hi' hmr hm' hg2 hd' (λb hb=>by have:=zDR hb;omega) (mrD_only d' 1300) ks drop e (λb hb=>by
  refine⟨by rw[<-e]at hb;exact zAX ks drop st2 b hb,λhq=>?_,by have:=hN b hb;omega⟩;have:=hN b hb;rcases look_two hq with h|h
  ·omega
  ·have:=zDR h;omega)
 have e4:(λj=>if j=i then some ((300,e0D d')::mrD d')else mems ds j)=mems (upd ds i d'):=by funext j;simp only[mems,upd];split<;>rfl
 rw[e4]at r2;refine hQ _ _ _ ⟨S',_,r1,r2⟩ (λj hj=>?_);simp only[upd];by_cases hji:j=i
 ·simp only[if_pos hji];subst hji;exact⟨g,c,by unfold homeK;simpa using hκ,hx⟩
 ·simp only[if_neg hji];exact hp j hj
end
end
end Go.Proofs.YtlecnobdfhlmnaaGreat
namespace Go.Proofs.YtlecnobdfhlmnaaGreat
open Go.Ab
set_option maxRecDepth 100000
noncomputable section
def zM(d:zay):Mem:=[(1000,⟨14,zb0,[[I d.level,.row 900 10 0 ((mG d.marks).length),I d.period,I d.started.Time,I d.started.Source,I d.started.Seq,.map 901,AV.sl 1 (List.map nBool d.watch.Last),B d.watch.Suspended,I d.good.Time,I d.good.Source,I d.good.Seq,B d.some,.row 902 12 0 ((mC d.suspensions).length)]],true⟩),(900,gG (mG d.marks)),(901,gH (mL d.noted)),(902,gA (mC d.suspensions))]
structure Legs(s:zan) where
 rein:za6->zay->zay
 note:zaM->GSeed->zac->zay->zay
 fit:zac->Option Nat
 seed:Int->Option GSeed
 ok:zac->Prop
 D:Nat->zay->Prop
 ranges:∀e,ok e->(0<=e.Marker/\e.Marker<100)/\0<=e.Stamp.Source/\e.Stamp.Source<100
 D0:∀l,D 0 (desk0 l)
 Dup:∀k d,D k d->D (k+1) d
 Dlen:∀k d,D k d->d.marks.length<=k
 Drein:∀k d e,ok e->D k d->D (k+1) (rein e.Stamp d)
 Dnote:∀k d p sd e,ok e->D k d->D (k+1) (note p sd e d)
 Dapp:∀k d e,ok e->D k d->D (k+1) { d with marks:=d.marks++[⟨e,d.watch.Suspended⟩] }
 fit_lt:∀e q,fit e=some q->q<s.Papers.length
 cRein:∀k d e,k<1000000->ok e->D k d->cw zh3 [.loc 1000 14 0 0,.agg (zb6 e.Stamp)] (zM d)=some (zdd (rein e.Stamp d))
 cNote:∀k d p sd e,k<1000000->ok e->D k d->p∈s.Papers->(∃q,fit e=some q/\s.Papers[q]?=some p)->seed e.Script=some sd->cw zkr [.loc 1000 14 0 0,.agg (zas s),.agg (zaQ p),.agg (zcA sd),.agg (zab e)] (zM d)=some (zdd (note p sd e d))
 cFits:∀x e,ok e->cw zjR [.fa 1 (rows x),.agg (zas s),.agg (zab e)] []=some (zie (match x e.Stamp.Source.toNat,fit e with
  |some p,some q=>((q:Int),some p)
  |_,_=>(0,none)))
 cSeed:∀n,cw zmI [.agg (zas s),I n] []=some (zkg ((seed n).getD ⟨0,[]⟩,(seed n).isSome))
def evG{s:zan}(g:Legs s)(st:Desks×Reop)(e:zac):Desks×Reop:=
 if e.Kind=1 then(match st.1 e.Marker.toNat with
  |some d=>(upd st.1 e.Marker.toNat (g.rein e.Stamp d),st.2)
  |none=>st)
 else if e.Kind=2 then(st.1,mput ⟨e.Script,e.Part⟩ e.Stamp st.2)
 else if e.Kind=0 then(match st.1 e.Stamp.Source.toNat,g.fit e with
  |some d,some q=>(match g.seed e.Script,s.Papers[q]? with
    |some sd,some p=>(upd st.1 e.Stamp.Source.toNat (g.note p sd e d),st.2)
    |none,_=>(upd st.1 e.Stamp.Source.toNat { d with marks:=d.marks++[⟨e,d.watch.Suspended⟩] },st.2)
    |_,_=>st)
  |_,_=>st)
 else st
abbrev tE(ev:List zac)(i:Int):Tab:=[(2,gQ 2 9),(6,gQ 18 1),(9,AV.map 37),(38,sC ev),(39,I ((mA ev).length:Int)),(40,I i)]
abbrev stE(s:zan)(ev:List zac)(x:Nat->Option Addr)(R:Reop)(i:Int):St:=⟨tE ev i,[bS s,bA x,bR R]⟩
section
variable{w0:World}{S0:Nat->Prop}{κ0:Kap}{K:Nat->Prop}{a:Act}{w:World}
theorem zm5{m:Mem}(h:m.all (λp=>decide (p.1<300))=true):∀b,(Ab.look m b).isSome=true->b<300:=λb hb=>by obtain⟨ent,he⟩:=zaI.1 hb;have:=zbH.1 h (b,ent) (zmU he);simpa using this
theorem wk_event{s:zan}{ev:List zac}(g:Legs s){k:Nat}{ds:Desks}{R:Reop}{x:Nat->Option Addr}{κd:Nat->Kap}(hk:k<ev.length)(hok:g.ok ev[k])(hev:ev.length<1000000)
  (h:Now w0 S0 κ0 K zba.fn.ntmps (mems ds) κd (stE s ev x R k) a w) (hp:Points ds κd x) (hD:∀i d,ds i=some d->g.D k d) {Q:Exit->Act->World->Prop}
  (hQ:∀a' w' κd',Now w0 S0 κ0 K zba.fn.ntmps (mems (evG g (ds,R) ev[k]).1) κd' (stE s ev x (evG g (ds,R) ev[k]).2 k) a' w'->Points (evG g (ds,R) ev[k]).1 κd' x->Q .normal a' w'):(Code.block 3 (.seq (.region 10 (wkO 10) (wkD 10)) (.seq (.region 11 (wkO 11) (wkD 11)) (.block 4 (.seq (.region 12 (wkO 12) (wkD 12)) (.cond (.tmp 46) (.seq (.region 13 (wkO 13) (wkD 13)) (.seq (.region 14 (wkO 14) (wkD 14)) (.cond (.tmp 55) (.region 15 (wkO 15) (wkD 15)) .skip))) (.seq (.region 16 (wkO 16) (wkD 16)) (.cond (.tmp 60) (.region 17 (wkO 17) (wkD 17)) (.seq (.region 18 (wkO 18) (wkD 18)) (.cond (.tmp 70) (.seq (.region 19 (wkO 19) (wkD 19)) (.seq (.seq (.region 20 (wkO 20) (wkD 20)) (.cond (.tmp 80) (.exit 3) .skip)) (.seq (.region 21 (wkO 21) (wkD 21)) (.seq (.region 22 (wkO 22) (wkD 22)) (.cond (.tmp 88) (.region 23 (wkO 23) (wkD 23)) (.region 24 (wkO 24) (wkD 24))))))) .skip)))))))))).wp zba.P Q a w:=by
 refine wp_block (wp_seq ?_);have ht:=w10 s ev (rows x) (mK R) ((mA ev).length:Int) (k:Int);rw[cPQ,zcs,show((k:Int)).toNat=k from rfl,zaa hk,zae]at ht;refine wkStep wk_r10 ht h (λa1 w1 h1=>?_);obtain⟨⟨hm0,hm1⟩,hs0,hs1⟩:=g.ranges _ hok;generalize ev[k]=e at h1 hok hQ hm0 hm1 hs0 hs1;refine wp_seq (wkStep wk_r11 (w11 s ev _ _ _ _ e) h1 (λa2 w2 h2=>?_));refine wp_block (wp_seq (wkStep wk_r12 (w12 s ev _ _ _ _ e) h2 (λa3 w3 h3=>?_)));refine wp_cond (h3.bool (b:=e.Kind==1) rfl) ?_;by_cases k1:e.Kind=1
 ·
  rw[if_pos (by simp[k1])];have h4:=h3.trim [2,6,9,11,38,39,40] [] (st':=⟨[(2,gQ 2 9),(6,gQ 18 1),(9,AV.map 37),(11,gQ 11 9),(38,sC ev),(39,I ((mA ev).length:Int)),(40,I k)],[bS s,bE e,bA x,bR R]⟩) (by kernel_rfl);have ht13:=w13 s ev (rows x) (mK R) ((mA ev).length:Int) (k:Int) e;have hi:e.Marker.toNat<100:=by omega
  have hrow:=zsy x (0+e.Marker.toNat) (by omega);rw[zaY]at hrow;rw[zao hm0,zao (by simpa using hm1),zaY]at ht13;have hpi:=hp _ hi
  cases hdi:ds e.Marker.toNat with
  |none =>
    rw[hdi]at hpi;rw[hpi]at hrow;rw[zAO hrow]at ht13;refine wp_seq (wkStep wk_r13 ht13 h4 (λa5 w5 h5=>?_));refine wp_seq (wkStep wk_r14 (w14n s ev _ _ _ _ e) h5 (λa6 w6 h6=>?_));refine wp_cond (h6.bool (b:=false) rfl) ?_;rw[iNs];refine wp_skip ?_;have h7:=h6.trim [2,6,9,38,39,40] [11] (st':=stE s ev x R k) (by kernel_rfl)
    have e1:evG g (ds,R) e=(ds,R):=by unfold evG;rw[if_pos k1];simp only[hdi]
    rw[e1]at hQ;exact hQ _ _ _ h7 hp
  |some d =>
    have hpi':=hpi;rw[hdi]at hpi;obtain⟨g1,c1,hκ,hx⟩:=hpi;rw[hx]at hrow;rw[zGB hrow]at ht13;refine wp_seq (wkStep wk_r13 ht13 h4 (λa5 w5 h5=>?_));refine wp_seq (wkStep wk_r14 (w14p s ev _ _ _ _ e _) h5 (λa6 w6 h6=>?_));refine wp_cond (h6.bool (b:=true) rfl) ?_;rw[if_pos rfl];have h7:=h6.trim [2,6,9,11,12,38,39,40] [] (st':=⟨[(2,gQ 2 9),(6,gQ 18 1),(9,AV.map 37),(11,gQ 11 9),(12,AV.v (.pointer (some ⟨g1,0,none⟩))),(38,sC ev),(39,I ((mA ev).length:Int)),(40,I k)],[bS s,bE e,bA x,bR R]⟩) (by kernel_rfl);have ht15:=w15 s ev (rows x) (mK R) ((mA ev).length:Int) (k:Int) e ⟨g1,0,none⟩ d;rw[zao rfl,zao rfl]at ht15;have hc:=g.cRein k d e (by omega) hok (hD _ d hdi);unfold zM at hc;rw[hc,ziI]at ht15;refine wk_desk (k0:=12) wk_r15 h7 hp hi hdi (by rw[hx];rfl) (zm5 (by kernel_rfl)) ht15 (.inl rfl) (d':=g.rein e.Stamp d) (λb ent hb=>?_) [2,6,9,38,39,40] [11,1300,301,302,303] (stN:=stE s ev x R k) (by kernel_rfl) (zm5 (by kernel_rfl)) (λa8 w8 κd8 h8 hp8=>?_)
    · simp only[deskB,mrD,e0D,Ab.look]at hb ⊢
      grind
    · have e1:evG g (ds,R) e=(upd ds e.Marker.toNat (g.rein e.Stamp d),R):=by unfold evG;rw[if_pos k1];simp only[hdi]
      rw[e1]at hQ;exact hQ _ _ _ h8 hp8
 rw[if_neg (by simpa using k1)];have h4:=h3.trim [2,6,9,11,38,39,40,45] [] (st':=⟨[(2,gQ 2 9),(6,gQ 18 1),(9,AV.map 37),(11,gQ 11 9),(38,sC ev),(39,I ((mA ev).length:Int)),(40,I k),(45,I e.Kind)],[bS s,bE e,bA x,bR R]⟩) (by kernel_rfl);refine wp_seq (wkStep wk_r16 (w16 s ev _ _ _ _ e) h4 (λa5 w5 h5=>?_));refine wp_cond (h5.bool (b:=e.Kind==2) rfl) ?_;by_cases k2:e.Kind=2
 ·
  rw[if_pos (by simp[k2])];have h6:=h5.trim [2,6,9,11,38,39,40] [] (st':=⟨[(2,gQ 2 9),(6,gQ 18 1),(9,AV.map 37),(11,gQ 11 9),(38,sC ev),(39,I ((mA ev).length:Int)),(40,I k)],[bS s,bE e,bA x,bR R]⟩) (by kernel_rfl);have ht17:=w17 s ev (rows x) R ((mA ev).length:Int) (k:Int) e;rw[zrP]at ht17;refine wkStep wk_r17 ht17 h6 (λa7 w7 h7=>?_)
  have e1:evG g (ds,R) e=(ds,mput ⟨e.Script,e.Part⟩ e.Stamp R):=by
   unfold evG
   grind
  rw[e1]at hQ;exact hQ _ _ _ (h7.trim [2,6,9,38,39,40] [11] (by kernel_rfl)) hp
 rw[if_neg (by simpa using k2)];have h6:=h5.trim [2,6,9,11,38,39,40,45] [] (st':=⟨[(2,gQ 2 9),(6,gQ 18 1),(9,AV.map 37),(11,gQ 11 9),(38,sC ev),(39,I ((mA ev).length:Int)),(40,I k),(45,I e.Kind)],[bS s,bE e,bA x,bR R]⟩) (by kernel_rfl);refine wp_seq (wkStep wk_r18 (w18 s ev _ _ _ _ e) h6 (λa7 w7 h7=>?_));refine wp_cond (h7.bool (b:=e.Kind==0) rfl) ?_;by_cases k3:¬e.Kind=0
 ·
  rw[if_neg (by simpa using k3)];refine wp_skip ?_
  have e1:evG g (ds,R) e=(ds,R):=by
   unfold evG
   simp_all
  rw[e1]at hQ;exact hQ _ _ _ (h7.trim [2,6,9,38,39,40] [11] (by kernel_rfl)) hp
 replace k3:=Decidable.not_not.1 k3;rw[if_pos (by simp[k3])];have h8:=h7.trim [2,6,9,11,38,39,40] [] (st':=⟨[(2,gQ 2 9),(6,gQ 18 1),(9,AV.map 37),(11,gQ 11 9),(38,sC ev),(39,I ((mA ev).length:Int)),(40,I k)],[bS s,bE e,bA x,bR R]⟩) (by kernel_rfl);have ht19:=w19 s ev (rows x) (mK R) ((mA ev).length:Int) (k:Int) e;rw[zao (by unfold rows;simp),g.cFits x e hok,zuM]at ht19;have hi:e.Stamp.Source.toNat<100:=by omega
 have hpi:=hp _ hi
 have noDesk:(x e.Stamp.Source.toNat=none\/g.fit e=none)->(Code.seq (.region 19 (wkO 19) (wkD 19)) (.seq (.seq (.region 20 (wkO 20) (wkD 20)) (.cond (.tmp 80) (.exit 3) .skip)) (.seq (.region 21 (wkO 21) (wkD 21)) (.seq (.region 22 (wkO 22) (wkD 22)) (.cond (.tmp 88) (.region 23 (wkO 23) (wkD 23)) (.region 24 (wkO 24) (wkD 24))))))).wp zba.P (Exit.inBlock 4 (Exit.inBlock 3 Q)) a7 w7:=by
  intro hno
  have e0:(match x e.Stamp.Source.toNat,g.fit e with
   |some p,some q=>((q:Int),some p)
   |_,_=>((0:Int),none))=((0:Int),(none:Option Addr)):=by
   rcases hno with q|q
   ·rw[q]
   ·simp_all
  rw[e0]at ht19;refine wp_seq (wkStep wk_r19 ht19 h8 (λa9 w9 h9=>?_));refine wp_seq (wp_seq (wkStep wk_r20 (w20n s ev _ _ _ _ e 0) h9 (λa10 w10 h10=>?_)));refine wp_cond (h10.bool (b:=true) rfl) ?_;rw[if_pos rfl];refine wp_exit ?_
  have e1:evG g (ds,R) e=(ds,R):=by
   unfold evG;rw[if_neg k1,if_neg k2,if_pos k3];rcases hno with q|q
   ·grind
   ·simp_all
  rw[e1]at hQ;exact hQ _ _ _ (h10.trim [2,6,9,38,39,40] [11] (by kernel_rfl)) hp
 cases hdi:ds e.Stamp.Source.toNat with
 |none=>simp_all
 |some d =>
   cases hf:g.fit e with
   |none=>exact noDesk (.inr hf)
   |some q =>
     rw[hdi]at hpi;obtain⟨g1,c1,hκ,hx⟩:=hpi;rw[hx,hf]at ht19;refine wp_seq (wkStep wk_r19 ht19 h8 (λa9 w9 h9=>?_));refine wp_seq (wp_seq (wkStep wk_r20 (w20p s ev _ _ _ _ e q ⟨g1,0,none⟩) h9 (λa10 w10 h10=>?_)));refine wp_cond (h10.bool (b:=false) rfl) ?_;rw[iNs];refine wp_skip ?_;have h11:=h10.trim [2,6,9,11,13,14,38,39,40] [] (st':=⟨[(2,gQ 2 9),(6,gQ 18 1),(9,AV.map 37),(11,gQ 11 9),(13,I q),(14,AV.v (.pointer (some ⟨g1,0,none⟩))),(38,sC ev),(39,I ((mA ev).length:Int)),(40,I k)],[bS s,bE e,bA x,bR R]⟩) (by kernel_rfl);have ht21:=w21 s ev (rows x) (mK R) ((mA ev).length:Int) (k:Int) e q ⟨g1,0,none⟩;rw[g.cSeed,zyc]at ht21;refine wp_seq (wkStep wk_r21 ht21 h11 (λa12 w12 h12=>?_));refine wp_seq (wkStep wk_r22 (w22 s ev _ _ _ _ e q ⟨g1,0,none⟩ _ _) h12 (λa13 w13 h13=>?_));refine wp_cond (h13.bool (b:=(g.seed e.Script).isSome) rfl) ?_;have h14:=h13.trim [2,6,9,11,13,14,15,38,39,40] [] (st':=⟨[(2,gQ 2 9),(6,gQ 18 1),(9,AV.map 37),(11,gQ 11 9),(13,I q),(14,AV.v (.pointer (some ⟨g1,0,none⟩))),(15,gQ 15 2),(38,sC ev),(39,I ((mA ev).length:Int)),(40,I k)],[bS s,bE e,bD ((g.seed e.Script).getD ⟨0,[]⟩),bA x,bR R]⟩) (by kernel_rfl);have hql:=g.fit_lt e q hf
     cases hsd:g.seed e.Script with
     |some sd =>
       rw[hsd]at h14;rw[if_pos (show(some sd).isSome=true from rfl)];have ht23:=w23 s ev (rows x) (mK R) ((mA ev).length:Int) (k:Int) e q ⟨g1,0,none⟩ sd d;rw[cPQ,zfH,show((q:Int)).toNat=q from rfl,zaa hql,zae,zao rfl,zao rfl]at ht23;have hc:=g.cNote k d s.Papers[q] sd e (by omega) hok (hD _ d hdi) (zar hql) ⟨q,hf,zaa hql⟩ hsd;unfold zM at hc;rw[hc,ziI]at ht23;refine wk_desk (k0:=14) wk_r23 h14 hp hi hdi (by rw[hx];rfl) (zm5 (by kernel_rfl)) ht23 (.inl rfl) (d':=g.note s.Papers[q] sd e d) (λb ent hb=>?_) [2,6,9,38,39,40] [11,15,1300,301,302,303] (stN:=stE s ev x R k) (by kernel_rfl) (zm5 (by kernel_rfl)) (λa8 w8 κd8 h8 hp8=>?_)
       · simp only[deskB,mrD,e0D,Ab.look]at hb ⊢
         grind
       · have e1:evG g (ds,R) e=(upd ds e.Stamp.Source.toNat (g.note s.Papers[q] sd e d),R):=by unfold evG;rw[if_neg k1,if_neg k2,if_pos k3];simp only[hdi,hf,hsd,zaa hql]
         rw[e1]at hQ;exact hQ _ _ _ h8 hp8
     |none =>
       rw[hsd]at h14;rw[iNs];have ht24:=w24 s ev (rows x) (mK R) ((mA ev).length:Int) (k:Int) e q ⟨g1,0,none⟩ ⟨0,[]⟩ d;have hdl:=g.Dlen _ _ (hD _ d hdi);rw[zao rfl,zao (by grind)]at ht24;refine wk_desk (k0:=14) wk_r24 h14 hp hi hdi (by rw[hx];rfl) (zm5 (by kernel_rfl)) ht24 (.inr ⟨rfl,by kernel_rfl⟩) (d':={ d with marks:=d.marks++[⟨e,d.watch.Suspended⟩] }) (λb ent hb=>?_) [2,6,9,38,39,40] [11,15,1300,301,302,303] (stN:=stE s ev x R k) (by kernel_rfl) (zm5 (by kernel_rfl)) (λa8 w8 κd8 h8 hp8=>?_)
       · have e2:mG (d.marks++[⟨e,d.watch.Suspended⟩])=mG d.marks++[zaH ⟨e,d.watch.Suspended⟩]:=by simp
         simp only[deskB,mrD,e0D,Ab.look,e2]at hb ⊢
         repeat' split at hb
         all_goals first|(subst_vars;rw[<-hb];rfl)|cases hb
       · have e1:evG g (ds,R) e=(upd ds e.Stamp.Source.toNat { d with marks:=d.marks++[⟨e,d.watch.Suspended⟩] },R):=by unfold evG;rw[if_neg k1,if_neg k2,if_pos k3];simp only[hdi,hf,hsd]
         rw[e1]at hQ;exact hQ _ _ _ h8 hp8
end
end
end Go.Proofs.YtlecnobdfhlmnaaGreat
end
