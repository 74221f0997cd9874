/- slices.Sorted(maps.Keys(m)) answers as said. -/
import Derived.Test.YtlecnobdfhlmnaaGreatXAnn
import Derived.Test.YtlecnobdfhlmnaaGreatJ2
import Derived.Test.YtlecnobdfhlmnaaGreatJ4
import Derived.Test.YtlecnobdfhlmnaaGreatJ1
import Derived.Test.YtlecnobdfhlmnaaGreatJ3
set_option linter.unusedSimpArgs false
set_option linter.unusedVariables false
noncomputable section
namespace Go.Proofs.YtlecnobdfhlmnaaGreat
open Go.Ab Go.Shelf
set_option maxRecDepth 20000
theorem sortsI:AnyZI.SortsIn zP layS_ren Fence.wide 4:=
 ⟨λblk off cap ss W hH hblk hsz=>callsIn_wide.2 (AnyM.slices_Sort_int layI blk off cap ss W hH hblk hsz),λp cap W=>callsIn_wide.2 (AnyM.slices_Sort_int_none layI p cap W)⟩
theorem keysK_ok:CallOK zP (single zdz zOrc):=
 keys_ok (fk:=zbV) layK rfl rfl (by kernel_rfl) (λargs ms=>by unfold zOrc;simp(decide:=true) only [if_false,if_true];cases ms<;>rfl)
theorem keysL_ok:CallOK zP (single zdP zOrc):=
 keys_ok (fk:=zb7) layL rfl rfl (by kernel_rfl) (λargs ms=>by unfold zOrc;simp(decide:=true) only [if_false,if_true];cases ms<;>rfl)
def oOne(fk:FuncId):zcv:=λ_ args ms=>match ms with|[]=>zj6 fk args|_=>none
theorem sortedK_ok:CallOK zP (single zdf (oOne zbV)):=
 zG6 layS { layK with } sortsI rfl rfl rfl (by kernel_rfl) (by kernel_rfl) (by kernel_rfl) (λ_ _=>rfl)
theorem sortedL_ok:CallOK zP (single zdf (oOne zb7)):=
 zG6 layS { layL with } sortsI rfl rfl rfl (by kernel_rfl) (by kernel_rfl) (by kernel_rfl) (λ_ _=>rfl)
theorem zFz:CallOK zP (single zdf zOrc):=by
 intro g args ms r ms' h;unfold single at h;split at h
 case isFalse=>cases h
 rename_i hg;subst hg;have hz:zOrc zdf args ms=match ms with|[]=>(zj6 zbV args).or (zj6 zb7 args)|_=>none:=by unfold zOrc;simp(decide:=true) only [if_false,if_true];cases ms<;>rfl
 rw[hz]at h
 cases ms with
 |cons a b=>cases h
 |nil =>
   simp only at h
   cases h1:zj6 zbV args with
   |some q=>rw[h1,Option.some_or]at h;injection h with h;subst h;exact sortedK_ok _ args [] r ms' (by unfold single oOne;rw[if_pos rfl];exact h1)
   |none=>rw[h1,Option.none_or]at h;exact sortedL_ok _ args [] r ms' (by unfold single oOne;rw[if_pos rfl];exact h)
def W64(k:Int):Prop:=-9223372036854775808<=k/\k<=9223372036854775807
theorem keysOf_K:∀l:List (Int×Bool),keysOf (mO l)=some (l.map (·.1))
 |[]=>rfl
 |(k,v)::r=>by simp only[zbJ];rw[<-zbg,<-keysOf_K r];rfl
theorem c_keysK(l:List (Int×Bool)):cw zdz [.mp (mO l)] []=some (zeK l):=
 zim keysK_ok (show zOrc zdz [.mp (mO l)] []=some (zeK l)by unfold zOrc;simp(decide:=true) only [if_false,if_true];rfl)
theorem c_sortedK(l:List (Int×Bool))(hl:l.length<=1000000)(hw:∀k∈l.map (·.1),W64 k)(hn:(l.map (·.1)).Nodup):cw zdf [.fn zbV [.fa 0 [[.mp (mO l)]]]] []=some (zeg ((l.map (·.1)).mergeSort leI)):=by
 refine zim zFz ?_;show zOrc zdf [.fn zbV [.fa 0 [[.mp (mO l)]]]] []=some (zeg ((l.map (·.1)).mergeSort leI))
 have h:zj6 zbV [.fn zbV [.fa 0 [[.mp (mO l)]]]]=some (zeg ((l.map (·.1)).mergeSort leI)):=by unfold zj6;simp only[keysOf_K];rw[if_pos ⟨trivial,by rw[zad];exact hl,hw,hn⟩];rfl
 unfold zOrc;simp(decide:=true) only [if_false,if_true];rw[h];rfl
theorem zDI:∀l:List (Int×Int),keysOf (mR l)=some (l.map (·.1))
 |[]=>rfl
 |(k,v)::r=>by simp only[zbJ];rw[<-zbg,<-zDI r];rfl
theorem c_keysL(l:List (Int×Int)):cw zdP [.mp (mR l)] []=some (zet l):=
 zim keysL_ok (show zOrc zdP [.mp (mR l)] []=some (zet l)by unfold zOrc;simp(decide:=true) only [if_false,if_true];rfl)
theorem zGx(l:List (Int×Int))(hl:l.length<=1000000)(hw:∀k∈l.map (·.1),W64 k)(hn:(l.map (·.1)).Nodup):cw zdf [.fn zb7 [.fa 0 [[.mp (mR l)]]]] []=some (zeg ((l.map (·.1)).mergeSort leI)):=by
 refine zim zFz ?_;show zOrc zdf [.fn zb7 [.fa 0 [[.mp (mR l)]]]] []=some (zeg ((l.map (·.1)).mergeSort leI))
 have h:zj6 zb7 [.fn zb7 [.fa 0 [[.mp (mR l)]]]]=some (zeg ((l.map (·.1)).mergeSort leI)):=by unfold zj6;simp only[zDI];rw[if_pos ⟨trivial,by rw[zad];exact hl,hw,hn⟩];rfl
 unfold zOrc;simp(decide:=true) only [if_false,if_true];rw[h];unfold zj6;simp only[zDI];rw[if_neg (λc=>absurd c.1 (by decide))];rfl
set_option maxRecDepth 20000
def layW_ren:Go.Shelf.Ren:=⟨λ|4=>148|n=>n,λ|22=>37|25=>85|3=>3|4=>4|9=>9|20=>20|0=>0|n=>n,λ|n=>n⟩
theorem layW:Go.Proofs.Lays8.n4 Tryz.prog layW_ren:={ mixed:=by kernel_rfl,f4:=⟨Tryz.f148.name,by decide,Tryz.func148.trans bJ⟩,t0:=Tryz.underlying0,a0:=Tryz.isAgg0,z0:=Tryz.sizeOf0,v0:=Tryz.zeroValue0,t3:=Tryz.underlying3,a3:=Tryz.isAgg3,z3:=Tryz.sizeOf3,v3:=Tryz.zeroValue3,t4:=Tryz.underlying4,a4:=Tryz.isAgg4,z4:=Tryz.sizeOf4,v4:=Tryz.zeroValue4,t9:=Tryz.underlying9,a9:=Tryz.isAgg9,z9:=Tryz.sizeOf9,v9:=Tryz.zeroValue9,t20:=Tryz.underlying20,a20:=Tryz.isAgg20,z20:=Tryz.sizeOf20,v20:=Tryz.zeroValue20,t22:=Tryz.underlying37,a22:=Tryz.isAgg37,z22:=Tryz.sizeOf37,v22:=Tryz.zeroValue37 }
theorem growE_ok:CallOK zP (single zdO zOrc):=by
 have h:(zP.info? zak).map (λi=>(i.zero.map (·.cells.size),i.size,i.bytes))=some (some 9,9,88):=by kernel_rfl
 cases hi:zP.info? zak with
 |none=>rw[hi]at h;cases h
 |some i0=>rw[hi]at h;simp only[zbg,zaf,zav]at h;obtain⟨h1,h2,h3⟩:=h;obtain⟨zv,hz,h4⟩:=zcW.1 h1;exact grow_ok layW rfl hi hz (h4.trans h2.symm) (by omega) (by omega) (by kernel_rfl) (λargs ms=>by rw[h2];unfold zOrc;simp(decide:=true) only [if_false,if_true];rfl)
theorem c_GrowE(n:Int)(h:0<=n/\n<=1000000):cw zdO [.v (.slice none 0 0),I n] []=some (zdu []):=by
 refine zim growE_ok ?_
 have:oGrow 9 zak [.v (.slice none 0 0),I n]=some (zdu []):=by show(if 0<=n/\n<=1000000 then some (AV.new 9 zak [],([]:Mem))else none)=_;rw[if_pos h];rfl
 show zOrc zdO [.v (.slice none 0 0),I n] []=_;unfold zOrc;simp(decide:=true) only [if_false,if_true];exact this
end Go.Proofs.YtlecnobdfhlmnaaGreat
namespace Go.Proofs.YtlecnobdfhlmnaaGreat
open Go.Ab
theorem c_CountG(m:za9)(n p:Int)(hl:m.Given.length<=1000000):cw zkR [.agg (zbI m),I n,I p] []=some (zlF (countG m n p)):=c_Counting m n p hl
theorem zCG{s:zan}(hs:zb3 s){n:Int}{i:Nat}{y:GSeed}(h:seedOf s.Seeds n=some (i,y)):∃k p,zfX s n=some (k,p)/\zlZ p y.Marks:=by
 obtain⟨h1,h2,_⟩:=fnd_at h;obtain⟨k,p,h3,h4⟩:=hs.seed y (zaq h1)
 grind
theorem zmk(g:za5):0<=worth g:=by unfold worth;split<;>omega
theorem zuq(g:za5):cw zeZ [.agg (zaC g)] []=some (zbm (worth g)):=zzy rfl
theorem c_decisive(l:List za5)(hl:l.length<=1000000):cw zlu [.sl 8 (mF l)] []=some (zi6 (zsb l)):=by
 refine zwo ?_;refine zvR l (λi r=>∀(b:za5) (f:Bool),zdV l b f (i:Nat)=some (zi6 (r.foldl stepD (b,f)))) ?_ ?_ _ _
 ·intro b f;refine zoG ?_;rw[zad,zfe,iNQ];rfl
 · intro i x r hi hx hr ih b f;refine zoG ?_;rw[zad,zfe,iPQ,cPQ,zah,zf5,zaa hi,zae,hx,w6Q];have e1:((i:Int)+1)=((i+1:Nat):Int):=by omega
   rw[e1,ih,ih,zw6 _ _,za7,zfe,zfe,zfe,zcJ];unfold stepD;by_cases h1:x.Level<2
   ·grind
   · rw[if_neg h1,if_neg h1]
     cases f with
     |false=>simp
     |true =>
       simp only[zaF,zaz,Bool.true_eq_false,false_or];by_cases h2:b.Level<x.Level
       ·grind
       · rw[if_neg h2];by_cases h3:x.Level=b.Level
         · simp only[h3,beq_self_eq_true,zaV]
           grind
         ·rw[show(x.Level==b.Level)=false by simpa using h3,zaz,if_neg (by rintro(h|h)<;>first|omega|exact h3 h.1)]
theorem c_Div64(a b:Int)(ha:0<=a)(ha2:a<18446744073709551616)(hb:0<b):cw zuV [.v (.int .u64 0),.v (.int .u64 a),.v (.int .u64 b)] []=some (zve (a.tdiv b,a.tmod b)):=by
 refine zIZ ?_;have h1:(b==0)=false:=by simpa using(show b≠0 by omega)
 have h2:0<=a.tdiv b:=Int.tdiv_nonneg ha (by omega);have h3:a.tdiv b<=a:=Int.tdiv_le_self b ha;rw[h1,zaz,zfe,iNQ,cPQ,cPQ,zxM h2 (by omega)];rfl
theorem sumW_acc(l:List za5)(s:Int):l.foldl (λs g=>s+worth g) s=s+sumW l:=by
 unfold sumW
 induction l generalizing s with
 |nil=>simp
 |cons g r ih=>grind
theorem zA9(g:za5)(l:List za5):sumW (g::l)=worth g+sumW l:=by
 have:=sumW_acc l (0+worth g);unfold sumW at this ⊢
 simp_all
theorem zwM(l:List za5):0<=sumW l:=by
 induction l with
 |nil=>simp[sumW]
 |cons g r ih=>rw[zA9];have:=zmk g;omega
theorem sumW_le(l:List za5)(M:Int)(h:∀g∈l,worth g<=M):sumW l<=l.length*M:=by
 induction l with
 |nil=>simp[sumW]
 |cons g r ih =>
   have h1:=ih (λg hg=>h g (by simp[hg]));have h2:=h g (by simp);rw[zA9,zcP]
   grind
theorem c_mean(l:List za5)(hl:l.length<=1000000)(h0:l≠[])(hv:∀g∈l,g.Value<=1099511627776):cw zoj [.sl 8 (mF l)] []=some (zbm (mean l)):=by
 have hw:∀g∈l,worth g<=1099511627776:=λg hg=>by have:=hv g hg;unfold worth;split<;>omega
 have hpos:0<l.length:=zhW.2 h0
 have hs:sumW l<=1099511627776000000:=by have h1:=sumW_le l _ hw;have h2:(l.length:Int)*1099511627776<=1000000*1099511627776:=Int.mul_le_mul_of_nonneg_right (by omega) (by omega);omega
 have hs0:=zwM l;refine zAA ?_;refine zvR l (λi r=>∀(s:Int),0<=s->s+sumW r=sumW l->zjS l 0 s (i:Nat)=some (zbm (mean l))) ?_ ?_ 0 (by omega) (by omega)
 · intro s hs' he;have hse:s=sumW l:=by simpa[sumW]using he
   refine zrD ?_;rw[zad,zfe,iNQ,zxM (by omega) (by omega),c_Div64 s l.length hs' (by omega) (by omega),zDi,zfe];have h1:0<=s.tmod l.length:=Int.tmod_nonneg _ hs';have h2:s.tmod l.length<l.length:=zf7 _ (by omega);have h3:0<=s.tdiv l.length:=Int.tdiv_nonneg hs' (by omega);have h4:s.tdiv l.length<=s:=Int.tdiv_le_self _ hs';rw[zxM (by omega) (by omega)];show(if(l.length:Int)<=2*s.tmod l.length then some (I (w64 (wu64 (s.tdiv l.length+1))),[])else some (I (w64 (s.tdiv l.length)),[]))=_;rw[zxM (by omega) (by omega),w6Q,w6Q,hse];unfold mean;split<;>rfl
 · intro i x r hi hx hr ih s hs' he;refine zrD ?_;rw[zad,zfe,iPQ,cPQ,zah,zf5,zaa hi,zae,hx,zuq x,za7,w6Q];have hx0:=zmk x;rw[zA9]at he;have hr0:=zwM r;rw[zxM hx0 (by omega)];have e2:(s.toNat+(worth x).toNat+Int.toNat 0) / 2 ^ 64=0:=zgw (by simp;omega);have e3:(s.toNat+(worth x).toNat+Int.toNat 0) % 2 ^ 64=s.toNat+(worth x).toNat:=by rw[zeA (by simp;omega)];simp
   rw[e2,e3];have e4:Int.ofNat (s.toNat+(worth x).toNat)=s+worth x:=by simp;omega
   rw[e4,show wu64 (0+Int.ofNat 0)=0 from rfl]
   grind
theorem minW_bd(l:List za5):∀(m:Int),0<=m->0<=minW l m/\minW l m<=m:=by
 induction l with
 |nil=>intro m hm;exact⟨hm,zf1 _⟩
 |cons g r ih =>
   intro m hm;have hw:=zmk g;simp only[minW,zcJ];split
   ·have:=ih (worth g) hw;unfold minW at this;omega
   ·exact ih m hm
theorem maxW_bd(l:List za5)(M:Int)(h:∀g∈l,worth g<=M):∀(m:Int),m<=M->m<=maxW l m/\maxW l m<=M:=by
 induction l with
 |nil=>intro m hm;exact⟨zf1 _,hm⟩
 |cons g r ih =>
   intro m hm;have hw:=h g (by simp);have ih':=ih (λg hg=>h g (by simp[hg]));simp only[maxW,zcJ];split
   ·have:=ih' (worth g) hw;unfold maxW at this;omega
   ·exact ih' m hm
theorem c_Decide(r:zbG)(l:List za5)(hl:l.length<=1000000)(hv:∀g∈l,g.Value<=1099511627776):cw zmD [.agg (zcp r),.sl 8 (mF l)] []=some (zmf (zoS r l)):=by
 have hw:∀g∈l,worth g<=1099511627776:=λg hg=>by have:=hv g hg;unfold worth;split<;>omega
 refine zyh ?_;rw[c_decisive l hl,ztq,zuq _,za7];unfold zoS
 cases hb:(zsb l).2 with
 |true=>rw[if_pos rfl];rfl
 |false =>
   rw[iNs,zad,zaz]
   match l,hl,hv,hw with
   |[],_,_,_=>rfl
   |[g],_,_,_=>rw[show(((([g]:List za5).length:Nat):Int)==0)=false from rfl,zaz,show(((([g]:List za5).length:Nat):Int)==1)=true from rfl,zaV,zao (zf1 0)];rw[zf5,show([g]:List za5)[Int.toNat 0]?=some g from rfl,zae,zuq _,za7];cases r.Double<;>rfl
   |g::g'::t,hl,hv,hw =>
     have h1:((((g::g'::t:List za5).length:Nat):Int)==0)=false:=by simp;omega
     have h2:((((g::g'::t:List za5).length:Nat):Int)==1)=false:=by simp;omega
     rw[h1,zaz,h2,zaz,zao (zf1 0),zf5,show(g::g'::t:List za5)[Int.toNat 0]?=some g from rfl,zae,zuq _,za7,zao (zf1 0),zf5,show(g::g'::t:List za5)[Int.toNat 0]?=some g from rfl,zae,zuq _,za7];show zhg r (g::g'::t) (worth g) (worth g) 0=some (zmf (if r.Tolerance<maxW (g::g'::t) (worth g)-minW (g::g'::t) (worth g)then⟨2,0⟩else⟨3,mean (g::g'::t)⟩));generalize hL:g::g'::t=L at *;have hne:L≠[]:=by rw[<-hL];simp
     have hg:=hw g (by rw[<-hL];simp);have hg0:=zmk g;refine zvR L (λi s=>∀(a b:Int),minW s a=minW L (worth g)->maxW s b=maxW L (worth g)->zhg r L a b (i:Nat)=some (zmf (if r.Tolerance<maxW L (worth g)-minW L (worth g)then⟨2,0⟩else⟨3,mean L⟩))) ?_ ?_ (worth g) (worth g) rfl rfl
     ·intro a b ha hb;have ha':a=minW L (worth g):=ha;have hb':b=maxW L (worth g):=hb;have q1:=minW_bd L (worth g) hg0;have q2:=maxW_bd L _ hw (worth g) hg;refine zpK ?_;rw[zad,zfe,iNQ,zfe,w6Q,c_mean L hl hne hv,za7,ha',hb'];split<;>rfl
     · intro i x s hi hx hr ih a b ha hb;refine zpK ?_;rw[zad,zfe,iPQ,cPQ,zah,zf5,zaa hi,zae,hx,zuq x,za7,za7,w6Q];have e1:((i:Int)+1)=((i+1:Nat):Int):=by omega
       rw[e1];exact ih _ _ ha hb
theorem zrV(r:zbG):cw zkq [.agg (zcp r)] []=some (zbm (chkR r)):=by
 refine zzw ?_;unfold chkR;simp only[zeL,decide_eq_true_eq];split
 ·rfl
 ·split<;>rfl
theorem c_right(r:zbG)(s:zan)(hs:zb3 s):cw znE [.agg (zcp r),.agg (zas s)] []=some (zap (chkR r==0)):=by refine zzx ?_;simp only[znQ hs,za7,beq_self_eq_true,zaV,zrV,za7];rfl
theorem zIL(s:zan)(n:Int)(hl:s.Seeds.length<=1000000):cw zkd [.agg (zas s),I n] []=some (zhM (seedR (seedOf s.Seeds n))):=by
 refine zuS ?_;refine zh6 s.Seeds (λy=>y.Script==n) (λi=>zhu s n i) (λo=>zhM (seedR o)) ?_ ?_ ?_
 ·refine zjH ?_;simp(disch:=omega)only[zad,zaN];rfl
 ·intro i hi h;refine zjH ?_;simp(disch:=omega)only[zad,zaB,zao,zah,zls,zaa hi,zae,h,zaV];rfl
 ·intro i hi y h hk;refine zjH ?_;simp(disch:=omega)only[zad,zaB,zao,zah,zls,zaa hi,zae,h,zaz,w64_id,hk]
def SmallM(m:za9):Prop:=m.Given.length<=1000000/\∀g∈m.Given,g.Value<=1099511627776
theorem SmallM.count{m:za9}(h:SmallM m)(n p:Int):(countG m n p).length<=1000000/\∀g∈countG m n p,g.Value<=1099511627776:=
 ⟨zbP (zee _ _) h.1,λg hg=>h.2 g (zcc.1 hg).1⟩
theorem c_verdicts(r:zbG)(s:zan)(hs:zb3 s)(m:za9)(hm:SmallM m)(x:zaT)(hx:x∈s.Scripts):cw zlv [.agg (zcp r),.agg (zas s),.agg (zbI m),.agg (za1 x)] []=some (zhl (verdS r s m x)):=by
 have hx60:=hs.scripts.1;have hp32:=hs.papers;have hsd:=hs.seeds;obtain⟨k,p,c,hk,hc,ha⟩:=hs.script x hx;have hpk:=(zfl hk).1;have hok:=hs.schemes k p c hpk hc;have hparts:=hok.1.2.2.1;have hwl:=hok.2.2.1;have hpo:zfX s x.Number=some (k,p):=by unfold zfX;rw[zoE hs.scripts.2.2 hx];exact hk
 obtain⟨rc,erc,hrc,hrc2⟩:=zvE p c x.Answers (hs.short c (zaq hc));have hz:=hrc.2 ⟨hok,ha⟩;have hcl:=hrc2 hz;obtain⟨rc1,rc2⟩:=rc;simp only at hz hcl;subst hz;subst hcl;unfold verdS;rw[hk];dsimp only;rw[hc];refine zwp ?_;simp(disch:=omega)only[zAg s x.Number (show s.Scripts.length<=1000000 by omega) (show s.Papers.length<=1000000 by omega),hpo,ixR,zg0,zao,zah,zfH,hpk,zae,zpW,hc,erc,zmy,zIL s x.Number (show s.Seeds.length<=1000000 by omega),ziZ,zad,zbx,eq_self,zxn zdj,zbN];rw[<-mkN_zero p.Parts.length (verdAt r m x p c (seedOf s.Seeds x.Number)) ⟨0,0⟩];refine zcl p.Parts (λi _=>zfI r m x p c (zjo p c x.Answers,0) (seedR (seedOf s.Seeds x.Number)) (mX (mkN p.Parts.length (verdAt r m x p c (seedOf s.Seeds x.Number)) ⟨0,0⟩ i.toNat)) i=some (zhl (verdL r m x p c (seedOf s.Seeds x.Number)))) ?_ ?_
 ·refine zoH ?_;simp(disch:=omega)only[zad,zcf,zah,zaN,zud,mkN_all,zdZ,eq_self,zbx];rfl
 · intro i hi _ _ ih;have hiw:i<c.Withdrawn.length:=by omega
   have hix:((i:Int)+1).toNat=i+1:=by omega
   rw[hix]at ih;have hcl:i<(zjo p c x.Answers).length:=by simp[zjo];omega
   have hcv:(zjo p c x.Answers)[i]=zen p c x.Answers i:=by simp[zjo]
   have hset:∀v,v=verdAt r m x p c (seedOf s.Seeds x.Number) i->(mkN p.Parts.length (verdAt r m x p c (seedOf s.Seeds x.Number)) ⟨0,0⟩ i).set i v=mkN p.Parts.length (verdAt r m x p c (seedOf s.Seeds x.Number)) ⟨0,0⟩ (i+1):=λv hv=>by rw[zxo hv]
   have m1011:(p.Parts[i].Kind=2\/c.Withdrawn[i]≠0)->zg5 r m x p c (zjo p c x.Answers,0) (seedR (seedOf s.Seeds x.Number)) (mX (mkN p.Parts.length (verdAt r m x p c (seedOf s.Seeds x.Number)) ⟨0,0⟩ i)) i=some (zhl (verdL r m x p c (seedOf s.Seeds x.Number))):=by intro hor;refine zs9 ?_;simp(disch:=omega)only[zad,zcf,zah,zaY,zao,zce,zaa hcl,zae,hcv,zoU,zBq hi,zgE zdj,w64_id];rw[hset _ (by unfold verdAt;simp_all)];exact ih
   refine zoH ?_;simp(disch:=omega)only[zad,zcf,zah,zaY,zaB,zao,zej,zaa hi,zae,zce,zaa hiw];by_cases h1:p.Parts[i].Kind=2
   ·simp_all
   · simp only[show(p.Parts[i].Kind==2)=false by simpa using h1,zaz];by_cases h2:c.Withdrawn[i]=0
     · simp only[show(c.Withdrawn[i] !=0)=false by simpa using h2,zaz]
       have hva:verdAt r m x p c (seedOf s.Seeds x.Number) i=match seedOf s.Seeds x.Number with
         |some (_,sd)=>⟨3,sd.Marks.getD i 0⟩
         |none=>zoS r (countG m x.Number i):=by
        unfold verdAt;rw[zaa hi,zaa hiw];dsimp only;rw[if_neg (by rintro(h|h)<;>contradiction)];rfl
       cases ho:seedOf s.Seeds x.Number with
       |some q =>
         obtain⟨q,sd⟩:=q;obtain⟨k',p',hpo',hmk⟩:=zCG hs ho;rw[hpo]at hpo';cases hpo';have him:i<sd.Marks.length:=by have:=hmk.1;omega
         rw[ho]at hset hva ih;simp(disch:=omega)only[seedR,zaV,zce,zaa him,zae,zoU,zBq hi,zao,zgE zdj,w64_id];rw[hset _ (by rw[hva];simp[him])];simp only[seedR]at ih;exact ih
       |none=>rw[ho]at hset hva ih;have hct:=hm.count x.Number i;simp(disch:=omega)only[seedR,zaz,c_CountG m x.Number i hm.1,zvI,zad,zaX,zbx];rw[zaJ (by simp)];simp(disch:=omega)only[c_Decide r _ hct.1 hct.2,zuL,zoU,zBq hi,zae,zao,zgE zdj,w64_id];rw[hset _ hva.symm];simp only[seedR]at ih;exact ih
     · simp only[show(c.Withdrawn[i] !=0)=true by simpa using h2,zaV]
       grind
theorem verdS_len{r:zbG}{s:zan}(hs:zb3 s){m:za9}{x:zaT}:(verdS r s m x).length<=24:=by
 unfold verdS
 cases hk:zfW s.Papers x with
 |none=>simp
 |some q=>obtain⟨k,p⟩:=q;have:=(hs.okPaper (zfl hk).1).2.2.1.2;simp[verdL];omega
theorem zx5(r:zbG)(s:zan)(hs:zb3 s)(m:za9)(hm:SmallM m)(n:Int):cw zlt [.agg (zcp r),.agg (zas s),.agg (zbI m),I n] []=some (zmY (if chkR r=0 then match zgm s.Scripts n with|some x=>(verdS r s m x,0)|none=>([],4)else([],1))):=by
 have hx60:=hs.scripts.1;refine zwn ?_;simp only[c_right r s hs,zKA];by_cases hr:chkR r=0
 · rw[if_pos hr];simp only[show(chkR r==0)=true by simpa using hr,zaF,zaz];have key:=zh6 s.Scripts (λx=>x.Number==n) (λi=>zh7 r s m n i) (λo=>zmY (match o.map (·.2)with|some x=>(verdS r s m x,0)|none=>([],4))) ?_ ?_ ?_
   ·exact key
   ·refine zkl ?_;simp(disch:=omega)only[zad,zaN];rfl
   ·intro i hi h;refine zkl ?_;simp(disch:=omega)only[zad,zaB,zao,zah,zhs,zaa hi,zae,h,zaV,c_verdicts r s hs m hm _ (zar hi),ztr,zaY,zaX,zbx];rw[zaJ (by simp)];rfl
   ·intro i hi y h hk;refine zkl ?_;simp(disch:=omega)only[zad,zaB,zao,zah,zhs,zaa hi,zae,h,zaz,w64_id,hk]
 ·rw[if_neg hr];simp only[show(chkR r==0)=false by simpa using hr,zbe,zaV];rfl
theorem zGY{x:GPart}(hx:OkPart x)(v:Int):permB x v=dec (PermP x v):=by
 have:=hx.1;unfold permB PermP;by_cases h:x.Kind=2
 ·simp only[h,if_true];exact zfG (by split<;>simp<;>omega)
 ·simp only[h,if_false];exact zfG (by split<;>simp<;>omega)
def zqo(p:zaM)(c:zbu)(l:List Int):Prop:=
 ∀(j:Nat) (x:GPart) (w v:Int),p.Parts[j]?=some x->c.Withdrawn[j]?=some w->l[j]?=some v->w=0->PermP x v
theorem c_Marked(p:zaM)(c:zbu)(l:List Int)(hs:Short c)(hok:ze8 p c)(hl:l.length=p.Parts.length):cw zro [.agg (zaQ p),.agg (zbL c),.sl 1 (List.map zai l)] []=some (zap (dec (zqo p c l))):=by
 have hpl:=hok.1.2.2.1;have hwl:=hok.2.2.1;refine zE6 ?_;simp only[ziH p c hs,zKA,zbj hok,zaF,zaz,zad,hl,bne_self_eq_false];have H:=zmx p.Parts.length (λj hj=>c.Withdrawn[j]'(by omega)=0->PermP p.Parts[j] (l[j]'(by omega))) (λi=>zjO p c l i) zap ?_ ?_ ?_
 · rw[H,zhE];constructor
   · intro h j x w v hx hw hv hz
     grind
   ·intro h j hj hz;exact h j _ _ _ (zaa hj) (zaa (by omega)) (zaa (by omega)) hz
 ·exact zpt (by simp(disch:=omega)only[zad,zaN];rfl)
 · intro i hi hn;have hiw:i<c.Withdrawn.length:=by omega
   have hil:i<l.length:=by omega
   refine zpt ?_;have hw:c.Withdrawn[i]=0:=zhw λh=>hn (λh'=>absurd h' h)
   have hp:¬PermP p.Parts[i] l[i]:=λh=>hn (λ_=>h)
   simp(disch:=omega)only[zad,zaB,zao,zah,zej,zaa hi,zae,zce,zaa hiw,zaa hil,show(c.Withdrawn[i]==0)=true by simpa using hw,zaV,zwh,zGY (hok.1.2.2.2.1 _ (zar hi)),zKA,zbB hp,zbe];rfl
 · intro i hi y hg hk;have hiw:i<c.Withdrawn.length:=by omega
   have hil:i<l.length:=by omega
   refine zpt ?_;simp(disch:=omega)only[zad,zaB,zao,zah,zej,zaa hi,zae,zce,zaa hiw,zaa hil,zwh,zGY (hok.1.2.2.2.1 _ (zar hi)),zKA,w64_id,hk];by_cases hw:c.Withdrawn[i]=0
   ·simp only[show(c.Withdrawn[i]==0)=true by simpa using hw,zaV,zbj (hg hw),zaF,zaz]
   ·simp only[show(c.Withdrawn[i]==0)=false by simpa using hw,zaz]
theorem c_Total_1(i:Nat)(x:GPart)(c:zbu)(l:List Int)(h1:i<c.Withdrawn.length)(h2:i<l.length):cw zhB [I i,.agg (za0 x),.fp [.sl 1 (mT c.Keys),.sl 1 (List.map zai c.Withdrawn)],.fp [.sl 1 (List.map zai l)]] []=some (zbm (termT x c.Withdrawn[i] l[i])):=by
 refine zDA ?_;simp(disch:=omega)only[zao,zah,zce,zaa h1,zaa h2,zae];unfold termT;simp only[zeL,beq_iff_eq];split
 ·rfl
 ·split<;>rfl
theorem c_sum(p:zaM)(c:zbu)(l:List Int)(hok:ze8 p c)(hl:l.length=p.Parts.length)(hm:zqo p c l):cw zu3 [.agg (zaQ p),.fn zhB [.fp [.sl 1 (mT c.Keys),.sl 1 (List.map zai c.Withdrawn)],.fp [.sl 1 (List.map zai l)]]] []=some (zbm (sumT p.Parts c.Withdrawn l)):=by
 have hpl:=hok.1.2.2.1;have hwl:=hok.2.2.1;refine zJg ?_;have loop:=zcl p.Parts (λi r=>∀a:Int,0<=a->a<=40*i->zo5 p c l a i=some (zbm (a+sumT r (c.Withdrawn.drop i.toNat) (l.drop i.toNat)))) ?_ ?_ 0 (by omega) (by omega)
 ·rw[loop];simp
 ·intro a _ _;refine zxK ?_;simp(disch:=omega)only[zad,zaN,sumT,Int.add_zero];rfl
 · intro i hi r _ ih a h0 h1;have hiw:i<c.Withdrawn.length:=by omega
   have hil:i<l.length:=by omega
   have hix:((i:Int)+1).toNat=i+1:=by omega
   rw[hix]at ih;have hxo:=hok.1.2.2.2.1 _ (zar hi);have hmx:=hxo.1;have hw:=(hok.2.2.2 i _ (c.Keys[i]'(by have:=hok.2.1;omega)) _ (zaa hi) (zaa _) (zaa hiw)).2
   have hterm:0<=termT p.Parts[i] c.Withdrawn[i] l[i]/\termT p.Parts[i] c.Withdrawn[i] l[i]<=40:=by
    unfold termT;split
    ·omega
    · split
      ·omega
      · have:=hm i _ _ _ (zaa hi) (zaa hiw) (zaa hil) (by omega);unfold PermP at this
        grind
   refine zxK ?_;simp(disch:=omega)only[zad,zaB,zao,zah,zej,zaa hi,zae,c_Total_1 i p.Parts[i] c l hiw hil,za7,w64_id];rw[ih _ (by omega) (by omega),zbd hiw,zbd hil,sumT,Int.add_assoc]
theorem zF6(p:zaM)(c:zbu)(l:List Int)(hs:Short c)(hok:ze8 p c)(hl:l.length=p.Parts.length):cw zsl [.agg (zaQ p),.agg (zbL c),.sl 1 (List.map zai l)] []=some (zmV (bif dec (zqo p c l)then(sumT p.Parts c.Withdrawn l,0)else(0,8))):=by
 refine zGk ?_;simp only[ziH p c hs,zKA,zbj hok,zaF,zaz,zad,hl,bne_self_eq_false,c_Marked p c l hs hok hl,zKA];by_cases hm:zqo p c l
 ·simp only[zbj hm,zaF,zaz,c_sum p c l hok hl hm,za7,cond_true];rfl
 ·simp only[zbB hm,zbe,zaV,cond_false];rfl
theorem zKx{r:zbG}{s:zan}{m:za9}{x:zaT}{k:Nat}{p:zaM}(hk:zfW s.Papers x=some (k,p)):(verdS r s m x).length=p.Parts.length:=by unfold verdS;rw[hk];simp[verdL]
theorem c_Total(r:zbG)(s:zan)(hs:zb3 s)(m:za9)(hm:SmallM m)(hr:chkR r=0)(x:zaT)(hx:x∈s.Scripts)(k:Nat)(p:zaM)(c:zbu)(hk:zfW s.Papers x=some (k,p))(hc:s.Schemes[k]?=some c)
  (hmk:stateL (verdS r s m x)=3->zqo p c ((verdS r s m x).map (·.Value))):cw ziz [.agg (zcp r),.agg (zas s),.agg (zbI m),I x.Number] []=some (znn (if stateL (verdS r s m x)=3 then(3,sumT p.Parts c.Withdrawn ((verdS r s m x).map (·.Value)),0)else(stateL (verdS r s m x),0,0))):=by
 have hx60:=hs.scripts.1;have hp32:=hs.papers;have hpk:=(zfl hk).1;have hok:=hs.schemes k p c hpk hc;have hso:=zoE hs.scripts.2.2 hx;have hpo:zfX s x.Number=some (k,p):=by unfold zfX;rw[hso];exact hk
 have hvp:=zKx (r:=r) (m:=m) hk;have hvl:=verdS_len (r:=r) hs (m:=m) (x:=x);refine znD ?_;simp only[zx5 r s hs m hm x.Number,zjB,if_pos hr,hso,bne_self_eq_false,zaz];generalize hV:verdS r s m x=V at *
 have loop:=zcl V (λi rest=>∀(out:List Int) (a:Int),(out.length:Int)=i->zjq s x.Number (V,0) (List.map zai out) a i=some (znn (if rest.foldl (λs v=>if v.State<s then v.State else s) a=3 then
    (bif dec (zqo p c (out++rest.map (·.Value)))then(3,sumT p.Parts c.Withdrawn (out++rest.map (·.Value)),0)else(0,0,8))
   else(rest.foldl (λs v=>if v.State<s then v.State else s) a,0,0)))) ?_ ?_ [] 3 (by simp)
 · refine Eq.trans loop ?_;by_cases h3:stateL V=3
   ·have h3':=h3;unfold stateL at h3';rw[if_pos h3',if_pos h3];simp only[zeS,zbj (hmk h3),cond_true]
   ·have h3':=h3;unfold stateL at h3';rw[if_neg h3',if_neg h3];rfl
 · intro out a ho;refine zqL ?_;simp(disch:=omega)only[zad,zaN,List.foldl_nil,ze1,zdx];by_cases h3:a=3
   · subst h3;simp(disch:=omega)only[bne_self_eq_false,zaz,zAg s x.Number (show s.Scripts.length<=1000000 by omega) (show s.Papers.length<=1000000 by omega),hpo,ixR,zg0,zao,zah,zfH,hpk,zae,zpW,hc,zaY,zaX,zbx,if_true];rw[zaJ (by simp)];simp only[zF6 p c out (hs.short c (zaq hc)) hok (by omega),zmz];by_cases hmm:zqo p c out
     ·simp only[zbj hmm,cond_true,bne_self_eq_false,zaz];rfl
     ·simp only[zbB hmm,cond_false,show((8:Int) !=0)=true from rfl,zaV];rfl
   ·simp only[show(a !=3)=true by simpa using h3,zaV,if_neg h3];rfl
 · intro i hi rest _ ih out a ho;refine zqL ?_;simp(disch:=omega)only[zad,zaB,zao,zah,zoU,zaa hi,zae,zbx,zd3 zai,w64_id]
   grind
theorem zIY(l:List za5)(h:(zsb l).2=true):(zsb l).1∈l:=by
 have key:∀(r:List za5) (b:za5×Bool),(∀g∈r,g∈l)->(b.2=true->b.1∈l)->(r.foldl stepD b).2=true->(r.foldl stepD b).1∈l:=by
  intro r
  induction r with
  |nil=>simp_all
  |cons g r ih =>
    intro b hr hb h;refine ih (stepD b g) (λx hx=>hr x (by simp[hx])) ?_ h;unfold stepD
    grind
 exact key l _ (λ_ h=>h) (by simp) h
theorem mean_bd(l:List za5)(h0:l≠[])(M:Int)(hw:∀g∈l,worth g<=M):0<=mean l/\mean l<=M:=by
 have hpos:0<l.length:=zhW.2 h0;have h1:=sumW_le l M hw;have h2:=zwM l;have h3:0<=(sumW l).tmod l.length:=Int.tmod_nonneg _ h2;have h4:(sumW l).tmod l.length<l.length:=zf7 _ (by omega);have h5:0<=(sumW l).tdiv l.length:=Int.tdiv_nonneg h2 (by omega);have h6:=Int.mul_tdiv_add_tmod (sumW l) l.length;unfold mean;split
 · refine⟨by omega,?_⟩;by_cases hq:M<=(sumW l).tdiv l.length
   ·have:=zgS hq (show(0:Int)<=(l.length:Int)by omega);omega
   ·omega
 · refine⟨h5,?_⟩;by_cases hq:M+1<=(sumW l).tdiv l.length
   · have:=zgS hq (show(0:Int)<=(l.length:Int)by omega)
     grind
   ·omega
theorem decideV_bd(r:zbG)(l:List za5)(M:Int)(hM:0<=M)(hw:∀g∈l,worth g<=M):(0<=(zoS r l).State/\(zoS r l).State<=3)/\0<=(zoS r l).Value/\(zoS r l).Value<=M:=by
 unfold zoS;split
 ·rename_i h;exact⟨by simp,zmk _,hw _ (zIY l h)⟩
 · split
   ·simp_all
   · rename_i g _ ;split
     ·simp_all
     ·exact⟨by simp,zmk _,hw g (by simp)⟩
   · split
     ·simp_all
     ·exact⟨by simp,mean_bd _ (by simp) M hw⟩
theorem zHH{p:zaM}{c:zbu}{a:List Int}{i:Nat}{y:GPart}(hy:p.Parts[i]?=some y)(ho:OkPart y):0<=(if 0 > zen p c a i then 0 else zen p c a i)/\(if 0 > zen p c a i then 0 else zen p c a i)<=y.Max/\PermP y (if 0 > zen p c a i then 0 else zen p c a i):=by
 have hm:=ho.1;have hk:=kind2 ho
 have key:zen p c a i=y.Max/\y.Kind=2\/zen p c a i<=0:=by
  unfold zen;rw[hy];split
  ·grind
  ·right;omega
 unfold PermP
 grind
def zoO(s:zan)(g:za5):Prop:=∃e,FitsE s e/\g.Script=e.Script/\g.Part=e.Part/\g.Value=e.Value
theorem verd_ok(r:zbG)(s:zan)(hs:zb3 s)(m:za9)(hg:∀g∈m.Given,zoO s g)(x:zaT)(hx:x∈s.Scripts)(k:Nat)(p:zaM)(c:zbu)(hk:zfW s.Papers x=some (k,p))(hc:s.Schemes[k]?=some c)
  (i:Nat) (y:GPart) (hy:p.Parts[i]?=some y):(0<=(verdAt r m x p c (seedOf s.Seeds x.Number) i).State/\(verdAt r m x p c (seedOf s.Seeds x.Number) i).State<=3)/\0<=(verdAt r m x p c (seedOf s.Seeds x.Number) i).Value/\(verdAt r m x p c (seedOf s.Seeds x.Number) i).Value<=y.Max/\PermP y (verdAt r m x p c (seedOf s.Seeds x.Number) i).Value:=by
 have hpk:=(zfl hk).1;have hok:=hs.schemes k p c hpk hc;have hyo:OkPart y:=hok.1.2.2.2.1 y (zaq hy);have hy1:=hyo.1;have hlt:=(zam.1 hy).1;have hiw:i<c.Withdrawn.length:=by have:=hok.2.2.1;omega
 have hso:=zoE hs.scripts.2.2 hx;have hpo:zfX s x.Number=some (k,p):=by unfold zfX;rw[hso];exact hk
 unfold verdAt;rw[hy,zaa hiw];dsimp only;split
 ·exact⟨by simp,zHH hy hyo⟩
 · rename_i hn;have hk1:y.Kind=1:=by have:=kind2 hyo;omega
   have perm:∀v,0<=v->v<=y.Max->PermP y v:=by intro v h0 h1;unfold PermP;rw[iNQ];omega
   cases ho:seedOf s.Seeds x.Number with
   |some q =>
     obtain⟨q,sd⟩:=q;obtain⟨k',p',hpo',hmk⟩:=zCG hs ho;rw[hpo]at hpo';cases hpo';have him:i<sd.Marks.length:=by have:=hmk.1;omega
     have hb:=hmk.2 i y _ hy (zaa him)
     simp_all
   |none =>
     dsimp only
     have hw:∀g∈countG m x.Number i,worth g<=y.Max:=by intro g hgm;obtain⟨hgm,hgp⟩:=zcc.1 hgm;simp only[zaO,beq_iff_eq]at hgp;obtain⟨e,⟨x',a1,_,_,k',p',y',a2,a0,a3,_,a4,_⟩,b1,b2,b3⟩:=hg g hgm;rw[<-b1,hgp.1,hso]at a1;cases a1;rw[hk]at a2;cases a2;rw[<-b2,hgp.2,zah,hy]at a3;cases a3;unfold worth;split<;>omega
     obtain⟨h1,h2,h3⟩:=decideV_bd r _ y.Max (by omega) hw
     simp_all
theorem zFn(r:zbG)(s:zan)(hs:zb3 s)(m:za9)(hg:∀g∈m.Given,zoO s g)(x:zaT)(hx:x∈s.Scripts)(k:Nat)(p:zaM)(c:zbu)(hk:zfW s.Papers x=some (k,p))(hc:s.Schemes[k]?=some c):zqo p c ((verdS r s m x).map (·.Value)):=by
 intro j y w v hy _ hv _
 have hVe:verdS r s m x=(List.range p.Parts.length).map (verdAt r m x p c (seedOf s.Seeds x.Number)):=by unfold verdS;rw[hk];dsimp only;rw[hc];rfl
 have:=verd_ok r s hs m hg x hx k p c hk hc j y hy
 grind
theorem c_TotalG(r:zbG)(s:zan)(hs:zb3 s)(m:za9)(hm:SmallM m)(hg:∀g∈m.Given,zoO s g)(n:Int):cw ziz [.agg (zcp r),.agg (zas s),.agg (zbI m),I n] []=some (znn (totR r s m n)):=by
 unfold totR;by_cases hr:chkR r=0
 · rw[if_pos hr]
   cases hso:zgm s.Scripts n with
   |none=>refine znD ?_;simp only[zx5 r s hs m hm n,if_pos hr,hso,zjB,show((4:Int) !=0)=true from rfl,zaV];rfl
   |some x =>
     obtain⟨hx,hxn⟩:=zCF hso;subst hxn;obtain⟨k,p,c,hk,hc,_⟩:=hs.script x hx;have:=c_Total r s hs m hm hr x hx k p c hk hc (λ_=>zFn r s hs m hg x hx k p c hk hc)
     simp_all
 ·rw[if_neg hr];refine znD ?_;simp only[zx5 r s hs m hm n,if_neg hr,zjB,show((1:Int) !=0)=true from rfl,zaV];rfl
set_option maxRecDepth 20000
theorem zDf(r:zbp):cw zl2 [.agg (zck r)] []=some (zbm (chkA r)):=by
 refine zGa ?_;unfold chkA;simp only[zeL,decide_eq_true_eq]
 repeat' split
 all_goals first|rfl|omega
theorem c_seeds(s:zan)(hl:s.Seeds.length<=1000000):cw zsg [.agg (zas s)] []=some (zj7 (setM (s.Seeds.map (·.Script)) [])):=by
 refine zGd ?_;refine zcl s.Seeds (λi r=>∀m:List (Int×Bool),zmM s (mO m) i=some (zj7 (setM (r.map (·.Script)) m))) ?_ ?_ []
 ·intro m;refine zvi ?_;simp(disch:=omega)only[zad,zaN];rfl
 ·intro i hi r _ ih m;refine zvi ?_;simp(disch:=omega)only[zad,zaB,zao,zah,zls,zaa hi,zae,w64_id];rw[zjG];exact ih _
theorem zK7(s:zan)(n:Int):(mfind n (setM (s.Seeds.map (·.Script)) [])).getD false=(seedOf s.Seeds n).isSome:=by
 unfold seedOf;rw[zA7,fnd_any];simp only[mfind]
 grind
def markL(m:za9)(id:Int):List Int:=(m.Given.filter λg=>g.Marker==id).map (·.Script)
theorem zEF(m:za9)(id:Int)(hl:m.Given.length<=1000000):cw zlN [.agg (zbI m),I id] []=some (zj7 (setM (markL m id) [])):=by
 refine zBU ?_;refine zcl m.Given (λi r=>∀f:List (Int×Bool),ziB m id (mO f) i=some (zj7 (setM ((r.filter λg=>g.Marker==id).map (·.Script)) f))) ?_ ?_ []
 ·intro f;refine zr1 ?_;simp(disch:=omega)only[zad,zaN];rfl
 · intro i hi r _ ih f;refine zr1 ?_;simp(disch:=omega)only[zad,zaB,zao,zah,zf5,zaa hi,zae,w64_id,zcn]
   cases m.Given[i].Marker==id with
   |true=>rw[zaV,if_pos rfl,zjG];exact ih _
   |false=>simp_all
theorem zK6(m:za9)(id n:Int):(mfind n (setM (markL m id) [])).getD false=marksB m id n:=by
 rw[zA7];simp only[mfind];unfold markL marksB
 grind
structure SetOk(f:List (Int×Bool))(n:Int):Prop where
 nd:(f.map (·.1)).Nodup
 w:∀k∈f.map (·.1),W64 k
 len:(f.length:Int)<=n
theorem SetOk.put{f:List (Int×Bool)}{n:Int}(h:SetOk f n){k:Int}(hk:W64 k):SetOk (mput k true f) (n+1) where
 nd:=(zmr h.nd).1
 w:=λj hj=>by
   rcases(zmr h.nd).2 j hj with e|e
   ·rw[e];exact hk
   ·exact h.w j e
 len:=by have h1:=h.len;have h2:(mput k true f).length<=f.length+1:=zss;omega
theorem SetOk.up{f:List (Int×Bool)}{n:Int}(h:SetOk f n):SetOk f (n+1):=⟨h.nd,h.w,by have:=h.len;omega⟩
theorem zG5{f:List (Int×Bool)}{n:Int}(h:SetOk f n)(hn:n<=1000000):(callD zd6 (cw zdz [.mp (mO f)] []) λr=>callD zeN (cw zdf [.fn zbV [.fa 0 [[.mp (mO r)]]]] []) λk=>some (AV.sl 1 (List.map zai k),([]:Mem)))=some (zeg ((f.map (·.1)).mergeSort leI)):=by rw[c_keysK,zn8,c_sortedK f (by have:=h.len;omega) h.w h.nd,zgz];rfl
theorem zDY{x:zaT}(h:zmu x):W64 x.Number:=by unfold zmu at h;unfold W64;omega
theorem zBn{s:zan}(hs:zkM s.Scripts)(h12:s.Seeds.length<=1000000)(m:za9)(hm:m.Given.length<=1000000)(a:zaA):cw ziN [.agg (zas s),.agg (zbI m),.agg (zaw a)] []=some (zeg (scopeL s m a)):=by
 have h60:=hs.1;refine zGb ?_;rw[zDg,zKA]
 cases hv:ziG a with
 |false =>
   have e:scopeL s m a=[]:=by unfold scopeL;rw[zgL.2 (λx _=>by unfold scopeB;rw[hv];simp)];rfl
   rw[e];rfl
 |true =>
 rw[zaF,zaz,c_seeds s (by omega),zof]
 have fin:∀(B:zaT->Bool),(∀x,B x=scopeB s m a x)->((setM ((s.Scripts.filter B).map (·.Number)) []).map (·.1)).mergeSort leI=scopeL s m a:=by
  intro B hB;have hBs:B=scopeB s m a:=funext hB;have hn:(s.Scripts.filter B).map (·.Number)=scopeL s m a:=by rw[hBs];rfl
  have hasc:((s.Scripts.filter B).map (·.Number)).Pairwise (·< ·):=by have h:=nums_asc hs;rw[zew]at h ⊢;exact h.filter _
  rw[zyO _ _ (hasc.imp λh e=>by omega) (λ_ _=>rfl),zeS,show∀L:List Int,(L.map λn=>(n,true)).map (·.1)=L from λL=>by simp[zhm],asc_sorted hasc,hn]
 cases hk:(a.Kind==1)with
 |true =>
   rw[zaV,zEF m _ hm,zof,<-fin (λx=>!(mfind x.Number (setM (s.Seeds.map (·.Script)) [])).getD false&&((a.Kind==0&&x.Candidate==a.Candidate&&x.Centre==a.Stamp.Source)||(mfind x.Number (setM (markL m a.Marker) [])).getD false)) (λx=>by
    rw[zK7,zK6];unfold scopeB
    simp_all)]
   refine zcl s.Scripts (λi r=>∀f:List (Int×Bool),SetOk f i->zhC s a (setM (s.Seeds.map (·.Script)) []) (setM (markL m a.Marker) []) (mO f) i=some (zeg (((setM ((r.filter λx=>!(mfind x.Number (setM (s.Seeds.map (·.Script)) [])).getD false&&((a.Kind==0&&x.Candidate==a.Candidate&&x.Centre==a.Stamp.Source)||(mfind x.Number (setM (markL m a.Marker) [])).getD false)).map (·.Number)) f).map (·.1)).mergeSort leI))) ?_ ?_ [] ⟨zit,by simp,by simp⟩
   ·intro f hf;refine zvh ?_;simp(disch:=omega)only[zad,zaN];exact zG5 hf (by omega)
   · intro i hi r _ ih f hf;have hw:=zDY (hs.2.1 _ (zar hi))
     have m12:ziA s a (setM (s.Seeds.map (·.Script)) []) (setM (markL m a.Marker) []) (mO f) i s.Scripts[i] (a.Kind==0&&s.Scripts[i].Candidate==a.Candidate&&s.Scripts[i].Centre==a.Stamp.Source)=some (zeg (((setM (((s.Scripts[i]::r).filter λx=>!(mfind x.Number (setM (s.Seeds.map (·.Script)) [])).getD false&&((a.Kind==0&&x.Candidate==a.Candidate&&x.Centre==a.Stamp.Source)||(mfind x.Number (setM (markL m a.Marker) [])).getD false)).map (·.Number)) f).map (·.1)).mergeSort leI)):=by
      refine zzF ?_;rw[znm,znm,zcn,w6Q];have put:=ih _ (hf.put hw);have skip:=ih _ hf.up
      cases(mfind s.Scripts[i].Number (setM (s.Seeds.map (·.Script)) [])).getD false with
      |true=>exact skip
      |false =>
        cases(a.Kind==0&&s.Scripts[i].Candidate==a.Candidate&&s.Scripts[i].Centre==a.Stamp.Source)with
        |true=>rw[zbe,zaV,zaV,zjG];exact put
        |false =>
          cases(mfind s.Scripts[i].Number (setM (markL m a.Marker) [])).getD false with
          |true=>rw[zbe,zaV,zaz,zaV,zjG];exact put
          |false=>exact skip
     refine zvh ?_
     simp_all
 |false =>
   rw[zaz,<-fin (λx=>!(mfind x.Number (setM (s.Seeds.map (·.Script)) [])).getD false&&(a.Kind==0&&x.Candidate==a.Candidate&&x.Centre==a.Stamp.Source)) (λx=>by
    rw[zK7];unfold scopeB
    grind)]
   refine zcl s.Scripts (λi r=>∀f:List (Int×Bool),SetOk f i->zgD s a (setM (s.Seeds.map (·.Script)) []) (mO f) i=some (zeg (((setM ((r.filter λx=>!(mfind x.Number (setM (s.Seeds.map (·.Script)) [])).getD false&&(a.Kind==0&&x.Candidate==a.Candidate&&x.Centre==a.Stamp.Source)).map (·.Number)) f).map (·.1)).mergeSort leI))) ?_ ?_ [] ⟨zit,by simp,by simp⟩
   ·intro f hf;refine zs8 ?_;simp(disch:=omega)only[zad,zaN];exact zG5 hf (by omega)
   · intro i hi r _ ih f hf;have hw:=zDY (hs.2.1 _ (zar hi))
     have m12:zhG s a (setM (s.Seeds.map (·.Script)) []) (mO f) i s.Scripts[i] (a.Kind==0&&s.Scripts[i].Candidate==a.Candidate&&s.Scripts[i].Centre==a.Stamp.Source)=some (zeg (((setM (((s.Scripts[i]::r).filter λx=>!(mfind x.Number (setM (s.Seeds.map (·.Script)) [])).getD false&&(a.Kind==0&&x.Candidate==a.Candidate&&x.Centre==a.Stamp.Source)).map (·.Number)) f).map (·.1)).mergeSort leI)):=by
      refine zxB ?_;rw[znm,show([]:List (List AV))=mO []from rfl,znm,zcn,w6Q];have put:=ih _ (hf.put hw);have skip:=ih _ hf.up
      cases(mfind s.Scripts[i].Number (setM (s.Seeds.map (·.Script)) [])).getD false with
      |true=>exact skip
      |false =>
        cases(a.Kind==0&&s.Scripts[i].Candidate==a.Candidate&&s.Scripts[i].Centre==a.Stamp.Source)with
        |true=>rw[zbe,zaV,zaV,zjG];exact put
        |false=>exact skip
     refine zs8 ?_;simp(disch:=omega)only[zad,zaB,zao,zah,zhs,zaa hi,zae];revert m12
     cases a.Kind==0 with
     |false=>exact λh=>h
     |true =>
       cases s.Scripts[i].Candidate==a.Candidate with
       |false=>exact λh=>h
       |true=>exact λh=>h
theorem c_add(M:List (Int×Int))(n t:Int):cw zl4 [.map 1000,I n,I t] [(1000,gO (mR M))]=some (zmb (addT n t M)):=by
 refine zxc ?_;rw[zu7,zJp];unfold addT
 cases mfind n M with
 |none=>rfl
 |some a=>simp only[zcS,zaF,zaz,zbN,zfe];split<;>rfl
def openM(M:List (Int×Int)):List zac:=((M.map (·.1)).mergeSort leI).mapIdx λi n=>openE i (n,(mfind n M).getD 0)
theorem zIU{M:List (Int×Int)}(hn:(M.map (·.1)).Nodup)(hw:∀k∈M.map (·.1),W64 k)(hl:M.length<=1000):cw zgN [.mp (mR M)] []=some (zkH (openM M)):=by
 refine zsc ?_;rw[c_keysL,zin,zGx M (by omega) hw hn,zgz];unfold openM;have hkl:((M.map (·.1)).mergeSort leI).length<=1000:=by rw[List.length_mergeSort,zad];exact hl
 generalize (M.map (·.1)).mergeSort leI=ks at hkl;refine zcl ks (λi _=>zgp M ks (mA ((ks.take i.toNat).mapIdx λi n=>openE i (n,(mfind n M).getD 0))) i=some (zkH (ks.mapIdx λi n=>openE i (n,(mfind n M).getD 0)))) ?_ ?_
 ·refine zlp ?_;simp(disch:=omega)only[zad,zaN,zah,zdm,zaY,zaX,zbx];rw[zaJ (by simp)];rfl
 · intro i hi r _ ih;refine zlp ?_;have hix:((i:Int)+1).toNat=i+1:=by omega
   rw[hix,zco hi,List.mapIdx_concat]at ih;simp only[zcC]at ih;have hlen:(ks.take i).length=i:=by rw[zeC];omega
   rw[hlen]at ih;have hlm:(mA ((ks.take i).mapIdx λi n=>openE i (n,(mfind n M).getD 0))).length=i:=by simp;omega
   rw[zah];generalize (ks.take i).mapIdx (λi n=>openE i (n,(mfind n M).getD 0))=out at ih hlm;rw[zad]at hlm;simp(disch:=omega)only[zad,zaB,zao,zah,zce,zaa hi,zae,w64_id];rw[zu7];simp only[zbx];exact ih
theorem zKf{s:zan}(hs:zb3 s){f:zaT->Option Int}{M:List (Int×Int)}(h:Times s f M):openM M=openS (schedL s f):=by
 unfold openM openS;rw[h.keys hs];apply zeB
 ·simp
 · intro i h1 h2;have hi:i<(schedL s f).length:=by simpa using h2
   simp only[List.getElem_mapIdx,zgo];rw[h.find (zar hi)];rfl
theorem Times.w{s:zan}(hs:zb3 s){f:zaT->Option Int}{M:List (Int×Int)}(h:Times s f M):∀k∈M.map (·.1),W64 k:=λk hk=>by obtain⟨x,hx,rfl⟩:=h.num k hk;exact zDY (hs.scripts.2.1 x hx)
theorem c_open{s:zan}(hs:zb3 s){f:zaT->Option Int}{M:List (Int×Int)}(h:Times s f M):cw zgN [.mp (mR M)] []=some (zkH (openS (schedL s f))):=by rw[<-zKf hs h];exact zIU h.nd (h.w hs) (by have:=h.few hs;omega)
theorem c_Concat(a b:List zac)(ha:a.length<=100000)(hb:b.length<=100000):cw zfy [.sl 1 (mW [a,b])] []=some (zdu (a++b)):=by
 refine zlM ?_
 have h3:zcY [a,b] (mA (a++b)) 2=some (zdu (a++b)):=by refine zfn ?_;rw[zaN (by simp),zao rfl];rfl
 have h2:zcY [a,b] (mA a) 1=some (zdu (a++b)):=by refine zfn ?_;rw[zaB (by simp),cPQ,zkP,show([a,b]:List (List zac))[Int.toNat 1]?=some b from rfl,zae,zao rfl,zao (by simp;omega),zao rfl,<-zcC];exact h3
 have h1:zcY [a,b] (mA []) 0=some (zdu (a++b)):=by refine zfn ?_;rw[zaB (by simp),cPQ,zkP,show([a,b]:List (List zac))[Int.toNat 0]?=some a from rfl,zae,zao rfl,zao (by simp;omega),zao rfl,<-zcC];exact h2
 have g2:zdt [a,b] (a.length+b.length:Int) 2=some (zdu (a++b)):=by refine zfm ?_;rw[zaN (by simp),c_GrowE _ (by omega),ziy,zao rfl];exact h1
 have g1:zdt [a,b] (a.length:Int) 1=some (zdu (a++b)):=by refine zfm ?_;rw[zaB (by simp),cPQ,zkP,show([a,b]:List (List zac))[Int.toNat 1]?=some b from rfl,zae,zad,w6Q,zaN (by omega)];exact g2
 refine zfm ?_;rw[zaB (by simp),cPQ,zkP,show([a,b]:List (List zac))[Int.toNat 0]?=some a from rfl,zae,zad,w6Q,zaN (by omega),Int.zero_add];exact g1
theorem c_with(a b:List zac)(ha:a.length<=100000)(hb:b.length<=100000):cw ztu [.sl 9 (mA a),.sl 9 (mA b)] []=some (zkH (a++b)):=by refine zHK ?_;rw[c_Concat a b ha hb,ziy,cPQ,zdm];rfl
theorem c_Until(l:List zac)(t:Int)(hl:l.length<=100000)(hp:∀e∈l,e.Pages.length<=1000000):cw zrg [.sl 9 (mA l),I t] []=some (zdu (untilS l t)):=by
 refine zEY ?_;refine zcl l (λi r=>∀out:List zac,(out.length:Int)<=i->zjN l t (mA out) i=some (zdu (out++untilS r t))) ?_ ?_ [] (by simp)
 ·intro out ho;refine ztZ ?_;rw[zad,zaN (by omega),zao rfl];unfold untilS;rw[zeQ,zdx];rfl
 · intro i hi r _ ih out ho;refine ztZ ?_;rw[zad,zaB (by omega),cPQ,zah,zcs,zaa hi,zae,c_clone _ (hp _ (zar hi)),zrW,w6Q,zfe];unfold untilS at ih ⊢;rw[zcn];by_cases h:l[i].Stamp.Time<=t
   · rw[if_pos h,if_pos (by simpa using h),zao rfl,zao (by grind),zao rfl];have:=ih (out++[l[i]]) (by simp;omega)
     simp_all
   grind
set_option maxRecDepth 20000
theorem zDC{l:List za3}{n:Int}{x:zaT}:eligB l n x=true↔Elig l n x:=by
 unfold eligB Elig FitsM
 cases h:zgl l n with
 |none=>simp
 |some q =>
   obtain⟨k,m⟩:=q;simp only[mayB,zaO,zhx,bne_iff_ne,zaf,zav]
   grind
theorem few1000{l:List zac}(h:l.length<1000)(hp:∀e∈l,e.Pages.length<=1000000):FewEv l:=
 ⟨by omega,by
  have h1:=zFg l;have h2:(keepS l).length<=(zda l).length:=zdg _ _
  omega,hp⟩
theorem zyr{s:zan}(hs:zb3 s){l:List zac}{g:za5}(h:g∈(foldS s l).Given):zoO s g/\g.Value<=40:=by
 obtain⟨i,d,x,_,hd,hx,_,rfl,_⟩:=given_of h;have hm:x.event∈d.marks.map (·.event):=zef hx;rw[zuo hd]at hm;have hk:=(zcc.1 hm).2;unfold markEv at hk;simp only[zaO,beq_iff_eq]at hk;obtain⟨⟨⟨hk,_⟩,hf⟩,_⟩:=hk;obtain⟨q,hq⟩:=zaI.1 hf;obtain⟨x',p,y,h1,h2,h3,h4,h5,h6,h7,h8⟩:=zqE hq;have hy:=((hs.okPaper (zfl h3).1).2.2.2.1 y (zaq h5)).1
 have hv:-1<=x.event.Value/\x.event.Value<=y.Max:=by
  unfold permB at h7;rw[if_neg (show¬y.Kind=2 by omega)]at h7;split at h7
  ·omega
  ·grind
 exact⟨⟨x.event,⟨x',h1,hk,zDC.1 h2,q,p,y,h3,h4,h5,h6,hv,h8⟩,rfl,rfl,rfl⟩,by show x.event.Value<=40;omega⟩
theorem fold_len(s:zan){l:List zac}(h:FewEv l):(foldS s l).Given.length<=1000:=by rw[zxi];have h1:=zwA s (canonS l) (walkS s (canonS l)).2 100;have h2:=(zhr l).length_eq;have h3:=h.2.1;have h4:=(zht (lt:=zbW) (zdQ (walkS s (canonS l)).1 (walkS s (canonS l)).2 100)).length_eq;simp only;omega
theorem zys{s:zan}(hs:zb3 s){l:List zac}(h:FewEv l):SmallM (foldS s l):=
 ⟨by have:=fold_len s h;omega,λg hg=>by have:=(zyr hs hg).2;omega⟩
theorem zLe{s:zan}{g:za5}(h:zoO s g):∃x∈s.Scripts,x.Number=g.Script:=by
 obtain⟨e,⟨x,h1,_⟩,h2,_⟩:=h;obtain⟨h3,h4⟩:=zCF h1
 grind
theorem sumT_bd:∀(ps:List GPart) (ws vs:List Int),(∀(j:Nat) (y:GPart) (w v:Int),ps[j]?=some y->ws[j]?=some w->vs[j]?=some v->0<=termT y w v/\termT y w v<=40)->0<=sumT ps ws vs/\sumT ps ws vs<=40*ps.length
 |[],_,_,_=>by simp[sumT]
 |y::ps,[],_,_=>by simp[sumT];omega
 |y::ps,w::ws,[],_=>by simp[sumT];omega
 |y::ps,w::ws,v::vs,h=>by have h1:=h 0 y w v rfl rfl rfl;have h2:=sumT_bd ps ws vs (λj y w v a b c=>h (j+1) y w v a b c);rw[sumT,zcP];omega
theorem totR_bd{q:zbG}(hq:chkR q=0){s:zan}(hs:zb3 s)(m:za9)(hg:∀g∈m.Given,zoO s g){x:zaT}(hx:x∈s.Scripts):(totR q s m x.Number).2.2=0/\0<=(totR q s m x.Number).2.1/\(totR q s m x.Number).2.1<=960:=by
 unfold totR;rw[if_pos hq,zoE hs.scripts.2.2 hx];dsimp only;split
 case isFalse=>simp
 obtain⟨k,p,c,hk,hc,_⟩:=hs.script x hx;rw[hk];dsimp only;rw[hc,zbN];have hok:=hs.schemes k p c (zfl hk).1 hc;have hpl:=hok.1.2.2.1
 have:=sumT_bd p.Parts c.Withdrawn ((verdS q s m x).map (·.Value)) (λj y w v h1 h2 h3=>by
  have hj:=(zam.1 h1).1;have hyo:=hok.1.2.2.2.1 y (zaq h1);have hmx:=hyo.1;have hw:=(hok.2.2.2 j y (c.Keys[j]'(by have:=hok.2.1;omega)) w h1 (zaa _) h2).2;unfold termT;split
  ·omega
  · split
    ·omega
    · have:=zFn q s hs m hg x hx k p c hk hc j y w v h1 h2 h3 (by omega);unfold PermP at this
      grind)
 omega
theorem c_movedBy{q:zbG}(hq:chkR q=0){s:zan}(hs:zb3 s)(b n:za9)(hb:SmallM b)(hn:SmallM n)(gb:∀g∈b.Given,zoO s g)(gn:∀g∈n.Given,zoO s g){x:zaT}(hx:x∈s.Scripts):cw zmC [.agg (zcp q),.agg (zas s),.agg (zbI b),.agg (zbI n),I x.Number] []=some (zmV (movedS q s b n x.Number,0)):=by
 refine zDn ?_;rw[c_TotalG q s hs b hb gb,zpb,c_TotalG q s hs n hn gn,zpb];obtain⟨b1,b2,b3⟩:=totR_bd hq hs b gb hx;obtain⟨n1,n2,n3⟩:=totR_bd hq hs n gn hx;unfold movedS;generalize totR q s b x.Number=tb at b1 b2 b3;generalize totR q s n x.Number=tn at n1 n2 n3;obtain⟨x1,x2,x3⟩:=tb;obtain⟨y1,y2,y3⟩:=tn;simp only at b1 b2 b3 n1 n2 n3;subst b1 n1;simp only[bne_self_eq_false,zaz];by_cases h1:x1=3
 · by_cases h2:y1=3
   ·simp only[h1,h2,bne_self_eq_false,zaz,and_self,if_true];rw[w6Q,w6Q];rfl
   ·have e:(if x1=3/\y1=3 then distI y2 x2 else 0)=0:=if_neg (λh=>h2 h.2);rw[e];simp only[h1,bne_self_eq_false,zaz,show(y1 !=3)=true by simpa using h2,zaV];rfl
 ·have e:(if x1=3/\y1=3 then distI y2 x2 else 0)=0:=if_neg (λh=>h1 h.1);rw[e];simp only[show(x1 !=3)=true by simpa using h1,zaV];rfl
theorem zvS(s:zan)(f:zaT->Option Int):(schedL s f).length<=s.Scripts.length:=zdg _ _
theorem zKZ(l:List (Int×Int)):(openS l).length=l.length:=by simp[openS]
theorem zK9{l:List (Int×Int)}{e:zac}(h:e∈openS l):e.Pages=[]:=by unfold openS at h;obtain⟨i,hi,rfl⟩:=List.mem_mapIdx.1 h;rfl
theorem zK4{s:zan}{ev:List zac}{l:List zaA}(h:OkApp s ev l)(f:zaT->Option Int):FewEv (ev++openS (schedL s f)):=by
 obtain⟨h1,h2,h3,_⟩:=h;have h4:=zvS s f;have h5:=h1.scripts.1;refine few1000 (by rw[zcb,zKZ];omega) (λe he=>?_);rcases zbh.1 he with he|he
 ·exact h3 e he
 ·rw[zK9 he];simp
theorem zGC{s:zan}{ev:List zac}{l:List zaA}(h:OkApp s ev l)(t:Int):FewEv (untilS ev t):=by obtain⟨h1,h2,h3,_⟩:=h;have h4:(untilS ev t).length<=ev.length:=zee _ _;exact few1000 (by omega) (λe he=>h3 e (zcc.1 he).1)
theorem few_ev{s:zan}{ev:List zac}{l:List zaA}(h:OkApp s ev l):FewEv ev:=by obtain⟨h1,h2,h3,_⟩:=h;exact few1000 (by omega) h3
theorem zK2(l:List zaA):(appS l).1.length<=24:=by
 unfold appS;split
 ·simp
 ·rw[(zht _).length_eq];omega
theorem filter_asc{c:List zaA}(h:AscT c)(p:zaA->Bool):AscT (c.filter p):=h.filter _
theorem zLb{r:zbp}{q:zbG}{s:zan}{ev:List zac}{l:List zaA}(h:OkApp s ev l):cw zp8 [.agg (zck r),.agg (zcp q),.agg (zas s),.sl 9 (mA ev),.sl 6 (mE l)] []=some (zdc (zyf r q s ev l)):=by
 have hs:=h.1;have h60:=hs.scripts.1;refine zDm ?_;unfold zyf;rw[zDf,za7,zrV,za7];by_cases hA:chkA r=0
 case neg=>rw[if_neg (λq=>hA q.1),show(chkA r !=0)=true by simpa using hA];rfl
 by_cases hR:chkR q=0
 case neg=>rw[if_neg (λq=>hR q.2),hA,show(chkR q !=0)=true by simpa using hR];rfl
 rw[if_pos ⟨hA,hR⟩,hA,hR,znQ hs,za7,zAi h.2.2.2,zlr];simp only[bne_self_eq_false,zaz];by_cases hE:(appS l).2=0
 case neg=>rw[if_neg hE,show((appS l).2 !=0)=true by simpa using hE];rfl
 rw[if_pos hE,hE];simp only[bne_self_eq_false,zaz];have hc24:=zK2 l;have hasc:=zK1 l;generalize appS l=ap at hE hc24 hasc;obtain⟨c,e0⟩:=ap;simp only at hE hc24 hasc ⊢;have hT:Times s (timeS s ⟨[],[]⟩ (c.filter λa=>a.Kind==0)) (schedM s ⟨[],[]⟩ (c.filter λa=>a.Kind==0) []):=zKw hs _ (filter_asc hasc _)
 have tail:∀(M:List (Int×Int)),M=schedM s ⟨[],[]⟩ (c.filter λa=>a.Kind==0) []->zhF r q s ev (c,e0) (mR M) (c.length:Int)=some (zdc (zgA r q s ev c,0)):=by
  intro M hM;subst hM;refine zs5 ?_;rw[zad,zaN (by simp),c_open hs hT,ztP,c_with ev _ (by have:=h.2.1;omega) (by rw[zKZ];have:=zvS s (timeS s ⟨[],[]⟩ (c.filter λa=>a.Kind==0));omega),ztP,zK3 hs (zK4 h _),zp6];simp only[bne_self_eq_false,zaz];rw[c_keysL,zin,zGx _ (by have:=hT.few hs;omega) (hT.w hs) hT.nd,zgz,hT.keys hs];have hfind:=λp hp=>hT.find (p:=p) hp
  have hin:∀p∈zjx s c,∃x∈s.Scripts,x.Number=p.1:=λp hp=>by obtain⟨x,hx,_,e⟩:=zs2.1 hp;exact⟨x,hx,e⟩
  have hlen:(zjx s c).length<=60:=by have:=zvS s (timeS s ⟨[],[]⟩ (c.filter λa=>a.Kind==0));unfold zjx;omega
  have hnow:=zK4 h (timeS s ⟨[],[]⟩ (c.filter λa=>a.Kind==0));unfold zgA;generalize schedM s ⟨[],[]⟩ (c.filter λa=>a.Kind==0) []=M at hfind;change(∀p∈zjx s c,mfind p.1 M=some p.2)at hfind;change zeI r q s ev (mR M) (foldS s (ev++openS (zjx s c)),0) ((zjx s c).map (·.1)) [] [] 0=_;change FewEv (ev++openS (zjx s c))at hnow;have gnow:∀g∈(foldS s (ev++openS (zjx s c))).Given,zoO s g:=λg hg=>(zyr hs hg).1
  have snow:=zys hs hnow;generalize foldS s (ev++openS (zjx s c))=now at gnow snow;generalize zjx s c=L at hfind hin hlen;refine zcl L (λi rest=>∀(out:List Int) (bm:List (Int×za9)),(out.length:Int)<=i->(∀t g,mfind t bm=some g->g=foldS s (untilS ev t))->zeI r q s ev (mR M) (now,0) (L.map (·.1)) (List.map zai out) (sB bm) i=some (zdc (out++(rest.filter λp=>decide (r.Tolerance<movedS q s (foldS s (untilS ev p.2)) now p.1)).map (·.1),0))) ?_ ?_ [] [] (by simp) (λt g hh=>by simp[mfind]at hh)
  ·intro out bm ho hb;refine zs7 ?_;rw[zad,zad,zaN (by omega),cPQ,zdm];simp only[zeQ,ze1,zdx];rfl
  · intro i hi rest _ ih out bm ho hb;have hmem:=zar hi;have hf:=hfind _ hmem;obtain⟨x,hx,hxn⟩:=hin _ hmem;refine zs7 ?_;rw[zad,zad,zaB (by omega),cPQ,zah,zce,zbC,zaa hi,zbg,zae,zu7,hf,zbN,zmT];rw[zcn];generalize L[i]=p at hf hxn hmem ⊢;have sb:=zys hs (zGC h p.2);have gb:∀g∈(foldS s (untilS ev p.2)).Given,zoO s g:=λg hg=>(zyr hs hg).1
    have mv:=c_movedBy hR hs (foldS s (untilS ev p.2)) now sb snow gb gnow hx;rw[hxn]at mv
    have step:∀bm':List (Int×za9),(∀t g,mfind t bm'=some g->g=foldS s (untilS ev t))->brn (decide (r.Tolerance<movedS q s (foldS s (untilS ev p.2)) now p.1))
      (zeI r q s ev (mR M) (now,0) (L.map (·.1)) (List.map zai out++[zai p.1]) (sB bm') (i+1))
      (zeI r q s ev (mR M) (now,0) (L.map (·.1)) (List.map zai out) (sB bm') (i+1)) =
      some (zdc (out++(if decide (r.Tolerance<movedS q s (foldS s (untilS ev p.2)) now p.1)=true then p::(rest.filter λp=>decide (r.Tolerance<movedS q s (foldS s (untilS ev p.2)) now p.1))else rest.filter λp=>decide (r.Tolerance<movedS q s (foldS s (untilS ev p.2)) now p.1)).map (·.1),0)):=by
     intro bm' hb'
     cases decide (r.Tolerance<movedS q s (foldS s (untilS ev p.2)) now p.1)with
     |true=>rw[zaV,if_pos rfl];simp only[zd3 zai];rw[ih (out++[p.1]) bm' (by simp;omega) hb',zdC];rfl
     |false =>
       rw[zaz,iNs]
       grind
    cases hbm:mfind p.2 bm with
    |none =>
      simp only[zem,zbe,zaV];rw[c_Until ev p.2 (by have:=h.2.1;omega) h.2.2.1,ziy,c_fold hs (zGC h p.2),zAs];simp only[bne_self_eq_false,zaz];rw[zyQ];refine zxA ?_;rw[zmT,zc5,zbN,mv,zmz];simp only[bne_self_eq_false,zaz];rw[zbx,zao (by simp;omega),zbx,w6Q];refine step _ (λt g hg=>?_);rw[zub]at hg
      grind
    |some g=>have hge:=hb _ _ hbm;simp only[zcS,zaF,zaz];refine zvs ?_;rw[zmT,hbm,zbN,hge,mv,zmz];simp only[bne_self_eq_false,zaz];rw[zbx,zao (by simp;omega),zbx,w6Q];exact step bm hb
 refine zcl c (λi rest=>∀M:List (Int×Int),schedM s ⟨[],[]⟩ (rest.filter λa=>a.Kind==0) M=schedM s ⟨[],[]⟩ (c.filter λa=>a.Kind==0) []->zhF r q s ev (c,e0) (mR M) i=some (zdc (zgA r q s ev c,0))) ?_ ?_ [] rfl
 ·intro M hM;exact tail M hM
 · intro i hi rest _ ih M hM;refine zs5 ?_;rw[zad,zaB (show(i:Int)<(c.length:Int)by omega),cPQ,zah,zjE,zaa hi,zae,w6Q];rw[zcn]at hM;generalize c[i]=a at hM ⊢;by_cases hk:a.Kind=0
   case neg =>
    rw[show(a.Kind !=0)=true by simpa using hk,zaV]
    simp_all
   rw[show(a.Kind !=0)=false by simpa using hk,zaz,zBn hs.scripts (by have:=hs.seeds;omega) ⟨[],[]⟩ (by simp) a,zgz];rw[if_pos (by simpa using hk)]at hM;change schedM s ⟨[],[]⟩ (rest.filter λa=>a.Kind==0) (addL (scopeL s ⟨[],[]⟩ a) a.Stamp.Time M)=_ at hM
   have hsl:(scopeL s ⟨[],[]⟩ a).length<=60:=by unfold scopeL;rw[zad];have:=zee (scopeB s ⟨[],[]⟩ a) s.Scripts;omega
   generalize scopeL s ⟨[],[]⟩ a=sc at hM hsl;refine zcl sc (λj rs=>∀M:List (Int×Int),schedM s ⟨[],[]⟩ (rest.filter λa=>a.Kind==0) (addL rs a.Stamp.Time M)=schedM s ⟨[],[]⟩ (c.filter λa=>a.Kind==0) []->zk0 r q s ev (c,e0) i a sc (mR M) j=some (zdc (zgA r q s ev c,0))) ?_ ?_ M hM
   ·intro M hM;refine zs6 ?_;rw[zad,zaN (by omega),w6Q];exact ih M hM
   ·intro j hj rs _ ihj M hM;refine zs6 ?_;rw[zad,zaB (by omega),cPQ,zah,zce,zaa hj,zae,c_add,zt4,w6Q];exact ihj _ hM
theorem c_blamed(r:zbp){s:zan}(hs:zb3 s)(m:za9)(hm:m.Given.length<=1000000)(ch:List Int)(hn:ch.Nodup)(hc:ch.length<=1000):cw zra [.agg (zck r),.agg (zas s),.agg (zbI m),.sl 1 (List.map zai ch)] []=some (zkJ (zqt r s m ch)):=by
 have h16:=hs.markers.1;refine zET ?_;refine zcl s.Markers (λi rest=>∀out:List Int,(out.length:Int)<=i->zil r s m ch (List.map zai out) i=some (zkJ (out++(rest.filter λx=>x.Level==1&&decide (r.Fails<=(ch.filter (marksB m x.ID)).length)).map (·.ID)))) ?_ ?_ [] (by simp)
 ·intro out ho;refine ztW ?_;rw[zad,zaN (by omega),zao rfl,zeQ];simp only[ze1];rw[zdx];rfl
 · intro i hi rest _ ih out ho;refine ztW ?_;rw[zad,zaB (by omega),cPQ,zah,zfB,zaa hi,zae,w6Q,zcn];generalize s.Markers[i]=x;by_cases hl:x.Level=1
   case neg =>
    rw[show(x.Level !=1)=true by simpa using hl,zaV,show(x.Level==1)=false by simpa using hl,zcF,iNs]
    grind
   rw[show(x.Level !=1)=false by simpa using hl,zaz,show(x.Level==1)=true by simpa using hl,zcx,zEF m _ hm,zof];refine zcl ch (λj rs=>∀f:List (Int×Bool),setM (rs.filter (marksB m x.ID)) f=setM (ch.filter (marksB m x.ID)) []->zjM r s m ch (List.map zai out) i x (setM (markL m x.ID) []) (mO f) j=some (zkJ (out++(if decide (r.Fails<=(ch.filter (marksB m x.ID)).length)=true then x::(rest.filter λx=>x.Level==1&&decide (r.Fails<=(ch.filter (marksB m x.ID)).length))else rest.filter λx=>x.Level==1&&decide (r.Fails<=(ch.filter (marksB m x.ID)).length)).map (·.ID)))) ?_ ?_ [] rfl
   · intro f hf
     have hfl:f.length=(ch.filter (marksB m x.ID)).length:=by change f=_ at hf;rw[hf,zyO _ _ (hn.filter _) (λ_ _=>rfl)];simp
     refine ztX ?_;rw[zad,zaN (by omega),zad,hfl,w6Q]
     cases decide (r.Fails<=((ch.filter (marksB m x.ID)).length:Int))with
     |true=>rw[zaV,zao rfl,zao (by simp;omega),zao rfl,if_pos rfl];have q:=ih (out++[x.ID]) (by simp;omega);rw[zdC]at q;simp only[zcC]at q;exact q
     |false =>
       rw[zaz,iNs]
       grind
   · intro j hj rs _ ihj f hf;refine ztX ?_;rw[zad,zaB (by omega),cPQ,zah,zce,zaa hj,zae,znm,zK6,w6Q];rw[zcn]at hf
     cases hb:marksB m x.ID ch[j]with
     |true=>rw[zaV,zjG];rw[if_pos hb]at hf;exact ihj _ hf
     |false=>simp_all
theorem zLf{r:zbp}{q:zbG}{s:zan}(hs:zb3 s)(ev:List zac)(c:List zaA):(zgA r q s ev c).Pairwise (·< ·):=by
 unfold zgA;have h:=zG1 hs (timeS s ⟨[],[]⟩ (c.filter λa=>a.Kind==0));change((zjx s c).map (·.1)).Pairwise (·< ·)at h
 grind
theorem zLg{r:zbp}{q:zbG}{s:zan}(hs:zb3 s)(ev:List zac)(c:List zaA):(zgA r q s ev c).length<=60:=by unfold zgA;rw[zad];have h1:=zee (λp:Int×Int=>decide (r.Tolerance<movedS q s (foldS s (untilS ev p.2)) (foldS s (ev++openS (zjx s c))) p.1)) (zjx s c);have h2:=zvS s (timeS s ⟨[],[]⟩ (c.filter λa=>a.Kind==0));have h3:=hs.scripts.1;unfold zjx at h1 ⊢;omega
theorem c_Blamed{r:zbp}{s:zan}{ev:List zac}{l:List zaA}(h:OkApp s ev l)(ch:List Int)(hn:ch.Nodup)(hc:ch.length<=1000):cw zq8 [.agg (zck r),.agg (zas s),.sl 9 (mA ev),.sl 1 (List.map zai ch)] []=some (zdc (if chkA r=0 then(zqt r s (foldS s ev) ch,0)else([],1))):=by
 have hs:=h.1;refine zER ?_;rw[zDf,za7];by_cases hA:chkA r=0
 case neg=>rw[if_neg hA,show(chkA r !=0)=true by simpa using hA];rfl
 rw[if_pos hA,hA,znQ hs,za7,zK3 hs (few_ev h),zp6];simp only[bne_self_eq_false,zaz];rw[c_blamed r hs _ (zys hs (few_ev h)).1 ch hn hc,znC,cPQ,zdm];rfl
set_option maxRecDepth 20000
theorem fits_iff{s:zan}(hs:zb3 s){e:zac}(hk:e.Kind=0):dec (FitsE s e)=(fitS s e).isSome:=by
 symm;refine zfG ?_;constructor
 · intro h;obtain⟨q,hq⟩:=zaI.1 h;obtain⟨x,p,y,h1,h2,h3,h4,h5,h6,h7,h8⟩:=zqE hq;refine⟨x,h1,hk,zDC.1 h2,q,p,y,h3,h4,h5,h6,?_,h8⟩;have hy:=((hs.okPaper (zfl h3).1).2.2.2.1 y (zaq h5)).1.1;unfold permB at h7
   grind
 · rintro⟨x,h1,_,h2,q,p,y,h3,h4,h5,h6,h7,h8⟩
   unfold fitS;rw[h1];simp only;rw[if_pos (zDC.2 h2),h3];simp only;rw[if_pos h4,h5];simp only
   have hpb:permB y e.Value=true:=by
    unfold permB;rw[if_neg (show¬y.Kind=2 by omega)];split
    ·rfl
    ·grind
   simp_all
theorem deskOk_E{s:zan}(hs:zb3 s){mk k:Nat}{d:zay}(h:DeskOk s.Monitor k d)(e:zac):DeskOk s.Monitor (k+1) (deskE s mk d e):=by
 unfold deskE;split
 · split
   ·exact h.rein hs.monitor _
   ·exact h.up
 · split
   · split
     · split
       ·exact h.note rfl _ _ _
       ·exact h.app _
       ·exact h.up
     ·exact h.up
   ·exact h.up
theorem noteS_susp{s:zan}{p:zaM}{sd:GSeed}{e:zac}{d:zay}(hs:d.watch.Suspended=true):∃no,noteS s p sd e d={ d with noted:=no }:=by
 unfold noteS;simp only[hs,if_true];split
 ·exact⟨_,rfl⟩
 · split
   ·exact⟨_,rfl⟩
   ·exact⟨_,rfl⟩
theorem seedOf_S{s:zan}{n:Int}:seedS s n=(seedOf s.Seeds n).map (·.2):=rfl
def QX(l:List zac)(mk:Nat)(D:zay):AV×Mem->Prop:=λy=>∃void:List Bool,y=zny (D.suspensions,void)/\void.length=l.length/\Oth l mk void/\∀x∈D.marks,∀k:Nat,l[k]?=some x.event->void[k]?=some x.void
structure WX(s:zan)(l:List zac)(mk:Nat)(D:zay)(i:Nat)(d:zay)(good:za6)(first:Bool)(begin:Nat)(out:List zbS)(w:zbZ)(void:List Bool)(n:Notes):Prop where
 wr:WR l mk i d good first begin out w void n
 oth:Oth l mk void
 ok:DeskOk s.Monitor i d
 rest:(l.drop i).foldl (deskE s mk) d=D
 nlen:∀q∈n,q.2.length<=i
section
variable{s:zan}{l:List zac}{mk:Nat}{D:zay}{i:Nat}{d:zay}{good:za6}{first:Bool}{begin:Nat}{out:List zbS}{w:zbZ}{void:List Bool}{n:Notes}
theorem WX.next(hs:zb3 s)(h:WX s l mk D i d good first begin out w void n)(hi:i<l.length){good':za6}{first':Bool}{begin':Nat}{out':List zbS}{w':zbZ}{void':List Bool}{n':Notes}
  {d':zay} (hd:deskE s mk d l[i]=d') (wr:WR l mk (i+1) d' good' first' begin' out' w' void' n') (oth:Oth l mk void') (nl:∀q∈n',q.2.length<=i+1):WX s l mk D (i+1) d' good' first' begin' out' w' void' n':=
 ⟨wr,oth,hd▸deskOk_E hs h.ok _,by
  have:=h.rest;rw[zbd hi,zcJ,hd]at this
  exact this,nl⟩
theorem WX.skip(hs:zb3 s)(h:WX s l mk D i d good first begin out w void n)(hi:i<l.length)(hd:deskE s mk d l[i]=d):WX s l mk D (i+1) d good first begin out w void n:=
 h.next hs hi hd h.wr.skip h.oth (λq hq=>by have:=h.nlen q hq;omega)
theorem WX.late(h:WX s l mk D i d good first begin out w void n)(hi:i<l.length):void.set i false=void:=by have h1:=h.wr.late i (zaX _) hi;obtain⟨h2,h3⟩:=zam.1 h1;rw[<-h3];exact List.set_getElem_self h2
def VoidJ(l:List zac)(mk:Nat)(good:za6)(one:Bool)(begin j:Nat)(void void':List Bool):Prop:=
 void'.length=void.length/\∀(k:Nat) (e:zac),l[k]?=some e->void'[k]?=(void[k]?).map λb=>if begin<=k/\k<j then b||(e.Kind==0&&e.Stamp.Source==(mk:Int)&&(one||lessS good e.Stamp))else b
theorem VoidJ.zero(l:List zac)(mk:Nat)(good:za6)(one:Bool)(begin:Nat)(void:List Bool):VoidJ l mk good one begin begin void void:=
 ⟨rfl,λk e _=>by grind⟩
theorem VoidJ.step{one:Bool}{j:Nat}{void':List Bool}(h:VoidJ l mk good one begin j void void')(hb:begin<=j){e:zac}(he:l[j]?=some e)(hj:j<void'.length):VoidJ l mk good one begin (j+1) void (void'.set j (void'[j]||(e.Kind==0&&e.Stamp.Source==(mk:Int)&&(one||lessS good e.Stamp)))):=
 ⟨by rw[zeR];exact h.1,λk f hk=>by
  by_cases hkj:j=k
  · subst hkj;rw[he]at hk;injection hk with hk;subst hk;have h2:=h.2 j e he;rw[zaa hj]at h2;rw[zeq hj]
    cases hv:void[j]? with
    |none=>grind
    |some b=>simp_all
  · rw[zdy hkj,h.2 k f hk]
    grind⟩
theorem VoidJ.to{one:Bool}{void':List Bool}(h:VoidJ l mk good one begin (i+1) void void'):VoidTo l mk good one begin i void void':=
 ⟨h.1,λk e hk=>by
  rw[h.2 k e hk]
  grind⟩
theorem note_new{e:zac}{y:GSeed}{p:zaM}(hw:d.watch.Suspended=false)(hn:mfind ⟨e.Script,e.Part⟩ d.noted=none):noteS s p y e d=match gather (mput ⟨e.Script,e.Part⟩ e.Value d.noted) e.Script y.Marks p.Parts 0 [] []with
  |none=>{ d with noted:=mput ⟨e.Script,e.Part⟩ e.Value d.noted }
  |some (a,b) =>
    if(stepW s.Monitor d.watch (goodS s.Monitor a b)).Suspended then suspS e.Stamp.Source e.Stamp { d with noted:=mput ⟨e.Script,e.Part⟩ e.Value d.noted,watch:=stepW s.Monitor d.watch (goodS s.Monitor a b) }
    else if goodS s.Monitor a b then{ d with noted:=mput ⟨e.Script,e.Part⟩ e.Value d.noted,watch:=stepW s.Monitor d.watch (goodS s.Monitor a b),good:=e.Stamp,some:=true }
    else{ d with noted:=mput ⟨e.Script,e.Part⟩ e.Value d.noted,watch:=stepW s.Monitor d.watch (goodS s.Monitor a b) }:=by
 unfold noteS
 grind
theorem any_part{c:List zbY}{p:Int}:c.any (λx=>x.part==p)=(noteOf c p).isSome:=by
 unfold noteOf
 grind
end
theorem watchX{s:zan}(hs:zb3 s){l:List zac}(hl:l.length<=2000)(hv:∀e∈l,eventB e=true)(ha:l.Pairwise (λa b=>lessS a.Stamp b.Stamp=true)){mk:Nat}(hmk:1<=mk/\mk<=99)(D:zay):∀(n i:Nat),i+n=l.length->∀(d:zay) (good:za6) (first:Bool) (begin:Nat) (out:List zbS) (w:zbZ) (void:List Bool) (notes:Notes) (ol:Nat),begin<=i->ol=out.length->WX s l mk D i d good first begin out w void notes->Sat (QX l mk D) (zfk s l mk (mC out) w (mV notes) good (List.map nBool void) ol first begin i):=by
 have hsd:=hs.seeds
 have hsrc:∀e∈l,0<=e.Stamp.Source:=λe he=>by
  have:=hv e he;unfold eventB at this
  grind
 intro n
 induction n with
 |zero =>
   intro i hi d good first begin out w void notes ol hb0 ho inv
   have hvl:=inv.wr.vlen;subst ho;refine sat_of (λy=>zv3) ?_;simp(disch:=omega)only[zad,zcf,zah,zaN,zao];rw[zaJ (by simp),zaJ (by simp;omega)];have hD:=inv.rest;rw[zcd (by omega)]at hD;subst hD;exact zqk ⟨void,by rw[inv.wr.out];rfl,hvl,inv.oth,inv.wr.vd⟩
 |succ n ih =>
   intro i hi d good first begin out w void notes ol hb0 ho inv
   have hvl:=inv.wr.vlen;subst ho;have hlt:i<l.length:=by omega
   have hltv:i<void.length:=by omega
   have hbi:=inv.wr.bi;have he:l[i]?=some l[i]:=zaa hlt;have hev:=hv _ (zar hlt)
   have hpl:l[i].Pages.length<=1000000:=by unfold eventB at hev;simp only[zaO,decide_eq_true_eq]at hev;omega
   have hkind:l[i].Kind=0->1<=l[i].Stamp.Source:=λh0=>by
    unfold eventB at hev
    simp_all
   have hkind1:l[i].Kind=1->1<=l[i].Marker:=λh0=>by
    unfold eventB at hev
    simp_all
   have hw0:d.watch.Suspended=w.Suspended:=by rw[inv.wr.wat]
   have hol:out.length<=i:=by rw[inv.wr.out];exact inv.ok.susp
   have hok:zno s.Monitor w:=by rw[inv.wr.wat];exact inv.ok.watch
   have go:∀(d:zay) (good:za6) (first:Bool) (begin:Nat) (out:List zbS) (w:zbZ) (void:List Bool) (notes:Notes) (ol:Nat),begin<=i+1->ol=out.length->WX s l mk D (i+1) d good first begin out w void notes->Sat (QX l mk D) (zfk s l mk (mC out) w (mV notes) good (List.map nBool void) ol first begin (w64 ((i:Int)+1))):=by
    intro d good first begin out w void notes ol hb0 ho inv
    rw[w6Q];exact ih (i+1) (by omega) d good first begin out w void notes ol hb0 ho inv
   have m1029:∀(w':zbZ) (notes':Notes) (no:List (zaP×Int)) (r:Bool×Bool),w.Suspended=false->l[i].Kind=0->l[i].Stamp.Source=(mk:Int)->NoteR notes' no->(∀q∈notes',q.2.length<=i+1)->deskE s mk d l[i]=(if w'.Suspended then suspS l[i].Stamp.Source l[i].Stamp { d with noted:=no,watch:=w' }else if r.2 then{ d with noted:=no,watch:=w',good:=l[i].Stamp,some:=true }else{ d with noted:=no,watch:=w' })->Sat (QX l mk D) (zoz s l mk (mC out) good (List.map nBool void) out.length first begin i l[i] (mV notes') r (w',0)):=by
    intro w' notes' no r hws hk0 hsr hnr hn' hdE;have hws':d.watch.Suspended=false:=hw0.trans hws
    have loop:∀(m:Nat) (j:Nat) (void':List Bool),w'.Suspended=true->begin<=j->j+m=i+1->VoidJ l mk good (first&&decide (out=[])) begin j void void'->Sat (QX l mk D) (znY s l mk (mC out) good (List.map nBool void) out.length first begin i l[i] (mV notes') r (w',0) (List.map nBool void') j):=by
     intro m
     induction m with
     |zero=>intro j void' hsus hj hjm hv';refine sat_of (λy=>zv5) ?_;rw[zaN (by omega)];refine sat_of (λy=>zyW) ?_;simp only[zd3 zat];rw[show j=i+1 by omega]at hv';have hvt:=hv'.to;rw[hsus,if_pos rfl,hsr]at hdE;exact go _ _ _ _ _ _ _ _ _ (by omega) (by simp) (inv.next hs hlt hdE (inv.wr.susp ha hsrc hws' hsus no notes' hvt) (inv.oth.voidTo hvt) hn')
     |succ m ih3 =>
       intro j void' hsus hj hjm hv';have hj1:j<l.length:=by omega
       have hj2:j<void'.length:=by have:=hv'.1;omega
       have m1033:∀(b:Bool),b=(void'[j]||(l[j].Kind==0&&l[j].Stamp.Source==(mk:Int)&&((first&&decide (out=[]))||lessS good l[j].Stamp)))->Sat (QX l mk D) (zfR s l mk (mC out) good (List.map nBool void) out.length first begin i l[i] (mV notes') r (w',0) j (List.map nBool (void'.set j b))):=by intro b hb;refine sat_of (λy=>zBi) ?_;rw[w6Q,hb];exact ih3 (j+1) _ hsus (by omega) (by omega) (hv'.step hj (zaa hj1) hj2)
       have hone:decide (out=[])=(((out.length+1:Nat):Int)==1):=by
        cases out with
        |nil=>rfl
        |cons x r=>grind
       refine sat_of (λy=>zv5) ?_;simp(disch:=omega)only[zad,zcf,zah,zaY,zaB,zao,zoT,zcs,zaa hj1,zaa hj2,zae,zAn,zKA,zgE nBool,zcb,zcP,zcZ];rw[hone]at m1033;simp only[zeL]
       grind
    refine sat_of (λy=>zBh) ?_
    cases hsus:w'.Suspended with
    |true=>simp(disch:=omega)only[zaV,eq_self,zbx,zad,zao];exact loop (i+1-begin) begin void hsus (zaX _) (by omega) (VoidJ.zero _ _ _ _ _ _)
    |false =>
      simp only[zaz];rw[hsus,iNs]at hdE
      cases hr:r.2 with
      |true=>simp only[zaV];rw[hr,if_pos rfl]at hdE;refine sat_of (λy=>zjl) ?_;exact go _ _ _ _ _ _ _ _ _ (by omega) (by simp) (inv.next hs hlt hdE (inv.wr.fine hws' hnr _) inv.oth hn')
      |false=>simp only[zaz];rw[hr,iNs]at hdE;refine sat_of (λy=>zyV) ?_;exact go _ _ _ _ _ _ _ _ _ (by omega) (by simp) (inv.next hs hlt hdE (inv.wr.step hws' hnr) inv.oth hn')
   have m1025:∀(q:Nat) (y:GSeed) (k:Nat) (p:zaM),w.Suspended=false->l[i].Kind=0->l[i].Stamp.Source=(mk:Int)->mfind (⟨l[i].Script,l[i].Part⟩:zaP) d.noted=none->seedOf s.Seeds l[i].Script=some (q,y)->zfX s l[i].Script=some (k,p)->zlZ p y.Marks->deskE s mk d l[i]=noteS s p y l[i] d->Sat (QX l mk D) (zoy s l mk (mC out) w (mV notes) good (List.map nBool void) out.length first begin i l[i] (zc3 notes l[i].Script)):=by
    intro q y k p hsus hk0 hsr hnew hsd hk hm hdE;have hws':d.watch.Suspended=false:=hw0.trans hsus;have hnr:=inv.wr.notes hws';have hput:=hnr.put (v:=l[i].Value) hnew
    have hc:(zc3 notes l[i].Script).length<=i:=by
     unfold zc3
     cases hf:mfind l[i].Script notes with
     |none=>simp
     |some v=>have:=inv.nlen _ (zjh hf);simpa using this
    refine sat_of (λy=>zBe) ?_;have hlen:(mP (zc3 notes l[i].Script)++[[I l[i].Part,I l[i].Value]]).length=(zc3 notes l[i].Script).length+1:=by simp
    have htk:List.take ((zc3 notes l[i].Script).length+1) (mP (zc3 notes l[i].Script)++[zb9 ⟨l[i].Part,l[i].Value⟩])=mP (zc3 notes l[i].Script++[⟨l[i].Part,l[i].Value⟩]):=by grind
    simp(disch:=omega)only[hlen,zad,zao,zbx,htk,zwJ]
    have hnn:∀q∈mput l[i].Script (zc3 notes l[i].Script++[⟨l[i].Part,l[i].Value⟩]) notes,q.2.length<=i+1:=by
     intro q hq;rcases zlB hq with rfl|hq
     ·simp;omega
     ·have:=inv.nlen q hq;omega
    refine sat_of (λy=>zBf) ?_;simp only[zpF];have hat:(mfind l[i].Script (mput l[i].Script (zc3 notes l[i].Script++[⟨l[i].Part,l[i].Value⟩]) notes)).getD []=zc3 (mput l[i].Script (zc3 notes l[i].Script++[⟨l[i].Part,l[i].Value⟩]) notes) l[i].Script:=rfl
    have hlk:(zc3 (mput l[i].Script (zc3 notes l[i].Script++[⟨l[i].Part,l[i].Value⟩]) notes) l[i].Script).length<=100000:=by unfold zc3;rw[zc5,zbN];unfold zc3 at hc;simp;omega
    have ev:=c_judge s hs k p q y l[i].Script _ hk hsd hm hlk (hput.once _);rw[zyv (λpa=>hput.look l[i].Script pa)]at ev;rw[note_new hws' hnew]at hdE;rw[hat,ev,zBR]
    cases hgt:gather (mput ⟨l[i].Script,l[i].Part⟩ l[i].Value d.noted) l[i].Script y.Marks p.Parts 0 [] []with
    |none=>rw[hgt]at hdE;simp only[judgeR,zbe,zaV];refine sat_of (λy=>zyU) ?_;exact go _ _ _ _ _ _ _ _ _ (by omega) (by simp) (inv.next hs hlt hdE (inv.wr.noteN hput) inv.oth hnn)
    |some ab=>obtain⟨xa,xb⟩:=ab;rw[hgt]at hdE;simp only[judgeR,zaF,zaz];refine sat_of (λy=>zBg) ?_;simp only[zIQ s.Monitor w (goodS s.Monitor xa xb) hs.monitor hok hsus,zuN];refine m1029 _ _ _ _ hsus hk0 hsr hput hnn ?_;rw[inv.wr.wat];exact hdE
   have m1019:∀(q:Nat) (y:GSeed) (k:Nat) (p:zaM),w.Suspended=false->l[i].Kind=0->l[i].Stamp.Source=(mk:Int)->seedOf s.Seeds l[i].Script=some (q,y)->zfX s l[i].Script=some (k,p)->zlZ p y.Marks->deskE s mk d l[i]=noteS s p y l[i] d->Sat (QX l mk D) (zox s l mk (mC out) w (mV notes) good (List.map nBool void) out.length first begin i l[i]):=by
    intro q y k p hsus hk0 hsr hsd hk hm hdE;have hws':d.watch.Suspended=false:=hw0.trans hsus;have hnr:=inv.wr.notes hws';refine sat_of (λy=>zBd) ?_;simp only[zpF];have hat:(mfind l[i].Script notes).getD []=zc3 notes l[i].Script:=rfl;rw[hat]
    have hc:(zc3 notes l[i].Script).length<=i:=by
     unfold zc3
     cases hf:mfind l[i].Script notes with
     |none=>simp
     |some v=>have:=inv.nlen _ (zjh hf);simpa using this
    refine zcl (zc3 notes l[i].Script) (λj r=>∀b:Bool,(b||r.any λx=>x.part==l[i].Part)=(zc3 notes l[i].Script).any (λx=>x.part==l[i].Part)->Sat (QX l mk D) (zld s l mk (mC out) w (mV notes) good (List.map nBool void) out.length first begin i l[i] (zc3 notes l[i].Script) b j)) ?_ ?_ false (zei _)
    · intro b hb;refine sat_of (λy=>zv4) ?_;rw[zad,zaN (by omega)];rw[zjm,zga,any_part,hnr.look]at hb
      cases b with
      |true=>simp only[zaV];refine sat_of (λy=>zyT) ?_;exact go _ _ _ _ _ _ _ _ _ (by omega) (by simp) (inv.skip hs hlt (by rw[hdE];unfold noteS;rw[if_pos hb.symm]))
      |false=>simp_all
    · intro j hj r _ ih2 b hb;refine sat_of (λy=>zv4) ?_;rw[zad,zaB (by omega),cPQ,zah,zpl,zaa hj,zae,w6Q];rw[zfp,<-zKG]at hb
      cases b with
      |true=>rw[zaV];grind
      |false=>rw[zaz];grind
   have m1014:¬(l[i].Kind=1/\l[i].Marker=(mk:Int)/\w.Suspended=true)->Sat (QX l mk D) (zjg s l mk (mC out) w (mV notes) good (List.map nBool void) out.length first begin i l[i]):=by
    intro hne
    have stay:deskE s mk d l[i]=d->Sat (QX l mk D) (zjX s l mk (mC out) w (mV notes) good (List.map nBool void) out.length first begin i l[i]):=λhd=>sat_of (λy=>zyR) (go _ _ _ _ _ _ _ _ _ (by omega) (by simp) (inv.skip hs hlt hd))
    have quiet:¬(l[i].Kind=0/\l[i].Stamp.Source=(mk:Int))->deskE s mk d l[i]=d:=λh0=>by
     by_cases h1:l[i].Kind=1/\l[i].Marker.toNat=mk
     · have h2:=hkind1 h1.1;rw[dE_rein h1.1 h1.2];unfold reinS
       grind
     ·exact dE_other h1 (λq=>h0 ⟨q.1,by omega⟩)
    refine sat_of (λy=>zBa) ?_;by_cases hk0:l[i].Kind=0
    case neg =>
     rw[show(l[i].Kind !=0)=true by simpa using hk0,zaV]
     simp_all
    rw[show(l[i].Kind !=0)=false by simpa using hk0,zaz];by_cases hsr:l[i].Stamp.Source=(mk:Int)
    case neg =>
     rw[show(l[i].Stamp.Source !=(mk:Int))=true by simpa using hsr,zaV]
     simp_all
    rw[show(l[i].Stamp.Source !=(mk:Int))=false by simpa using hsr,zaz];have hdm:deskE s mk d l[i]=_:=dE_mark hk0 (by omega);refine sat_of (λy=>zBb) ?_
    cases hsus:w.Suspended with
    |true =>
      simp(disch:=omega)only[zaV,zad,zcf,zah,zaY,zao,zoT,zaa hltv,zae,zgE nBool];have hws':d.watch.Suspended=true:=hw0.trans hsus;have hnl:∀q∈notes,q.2.length<=i+1:=λq hq=>by have:=inv.nlen q hq;omega
      have flag:deskE s mk d l[i]=d->Sat (QX l mk D) (zjf s l mk out.length i (mC out) w (mV notes) good (List.map nBool (void.set i true)) first begin):=λhd=>by refine sat_of (λy=>zjl) ?_;exact go _ _ _ _ _ _ _ _ _ (by omega) (by simp) (inv.next hs hlt hd (inv.wr.flag ha true) (inv.oth.set he hsr true) hnl)
      cases hf:fitS s l[i]with
      |none=>simp_all
      |some q =>
        rw[hf]at hdm;simp only at hdm
        cases hsd:seedS s l[i].Script with
        |none=>rw[hsd]at hdm;simp only[hws']at hdm;refine sat_of (λy=>zjl) ?_;exact go _ _ _ _ _ _ _ _ _ (by omega) (by simp) (inv.next hs hlt hdm (inv.wr.mark ha he hk0 (by omega) true) (inv.oth.set he hsr true) hnl)
        |some sd =>
          rw[hsd]at hdm
          cases hp:s.Papers[q]? with
          |none=>simp_all
          |some p=>rw[hp]at hdm;simp only at hdm;obtain⟨no,hno⟩:=noteS_susp (s:=s) (p:=p) (sd:=sd) (e:=l[i]) hws';rw[hno]at hdm;refine sat_of (λy=>zjl) ?_;exact go _ _ _ _ _ _ _ _ _ (by omega) (by simp) (inv.next hs hlt hdm ((inv.wr.flag ha true).noted hws' no) (inv.oth.set he hsr true) hnl)
    |false =>
      rw[zaz];have hws':d.watch.Suspended=false:=hw0.trans hsus;refine sat_of (λy=>zBc) ?_;rw[zod s.Seeds l[i].Script (by omega) (zyN hs),ziZ]
      have stay2:∀d',deskE s mk d l[i]=d'->WR l mk (i+1) d' good first begin out w void notes->Sat (QX l mk D) (zjY s l mk (mC out) w (mV notes) good (List.map nBool void) out.length first begin i l[i]):=λd' hd hwr=>sat_of (λy=>zyS) (go _ _ _ _ _ _ _ _ _ (by omega) (by simp) (inv.next hs hlt hd hwr inv.oth (λq hq=>by have:=inv.nlen q hq;omega)))
      cases hq:seedOf s.Seeds l[i].Script with
      |none =>
        simp only[seedR,zbe,zaV];have hsS:seedS s l[i].Script=none:=by rw[seedOf_S,hq];rfl
        cases hf:fitS s l[i]with
        |none=>rw[hf]at hdm;exact stay2 _ hdm inv.wr.skip
        |some q=>rw[hf]at hdm;simp only at hdm;rw[hsS]at hdm;simp only[hws']at hdm;have hm:=inv.wr.mark ha he hk0 (by omega) false;rw[inv.late hlt]at hm;exact stay2 _ hdm hm
      |some qy =>
        obtain⟨q,y⟩:=qy;have hsS:seedS s l[i].Script=some y:=by rw[seedOf_S,hq];rfl
        simp only[seedR,zaF,zaz,zAo s hs l[i] hs.short2 hpl,zKA,fits_iff hs hk0]
        cases hf:fitS s l[i]with
        |none=>simp only[zem,zbe,zaV];rw[hf]at hdm;exact stay2 _ hdm inv.wr.skip
        |some k =>
          simp only[zcS,zaF,zaz];obtain⟨x,p,y',f1,_,f3,_⟩:=zqE hf;have hpk:=(zfl f3).1;rw[hf]at hdm;simp only at hdm;rw[hsS,hpk]at hdm;simp only at hdm;have hpo:zfX s l[i].Script=some (k,p):=by unfold zfX;rw[f1];exact f3
          obtain⟨k',p',g1,g2⟩:=seed_judge hs hq
          simp_all
   refine sat_of (λy=>zv3) ?_;rw[zad,zaB (by omega),cPQ,zah,zcs,he,zae];by_cases hk1:l[i].Kind=1
   case neg =>
    rw[show(l[i].Kind==1)=false by simpa using hk1,zaz]
    simp_all
   rw[show(l[i].Kind==1)=true by simpa using hk1,zaV];by_cases hmr:l[i].Marker=(mk:Int)
   case neg =>
    rw[show(l[i].Marker==(mk:Int))=false by simpa using hmr,zaz]
    simp_all
   rw[show(l[i].Marker==(mk:Int))=true by simpa using hmr,zaV]
   cases hsus:w.Suspended with
   |false=>simp_all
   |true =>
     have hws':d.watch.Suspended=true:=hw0.trans hsus;have hon:0<out.length:=by rw[inv.wr.out];exact inv.ok.some hws'
     have hoe:((out.length:Int)-1).toNat=out.length-1:=by omega
     have hol2:out.length-1<out.length:=by omega
     have hwr:=inv.wr.rein ha he hk1 hws'
     have hmod:(out.modify (out.length-1) λx=>{ x with Lifted:=true,Until:=l[i].Stamp })=out.set (out.length-1) { out[out.length-1]with Lifted:=true,Until:=l[i].Stamp }:=by
      apply zcI;intro k;rw[List.getElem?_modify,zfD];by_cases hk:out.length-1=k
      ·grind
      ·simp_all
     rw[hmod]at hwr;simp(disch:=omega)only[zaV,w64_id,hoe,zaY,zao,zpk,zaa hol2,zae,zgE zat,zeq hol2,zad,zeR,zbx,List.set_set];have hfin:=inv.next hs hlt (dE_rein hk1 (by omega)) hwr inv.oth (by simp);refine sat_of (λy=>zjl) ?_;exact go _ _ _ _ _ _ _ [] _ (by omega) (by simp) hfin
theorem c_watch{s:zan}(hs:zb3 s){l:List zac}(hl:l.length<=2000)(hv:∀e∈l,eventB e=true)(ha:l.Pairwise (λa b=>lessS a.Stamp b.Stamp=true)){mk:Nat}(hmk:1<=mk/\mk<=99)(lv:Int):∃void:List Bool,cw zpX [.agg (zas s),.sl 9 (mA l),I (mk:Int)] []=some (zny ((l.foldl (deskE s mk) (desk0 lv)).suspensions,void))/\void.length=l.length/\Oth l mk void/\∀x∈(l.foldl (deskE s mk) (desk0 lv)).marks,∀k:Nat,l[k]?=some x.event->void[k]?=some x.void:=by
 have H:Sat (QX l mk (l.foldl (deskE s mk) (desk0 lv))) (cw zpX [.agg (zas s),.sl 9 (mA l),I (mk:Int)] []):=by refine sat_of (λy=>zHW) ?_;simp(disch:=omega)only[zad,zao,zbx,zah,zxn nBool];exact watchX hs hl hv ha hmk _ l.length 0 (by omega) _ ⟨0,0,0⟩ true 0 [] ⟨[],false⟩ (List.replicate l.length false) [] 0 (zdh _) rfl ⟨WR.zero lv,Oth.zero l mk,DeskOk.zero hs.monitor lv,rfl,by simp⟩
 obtain⟨y,e,v,rfl,h⟩:=H;exact⟨v,e,h⟩
end Go.Proofs.YtlecnobdfhlmnaaGreat
end
