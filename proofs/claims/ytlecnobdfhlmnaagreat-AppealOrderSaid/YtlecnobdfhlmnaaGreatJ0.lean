/- What parts of a body do: printed by a program, checked by the kernel. -/
import Derived.Test.YtlecnobdfhlmnaaGreatXAnn
import Derived.Test.YtlecnobdfhlmnaaGreatAb10
import Derived.Test.YtlecnobdfhlmnaaGreatK4
import Derived.Test.YtlecnobdfhlmnaaGreatAb9
set_option linter.unusedSimpArgs false
set_option linter.unusedVariables false
noncomputable section
namespace Go.Proofs.YtlecnobdfhlmnaaGreat
open Go.Ab
set_option maxRecDepth 100000
theorem w6Q {n:Int} (h1:-9223372036854775808≤n:=by omega) (h2:n < 9223372036854775808:=by omega):w64 n=n:=w64_id h1 h2
theorem iNQ {c:Prop} [Decidable c] {α:Type} {t e:α} (h:¬c:=by omega):ite c t e=e:=if_neg h
theorem iPQ {c:Prop} [Decidable c] {α:Type} {t e:α} (h:c:=by omega):ite c t e=t:=if_pos h
theorem iNs {c:Prop} [Decidable c] {α:Type} {t e:α} (h:¬c:=by simp):ite c t e=e:=if_neg h
theorem cPQ {p:Prop} {β:Type} {x:Option β} (h:p:=by omega):chk p x=x:=zam h x
theorem re0 (r:zaM) (q:za8) (s:zak) (ev:List zab) (l:List zai):tReg za5 zT 0 ⟨[(0,AV.agg [I r.Days,I r.Fails,I r.Tolerance]),(1,AV.agg [B q.Double,I q.Tolerance]),(2,AV.agg [AV.sl 5 (List.map zbh s.Markers),AV.sl 7 (List.map za0 s.Scripts),AV.sl 3 (List.map zaT s.Papers),AV.sl 2 (List.map zbJ s.Schemes),AV.sl 2 (List.map zcd s.Seeds),I s.Monitor.Part,I s.Monitor.Total,I s.Monitor.Window,I s.Monitor.Fails]),(3,AV.sl 9 (List.map zaa ev)),(4,AV.sl 6 (List.map zag l))],[]⟩=(some ⟨[(3,AV.sl 9 (List.map zaa ev)),(4,AV.sl 6 (List.map zag l)),(5,AV.loc 5 3 0 0),(6,AV.loc 6 2 0 0),(7,AV.loc 7 9 0 0)],[(5,⟨3,zaO,[zaP r],true⟩),(6,⟨2,zdD,[zbA q],true⟩),(7,⟨9,zan,[zaj s],true⟩)]⟩):=by kernel_rfl
theorem re1 (r:zaM) (q:za8) (s:zak) (ev:List zab) (l:List zai):tReg za5 zT 1 ⟨[(3,AV.sl 9 (List.map zaa ev)),(4,AV.sl 6 (List.map zag l)),(5,AV.loc 5 3 0 0),(6,AV.loc 6 2 0 0),(7,AV.loc 7 9 0 0)],[(5,⟨3,zaO,[zaP r],true⟩),(6,⟨2,zdD,[zbA q],true⟩),(7,⟨9,zan,[zaj s],true⟩)]⟩=(callD zdm (cw zm1 [AV.agg (zaP r),AV.agg (zbA q),AV.agg (zaj s),AV.sl 9 (List.map zaa ev),AV.sl 6 (List.map zag l)] []) fun (r0:(List Int)×Int)=>some ⟨[(3,AV.sl 9 (List.map zaa ev)),(4,AV.sl 6 (List.map zag l)),(5,AV.loc 5 3 0 0),(7,AV.loc 7 9 0 0),(12,AV.sl 1 (List.map zaf r0.fst)),(13,I r0.snd)],[(5,⟨3,zaO,[zaP r],true⟩),(7,⟨9,zan,[zaj s],true⟩)]⟩):=by kernel_rfl
theorem re2 (r:zaM) (s:zak) (ev:List zab) (l:List zai) (ch:List Int) (e:Int):tReg za5 zT 2 ⟨[(3,AV.sl 9 (List.map zaa ev)),(4,AV.sl 6 (List.map zag l)),(5,AV.loc 5 3 0 0),(7,AV.loc 7 9 0 0),(12,AV.sl 1 (List.map zaf ch)),(13,I e)],[(5,⟨3,zaO,[zaP r],true⟩),(7,⟨9,zan,[zaj s],true⟩)]⟩=(some ⟨[(3,AV.sl 9 (List.map zaa ev)),(4,AV.sl 6 (List.map zag l)),(5,AV.loc 5 3 0 0),(7,AV.loc 7 9 0 0),(12,AV.sl 1 (List.map zaf ch)),(13,I e),(39,B (e != 0))],[(5,⟨3,zaO,[zaP r],true⟩),(7,⟨9,zan,[zaj s],true⟩)]⟩):=by kernel_rfl
theorem re3 (e:Int):tReg za5 zT 3 ⟨[(13,I e)],[]⟩=(some ⟨[(10,AV.v (.slice none 0 0)),(11,I e)],[]⟩):=by kernel_rfl
theorem re4 (r:zaM) (s:zak) (ev:List zab) (l:List zai) (ch:List Int):tReg za5 zT 4 ⟨[(3,AV.sl 9 (List.map zaa ev)),(4,AV.sl 6 (List.map zag l)),(5,AV.loc 5 3 0 0),(7,AV.loc 7 9 0 0),(12,AV.sl 1 (List.map zaf ch))],[(5,⟨3,zaO,[zaP r],true⟩),(7,⟨9,zan,[zaj s],true⟩)]⟩=(callD zdA (cw zcl [AV.sl 6 (List.map zag l)] []) fun (r0:(List zai)×Int)=>some ⟨[(3,AV.sl 9 (List.map zaa ev)),(5,AV.loc 5 3 0 0),(7,AV.loc 7 9 0 0),(12,AV.sl 1 (List.map zaf ch)),(13,I r0.snd),(14,AV.sl 6 (List.map zag r0.fst))],[(5,⟨3,zaO,[zaP r],true⟩),(7,⟨9,zan,[zaj s],true⟩)]⟩):=by kernel_rfl
theorem re5 (r:zaM) (s:zak) (ev:List zab) (ch:List Int) (c:List zai) (e:Int):tReg za5 zT 5 ⟨[(3,AV.sl 9 (List.map zaa ev)),(5,AV.loc 5 3 0 0),(7,AV.loc 7 9 0 0),(12,AV.sl 1 (List.map zaf ch)),(13,I e),(14,AV.sl 6 (List.map zag c))],[(5,⟨3,zaO,[zaP r],true⟩),(7,⟨9,zan,[zaj s],true⟩)]⟩=(some ⟨[(3,AV.sl 9 (List.map zaa ev)),(5,AV.loc 5 3 0 0),(7,AV.loc 7 9 0 0),(12,AV.sl 1 (List.map zaf ch)),(13,I e),(14,AV.sl 6 (List.map zag c)),(47,B (e != 0))],[(5,⟨3,zaO,[zaP r],true⟩),(7,⟨9,zan,[zaj s],true⟩)]⟩):=by kernel_rfl
theorem re7 (r:zaM) (s:zak) (ev:List zab) (ch:List Int) (c:List zai):tReg za5 zT 7 ⟨[(3,AV.sl 9 (List.map zaa ev)),(5,AV.loc 5 3 0 0),(7,AV.loc 7 9 0 0),(12,AV.sl 1 (List.map zaf ch)),(14,AV.sl 6 (List.map zag c))],[(5,⟨3,zaO,[zaP r],true⟩),(7,⟨9,zan,[zaj s],true⟩)]⟩=(callD zjo (cw zcF [AV.agg (zaj s),AV.sl 9 (List.map zaa ev)] []) fun (r0:zaG×Int)=>some ⟨[(3,AV.sl 9 (List.map zaa ev)),(5,AV.loc 5 3 0 0),(7,AV.loc 7 9 0 0),(12,AV.sl 1 (List.map zaf ch)),(13,I r0.snd),(14,AV.sl 6 (List.map zag c)),(15,AV.loc 15 2 0 0)],[(5,⟨3,zaO,[zaP r],true⟩),(7,⟨9,zan,[zaj s],true⟩),(15,⟨2,zal,[zaK r0.fst],true⟩)]⟩):=by kernel_rfl
theorem re8 (r:zaM) (s:zak) (ev:List zab) (ch:List Int) (c:List zai) (m:zaG) (e:Int):tReg za5 zT 8 ⟨[(3,AV.sl 9 (List.map zaa ev)),(5,AV.loc 5 3 0 0),(7,AV.loc 7 9 0 0),(12,AV.sl 1 (List.map zaf ch)),(13,I e),(14,AV.sl 6 (List.map zag c)),(15,AV.loc 15 2 0 0)],[(5,⟨3,zaO,[zaP r],true⟩),(7,⟨9,zan,[zaj s],true⟩),(15,⟨2,zal,[zaK m],true⟩)]⟩=(some ⟨[(3,AV.sl 9 (List.map zaa ev)),(5,AV.loc 5 3 0 0),(7,AV.loc 7 9 0 0),(12,AV.sl 1 (List.map zaf ch)),(13,I e),(14,AV.sl 6 (List.map zag c)),(15,AV.loc 15 2 0 0),(56,B (e != 0))],[(5,⟨3,zaO,[zaP r],true⟩),(7,⟨9,zan,[zaj s],true⟩),(15,⟨2,zal,[zaK m],true⟩)]⟩):=by kernel_rfl
theorem re10 (r:zaM) (s:zak) (ev:List zab) (ch:List Int) (c:List zai) (m:zaG):tReg za5 zT 10 ⟨[(3,AV.sl 9 (List.map zaa ev)),(5,AV.loc 5 3 0 0),(7,AV.loc 7 9 0 0),(12,AV.sl 1 (List.map zaf ch)),(14,AV.sl 6 (List.map zag c)),(15,AV.loc 15 2 0 0)],[(5,⟨3,zaO,[zaP r],true⟩),(7,⟨9,zan,[zaj s],true⟩),(15,⟨2,zal,[zaK m],true⟩)]⟩=(some ⟨[(3,AV.sl 9 (List.map zaa ev)),(5,AV.loc 5 3 0 0),(7,AV.loc 7 9 0 0),(12,AV.sl 1 (List.map zaf ch)),(14,AV.sl 6 (List.map zag c)),(15,AV.loc 15 2 0 0),(16,AV.map 58)],[(5,⟨3,zaO,[zaP r],true⟩),(7,⟨9,zan,[zaj s],true⟩),(15,⟨2,zal,[zaK m],true⟩),(58,⟨0,zaH,[],false⟩)]⟩):=by kernel_rfl
theorem re11 (r:zaM) (s:zak) (ev:List zab) (ch:List Int) (c:List zai) (m:zaG):tReg za5 zT 11 ⟨[(3,AV.sl 9 (List.map zaa ev)),(5,AV.loc 5 3 0 0),(7,AV.loc 7 9 0 0),(12,AV.sl 1 (List.map zaf ch)),(14,AV.sl 6 (List.map zag c)),(15,AV.loc 15 2 0 0),(16,AV.map 58)],[(5,⟨3,zaO,[zaP r],true⟩),(7,⟨9,zan,[zaj s],true⟩),(15,⟨2,zal,[zaK m],true⟩),(58,⟨0,zaH,[],false⟩)]⟩=(some ⟨[(3,AV.sl 9 (List.map zaa ev)),(5,AV.loc 5 3 0 0),(7,AV.loc 7 9 0 0),(12,AV.sl 1 (List.map zaf ch)),(14,AV.sl 6 (List.map zag c)),(15,AV.loc 15 2 0 0),(16,AV.map 58),(17,I 0)],[(5,⟨3,zaO,[zaP r],true⟩),(7,⟨9,zan,[zaj s],true⟩),(15,⟨2,zal,[zaK m],true⟩),(58,⟨0,zaH,[],false⟩)]⟩):=by kernel_rfl
theorem re12 (r:zaM) (s:zak) (ev:List zab) (ch:List Int) (c:List zai) (m:zaG) (g:Int):tReg za5 zT 12 ⟨[(3,AV.sl 9 (List.map zaa ev)),(5,AV.loc 5 3 0 0),(7,AV.loc 7 9 0 0),(12,AV.sl 1 (List.map zaf ch)),(14,AV.sl 6 (List.map zag c)),(15,AV.loc 15 2 0 0),(16,AV.map 58),(17,I g)],[(5,⟨3,zaO,[zaP r],true⟩),(7,⟨9,zan,[zaj s],true⟩),(15,⟨2,zal,[zaK m],true⟩),(58,⟨0,zaH,[],false⟩)]⟩=(some ⟨[(3,AV.sl 9 (List.map zaa ev)),(5,AV.loc 5 3 0 0),(7,AV.loc 7 9 0 0),(12,AV.sl 1 (List.map zaf ch)),(15,AV.loc 15 2 0 0),(16,AV.map 58),(17,I g),(59,AV.sl 6 (List.map zag c)),(60,I ((↑(List.map zag c).length:Int))),(61,I 0)],[(5,⟨3,zaO,[zaP r],true⟩),(7,⟨9,zan,[zaj s],true⟩),(15,⟨2,zal,[zaK m],true⟩),(58,⟨0,zaH,[],false⟩)]⟩):=by kernel_rfl
theorem re13 (r:zaM) (s:zak) (ev:List zab) (ch:List Int) (c:List zai) (m:zaG) (M:List (Int×Int)) (g:Int) (n:Int) (i:Int):tReg za5 zT 13 ⟨[(3,AV.sl 9 (List.map zaa ev)),(5,AV.loc 5 3 0 0),(7,AV.loc 7 9 0 0),(12,AV.sl 1 (List.map zaf ch)),(15,AV.loc 15 2 0 0),(16,AV.map 58),(17,I g),(59,AV.sl 6 (List.map zag c)),(60,I n),(61,I i)],[(5,⟨3,zaO,[zaP r],true⟩),(7,⟨9,zan,[zaj s],true⟩),(15,⟨2,zal,[zaK m],true⟩),(58,⟨0,zaH,List.map zaF M,false⟩)]⟩=(some ⟨[(3,AV.sl 9 (List.map zaa ev)),(5,AV.loc 5 3 0 0),(7,AV.loc 7 9 0 0),(12,AV.sl 1 (List.map zaf ch)),(15,AV.loc 15 2 0 0),(16,AV.map 58),(17,I g),(59,AV.sl 6 (List.map zag c)),(60,I n),(61,I i),(62,B (decide (i < n)))],[(5,⟨3,zaO,[zaP r],true⟩),(7,⟨9,zan,[zaj s],true⟩),(15,⟨2,zal,[zaK m],true⟩),(58,⟨0,zaH,List.map zaF M,false⟩)]⟩):=by kernel_rfl
theorem re14 (r:zaM) (s:zak) (ev:List zab) (ch:List Int) (c:List zai) (m:zaG) (M:List (Int×Int)) (g:Int) (n:Int) (i:Int):tReg za5 zT 14 ⟨[(3,AV.sl 9 (List.map zaa ev)),(5,AV.loc 5 3 0 0),(7,AV.loc 7 9 0 0),(12,AV.sl 1 (List.map zaf ch)),(15,AV.loc 15 2 0 0),(16,AV.map 58),(17,I g),(59,AV.sl 6 (List.map zag c)),(60,I n),(61,I i)],[(5,⟨3,zaO,[zaP r],true⟩),(7,⟨9,zan,[zaj s],true⟩),(15,⟨2,zal,[zaK m],true⟩),(58,⟨0,zaH,List.map zaF M,false⟩)]⟩=(chk ((0:Int)≤i)<|
 elemD zbE (List.map zag c) i.toNat fun (c0:zai) =>
 some ⟨[(3,AV.sl 9 (List.map zaa ev)),(5,AV.loc 5 3 0 0),(7,AV.loc 7 9 0 0),(12,AV.sl 1 (List.map zaf ch)),(15,AV.loc 15 2 0 0),(16,AV.map 58),(17,I g),(19,AV.loc 19 6 0 0),(59,AV.sl 6 (List.map zag c)),(60,I n),(61,I i)],[(5,⟨3,zaO,[zaP r],true⟩),(7,⟨9,zan,[zaj s],true⟩),(15,⟨2,zal,[zaK m],true⟩),(19,⟨6,zaA,[zag c0],true⟩),(58,⟨0,zaH,List.map zaF M,false⟩)]⟩):=by kernel_rfl
theorem re15 (r:zaM) (s:zak) (ev:List zab) (ch:List Int) (c:List zai) (m:zaG) (M:List (Int×Int)) (g:Int) (n:Int) (i:Int) (x:zai):tReg za5 zT 15 ⟨[(3,AV.sl 9 (List.map zaa ev)),(5,AV.loc 5 3 0 0),(7,AV.loc 7 9 0 0),(12,AV.sl 1 (List.map zaf ch)),(15,AV.loc 15 2 0 0),(16,AV.map 58),(17,I g),(19,AV.loc 19 6 0 0),(59,AV.sl 6 (List.map zag c)),(60,I n),(61,I i)],[(5,⟨3,zaO,[zaP r],true⟩),(7,⟨9,zan,[zaj s],true⟩),(15,⟨2,zal,[zaK m],true⟩),(19,⟨6,zaA,[zag x],true⟩),(58,⟨0,zaH,List.map zaF M,false⟩)]⟩=(some ⟨[(3,AV.sl 9 (List.map zaa ev)),(5,AV.loc 5 3 0 0),(7,AV.loc 7 9 0 0),(12,AV.sl 1 (List.map zaf ch)),(15,AV.loc 15 2 0 0),(16,AV.map 58),(17,I (if x.Stamp.Time > g then x.Stamp.Time else g)),(19,AV.loc 19 6 0 0),(59,AV.sl 6 (List.map zag c)),(60,I n),(61,I i)],[(5,⟨3,zaO,[zaP r],true⟩),(7,⟨9,zan,[zaj s],true⟩),(15,⟨2,zal,[zaK m],true⟩),(19,⟨6,zaA,[zag x],true⟩),(58,⟨0,zaH,List.map zaF M,false⟩)]⟩):=by kernel_rfl
theorem re16 (r:zaM) (s:zak) (ev:List zab) (ch:List Int) (c:List zai) (m:zaG) (M:List (Int×Int)) (g:Int) (n:Int) (i:Int) (x:zai):tReg za5 zT 16 ⟨[(3,AV.sl 9 (List.map zaa ev)),(5,AV.loc 5 3 0 0),(7,AV.loc 7 9 0 0),(12,AV.sl 1 (List.map zaf ch)),(15,AV.loc 15 2 0 0),(16,AV.map 58),(17,I g),(19,AV.loc 19 6 0 0),(59,AV.sl 6 (List.map zag c)),(60,I n),(61,I i)],[(5,⟨3,zaO,[zaP r],true⟩),(7,⟨9,zan,[zaj s],true⟩),(15,⟨2,zal,[zaK m],true⟩),(19,⟨6,zaA,[zag x],true⟩),(58,⟨0,zaH,List.map zaF M,false⟩)]⟩=(callD zdg (cw zhq [AV.agg (zaj s),AV.agg (zaK m),AV.agg (zag x)] []) fun (r0:(List Int))=>some ⟨[(3,AV.sl 9 (List.map zaa ev)),(5,AV.loc 5 3 0 0),(7,AV.loc 7 9 0 0),(12,AV.sl 1 (List.map zaf ch)),(15,AV.loc 15 2 0 0),(16,AV.map 58),(17,I g),(19,AV.loc 19 6 0 0),(59,AV.sl 6 (List.map zag c)),(60,I n),(61,I i),(73,AV.sl 1 (List.map zaf r0)),(74,I ((↑(List.map zaf r0).length:Int))),(75,I 0)],[(5,⟨3,zaO,[zaP r],true⟩),(7,⟨9,zan,[zaj s],true⟩),(15,⟨2,zal,[zaK m],true⟩),(19,⟨6,zaA,[zag x],true⟩),(58,⟨0,zaH,List.map zaF M,false⟩)]⟩):=by kernel_rfl
theorem re17 (r:zaM) (s:zak) (ev:List zab) (ch:List Int) (c:List zai) (m:zaG) (M:List (Int×Int)) (g:Int) (n:Int) (i:Int) (x:zai) (sc:List Int) (k:Int) (j:Int):tReg za5 zT 17 ⟨[(3,AV.sl 9 (List.map zaa ev)),(5,AV.loc 5 3 0 0),(7,AV.loc 7 9 0 0),(12,AV.sl 1 (List.map zaf ch)),(15,AV.loc 15 2 0 0),(16,AV.map 58),(17,I g),(19,AV.loc 19 6 0 0),(59,AV.sl 6 (List.map zag c)),(60,I n),(61,I i),(73,AV.sl 1 (List.map zaf sc)),(74,I k),(75,I j)],[(5,⟨3,zaO,[zaP r],true⟩),(7,⟨9,zan,[zaj s],true⟩),(15,⟨2,zal,[zaK m],true⟩),(19,⟨6,zaA,[zag x],true⟩),(58,⟨0,zaH,List.map zaF M,false⟩)]⟩=(some ⟨[(3,AV.sl 9 (List.map zaa ev)),(5,AV.loc 5 3 0 0),(7,AV.loc 7 9 0 0),(12,AV.sl 1 (List.map zaf ch)),(15,AV.loc 15 2 0 0),(16,AV.map 58),(17,I g),(19,AV.loc 19 6 0 0),(59,AV.sl 6 (List.map zag c)),(60,I n),(61,I i),(73,AV.sl 1 (List.map zaf sc)),(74,I k),(75,I j),(76,B (decide (j < k)))],[(5,⟨3,zaO,[zaP r],true⟩),(7,⟨9,zan,[zaj s],true⟩),(15,⟨2,zal,[zaK m],true⟩),(19,⟨6,zaA,[zag x],true⟩),(58,⟨0,zaH,List.map zaF M,false⟩)]⟩):=by kernel_rfl
theorem re18 (r:zaM) (s:zak) (ev:List zab) (ch:List Int) (c:List zai) (m:zaG) (M:List (Int×Int)) (g:Int) (n:Int) (i:Int) (x:zai) (sc:List Int) (k:Int) (j:Int):tReg za5 zT 18 ⟨[(3,AV.sl 9 (List.map zaa ev)),(5,AV.loc 5 3 0 0),(7,AV.loc 7 9 0 0),(12,AV.sl 1 (List.map zaf ch)),(15,AV.loc 15 2 0 0),(16,AV.map 58),(17,I g),(19,AV.loc 19 6 0 0),(59,AV.sl 6 (List.map zag c)),(60,I n),(61,I i),(73,AV.sl 1 (List.map zaf sc)),(74,I k),(75,I j)],[(5,⟨3,zaO,[zaP r],true⟩),(7,⟨9,zan,[zaj s],true⟩),(15,⟨2,zal,[zaK m],true⟩),(19,⟨6,zaA,[zag x],true⟩),(58,⟨0,zaH,List.map zaF M,false⟩)]⟩=(chk ((0:Int)≤j)<|
 elemD zbi (List.map zaf sc) j.toNat fun (c0:Int) =>
 some ⟨[(3,AV.sl 9 (List.map zaa ev)),(5,AV.loc 5 3 0 0),(7,AV.loc 7 9 0 0),(12,AV.sl 1 (List.map zaf ch)),(15,AV.loc 15 2 0 0),(16,AV.map 58),(17,I g),(19,AV.loc 19 6 0 0),(21,I c0),(59,AV.sl 6 (List.map zag c)),(60,I n),(61,I i),(73,AV.sl 1 (List.map zaf sc)),(74,I k),(75,I j)],[(5,⟨3,zaO,[zaP r],true⟩),(7,⟨9,zan,[zaj s],true⟩),(15,⟨2,zal,[zaK m],true⟩),(19,⟨6,zaA,[zag x],true⟩),(58,⟨0,zaH,List.map zaF M,false⟩)]⟩):=by kernel_rfl
theorem re19 (r:zaM) (s:zak) (ev:List zab) (ch:List Int) (c:List zai) (m:zaG) (M:List (Int×Int)) (g:Int) (n:Int) (i:Int) (x:zai) (sc:List Int) (k:Int) (j:Int) (y:Int):tReg za5 zT 19 ⟨[(3,AV.sl 9 (List.map zaa ev)),(5,AV.loc 5 3 0 0),(7,AV.loc 7 9 0 0),(12,AV.sl 1 (List.map zaf ch)),(15,AV.loc 15 2 0 0),(16,AV.map 58),(17,I g),(19,AV.loc 19 6 0 0),(21,I y),(59,AV.sl 6 (List.map zag c)),(60,I n),(61,I i),(73,AV.sl 1 (List.map zaf sc)),(74,I k),(75,I j)],[(5,⟨3,zaO,[zaP r],true⟩),(7,⟨9,zan,[zaj s],true⟩),(15,⟨2,zal,[zaK m],true⟩),(19,⟨6,zaA,[zag x],true⟩),(58,⟨0,zaH,List.map zaF M,false⟩)]⟩=(callD zer (cw zfl [AV.map 1000,I y,I x.Stamp.Time] [(1000,⟨0,zaH,List.map zaF M,false⟩)]) fun (r0:(List (Int×Int)))=>some ⟨[(3,AV.sl 9 (List.map zaa ev)),(5,AV.loc 5 3 0 0),(7,AV.loc 7 9 0 0),(12,AV.sl 1 (List.map zaf ch)),(15,AV.loc 15 2 0 0),(16,AV.map 58),(17,I g),(19,AV.loc 19 6 0 0),(59,AV.sl 6 (List.map zag c)),(60,I n),(61,I i),(73,AV.sl 1 (List.map zaf sc)),(74,I k),(75,I j)],[(5,⟨3,zaO,[zaP r],true⟩),(7,⟨9,zan,[zaj s],true⟩),(15,⟨2,zal,[zaK m],true⟩),(19,⟨6,zaA,[zag x],true⟩),(58,⟨0,zaH,List.map zaF r0,false⟩)]⟩):=by kernel_rfl
theorem re20 (r:zaM) (s:zak) (ev:List zab) (ch:List Int) (c:List zai) (m:zaG) (M:List (Int×Int)) (g:Int) (n:Int) (i:Int) (x:zai) (sc:List Int) (k:Int) (j:Int):tReg za5 zT 20 ⟨[(3,AV.sl 9 (List.map zaa ev)),(5,AV.loc 5 3 0 0),(7,AV.loc 7 9 0 0),(12,AV.sl 1 (List.map zaf ch)),(15,AV.loc 15 2 0 0),(16,AV.map 58),(17,I g),(19,AV.loc 19 6 0 0),(59,AV.sl 6 (List.map zag c)),(60,I n),(61,I i),(73,AV.sl 1 (List.map zaf sc)),(74,I k),(75,I j)],[(5,⟨3,zaO,[zaP r],true⟩),(7,⟨9,zan,[zaj s],true⟩),(15,⟨2,zal,[zaK m],true⟩),(19,⟨6,zaA,[zag x],true⟩),(58,⟨0,zaH,List.map zaF M,false⟩)]⟩=(some ⟨[(3,AV.sl 9 (List.map zaa ev)),(5,AV.loc 5 3 0 0),(7,AV.loc 7 9 0 0),(12,AV.sl 1 (List.map zaf ch)),(15,AV.loc 15 2 0 0),(16,AV.map 58),(17,I g),(19,AV.loc 19 6 0 0),(59,AV.sl 6 (List.map zag c)),(60,I n),(61,I i),(73,AV.sl 1 (List.map zaf sc)),(74,I k),(75,I (w64 (j+1)))],[(5,⟨3,zaO,[zaP r],true⟩),(7,⟨9,zan,[zaj s],true⟩),(15,⟨2,zal,[zaK m],true⟩),(19,⟨6,zaA,[zag x],true⟩),(58,⟨0,zaH,List.map zaF M,false⟩)]⟩):=by kernel_rfl
theorem re21 (r:zaM) (s:zak) (ev:List zab) (ch:List Int) (c:List zai) (m:zaG) (M:List (Int×Int)) (g:Int) (n:Int) (i:Int):tReg za5 zT 21 ⟨[(3,AV.sl 9 (List.map zaa ev)),(5,AV.loc 5 3 0 0),(7,AV.loc 7 9 0 0),(12,AV.sl 1 (List.map zaf ch)),(15,AV.loc 15 2 0 0),(16,AV.map 58),(17,I g),(59,AV.sl 6 (List.map zag c)),(60,I n),(61,I i)],[(5,⟨3,zaO,[zaP r],true⟩),(7,⟨9,zan,[zaj s],true⟩),(15,⟨2,zal,[zaK m],true⟩),(58,⟨0,zaH,List.map zaF M,false⟩)]⟩=(some ⟨[(3,AV.sl 9 (List.map zaa ev)),(5,AV.loc 5 3 0 0),(7,AV.loc 7 9 0 0),(12,AV.sl 1 (List.map zaf ch)),(15,AV.loc 15 2 0 0),(16,AV.map 58),(17,I g),(59,AV.sl 6 (List.map zag c)),(60,I n),(61,I (w64 (i+1)))],[(5,⟨3,zaO,[zaP r],true⟩),(7,⟨9,zan,[zaj s],true⟩),(15,⟨2,zal,[zaK m],true⟩),(58,⟨0,zaH,List.map zaF M,false⟩)]⟩):=by kernel_rfl
theorem re22 (r:zaM) (s:zak) (ev:List zab) (ch:List Int) (c:List zai) (m:zaG) (M:List (Int×Int)) (g:Int):tReg za5 zT 22 ⟨[(3,AV.sl 9 (List.map zaa ev)),(5,AV.loc 5 3 0 0),(7,AV.loc 7 9 0 0),(12,AV.sl 1 (List.map zaf ch)),(15,AV.loc 15 2 0 0),(16,AV.map 58),(17,I g)],[(5,⟨3,zaO,[zaP r],true⟩),(7,⟨9,zan,[zaj s],true⟩),(15,⟨2,zal,[zaK m],true⟩),(58,⟨0,zaH,List.map zaF M,false⟩)]⟩=(callD zeH (cw zlX [AV.agg (zaj s)] []) fun (r0:(List (Int×Bool)))=>some ⟨[(3,AV.sl 9 (List.map zaa ev)),(5,AV.loc 5 3 0 0),(7,AV.loc 7 9 0 0),(12,AV.sl 1 (List.map zaf ch)),(15,AV.loc 15 2 0 0),(16,AV.map 58),(17,I g),(22,AV.map 88)],[(5,⟨3,zaO,[zaP r],true⟩),(7,⟨9,zan,[zaj s],true⟩),(15,⟨2,zal,[zaK m],true⟩),(58,⟨0,zaH,List.map zaF M,false⟩),(88,⟨0,zbo,List.map za4 r0,false⟩)]⟩):=by kernel_rfl
theorem re23 (r:zaM) (s:zak) (ev:List zab) (ch:List Int) (c:List zai) (m:zaG) (M:List (Int×Int)) (g:Int) (sd:List (Int×Bool)):tReg za5 zT 23 ⟨[(3,AV.sl 9 (List.map zaa ev)),(5,AV.loc 5 3 0 0),(7,AV.loc 7 9 0 0),(12,AV.sl 1 (List.map zaf ch)),(15,AV.loc 15 2 0 0),(16,AV.map 58),(17,I g),(22,AV.map 88)],[(5,⟨3,zaO,[zaP r],true⟩),(7,⟨9,zan,[zaj s],true⟩),(15,⟨2,zal,[zaK m],true⟩),(58,⟨0,zaH,List.map zaF M,false⟩),(88,⟨0,zbo,List.map za4 sd,false⟩)]⟩=(callD zfb (cw znO [AV.agg (zaP r),AV.agg (zaj s),AV.agg (zaK m),AV.sl 1 (List.map zaf ch)] []) fun (r0:(List Int))=>some ⟨[(3,AV.sl 9 (List.map zaa ev)),(15,AV.loc 15 2 0 0),(16,AV.map 58),(17,I g),(22,AV.map 88),(93,AV.row 93 1 0 (List.length (List.map zaf r0))),(94,I ((↑(List.map zaf r0).length:Int))),(95,I 0)],[(15,⟨2,zal,[zaK m],true⟩),(58,⟨0,zaH,List.map zaF M,false⟩),(88,⟨0,zbo,List.map za4 sd,false⟩),(93,⟨1,zbK,List.map zaf r0,false⟩)]⟩):=by kernel_rfl
theorem re24 (ev:List zab) (m:zaG) (M:List (Int×Int)) (g:Int) (sd:List (Int×Bool)) (bl:List Int) (n:Int) (i:Int):tReg za5 zT 24 ⟨[(3,AV.sl 9 (List.map zaa ev)),(15,AV.loc 15 2 0 0),(16,AV.map 58),(17,I g),(22,AV.map 88),(93,AV.row 93 1 0 (List.length (List.map zaf bl))),(94,I n),(95,I i)],[(15,⟨2,zal,[zaK m],true⟩),(58,⟨0,zaH,List.map zaF M,false⟩),(88,⟨0,zbo,List.map za4 sd,false⟩),(93,⟨1,zbK,List.map zaf bl,false⟩)]⟩=(some ⟨[(3,AV.sl 9 (List.map zaa ev)),(15,AV.loc 15 2 0 0),(16,AV.map 58),(17,I g),(22,AV.map 88),(93,AV.row 93 1 0 (List.length (List.map zaf bl))),(94,I n),(95,I i),(96,B (decide (i < n)))],[(15,⟨2,zal,[zaK m],true⟩),(58,⟨0,zaH,List.map zaF M,false⟩),(88,⟨0,zbo,List.map za4 sd,false⟩),(93,⟨1,zbK,List.map zaf bl,false⟩)]⟩):=by kernel_rfl
theorem re25 (ev:List zab) (m:zaG) (M:List (Int×Int)) (g:Int) (sd:List (Int×Bool)) (bl:List Int) (n:Int) (i:Int):tReg za5 zT 25 ⟨[(3,AV.sl 9 (List.map zaa ev)),(15,AV.loc 15 2 0 0),(16,AV.map 58),(17,I g),(22,AV.map 88),(93,AV.row 93 1 0 (List.length (List.map zaf bl))),(94,I n),(95,I i)],[(15,⟨2,zal,[zaK m],true⟩),(58,⟨0,zaH,List.map zaF M,false⟩),(88,⟨0,zbo,List.map za4 sd,false⟩),(93,⟨1,zbK,List.map zaf bl,false⟩)]⟩=(chk ((0:Int)≤i)<|
 chk ((i:Int) < ((↑(List.map zaf bl).length:Int)))<|
 elemD zbi (List.map zaf bl) (0+i.toNat) fun (c0:Int) =>
 some ⟨[(3,AV.sl 9 (List.map zaa ev)),(15,AV.loc 15 2 0 0),(16,AV.map 58),(17,I g),(22,AV.map 88),(24,I c0),(93,AV.row 93 1 0 (List.length (List.map zaf bl))),(94,I n),(95,I i)],[(15,⟨2,zal,[zaK m],true⟩),(58,⟨0,zaH,List.map zaF M,false⟩),(88,⟨0,zbo,List.map za4 sd,false⟩),(93,⟨1,zbK,List.map zaf bl,false⟩)]⟩):=by kernel_rfl
theorem re26 (ev:List zab) (m:zaG) (M:List (Int×Int)) (g:Int) (sd:List (Int×Bool)) (bl:List Int) (n:Int) (i:Int) (id:Int):tSeg za5 zT 26 0 3 ⟨[(3,AV.sl 9 (List.map zaa ev)),(15,AV.loc 15 2 0 0),(16,AV.map 58),(17,I g),(22,AV.map 88),(24,I id),(93,AV.row 93 1 0 (List.length (List.map zaf bl))),(94,I n),(95,I i)],[(15,⟨2,zal,[zaK m],true⟩),(58,⟨0,zaH,List.map zaF M,false⟩),(88,⟨0,zbo,List.map za4 sd,false⟩),(93,⟨1,zbK,List.map zaf bl,false⟩)]⟩=(callD zeH (cw zg5 [AV.agg (zaK m),I id] []) fun (r0:(List (Int×Bool)))=>some ⟨[(101,AV.map 101),(100,I id),(99,AV.agg [AV.sl 8 (List.map za7 m.Given),AV.sl 12 (List.map zao m.Suspensions)]),(3,AV.sl 9 (List.map zaa ev)),(15,AV.loc 15 2 0 0),(16,AV.map 58),(17,I g),(22,AV.map 88),(24,I id),(93,AV.row 93 1 0 (List.length (List.map zaf bl))),(94,I n),(95,I i)],[(101,⟨0,zbo,List.map za4 r0,false⟩),(15,⟨2,zal,[zaK m],true⟩),(58,⟨0,zaH,List.map zaF M,false⟩),(88,⟨0,zbo,List.map za4 sd,false⟩),(93,⟨1,zbK,List.map zaf bl,false⟩)]⟩):=by kernel_rfl
theorem re28 (ev:List zab) (m:zaG) (M:List (Int×Int)) (g:Int) (sd:List (Int×Bool)) (bl:List Int) (n:Int) (i:Int) (p:Addr) (k:Int) (v:Bool):tSeg za5 zT 28 1 2 ⟨[(3,AV.sl 9 (List.map zaa ev)),(15,AV.loc 15 2 0 0),(16,AV.map 58),(17,I g),(22,AV.map 88),(93,AV.row 93 1 0 (List.length (List.map zaf bl))),(94,I n),(95,I i),(102,AV.v (.pointer (some p))),(105,AV.tup [I k,B v])],[(15,⟨2,zal,[zaK m],true⟩),(58,⟨0,zaH,List.map zaF M,false⟩),(88,⟨0,zbo,List.map za4 sd,false⟩),(93,⟨1,zbK,List.map zaf bl,false⟩)]⟩=(some ⟨[(25,I k),(106,I k),(3,AV.sl 9 (List.map zaa ev)),(15,AV.loc 15 2 0 0),(16,AV.map 58),(17,I g),(22,AV.map 88),(93,AV.row 93 1 0 (List.length (List.map zaf bl))),(94,I n),(95,I i),(102,AV.v (.pointer (some p))),(105,AV.tup [I k,B v])],[(15,⟨2,zal,[zaK m],true⟩),(58,⟨0,zaH,List.map zaF M,false⟩),(88,⟨0,zbo,List.map za4 sd,false⟩),(93,⟨1,zbK,List.map zaf bl,false⟩)]⟩):=by kernel_rfl
theorem re29 (ev:List zab) (m:zaG) (M:List (Int×Int)) (g:Int) (sd:List (Int×Bool)) (bl:List Int) (n:Int) (i:Int) (p:Addr) (k:Int):tReg za5 zT 29 ⟨[(3,AV.sl 9 (List.map zaa ev)),(15,AV.loc 15 2 0 0),(16,AV.map 58),(17,I g),(22,AV.map 88),(25,I k),(93,AV.row 93 1 0 (List.length (List.map zaf bl))),(94,I n),(95,I i),(102,AV.v (.pointer (some p)))],[(15,⟨2,zal,[zaK m],true⟩),(58,⟨0,zaH,List.map zaF M,false⟩),(88,⟨0,zbo,List.map za4 sd,false⟩),(93,⟨1,zbK,List.map zaf bl,false⟩)]⟩=(mapD zP 3 false dBool (B false) (List.map za4 sd) (I k) fun (c0:Bool) (b1:Bool)=>some ⟨[(3,AV.sl 9 (List.map zaa ev)),(15,AV.loc 15 2 0 0),(16,AV.map 58),(17,I g),(22,AV.map 88),(25,I k),(93,AV.row 93 1 0 (List.length (List.map zaf bl))),(94,I n),(95,I i),(102,AV.v (.pointer (some p))),(110,B (!c0))],[(15,⟨2,zal,[zaK m],true⟩),(58,⟨0,zaH,List.map zaF M,false⟩),(88,⟨0,zbo,List.map za4 sd,false⟩),(93,⟨1,zbK,List.map zaf bl,false⟩)]⟩):=by kernel_rfl
theorem re30 (ev:List zab) (m:zaG) (M:List (Int×Int)) (g:Int) (sd:List (Int×Bool)) (bl:List Int) (n:Int) (i:Int) (p:Addr) (k:Int):tReg za5 zT 30 ⟨[(3,AV.sl 9 (List.map zaa ev)),(15,AV.loc 15 2 0 0),(16,AV.map 58),(17,I g),(22,AV.map 88),(25,I k),(93,AV.row 93 1 0 (List.length (List.map zaf bl))),(94,I n),(95,I i),(102,AV.v (.pointer (some p)))],[(15,⟨2,zal,[zaK m],true⟩),(58,⟨0,zaH,List.map zaF M,false⟩),(88,⟨0,zbo,List.map za4 sd,false⟩),(93,⟨1,zbK,List.map zaf bl,false⟩)]⟩=(callD zer (cw zfl [AV.map 1000,I k,I g] [(1000,⟨0,zaH,List.map zaF M,false⟩)]) fun (r0:(List (Int×Int)))=>some ⟨[(3,AV.sl 9 (List.map zaa ev)),(15,AV.loc 15 2 0 0),(16,AV.map 58),(17,I g),(22,AV.map 88),(93,AV.row 93 1 0 (List.length (List.map zaf bl))),(94,I n),(95,I i),(102,AV.v (.pointer (some p)))],[(15,⟨2,zal,[zaK m],true⟩),(58,⟨0,zaH,List.map zaF r0,false⟩),(88,⟨0,zbo,List.map za4 sd,false⟩),(93,⟨1,zbK,List.map zaf bl,false⟩)]⟩):=by kernel_rfl
theorem re31 (ev:List zab) (m:zaG) (M:List (Int×Int)) (g:Int) (sd:List (Int×Bool)) (bl:List Int) (n:Int) (i:Int):tReg za5 zT 31 ⟨[(3,AV.sl 9 (List.map zaa ev)),(15,AV.loc 15 2 0 0),(16,AV.map 58),(17,I g),(22,AV.map 88),(93,AV.row 93 1 0 (List.length (List.map zaf bl))),(94,I n),(95,I i)],[(15,⟨2,zal,[zaK m],true⟩),(58,⟨0,zaH,List.map zaF M,false⟩),(88,⟨0,zbo,List.map za4 sd,false⟩),(93,⟨1,zbK,List.map zaf bl,false⟩)]⟩=(some ⟨[(3,AV.sl 9 (List.map zaa ev)),(15,AV.loc 15 2 0 0),(16,AV.map 58),(17,I g),(22,AV.map 88),(93,AV.row 93 1 0 (List.length (List.map zaf bl))),(94,I n),(95,I (w64 (i+1)))],[(15,⟨2,zal,[zaK m],true⟩),(58,⟨0,zaH,List.map zaF M,false⟩),(88,⟨0,zbo,List.map za4 sd,false⟩),(93,⟨1,zbK,List.map zaf bl,false⟩)]⟩):=by kernel_rfl
theorem re32 (ev:List zab) (M:List (Int×Int)):tReg za5 zT 32 ⟨[(3,AV.sl 9 (List.map zaa ev)),(16,AV.map 58)],[(58,⟨0,zaH,List.map zaF M,false⟩)]⟩=(callD zfa (cw zdU [AV.mp (List.map zaF M)] []) fun (r0:(List zab))=>some ⟨[(3,AV.sl 9 (List.map zaa ev)),(26,AV.sl 9 (List.map zaa r0))],[]⟩):=by kernel_rfl
theorem re33 (ev:List zab) (o:List zab):tReg za5 zT 33 ⟨[(3,AV.sl 9 (List.map zaa ev)),(26,AV.sl 9 (List.map zaa o))],[]⟩=(callD zfa (cw zmP [AV.sl 9 (List.map zaa ev),AV.sl 9 (List.map zaa o)] []) fun (r0:(List zab)) =>
 callD zdq (cw zbG [AV.sl 9 (List.map zaa r0)] []) fun (r1:(List zab)×Int) =>
 some ⟨[(26,AV.sl 9 (List.map zaa o)),(28,I r1.snd)],[]⟩):=by kernel_rfl
theorem re34 (o:List zab) (e:Int):tReg za5 zT 34 ⟨[(26,AV.sl 9 (List.map zaa o)),(28,I e)],[]⟩=(some ⟨[(26,AV.sl 9 (List.map zaa o)),(28,I e),(126,B (e != 0))],[]⟩):=by kernel_rfl
theorem re36 (o:List zab):tReg za5 zT 36 ⟨[(26,AV.sl 9 (List.map zaa o))],[]⟩=(some ⟨[(10,AV.sl 9 (List.map zaa o)),(11,I 0)],[]⟩):=by kernel_rfl
theorem zbN {p:Prop} (h:p):dec p=true:=by unfold dec; simp [h]
theorem zbY {p:Prop} (h:¬p):dec p=false:=by unfold dec; simp [h]
theorem zje {p q:Prop} (h:p↔q):dec p=dec q:=by rw [propext h]
theorem zlg {b:Bool} {p:Prop} (h:b=true↔p):b=dec p:=by
 by_cases hp:p
 · rw [zbN hp]; exact h.2 hp
 · rw [zbY hp]; cases b with
   | true=>exact absurd (h.1 rfl) hp
   | false=>rfl
theorem zfi {β:Type} (b:Bool) (t e:Option β):brn b t e=if b=true then t else e:=by cases b <;> rfl
variable {α β:Type}
theorem zcn (l:List α) (P:Int→List α→Prop) (h0:P l.length [])
  (hs:∀ (i:Nat) (hi:i < l.length) (r:List α),l.drop (i+1)=r→P ((i:Int)+1) r→P i (l[i] :: r)):P 0 l:=by
 have key:∀ (n i:Nat),i+n=l.length→P (i:Int) (l.drop i):=by
  intro n
  induction n with
  | zero=>intro i hi; have:l.drop i=[]:=List.drop_eq_nil_of_le (by omega); rw [this,show i=l.length by omega]; exact h0
  | succ n ih =>
    intro i hi; have hlt:i < l.length:=by omega
    rw [zhX hlt]; have:=ih (i+1) (by omega); rw [zov] at this; exact hs i hlt _ rfl this
 have:=key l.length 0 (by omega); simpa using this
theorem zqE (n:Nat) (G:∀ j,j < n→Prop) (K:Int→Option β) (S:β→Prop) (z:β) (h0:(∀ j hj,G j hj)→K n=some z)
  (hno:∀ (i:Nat) (hi:i < n),(∀ j (hj:j < i),G j (by omega))→¬ G i hi→∃ y,S y∧K i=some y) (hyes:∀ (i:Nat) (hi:i < n) (y:β),G i hi→K ((i:Int)+1)=some y→K i=some y):((∀ j hj,G j hj)∧K 0=some z)∨((∃ j hj,¬ G j hj)∧∃ y,S y∧K 0=some y):=by
 have key:∀ (m i:Nat),i+m=n→(∀ j (hj:j < i) (hn:j < n),G j hn)→((∀ j hj,i≤j→G j hj)∧K (i:Int)=some z)∨((∃ j hj,¬ G j hj)∧∃ y,S y∧K (i:Int)=some y):=by
  intro m
  induction m with
  | zero=>intro i hi hpre; left; refine ⟨fun j hj h=>by omega,?_⟩; rw [show i=n by omega,h0 (fun j hj=>hpre j (by omega) hj)]
  | succ m ih =>
    intro i hi hpre; by_cases hg:G i (by omega)
    · have:=ih (i+1) (by omega) (fun j hj hn=>by
       by_cases e:j=i
       · subst e; exact hg
       · exact hpre j (by omega) hn)
      rw [zov] at this; rcases this with ⟨h1,h2⟩ | ⟨h1,y,h2,h3⟩
      · left; refine ⟨fun j hj h=>?_,hyes i (by omega) z hg h2⟩; by_cases e:j=i
        · subst e; exact hg
        · exact h1 j hj (by omega)
      · exact .inr ⟨h1,y,h2,hyes i (by omega) y hg h3⟩
    · exact .inr ⟨⟨i,by omega,hg⟩,hno i (by omega) (fun j hj=>hpre j hj _) hg⟩
 rcases key n 0 (by omega) (fun j hj=>by omega) with ⟨h1,h2⟩ | h
 · exact .inl ⟨fun j hj=>h1 j hj (zfQ _),h2⟩
 · exact .inr h
theorem zlc (n:Nat) (G:∀ j,j < n→Prop) (K:Int→Option β) (q:Bool→β) (h0:K n=some (q true))
  (hno:∀ (i:Nat) (hi:i < n),¬ G i hi→K i=some (q false)) (hyes:∀ (i:Nat) (hi:i < n) (y:β),G i hi→K ((i:Int)+1)=some y→K i=some y):K 0=some (q (dec (∀ j hj,G j hj))):=by
 rcases zqE n G K (fun x=>x=q false) (q true) (fun _=>h0) (fun i hi _ h=>⟨_,rfl,hno i hi h⟩) hyes with ⟨h1,h2⟩ | ⟨⟨j,hj,h1⟩,y,rfl,h2⟩
 · rw [h2,zbN h1]
 · rw [h2,zbY (fun h=>h1 (h j hj))]
theorem all_err (n:Nat) (G:∀ j,j < n→Prop) (K:Int→Option β) (q:Int→β) (h0:K n=some (q 0))
  (hno:∀ (i:Nat) (hi:i < n),¬ G i hi→∃ e,e≠0∧K i=some (q e)) (hyes:∀ (i:Nat) (hi:i < n) (y:β),G i hi→K ((i:Int)+1)=some y→K i=some y):∃ e,K 0=some (q e)∧(e=0↔∀ j hj,G j hj):=by
 rcases zqE n G K (fun x=>∃ e,e≠0∧x=q e) (q 0) (fun _=>h0) (fun i hi _ h=>by obtain ⟨e,h1,h2⟩:=hno i hi h; exact ⟨_,⟨e,h1,rfl⟩,h2⟩) hyes with ⟨h1,h2⟩ | ⟨⟨j,hj,h1⟩,y,⟨e,h2,rfl⟩,h3⟩
 · exact ⟨0,h2,by simp; exact h1⟩
 · exact ⟨e,h3,fun h=>absurd h h2,fun h=>absurd (h j hj) h1⟩
theorem all_from (s n:Nat) (hs:s≤n) (G:∀ j,s≤j→j < n→Prop) (K:Int→Option β) (q:Bool→β) (h0:K n=some (q true))
  (hno:∀ (i:Nat) (hs:s≤i) (hi:i < n),¬ G i hs hi→K i=some (q false)) (hyes:∀ (i:Nat) (hs:s≤i) (hi:i < n) (y:β),G i hs hi→K ((i:Int)+1)=some y→K i=some y):K s=some (q (dec (∀ j hs hj,G j hs hj))):=by
 have h:=zlc (n - s) (fun j hj=>G (s+j) (by omega) (by omega)) (fun i=>K (s+i)) q (by rw [show ((s:Int)+((n - s:Nat):Int))=n by omega]; exact h0)
  (fun i hi hg=>by have:=hno (s+i) (by omega) (by omega) hg; rw [zov] at this; exact this)
  (fun i hi y hg hk=>by
   have:=hyes (s+i) (by omega) (by omega) y hg (by rw [zov,Int.add_assoc]; exact hk)
   rw [zov] at this; exact this)
 rw [Int.add_zero] at h; rw [h]; congr 2; refine zje ⟨fun h j h1 h2=>?_,fun h j hj=>h (s+j) (by omega) (by omega)⟩; have:=h (j - s) (by omega); simpa only [show s+(j - s)=j by omega] using this
theorem zqF {l:List α} {G:α→Prop}:(∀ j (hj:j < l.length),G l[j])↔∀ x∈l,G x:=by
 constructor
 · intro h x hx; obtain ⟨j,hj,rfl⟩:=zfB.1 hx; exact h j hj
 · exact fun h j hj=>h _ (zbt hj)
theorem zgF {i:Nat} (h:0 < i):((i:Int) - 1).toNat=i - 1:=by omega
theorem zti {f:α→Int} {l:List α}:(∀ i (hi:i < l.length),∀ h:0 < i,f (l[i - 1]'(by omega)) < f l[i])↔AscBy f l:=by
 constructor
 · intro h j hj; exact h (j+1) hj (by omega)
 · intro h i hi h0; have:=h (i - 1) (by omega); simp only [show i - 1+1=i by omega] at this; exact this
theorem asc_lt {f:α→Int} {l:List α} (h:AscBy f l):∀ (i j:Nat) (hj:j < l.length) (hij:i < j),f (l[i]'(by omega)) < f l[j]:=by
 intro i j hj hij; obtain ⟨d,rfl⟩:∃ d,j=i+1+d:=⟨j - i - 1,by omega⟩
 induction d with
 | zero=>exact h i hj
 | succ d ih=>have h1:=ih (by omega) (by omega); have h2:=h (i+1+d) (by omega); have:l[i+1+(d+1)]'hj=l[i+1+d+1]'(by omega):=rfl; rw [this]; exact Int.lt_trans h1 h2
theorem asc_inj {f:α→Int} {l:List α} (h:AscBy f l) {i j:Nat} (hi:i < l.length) (hj:j < l.length) (e:f l[i]=f l[j]):i=j:=by
 rcases Nat.lt_trichotomy i j with q | q | q
 · have:=asc_lt h i j hj q; omega
 · exact q
 · have:=asc_lt h j i hi q; omega
theorem fnd_some {p:α→Bool}:∀ {l:List α} {i j:Nat} {x:α},fnd p i l=some (j,x)→i≤j∧l[j - i]?=some x∧p x=true∧∀ k y,k < j - i→l[k]?=some y→p y=false
 | [],i,j,x,h=>by simp [fnd] at h
 | a :: l,i,j,x,h=>by
   simp only [fnd] at h; split at h
   · rename_i ha; simp only [zaU,zbl] at h; obtain ⟨rfl,rfl⟩:=h; exact ⟨zcb _,by simp,ha,fun k y hk=>by omega⟩
   · rename_i ha; obtain ⟨h1,h2,h3,h4⟩:=fnd_some h; have e:j - i=(j - (i+1))+1:=by omega
     refine ⟨by omega,by rw [e]; simpa using h2,h3,fun k y hk hy=>?_⟩
     cases k with
     | zero=>simp at hy; subst hy; simpa using ha
     | succ k=>exact h4 k y (by omega) (by simpa using hy)
theorem fnd_at {p:α→Bool} {l:List α} {j:Nat} {x:α} (h:fnd p 0 l=some (j,x)):l[j]?=some x∧p x=true∧∀ k y,k < j→l[k]?=some y→p y=false:=by have:=(fnd_some h).2; simpa using this
theorem zoW {p:α→Bool}:∀ {l:List α} {i:Nat},fnd p i l=none↔∀ x∈l,p x=false
 | [],i=>by simp [fnd]
 | a :: l,i=>by
   simp only [fnd]; split
   · rename_i ha; simp [ha]
   · rename_i ha; rw [zoW]; simp only [zbV,forall_eq_or_imp]; exact ⟨fun h=>⟨by simpa using ha,h⟩,fun h=>h.2⟩
theorem fnd_of {p:α→Bool} {l:List α} {j:Nat} {x:α} (hx:l[j]?=some x) (hp:p x=true) (hk:∀ k y,k < j→l[k]?=some y→p y=false):fnd p 0 l=some (j,x):=by
 cases h:fnd p 0 l with
 | none=>have:=zoW.1 h x (zb1 hx); rw [hp] at this; cases this
 | some q =>
   obtain ⟨i,y⟩:=q; obtain ⟨h1,h2,h3⟩:=fnd_at h; rcases Nat.lt_trichotomy i j with c | c | c
   · have:=hk i y c h1; rw [h2] at this; cases this
   · subst c; rw [hx] at h1; injection h1 with h1; rw [h1]
   · have:=h3 j x c hx; rw [hp] at this; cases this
theorem ziM (l:List α) (p:α→Bool) (K:Int→Option β) (R:Option (Nat×α)→β) (h0:K l.length=some (R none))
  (hyes:∀ (i:Nat) (hi:i < l.length),p l[i]=true→K i=some (R (some (i,l[i])))) (hno:∀ (i:Nat) (hi:i < l.length) (y:β),p l[i]=false→K ((i:Int)+1)=some y→K i=some y):K 0=some (R (fnd p 0 l)):=by
 have H:=zqE l.length (fun j hj=>p l[j]=false) K (fun y=>∃ i x,fnd p 0 l=some (i,x)∧y=R (some (i,x))) (R none) (fun _=>h0)
  (fun i hi hpre hn=>⟨_,⟨i,l[i],fnd_of (zau hi) (by simpa using hn) (fun k y hk hy=>by
   obtain ⟨hk',rfl⟩:=zbH.1 hy
   exact hpre k hk),rfl⟩,hyes i hi (by simpa using hn)⟩) hno
 rcases H with ⟨h1,h2⟩ | ⟨_,y,⟨i,x,h2,rfl⟩,h3⟩
 · rw [h2,zoW.2 ((zqF (G:=fun x=>p x=false)).1 h1)]
 · rw [h3,h2]
def mkN (n:Nat) (f:Nat→α) (d:α) (i:Nat):List α:=(List.range n).map fun j=>if j < i then f j else d
theorem zqi (n:Nat) (f:Nat→α) (d:α) (i:Nat):(mkN n f d i).length=n:=by simp [mkN]
theorem zxb {n:Nat} {f:Nat→α} {d:α} {i:Nat} (h:i < n):(mkN n f d i)[i]?=some d:=by simp [mkN,h]
theorem mkN_zero (n:Nat) (f:Nat→α) (d:α):mkN n f d 0=List.replicate n d:=by unfold mkN; simp only [Nat.not_lt_zero,if_false,List.map_const',zwR]
theorem ztz {n:Nat} {f:Nat→α} {d:α} {i:Nat} {v:α} (hv:v=f i):(mkN n f d i).set i v=mkN n f d (i+1):=by
 subst hv; apply zk7; intro j; by_cases hj:j < n
 · by_cases e:i=j
   · subst e; rw [List.getElem?_set_self (by rw [zqi]; exact hj)]; simp [mkN,hj]
   · rw [List.getElem?_set_ne e]; simp only [mkN,zcQ,zou hj,zde]; congr 1; by_cases h:j < i
     · rw [if_pos h,iPQ]
     · rw [if_neg h,iNQ]
 · rw [zqT (by rw [zqU,zqi]; omega),zqT (by rw [zqi]; omega)]
theorem mkN_same {n:Nat} {f:Nat→α} {d:α} {i:Nat} (h:f i=d):mkN n f d i=mkN n f d (i+1):=by
 unfold mkN; apply zkq; intro j _; by_cases c:j < i
 · rw [if_pos c,iPQ]
 · by_cases e:j=i
   · subst e; rw [if_neg c,iPQ,h]
   · rw [if_neg c,iNQ]
theorem mkN_all (n:Nat) (f:Nat→α) (d:α):mkN n f d n=(List.range n).map f:=by unfold mkN; apply zkq; intro j hj; rw [if_pos (zja.1 hj)]
theorem zgk {γ:Type} (f:α→γ) (l:List α) (i:Nat) (a:α):(List.map f l).set i (f a)=List.map f (l.set i a):=List.map_set.symm
theorem zcS {γ:Type} (f:α→γ) (l:List α) (a:α):List.map f l++[f a]=List.map f (l++[a]):=by simp
theorem map_rep {γ:Type} (f:α→γ) (n:Nat) (a:α):List.replicate n (f a)=List.map f (List.replicate n a):=by simp
theorem take_len (l:List α):List.take l.length l=l:=ziE
instance (p:GPart):Decidable (OkPart p):=by unfold OkPart; infer_instance
theorem zq9 (p:GPart):cw zm2 [.agg (zaQ p)] []=some (zas (dec (OkPart p))):=by
 refine zyZ p ?_; simp only [zfi,decide_eq_true_eq,beq_iff_eq]
 repeat' split
 all_goals first
  | (rw [zbY (by unfold OkPart; omega)]; rfl)
  | (rw [show (p.Key == 0)=dec (OkPart p) from zlg (by simp only [beq_iff_eq]; unfold OkPart; omega)]; rfl)
  | (rw [show decide (p.Key < p.Options)=dec (OkPart p) from zlg (by simp only [decide_eq_true_eq]; unfold OkPart; omega)]; rfl)
theorem zye (p:GPart) (l:List GPart):sumMax (p :: l)=p.Max+sumMax l:=by simp [sumMax]
theorem zwM {l:List GPart} (h:∀ p∈l,OkPart p):0≤sumMax l∧sumMax l≤40*l.length:=by
 induction l with
 | nil=>simp [sumMax]
 | cons p l ih=>have h1:=ih (fun q hq=>h q (by simp [hq])); have h2:=(h p (by simp)).1; rw [zye,zgc]; omega
theorem zz8 (l:List GPart) (h:∀ p∈l,OkPart p) (hl:l.length≤24):cw znQ [.sl 6 (List.map zaQ l)] []=some (zbw (sumMax l)):=by
 refine zAl l ?_; have hb:=zwM h; refine zcn l (fun i r=>∀ s:Int,0≤s→0≤sumMax r→s+sumMax r=sumMax l→zi1 l s i=some (zbw (sumMax l))) ?_ ?_ 0 (by omega) (by omega) (by omega)
 · intro s _ _ hs; refine zp6 l _ _ ?_; simp (disch:=omega) [zaW]; rw [← hs]; simp [sumMax]; rfl
 · intro i hi r hr ih s h0 h1 hs; refine zp6 l _ _ ?_; have hm:=(h l[i] (zbt hi)).1; rw [zye] at hs h1; have hr0:0≤sumMax r:=(zwM (l:=r) (fun q hq=>h q (by rw [← hr] at hq; exact aLiAs55 hq))).1; simp (disch:=omega) [zaC,zam,w64_id]; exact ih _ (by omega) hr0 (by omega)
theorem zxx (p:zaJ):cw zmj [.agg (zaT p)] []=some (zas (dec (zkm p))):=by
 refine zxD p ?_; by_cases hh:((0≤p.Code∧p.Code≤31)∧(0≤p.Variant∧p.Variant < 4)∧(1≤p.Parts.length∧p.Parts.length≤24))
 · simp (disch:=omega) only [zaq,zaW]
   have hg:=fun z h0=>zqE p.Parts.length (fun j hj=>OkPart p.Parts[j]) (fun i=>zhK p i) (fun y=>y=zas false) z h0
    (fun i hi _ hn=>⟨_,rfl,zkL p _ (by simp (disch:=omega) [zaC,zam,zq9,zbY hn]; rfl)⟩)
    (fun i hi y hy hk=>zkL p _ (by simp (disch:=omega) [zaC,zam,w64_id,zq9,zbN hy,hk]))
   rcases hg (zas (dec (zkm p))) (fun h=>zkL p _ (by
    have h':=zqF.1 h; simp (disch:=omega) [zaW,zz8 p.Parts h' (by omega)]; rw [show decide (sumMax p.Parts≤200)=dec (zkm p) from zlg (by simp only [decide_eq_true_eq]; unfold zkm; exact ⟨fun h=>⟨hh.1,hh.2.1,hh.2.2,h',h⟩,fun h=>h.2.2.2.2⟩)]
    rfl)) with ⟨h1,h2⟩ | ⟨⟨j,hj,h1⟩,y,rfl,h3⟩
   · exact h2
   · rw [zbY (fun h=>h1 (h.2.2.2.1 _ (zbt hj)))]; exact h3
 · rw [zbY (fun h=>hh ⟨h.1,h.2.1,h.2.2.1⟩)]; simp only [zfi,decide_eq_true_eq,zaq]
   repeat' split
   all_goals first
    | rfl
    | omega
theorem zEI {ks:List Int}:OkKeys 0 ks↔ks=[]:=by
 constructor
 · intro h
   cases ks with
   | nil=>rfl
   | cons k ks=>have:=h.1 k (by simp); omega
 · rintro rfl; exact ⟨by simp,fun j hj=>by simp at hj⟩
theorem okKeys_iff {o:Int} {ks:List Int}:(∀ j (hj:j < ks.length),(0≤ks[j]∧ks[j] < o)∧∀ h:0 < j,(ks[j - 1]'(by omega)) < ks[j])↔OkKeys o ks:=by unfold OkKeys; rw [← zti,← zqF]; exact ⟨fun h=>⟨fun j hj=>(h j hj).1,fun j hj=>(h j hj).2⟩,fun h j hj=>⟨h.1 j hj,h.2 j hj⟩⟩
theorem zld (p:GPart) (ks:List Int) (hp:OkPart p) (hl:ks.length≤1000000):cw zlp [.agg (zaQ p),.sl 1 (List.map zaf ks)] []=some (zas (dec (OkKeys p.Options ks))):=by
 refine zwu p ks ?_; by_cases hk:p.Kind=1
 · have ho:p.Options=0:=by unfold OkPart at hp; omega
   simp only [hk,beq_self_eq_true,zaZ,zaq]; rw [show ((ks.length:Int) == 0)=dec (OkKeys p.Options ks) from zlg (by rw [ho,zEI]; simp)]; rfl
 · simp only [show (p.Kind == 1)=false by simpa using hk,zaB]; rw [← zje okKeys_iff]; refine zlc ks.length _ (fun i=>zfJ p ks i) (fun b=>zas b) ?_ ?_ ?_
   · exact zka p ks _ (by simp (disch:=omega) only [zaq,zaW]; rfl)
   · intro i hi hg; refine zka p ks _ ?_; by_cases h1:0≤ks[i]∧ks[i] < p.Options
     · have h0:0 < i:=by
        apply zyw
        rintro rfl
        exact hg ⟨h1,fun h=>absurd h (by omega)⟩
       have h2:¬ (ks[i - 1] < ks[i]):=fun h=>hg ⟨h1,fun _=>h⟩
       simp (disch:=omega) [zaC,zaW,zam,w64_id,zgF h0]; rfl
     · by_cases h2:ks[i] < 0
       · simp (disch:=omega) [zaC,zam]; rfl
       · simp (disch:=omega) [zaC,zaW,zam]; rfl
   · intro i hi y hg hk'; refine zka p ks _ ?_; by_cases h0:0 < i
     · have h2:=hg.2 h0; have h1:=hg.1; simp (disch:=omega) [zaC,zaW,zam,w64_id,zgF h0,hk']
     · have h1:=hg.1; simp (disch:=omega) [zaC,zaW,zam,w64_id,hk']
theorem zr2 (k:Int):cw znW [I k] []=some (zas (dec (0≤k∧k≤2))):=by
 refine zAu k ?_; simp only [zfi,beq_iff_eq]
 repeat' split
 all_goals first
  | (rw [zbN (by omega)]; rfl)
  | (rw [zbY (by omega)]; rfl)
theorem zDW {p:zaJ} {s:zbp} (h1:s.Keys.length=p.Parts.length) (h2:s.Withdrawn.length=p.Parts.length) (hp:zkm p):(∀ j (hj:j < p.Parts.length),OkKeys p.Parts[j].Options (s.Keys[j]'(by omega))∧(0≤s.Withdrawn[j]'(by omega)∧s.Withdrawn[j]'(by omega)≤2))↔zfc p s:=by
 unfold zfc; constructor
 · intro h; refine ⟨hp,h1,h2,fun j x ks k a b c=>?_⟩; obtain ⟨hj,rfl⟩:=zbH.1 a; obtain ⟨_,rfl⟩:=zbH.1 b; obtain ⟨_,rfl⟩:=zbH.1 c; exact h j hj
 · intro h j hj; exact h.2.2.2 j _ _ _ (zau hj) (zau (by omega)) (zau (by omega))
theorem zgd (p:zaJ) (s:zbp) (hs:Short s):cw zgj [.agg (zaT p),.agg (zbJ s)] []=some (zas (dec (zfc p s))):=by
 refine zBD p s ?_; simp only [zxx,zaw,zaq]; by_cases hp:zkm p
 · by_cases h1:s.Keys.length=p.Parts.length
   · by_cases h2:s.Withdrawn.length=p.Parts.length
     · simp only [zbN hp,h1,h2,zb6,zaB,bne_self_eq_false]; have hpl:=hp.2.2.1; rw [← zje (zDW h1 h2 hp)]; refine zlc p.Parts.length _ (fun i=>zjV p s i) (fun b=>zas b) ?_ ?_ ?_
       · exact znc p s _ (by simp (disch:=omega) only [zaq,zaW]; rfl)
       · intro i hi hg; have hi1:i < s.Keys.length:=by omega
         have hi2:i < s.Withdrawn.length:=by omega
         refine znc p s _ ?_; have hx:=hp.2.2.2.1 _ (zbt hi); by_cases h3:OkKeys p.Parts[i].Options s.Keys[i]
         · have h4:¬ (0≤s.Withdrawn[i]∧s.Withdrawn[i]≤2):=fun h=>hg ⟨h3,h⟩
           simp (disch:=omega) [zaC,zam,zld _ _ hx (hs _ (zbt hi1)),zbN h3,zr2,zbY h4]; rfl
         · simp (disch:=omega) [zaC,zam,zld _ _ hx (hs _ (zbt hi1)),zbY h3]; rfl
       · intro i hi y hg hk'; have hi1:i < s.Keys.length:=by omega
         have hi2:i < s.Withdrawn.length:=by omega
         refine znc p s _ ?_; have hx:=hp.2.2.2.1 _ (zbt hi); simp (disch:=omega) [zaC,zam,w64_id,zld _ _ hx (hs _ (zbt hi1)),zbN hg.1,zr2,zbN hg.2,hk']
     · rw [zbY (p:=zfc p s) (fun h=>h2 h.2.2.1)]; simp only [zbN hp,h1,zb6,zaB,bne_self_eq_false,show ((s.Withdrawn.length:Int) != p.Parts.length)=true by simpa using (by omega:¬ ((s.Withdrawn.length:Int)=p.Parts.length)),zaZ]; rfl
   · rw [zbY (p:=zfc p s) (fun h=>h1 h.2.1)]; simp only [zbN hp,zb6,zaB,show ((s.Keys.length:Int) != p.Parts.length)=true by simpa using (by omega:¬ ((s.Keys.length:Int)=p.Parts.length)),zaZ]; rfl
 · rw [zbY hp,zbY (fun h=>hp h.1)]; rfl
theorem zfd (n:Int):cw zjM [I n] []=some (zas (dec (0≤n∧n≤31))):=by
 refine zy5 n ?_; simp only [zfi,decide_eq_true_eq]; split
 · rw [show decide (n≤31)=dec (0≤n∧n≤31) from zlg (by simp only [decide_eq_true_eq]; omega)]; rfl
 · rw [zbY (by omega)]; rfl
theorem zr3 (n:Int):cw zcC [I n] []=some (zas (!dec (0≤n∧n≤31))):=
 zsB n (by rw [zfd,zaw]; rfl)
theorem zBm (l:List Int) (hl:l.length≤1000000):cw zb7 [.sl 1 (List.map zaf l),.fn zcC []] []=some (zas (!dec (∀ n∈l,0≤n∧n≤31))):=by
 refine zoe l ?_
 have key:∃ r,cw zcr [.sl 1 (List.map zaf l),.fn zcC []] []=some (zbw r)∧(0≤r↔¬ ∀ n∈l,0≤n∧n≤31):=by
  have H:=zqE l.length (fun j hj=>0≤l[j]∧l[j]≤31) (fun i=>zeF l i) (fun y=>∃ r:Int,0≤r∧y=zbw r) (zbw (-1)) ?_ ?_ ?_
  · rcases H with ⟨h1,h2⟩ | ⟨⟨j,hj,h1⟩,y,⟨r,h2,rfl⟩,h3⟩
    · refine ⟨-1,zkg l h2,?_⟩; have:=(zqF (G:=fun n=>0≤n∧n≤31)).1 h1; exact ⟨fun h=>by omega,fun h=>absurd this h⟩
    · exact ⟨r,zkg l h3,fun _ h=>h1 (h _ (zbt hj)),fun _=>h2⟩
  · intro h; exact zgq l _ (by simp (disch:=omega) [zaW] <;> rfl)
  · intro i hi _ hg; refine ⟨_,⟨(i:Int),by omega,rfl⟩,zgq l _ ?_⟩; simp (disch:=omega) [zaC,zam,zr3,zbY hg]; rfl
  · intro i hi y hg hk; refine zgq l _ ?_; simp (disch:=omega) [zaC,zam,w64_id,zr3,zbN hg,hk]
 obtain ⟨r,h1,h2⟩:=key; rw [h1,za3]
 rw [show decide (0≤r)=!dec (∀ n∈l,0≤n∧n≤31) by
  by_cases hc:∀ n∈l,0≤n∧n≤31
  · rw [zbN hc]; simp only [zb6,decide_eq_false_iff_not]; exact fun h=>(h2.1 h) hc
  · rw [zbY hc]; simp only [zdE,decide_eq_true_eq]; exact h2.2 hc]
 rfl
theorem zke (m:zbk) (hl:m.Papers.length≤1000000):cw zjN [.agg (zbh m)] []=some (zas (dec (zjC m))):=by
 refine zuw m ?_; simp only [zfi,decide_eq_true_eq]
 repeat' split
 all_goals first
  | (rw [zbY (by unfold zjC; omega)]; rfl)
  | (rw [zBm _ hl,zaw,Bool.not_not,zje (p:=∀ n∈m.Papers,0≤n∧n≤31) (q:=zjC m) ⟨fun h=>⟨by omega,by omega,by omega,by omega,h⟩,fun h=>h.2.2.2.2⟩]; rfl)
theorem zkP (l:List Int) (hl:l.length≤1000000):cw znS [.sl 1 (List.map zaf l)] []=some (zas (dec (AscBy id l))):=by
 refine zAm l ?_; by_cases h1:1≤l.length
 · have h:=all_from 1 l.length h1 (fun j h1 hj=>l[j - 1] < l[j]) (fun i=>zi2 l i) (fun b=>zas b) ?_ ?_ ?_
   · rw [show ((1:Nat):Int)=1 from rfl] at h; rw [h]; congr 2; rw [← zti]; exact zje ⟨fun h i hi h0=>h i h0 hi,fun h j h1 hj=>h j hj h1⟩
   · exact zi5 _ _ (by simp (disch:=omega) [zaW] <;> rfl)
   · intro i h0 hi hg; refine zi5 _ _ ?_; simp (disch:=omega) [zaC,zam,w64_id,zgF h0]; rfl
   · intro i h0 hi y hg hk; refine zi5 _ _ ?_; simp (disch:=omega) [zaC,zaW,zam,w64_id,zgF h0,hk]
 · rw [zbN (p:=AscBy id l) (fun j hj=>by omega)]; exact zi5 _ _ (by simp (disch:=omega) [zaW] <;> rfl)
theorem zCW {l:List zbk} (hl:l.length≤16):(∀ j (hj:j < l.length),(zjC l[j]∧AscBy id l[j].Papers)∧∀ h:0 < j,(l[j - 1]'(by omega)).ID < l[j].ID)↔zpb l:=by unfold zpb; rw [← zti,← zqF]; exact ⟨fun h=>⟨hl,fun j hj=>(h j hj).1,fun j hj=>(h j hj).2⟩,fun h j hj=>⟨h.2.1 j hj,h.2.2 j hj⟩⟩
theorem zBo (l:List zbk) (hs:∀ m∈l,m.Papers.length≤1000000):∃ e,cw zoR [.sl 5 (List.map zbh l)] []=some (zbw e)∧(e=0↔zpb l):=by
 by_cases hl:l.length≤16
 · have H:=all_err l.length (fun j hj=>(zjC l[j]∧AscBy id l[j].Papers)∧∀ h:0 < j,(l[j - 1]'(by omega)).ID < l[j].ID) (fun i=>zhy l i) (fun e=>zbw e) ?_ ?_ ?_
   · obtain ⟨e,h1,h2⟩:=H; exact ⟨e,ztq l (by simp (disch:=omega) [zaW,h1]),h2.trans (zCW hl)⟩
   · exact zhE _ _ (by simp (disch:=omega) [zaW] <;> rfl)
   · intro i hi hg; have hp:=hs _ (zbt hi); by_cases h1:zjC l[i]
     · by_cases h2:AscBy id l[i].Papers
       · have h0:0 < i:=by
          apply zyw
          rintro rfl
          exact hg ⟨⟨h1,h2⟩,fun h=>absurd h (by omega)⟩
         have h3:¬ (l[i - 1].ID < l[i].ID):=fun h=>hg ⟨⟨h1,h2⟩,fun _=>h⟩
         refine ⟨43,by omega,zhE _ _ ?_⟩; simp (disch:=omega) [zaC,zam,w64_id,zgF h0,zke _ hp,zbN h1,zkP _ hp,zbN h2]; rfl
       · refine ⟨43,by omega,zhE _ _ ?_⟩; simp (disch:=omega) [zaC,zam,zke _ hp,zbN h1,zkP _ hp,zbY h2]; rfl
     · refine ⟨2,by omega,zhE _ _ ?_⟩; simp (disch:=omega) [zaC,zam,zke _ hp,zbY h1]; rfl
   · intro i hi y hg hk; have hp:=hs _ (zbt hi); obtain ⟨⟨h1,h2⟩,h3⟩:=hg; refine zhE _ _ ?_; by_cases h0:0 < i
     · have h4:=h3 h0; simp (disch:=omega) [zaC,zaW,zam,w64_id,zgF h0,zke _ hp,zbN h1,zkP _ hp,zbN h2,hk]
     · simp (disch:=omega) [zaC,zaW,zam,w64_id,zke _ hp,zbN h1,zkP _ hp,zbN h2,hk]
 · refine ⟨3,ztq l ?_,by omega,fun h=>absurd h.1 hl⟩; simp (disch:=omega) [zaC]; rfl
theorem zCX {l:List zaE} (hl:l.length≤60):(∀ j (hj:j < l.length),zmS l[j]∧∀ h:0 < j,(l[j - 1]'(by omega)).Number < l[j].Number)↔zju l:=by unfold zju; rw [← zti,← zqF]; exact ⟨fun h=>⟨hl,fun j hj=>(h j hj).1,fun j hj=>(h j hj).2⟩,fun h j hj=>⟨h.2.1 j hj,h.2.2 j hj⟩⟩
theorem ztl (l:List zaE):∃ e,cw zjg [.sl 7 (List.map za0 l)] []=some (zbw e)∧(e=0↔zju l):=by
 by_cases hl:l.length≤60
 · have H:=all_err l.length (fun j hj=>zmS l[j]∧∀ h:0 < j,(l[j - 1]'(by omega)).Number < l[j].Number) (fun i=>zeK l i) (fun e=>zbw e) ?_ ?_ ?_
   · obtain ⟨e,h1,h2⟩:=H; exact ⟨e,znk l (by simp (disch:=omega) [zaW,h1]),h2.trans (zCX hl)⟩
   · exact zd4 _ _ (by simp (disch:=omega) [zaW] <;> rfl)
   · intro i hi hg; by_cases h1:zmS l[i]
     · have h0:0 < i:=by
        apply zyw
        rintro rfl
        exact hg ⟨h1,fun h=>absurd h (by omega)⟩
       have h3:¬ (l[i - 1].Number < l[i].Number):=fun h=>hg ⟨h1,fun _=>h⟩
       refine ⟨43,by omega,zd4 _ _ ?_⟩; obtain ⟨a1,a2,a3,a4,a5,a6⟩:=h1; simp (disch:=omega) [zaC,zaW,zam,w64_id,zgF h0,zfd,zbN a1]; rw [← a5]; simp; rfl
     · by_cases a1:0≤l[i].Paper∧l[i].Paper≤31
       · by_cases a2:(0≤l[i].Candidate∧l[i].Candidate≤9999)∧(0≤l[i].Centre∧l[i].Centre≤99)∧(0≤l[i].Variant∧l[i].Variant≤31)
         · refine ⟨1,by omega,zd4 _ _ ?_⟩; simp (disch:=omega) [zaC,zaW,zam,w64_id,zfd,zbN a1]; by_cases a3:l[i].Number=l[i].Paper*10000+l[i].Candidate
           · have a4:12 < (l[i].Pages.length:Int):=by apply Int.not_le.1; intro h; exact h1 ⟨a1,a2.1,a2.2.1,a2.2.2,a3,by omega⟩
             simp (disch:=omega) [a3,zaC]; rfl
           · simp [show (l[i].Number != l[i].Paper*10000+l[i].Candidate)=true by simpa using a3]; rfl
         · refine ⟨2,by omega,zd4 _ _ ?_⟩; simp (disch:=omega) [zaC,zam,zfd,zbN a1]; simp only [zfi,decide_eq_true_eq]
           repeat' split
           all_goals first
            | rfl
            | omega
       · refine ⟨2,by omega,zd4 _ _ ?_⟩; simp (disch:=omega) [zaC,zam,zfd,zbY a1]; rfl
   · intro i hi y hg hk; obtain ⟨h1,h3⟩:=hg; refine zd4 _ _ ?_; obtain ⟨a1,a2,a3,a4,a5,a6⟩:=h1; by_cases h0:0 < i
     · have h4:=h3 h0; simp (disch:=omega) [zaC,zaW,zam,w64_id,zgF h0,zfd,zbN a1,← a5,hk]
     · simp (disch:=omega) [zaC,zaW,zam,w64_id,zfd,zbN a1,← a5,hk]
 · refine ⟨3,znk l ?_,by omega,fun h=>absurd h.1 hl⟩; simp (disch:=omega) [zaC]; rfl
theorem c_isScore (n:Int):cw zi0 [I n] []=some (zas (dec (0≤n∧n≤200))):=by
 refine zxJ n ?_; simp only [zfi,decide_eq_true_eq]; split
 · rw [show decide (n≤200)=dec (0≤n∧n≤200) from zlg (by simp only [decide_eq_true_eq]; omega)]; rfl
 · rw [zbY (by omega)]; rfl
theorem znG (r:zbr) (h:OkMon r):cw zib [.agg (zbU r)] []=some (zbw 0):=by obtain ⟨h1,h2,h3,h4⟩:=h; refine zAr r ?_; simp (disch:=omega) [zaW,c_isScore,zbN h1,zbN h2]; rfl
theorem zz5 (l:List Int) (n:Int) (hl:l.length≤1000000):cw zfw [.sl 1 (List.map zaf l),I n] []=some (zas (dec (n∈l))):=by
 refine zqb l n ?_; have key:=ziM l (fun x=>n == x) (fun i=>zfL l n i) (fun o=>zbw (match o with | some (i,_)=>(i:Int) | none=>-1)) ?_ ?_ ?_
 · rw [zsG l n key,za3]
   cases hf:fnd (fun x=>n == x) 0 l with
   | none=>rw [zbY (fun h=>by have:=zoW.1 hf n h; simp at this)]; rfl
   | some q =>
     obtain ⟨i,x⟩:=q; obtain ⟨h1,h2,_⟩:=fnd_at hf; have:n=x:=by simpa using h2
     subst this; rw [zbN (zb1 h1)]; show some (B (decide (0≤(i:Int))),[])=_; rw [show decide (0≤(i:Int))=true by simp]; rfl
 · exact zhG _ _ _ (by simp (disch:=omega) [zaW] <;> rfl)
 · intro i hi h; refine zhG _ _ _ ?_; simp (disch:=omega) [zaC,zam,h]; rfl
 · intro i hi y h hk; refine zhG _ _ _ ?_; simp (disch:=omega) [zaC,zam,w64_id,h,hk]
theorem zwa (x:GPart) (ks:List Int) (v:Int) (hl:ks.length≤1000000):cw zm8 [.agg (zaQ x),.sl 1 (List.map zaf ks),I v] []=some (zas (accB x ks v)):=by
 refine zzb x ks v ?_; unfold accB; by_cases h:ks=[]
 · rw [if_pos h,h]; rfl
 · rw [if_neg h]; have:((ks.length:Int) == 0)=false:=by simpa using h
   simp only [zaq,this,zaB,zz5 _ _ hl,zaw]; rfl
theorem kind2 {x:GPart} (h:OkPart x):x.Kind=1∨x.Kind=2:=by unfold OkPart at h; omega
theorem zr1 (p:zaJ) (s:zbp) (a:List Int) (hs:Short s):∃ r:List Int×Int,cw zie [.agg (zaT p),.agg (zbJ s),.sl 1 (List.map zaf a)] []=some (zcT r)∧(r.2=0↔zfc p s∧OkAns p a)∧(r.2=0→r.1=zjc p s a):=by
 by_cases hp:zfc p s
 case neg=>refine ⟨([],1),znL p s a ?_,by simp [hp],by simp⟩; simp only [zgd p s hs,zaw,zbY hp]; rfl
 obtain ⟨hP,hk,hw,hall⟩:=id hp; have hpl:=hP.2.2.1; by_cases ha:a.length=p.Parts.length
 case neg=>refine ⟨([],22),znL p s a ?_,by simp [OkAns,ha],by simp⟩; simp only [zgd p s hs,zaw,zbN hp,zb6,zaB,zaq,show ((a.length:Int) != p.Parts.length)=true by simpa using (by omega:¬ ((a.length:Int)=p.Parts.length)),zaZ]; rfl
 have start:∀ y,zei p s a 0=some y→cw zie [.agg (zaT p),.agg (zbJ s),.sl 1 (List.map zaf a)] []=some y:=by intro y hy; refine znL p s a ?_; simp only [zgd p s hs,zaw,zbN hp,zb6,zaB,zaq,ha,bne_self_eq_false,hy]
 have second:zej p s a (List.map zaf (List.replicate p.Parts.length 0)) 0=some (zcT (zjc p s a,0)):=by
  rw [← mkN_zero p.Parts.length (zdu p s a) 0]; have:=zcn p.Parts (fun i r=>zej p s a (List.map zaf (mkN p.Parts.length (zdu p s a) 0 i.toNat)) i=some (zcT (zjc p s a,0))) ?_ ?_
  · exact this
  · refine zp8 _ _ _ _ _ ?_; simp (disch:=omega) only [zaq,zaW,zbf,mkN_all,zi8,zwR,zam,ziE,zjc.eq_1]; rw [show List.take p.Parts.length (List.map zaf (List.map (zdu p s a) (List.range p.Parts.length)))=List.map zaf (List.map (zdu p s a) (List.range p.Parts.length)) from zcG (by simp)]; rfl
  · intro i hi r hr ih; have hi1:i < s.Keys.length:=by omega
    have hi2:i < a.length:=by omega
    have hkl:=hs _ (zbt hi1); refine zp8 _ _ _ _ _ ?_
    have hc:zdu p s a i=if p.Parts[i].Kind=1 then -2 else if accB p.Parts[i] s.Keys[i] a[i]=true then p.Parts[i].Max else if a[i]=-1 then -1 else 0:=by simp [zdu,hi,hi1,hi2]
    have e1:((i:Int)+1).toNat=i+1:=by omega
    rw [e1] at ih; have hgi:(mkN p.Parts.length (zdu p s a) 0 i)[i]?=some 0:=zxb hi; rcases kind2 (hP.2.2.2.1 _ (zbt hi)) with h1 | h1
    · rw [if_pos h1] at hc; simp (disch:=omega) [zaC,zam,h1,w64_id,hgi,zgk,ztz hc.symm,-List.map_set,ih]
    · rw [iNQ] at hc
      cases hb:accB p.Parts[i] s.Keys[i] a[i] with
      | true=>rw [if_pos hb] at hc; simp (disch:=omega) [zaC,zam,h1,w64_id,hgi,zgk,ztz hc.symm,-List.map_set,ih,zwa _ _ _ hkl,hb]
      | false =>
        rw [if_neg (by rw [hb]; simp)] at hc; by_cases h2:a[i]=-1
        · rw [if_pos h2] at hc; simp (disch:=omega) [zaC,zam,h1,w64_id,hgi,zgk,ztz hc.symm,-List.map_set,ih,zwa _ _ _ hkl,hb,← h2]; simp (disch:=omega) [h2,zgk,ztz hc.symm,-List.map_set,ih]
        · rw [if_neg h2] at hc; simp (disch:=omega) [zaC,zam,h1,w64_id,mkN_same hc,ih,zwa _ _ _ hkl,hb,show (a[i] == -1)=false by simpa using h2]
 have hfst:∀ j (hj:j < p.Parts.length),(p.Parts[j].Kind≠1→-2≤a[j]'(by omega)∧a[j]'(by omega) < p.Parts[j].Options)↔(p.Parts[j].Kind=2→-2≤a[j]'(by omega)∧a[j]'(by omega) < p.Parts[j].Options):=by intro j hj; have:=kind2 (hP.2.2.2.1 _ (zbt hj)); omega
 have H:=zqE p.Parts.length (fun j hj=>p.Parts[j].Kind≠1→-2≤a[j]'(by omega)∧a[j]'(by omega) < p.Parts[j].Options) (fun i=>zei p s a i) (fun y=>y=zcT ([],2)) (zcT (zjc p s a,0)) ?_ ?_ ?_
 · rcases H with ⟨h1,h2⟩ | ⟨⟨j,hj,h1⟩,y,rfl,h3⟩
   · refine ⟨_,start _ h2,⟨fun _=>⟨hp,ha,fun j x v q1 q2 q3=>?_⟩,fun _=>rfl⟩,fun _=>rfl⟩; obtain ⟨hj,rfl⟩:=zbH.1 q1; obtain ⟨_,rfl⟩:=zbH.1 q2; exact h1 j hj q3
   · refine ⟨_,start _ h3,⟨fun h=>by simp at h,fun h=>?_⟩,fun h=>by simp at h⟩; exact absurd (fun q3=>h.2.2 j _ _ (zau hj) (zau (by omega)) q3) h1
 · intro _; refine zmo _ _ _ _ ?_; rw [← map_rep] at second; simp (disch:=omega) only [zaq,zaW,zam,zbz,zbf,second]
 · intro i hi _ hn; have hi2:i < a.length:=by omega
   refine ⟨_,rfl,zmo _ _ _ _ ?_⟩; rcases kind2 (hP.2.2.2.1 _ (zbt hi)) with h1 | h1
   · exact absurd (fun h=>absurd h1 h) hn
   · have h2:¬ (-2≤a[i]∧a[i] < p.Parts[i].Options):=fun h=>hn (fun _=>h)
     have hop:2≤p.Parts[i].Options:=by have:=(hP.2.2.2.1 _ (zbt hi)); unfold OkPart at this; omega
     have h3:a[i]≠-1:=fun h=>h2 (by omega)
     have h4:a[i]≠-2:=fun h=>h2 (by omega)
     by_cases h5:a[i] < 0
     · simp (disch:=omega) [zaC,zam,h1,show (a[i] != -1)=true by simpa using h3,show (a[i] != -2)=true by simpa using h4]; rfl
     · simp (disch:=omega) [zaC,zaW,zam,h1,show (a[i] != -1)=true by simpa using h3,show (a[i] != -2)=true by simpa using h4]; rfl
 · intro i hi y hg hk'; have hi2:i < a.length:=by omega
   refine zmo _ _ _ _ ?_; rcases kind2 (hP.2.2.2.1 _ (zbt hi)) with h1 | h1
   · simp (disch:=omega) [zaC,zam,h1,w64_id,hk']
   · have h2:=hg (by omega); by_cases h3:a[i]=-1
     · simp (disch:=omega) [zaC,zam,h1,w64_id,h3,hk']
     · by_cases h4:a[i]=-2
       · simp (disch:=omega) [zaC,zam,h1,w64_id,h4,hk']
       · simp (disch:=omega) [zaC,zaW,zam,h1,show (a[i] != -1)=true by simpa using h3,show (a[i] != -2)=true by simpa using h4,w64_id,hk']
def zEm:zaE:=⟨0,0,0,0,0,[],[]⟩
def ixR:Option (Nat×zaJ)→Int×Bool
 | some (i,_)=>((i:Int),true)
 | none=>(0,false)
def scR:Option zaE→zaE×Bool
 | some x=>(x,true)
 | none=>(zEm,false)
theorem zun (s:zak) (n:Int) (hl:s.Scripts.length≤1000000):cw zgK [.agg (zaj s),I n] []=some (zl4 (scR (zeP s.Scripts n))):=by
 refine zwo s n ?_; have key:=ziM s.Scripts (fun x=>x.Number == n) (fun i=>zhf s n i) (fun o=>zl4 (scR (o.map (·.2)))) ?_ ?_ ?_
 · exact key
 · exact zj9 _ _ _ (by simp (disch:=omega) [zaW] <;> rfl)
 · intro i hi h; refine zj9 _ _ _ ?_; simp (disch:=omega) [zaC,zam,h]; rfl
 · intro i hi y h hk; refine zj9 _ _ _ ?_; simp (disch:=omega) [zaC,zam,w64_id,h,hk]
theorem zwb (s:zak) (x:zaE) (hl:s.Papers.length≤1000000):cw zg7 [.agg (zaj s),.agg (za0 x)] []=some (zkj (ixR (zd3 s.Papers x))):=by
 refine zxH s x ?_; have key:=ziM s.Papers (fun p=>p.Code == x.Paper && p.Variant == x.Variant) (fun i=>zf4 s x i) (fun o=>zkj (ixR o)) ?_ ?_ ?_
 · exact key
 · exact zkN _ _ _ (by simp (disch:=omega) [zaW] <;> rfl)
 · intro i hi h; refine zkN _ _ _ ?_; rw [zcw] at h; simp (disch:=omega) [zaC,zam,h.1,h.2]; rfl
 · intro i hi y h hk; refine zkN _ _ _ ?_
   cases h1:(s.Papers[i].Code == x.Paper) with
   | false=>simp (disch:=omega) [zaC,zam,w64_id,h1,hk]
   | true=>rw [h1,zhn] at h; simp (disch:=omega) [zaC,zam,w64_id,h1,h,hk]
theorem zv9 (s:zak) (n:Int) (h1:s.Scripts.length≤1000000) (h2:s.Papers.length≤1000000):cw zg6 [.agg (zaj s),I n] []=some (zkj (ixR (zgX s n))):=by
 refine zxG s n ?_; rw [zun s n h1,ziF]; unfold zgX
 cases zeP s.Scripts n with
 | none=>rfl
 | some x=>simp only [scR,zb6,zaB,zwb s x h2,zgR,zaS]; rfl
theorem zDF (p:zaJ) (m:List Int) (hl:p.Parts.length≤1000000) (h:zqt p m):cw zjQ [.agg (zaT p),.sl 1 (List.map zaf m)] []=some (zas true):=by
 obtain ⟨h1,h2⟩:=h; refine zuz p m ?_; simp only [zaq,h1,bne_self_eq_false,zaB]; refine zcn p.Parts (fun i r=>zgy p m i=some (zas true)) ?_ ?_
 · exact zmN _ _ _ (by simp (disch:=omega) [zaW] <;> rfl)
 · intro i hi r hr ih; have hi2:i < m.length:=by omega
   have:=h2 i _ _ (zau hi) (zau hi2); refine zmN _ _ _ ?_; simp (disch:=omega) [zaC,zaW,zam,w64_id,ih]
theorem zeG {ps:List zaJ} {x:zaE} {k:Nat} {p:zaJ} (hk:zd3 ps x=some (k,p)):ps[k]?=some p∧p.Code=x.Paper∧p.Variant=x.Variant:=by obtain ⟨h1,h2,_⟩:=fnd_at hk; simp only [zcw,beq_iff_eq] at h2; exact ⟨h1,h2⟩
theorem zyc {l:List zaE} {n:Int} {x:zaE} (h:zeP l n=some x):x∈l∧x.Number=n:=by
 unfold zeP at h
 cases hf:fnd (fun x=>x.Number == n) 0 l with
 | none=>simp [hf] at h
 | some q=>obtain ⟨i,y⟩:=q; rw [hf] at h; simp only [zde,zaU] at h; subst h; obtain ⟨h1,h2,_⟩:=fnd_at hf; exact ⟨zb1 h1,by simpa using h2⟩
theorem zlA {l:List zaE} (h:AscBy zaE.Number l) {x:zaE} (hx:x∈l):zeP l x.Number=some x:=by
 obtain ⟨i,hi,rfl⟩:=zfB.1 hx; unfold zeP
 rw [fnd_of (j:=i) (x:=l[i]) (zau hi) (by simp) (fun k y hk hy=>by
  obtain ⟨hk',rfl⟩:=zbH.1 hy; have:=asc_lt h k i hi hk; simp only [beq_eq_false_iff_ne]
  omega)]
 rfl
theorem paperOf_at {s:zak} {n:Int} {k:Nat} {p:zaJ} (hk:zgX s n=some (k,p)):s.Papers[k]?=some p:=by
 unfold zgX at hk
 cases hx:zeP s.Scripts n with
 | none=>simp [hx] at hk
 | some x=>rw [hx] at hk; exact (zeG hk).1
section
variable {s:zak} (h:zbP s)
include h
theorem zbP.okPaper {k:Nat} {p:zaJ} (hk:s.Papers[k]?=some p):zkm p:=by have hlt:=(zbH.1 hk).1; have:=h.len; exact (h.schemes k p _ hk (zau (by omega))).1
theorem zCK:cw zjh [.agg (zaj s)] []=some (zas true):=by
 have hp:=h.papers; have hl:=h.len; refine ztr s ?_; simp (disch:=omega) only [zaq,zaW,hl,bne_self_eq_false,zaB]; refine zcn s.Papers (fun i r=>zfY s i=some (zas true)) ?_ ?_
 · exact zmh _ _ (by simp (disch:=omega) [zaW] <;> rfl)
 · intro i hi r hr ih; have hi2:i < s.Schemes.length:=by omega
   have hv:=h.schemes i _ _ (zau hi) (zau hi2); refine zmh _ _ ?_; simp (disch:=omega) [zaC,zam,w64_id,zgd _ _ (h.short _ (zbt hi2)),zbN hv,ih]
theorem zBq:cw ziL [.agg (zaj s)] []=some (zas true):=by
 have hp:=h.papers; have hl:=h.len; have hsl:=h.scripts.1; refine zsE s ?_; refine zcn s.Scripts (fun i r=>zfI s i=some (zas true)) ?_ ?_
 · exact zlH _ _ (by simp (disch:=omega) [zaW] <;> rfl)
 · intro i hi r hr ih; obtain ⟨k,p,c,q1,q2,q3⟩:=h.script _ (zbt hi); have hpk:=(zeG q1).1; obtain ⟨w,hw,hw1,hw2⟩:=zr1 p c s.Scripts[i].Answers (h.short _ (zb1 q2)); have hw0:w.2=0:=hw1.2 ⟨h.schemes k p c hpk q2,q3⟩; refine zlH _ _ ?_; simp (disch:=omega) [zaC,zam,w64_id,zwb s _ (by omega),q1,ixR,hpk,q2,hw,hw0,ih]
theorem zDG:cw zjR [.agg (zaj s)] []=some (zas true):=by
 have hp:=h.papers; have hl:=h.seeds; have hsl:=h.scripts.1; refine zuA s ?_; simp (disch:=omega) only [zaq,zaW]; refine zcn s.Seeds (fun i r=>zgz s i=some (zas true)) ?_ ?_
 · exact zmO _ _ (by simp (disch:=omega) [zaW] <;> rfl)
 · intro i hi r hr ih; obtain ⟨k,p,q1,q2⟩:=h.seed _ (zbt hi); have hpk:=paperOf_at q1; have hpl:=(h.okPaper hpk).2.2.1
   have rest:zfy s i s.Seeds[i]=some (zas true):=by refine zqs _ _ _ ?_; simp (disch:=omega) [zam,w64_id,zv9 s _ (by omega) (by omega),q1,ixR,hpk,zDF _ _ (by omega) q2,ih]
   refine zmO _ _ ?_; by_cases h0:0 < i
   · have:=zti.2 h.asc i hi h0; simp (disch:=omega) [zaC,zaW,zam,w64_id,zgF h0,rest]
   · simp (disch:=omega) [zaC,zaW,zam,rest]
theorem znF:cw zgS [.agg (zaj s)] []=some (zbw 0):=by obtain ⟨e1,h1,h2⟩:=zBo s.Markers h.short2; obtain ⟨e2,h3,h4⟩:=ztl s.Scripts; have g1:=h2.2 h.markers; have g2:=h4.2 h.scripts; subst g1 g2; refine zAn s ?_; simp only [h1,h3,za3,za3,zCK h,zBq h,zDG h,znG _ h.monitor,zaw,zaw,zaw,za3,bne_self_eq_false,zb6,zaB]; rfl
end
def DOk (d:zac):Prop:=0≤d.At∧d.L.length≤600
abbrev mD (d:zac):Mem:=[(1000,⟨2,zae,[zap d],true⟩)]
theorem tmod_lt {a n:Int} (hn:0 < n):-n < a.tmod n∧a.tmod n < n:=by have h1:=ztW a hn; refine ⟨?_,h1⟩; have h2:=ztW (-a) hn; rw [Int.neg_tmod] at h2; omega
theorem c_Light (t:List Int):cw zrk [.sl 1 (List.map zaf t)] []=some (zas (decide ((t.length:Int)≤600))):=
 zDN t (by rw [zaq]; rfl)
theorem c_Roll (t:List Int):cw zsH [.sl 1 (List.map zaf t)] []=some (zsP ⟨t,0⟩):=zEu t rfl
theorem zcc (d:zac) (n:Int) (hd:DOk d) (hn:n≤4611686018427387904):∃ (r:Int) (d':zac),cw za1 [.loc 1000 2 0 0,I n] (mD d)=some (zjZ (r,d'))∧0≤r∧(r < n∨r=0)∧DOk d':=by
 by_cases h1:(d.L.length:Int)≤d.At
 · refine ⟨0,d,zjH d n ?_,by omega,.inr rfl,hd⟩; simp (disch:=omega) only [zaq,zaC]; rfl
 by_cases h2:n < 1
 · refine ⟨0,d,zjH d n ?_,by omega,.inr rfl,hd⟩; simp (disch:=omega) only [zaq,zaC,zaW]; rfl
 obtain ⟨ha,hl⟩:=hd; have hlt:d.At.toNat < d.L.length:=by omega
 have hb:=tmod_lt (a:=d.L[d.At.toNat]) (n:=n) (by omega); have hd':DOk ⟨d.L,d.At+1⟩:=⟨by show 0≤d.At+1; omega,hl⟩
 by_cases h3:(d.L[d.At.toNat]).tmod n < 0
 · refine ⟨(d.L[d.At.toNat]).tmod n+n,⟨d.L,d.At+1⟩,zjH d n ?_,by omega,.inl (by omega),hd'⟩; simp (disch:=omega) [zaC,zaW,zam,hlt,w64_id]; rfl
 · refine ⟨(d.L[d.At.toNat]).tmod n,⟨d.L,d.At+1⟩,zjH d n ?_,by omega,.inl (by omega),hd'⟩; simp (disch:=omega) [zaC,zaW,zam,hlt,w64_id]; rfl
theorem zmx (d:zac) (n:Int) (hd:DOk d) (hn:n≤4611686018427387904):∃ (r:Bool) (d':zac),cw zc3 [.loc 1000 2 0 0,I n] (mD d)=some (zm9 (r,d'))∧DOk d':=by obtain ⟨r,d',h,_,_,hd'⟩:=zcc d n hd hn; exact ⟨_,d',zy0 d n (by simp only [h,zaX]; rfl),hd'⟩
theorem c_Pick (d:zac) (l:List Int) (hd:DOk d) (hl:l≠[]) (hl2:l.length≤1000):∃ (r:Int) (d':zac),cw zfe [.loc 1000 2 0 0,.sl 1 (List.map zaf l)] (mD d)=some (zjZ (r,d'))∧r∈l∧DOk d':=by
 obtain ⟨r,d',h,h0,h1,hd'⟩:=zcc d l.length hd (by omega); have hpos:0 < l.length:=zyx.2 hl; have hlt:r.toNat < l.length:=by omega
 refine ⟨l[r.toNat],d',zy2 d l ?_,zbt hlt,hd'⟩; simp (disch:=omega) only [zaq,h,zaX,zam,zbX,zau hlt,zaS]; rfl
def DPaper (p:zaJ):Prop:=p.Parts.length≤3∧1≤p.Parts.length∧(∀ x∈p.Parts,OkPart x∧x.Max≤6)∧∃ y,p.Parts[0]?=some y∧y.Kind=1∧3≤y.Max
theorem DPaper.ok {p:zaJ} (h:DPaper p) (h1:0≤p.Code∧p.Code≤31) (h2:0≤p.Variant∧p.Variant < 4):zkm p:=by obtain ⟨a,b,c,_⟩:=h; refine ⟨h1,h2,by omega,fun x hx=>(c x hx).1,?_⟩; have:=(zwM (fun x hx=>(c x hx).1)).2; omega
theorem zw6 (d:zac) (a b:Int) (hd:DOk d):∃ (p:zaJ) (d':zac),cw zeh [.loc 1000 2 0 0,I a,I b] (mD d)=some (zmn (p,d'))∧p.Code=a∧p.Variant=b∧DPaper p∧DOk d':=by
 obtain ⟨n0,d0,e0,a0,b0,hd0⟩:=zcc d 4 hd (by omega); obtain ⟨n1,d1,e1,a1,b1,hd1⟩:=zcc d0 3 hd0 (by omega); by_cases h1:0 < n1
 · obtain ⟨n2,d2,e2,a2,b2,hd2⟩:=zcc d1 2 hd1 (by omega); obtain ⟨n3,d3,e3,a3,b3,hd3⟩:=zcc d2 4 hd2 (by omega); obtain ⟨n4,d4,e4,a4,b4,hd4⟩:=zcc d3 2 hd3 (by omega)
   have start:∀ y,ziN a b (n0,d0) (n2,d2) (n3,d3)=some y→cw zeh [.loc 1000 2 0 0,I a,I b] (mD d)=some y:=by intro y hy; refine zpZ d a b ?_; simp (disch:=omega) only [e0,e1,e2,e3,zaX,zaC,zam,zbz,hy]
   by_cases h4:0 < n4
   · obtain ⟨n5,d5,e5,a5,b5,hd5⟩:=zcc d4 4 hd4 (by omega); refine ⟨⟨a,b,[⟨1,3+n0,0,0,0,0⟩,⟨2,1+n2,0,0,4,n3⟩,⟨1,2+n5,0,0,0,0⟩]⟩,d5,start _ (zmK _ _ _ _ _ ?_),rfl,rfl,⟨by simp,by simp,?_,_,rfl,rfl,by dsimp only; omega⟩,hd5⟩
     · simp (disch:=omega) only [e4,e5,zaX,zaC,zam,zbz,w64_id]; rfl
     · intro x hx; simp only [zbV,zf8,or_false] at hx; rcases hx with rfl | rfl | rfl <;> exact ⟨by unfold OkPart; dsimp only; omega,by dsimp only; omega⟩
   · refine ⟨⟨a,b,[⟨1,3+n0,0,0,0,0⟩,⟨2,1+n2,0,0,4,n3⟩]⟩,d4,start _ (zmK _ _ _ _ _ ?_),rfl,rfl,⟨by simp,by simp,?_,_,rfl,rfl,by dsimp only; omega⟩,hd4⟩
     · simp (disch:=omega) only [e4,zaX,zaW,zam,zbz,w64_id]; rfl
     · intro x hx; simp only [zbV,zf8,or_false] at hx; rcases hx with rfl | rfl <;> exact ⟨by unfold OkPart; dsimp only; omega,by dsimp only; omega⟩
 · obtain ⟨n4,d4,e4,a4,b4,hd4⟩:=zcc d1 2 hd1 (by omega)
   have start:∀ y,zhx a b (n0,d0) (n1,d1)=some y→cw zeh [.loc 1000 2 0 0,I a,I b] (mD d)=some y:=by intro y hy; refine zpZ d a b ?_; simp (disch:=omega) only [e0,e1,zaX,zaW,hy]
   by_cases h4:0 < n4
   · obtain ⟨n5,d5,e5,a5,b5,hd5⟩:=zcc d4 4 hd4 (by omega); refine ⟨⟨a,b,[⟨1,3+n0,0,0,0,0⟩,⟨1,2+n5,0,0,0,0⟩]⟩,d5,start _ (zlE _ _ _ _ ?_),rfl,rfl,⟨by simp,by simp,?_,_,rfl,rfl,by dsimp only; omega⟩,hd5⟩
     · simp (disch:=omega) only [e4,e5,zaX,zaC,zam,zbz,w64_id]; rfl
     · intro x hx; simp only [zbV,zf8,or_false] at hx; rcases hx with rfl | rfl <;> exact ⟨by unfold OkPart; dsimp only; omega,by dsimp only; omega⟩
   · refine ⟨⟨a,b,[⟨1,3+n0,0,0,0,0⟩]⟩,d4,start _ (zlE _ _ _ _ ?_),rfl,rfl,⟨by simp,by simp,?_,_,rfl,rfl,by dsimp only; omega⟩,hd4⟩
     · simp (disch:=omega) only [e4,zaX,zaW,zam,zbz,w64_id]; rfl
     · intro x hx; simp only [zbV,zf8,or_false] at hx; subst hx; exact ⟨by unfold OkPart; dsimp only; omega,by dsimp only; omega⟩
theorem c_Scheme (d:zac) (p:zaJ) (hd:DOk d) (hp:DPaper p) (hok:zkm p):∃ (c:zbp) (d':zac),cw zlk [.loc 1000 2 0 0,.agg (zaT p)] (mD d)=some (zlx (c,d'))∧zfc p c∧Short c∧DOk d':=by
 have hl:=hp.1; have hl2:=hp.2.1; obtain ⟨b,d0,e0,hd0⟩:=zmx d 6 hd (by omega)
 have good:∀ W:List Int,W.length=p.Parts.length→(∀ k∈W,0≤k∧k≤2)→zfc p ⟨List.replicate p.Parts.length [],W⟩∧Short ⟨List.replicate p.Parts.length [],W⟩:=by
  intro W hW hk; refine ⟨⟨hok,by simp,hW,fun j x ks k q1 q2 q3=>⟨?_,hk k (zb1 q3)⟩⟩,?_⟩
  · have:=zb1 q2; rw [ztX] at this; rw [this.2]; exact ⟨by simp,fun j hj=>by simp at hj⟩
  · intro ks hks; rw [ztX] at hks; rw [hks.2]; simp
 cases b with
 | true =>
   obtain ⟨n1,d1,e1,a1,b1,hd1⟩:=zcc d0 p.Parts.length hd0 (by omega); obtain ⟨n2,d2,e2,a2,b2,hd2⟩:=zcc d1 2 hd1 (by omega); have hlt:n1.toNat < p.Parts.length:=by omega
   obtain ⟨g1,g2⟩:=good ((List.replicate p.Parts.length 0).set n1.toNat (1+n2)) (by simp) (by
    intro k hk; rcases List.mem_or_eq_of_mem_set hk with h | h
    · rw [ztX] at h; omega
    · omega)
   refine ⟨_,d2,zpm d p ?_,g1,g2,hd2⟩; have hlt':n1.toNat < (List.replicate p.Parts.length (0:Int)).length:=by simpa using hlt
   simp (disch:=omega) only [zaq,zam,zbz,e0,e1,e2,zbR,zaX,zaZ,zbf,zi8,zb9,map_rep zaf,zbX,zau hlt',zaS]; refine zrS _ _ _ _ _ ?_; simp (disch:=omega) only [zaq,zam,zbz,zbf,zi8,zb9,zqU,zcb,w64_id]; rw [show List.take p.Parts.length (List.replicate p.Parts.length [AV.sl 1 []])=List.replicate p.Parts.length [AV.sl 1 []] from zcG (by simp),zcG (Nat.le_of_eq (by simp only [zqU,zi8]))]; rw [show List.replicate p.Parts.length [AV.sl 1 []]=List.map zcH (List.replicate p.Parts.length []) by simp [zcH],show List.replicate p.Parts.length [I 0]=List.map zaf (List.replicate p.Parts.length 0) by simp [zaf],show [I (1+n2)]=zaf (1+n2) from rfl,zgk]; rfl
 | false =>
   obtain ⟨g1,g2⟩:=good (List.replicate p.Parts.length 0) (by simp) (by
    intro k hk
    rw [ztX] at hk; omega)
   refine ⟨_,d0,zpm d p ?_,g1,g2,hd0⟩; simp (disch:=omega) only [zaq,zam,zbz,e0,zbR,zaB,zbf]; refine zqo _ _ ?_; simp (disch:=omega) only [zaq,zam,zbz,zbf,zi8,zb9,zcb]; rw [show List.take p.Parts.length (List.replicate p.Parts.length [AV.sl 1 []])=List.replicate p.Parts.length [AV.sl 1 []] from zcG (by simp),zcG (Nat.le_of_eq (by simp only [zqU,zi8]))]; rw [show List.replicate p.Parts.length [AV.sl 1 []]=List.map zcH (List.replicate p.Parts.length []) by simp [zcH],show List.replicate p.Parts.length [I 0]=List.map zaf (List.replicate p.Parts.length 0) by simp [zaf]]; rfl
def zlK (ps:List zaJ):Prop:=1≤ps.length∧ps.length≤3∧(∀ p∈ps,DPaper p∧(0≤p.Code∧p.Code≤1)∧(0≤p.Variant∧p.Variant≤1))∧∀ p∈ps,∀ q∈ps,p.Code=q.Code→p.Variant=q.Variant→p=q
def zrY (ps:List zaJ) (cs:List zbp):Prop:=∀ (j:Nat) (p:zaJ) (c:zbp),ps[j]?=some p→cs[j]?=some c→zfc p c∧Short c
theorem c_Papers (d:zac) (hd:DOk d):∃ (ps:List zaJ) (cs:List zbp) (d':zac),cw zgJ [.loc 1000 2 0 0] (mD d)=some (zgL ((ps,cs),d'))∧zlK ps∧cs.length=ps.length∧zrY ps cs∧DOk d':=by
 have loop:∀ (ps:List zaJ),zlK ps→∀ (d:zac),DOk d→∃ (cs:List zbp) (d':zac),zdy (List.map zaT ps) (List.map zbJ []) d 0=some (zgL ((ps,cs),d'))∧cs.length=ps.length∧zrY ps cs∧DOk d':=by
  intro ps hps d hd; have hpl:=hps.2.1; refine zcn ps (fun i r=>∀ (cs:List zbp) (d:zac),(cs.length:Int)=i→zrY ps cs→DOk d→∃ (cs':List zbp) (d':zac),zdy (List.map zaT ps) (List.map zbJ cs) d i=some (zgL ((ps,cs'),d'))∧cs'.length=ps.length∧zrY ps cs'∧DOk d') ?_ ?_ [] d (by simp) (by intro j p c _ h; simp at h) hd
  · intro cs d hcs hok hd; refine ⟨cs,d,zn9 _ _ _ _ ?_,by omega,hok,hd⟩; simp (disch:=omega) only [zaq,zaW,zb9,zcb,zbz]; rw [zcG (by simp),zcG (by simp)]; rfl
  · intro i hi r hr ih cs d hcs hok hd; obtain ⟨g1,g2,g3⟩:=hps.2.2.1 _ (zbt hi); obtain ⟨c,d1,e1,o1,o2,hd1⟩:=c_Scheme d ps[i] hd g1 (g1.ok (by omega) (by omega))
    obtain ⟨cs',d',e2,o3,o4,hd'⟩:=ih (cs++[c]) d1 (by simp; omega) (by
     intro j p c' hp hc; by_cases hj:j < cs.length
     · rw [zow hj] at hc; exact hok j p c' hp hc
     · have hjl:=(zbH.1 hc).1; simp at hjl; have hji:j=cs.length:=by omega
       subst hji; simp at hc; subst hc; have:i=cs.length:=by omega
       subst this; rw [zau hi] at hp; injection hp with hp; subst hp
       exact ⟨o1,o2⟩) hd1
    refine ⟨cs',d',zn9 _ _ _ _ ?_,o3,o4,hd'⟩; simp (disch:=omega) only [zaq,zaC,zam,zbz,zb9,zbf,ze4,zau hi,zaS,e1,zsr,w64_id,zcS,e2]
 obtain ⟨p0,d0,e0,a0,b0,g0,hd0⟩:=zw6 d 0 0 hd; obtain ⟨b,d1,e1,hd1⟩:=zmx d0 2 hd0 (by omega)
 cases b with
 | true =>
   obtain ⟨p2,d2,e2,a2,b2,g2,hd2⟩:=zw6 d1 0 1 hd1; obtain ⟨b',d3,e3,hd3⟩:=zmx d2 2 hd2 (by omega)
   have start:∀ y,zhU (p0,d0) (p2,d2)=some y→cw zgJ [.loc 1000 2 0 0] (mD d)=some y:=by intro y hy; refine zpl d ?_; simp (disch:=omega) only [e0,e1,e2,zgQ,zbR,zaZ,zam,zbz,hy]
   cases b' with
   | true =>
     obtain ⟨p4,d4,e4,a4,b4,g4,hd4⟩:=zw6 d3 1 0 hd3
     obtain ⟨cs,d',e5,o3,o4,hd'⟩:=loop [p0,p2,p4] (by
      refine ⟨by simp,by simp,?_,?_⟩ <;> simp only [zbV,zf8,or_false]
      · rintro p (rfl | rfl | rfl)
        · exact ⟨g0,by omega,by omega⟩
        · exact ⟨g2,by omega,by omega⟩
        · exact ⟨g4,by omega,by omega⟩
      · rintro p (rfl | rfl | rfl) q (rfl | rfl | rfl) h1 h2 <;> first | rfl | omega) d4 hd4
     refine ⟨[p0,p2,p4],cs,d',start _ (zmg _ _ ?_),?_,o3,o4,hd'⟩
     · simp (disch:=omega) only [e3,e4,zgQ,zbR,zaZ,zam,zbz]; exact e5
     · refine ⟨by simp,by simp,?_,?_⟩ <;> simp only [zbV,zf8,or_false]
       · rintro p (rfl | rfl | rfl)
         · exact ⟨g0,by omega,by omega⟩
         · exact ⟨g2,by omega,by omega⟩
         · exact ⟨g4,by omega,by omega⟩
       · rintro p (rfl | rfl | rfl) q (rfl | rfl | rfl) h1 h2 <;> first | rfl | omega
   | false =>
     have hP:zlK [p0,p2]:=by
      refine ⟨by simp,by simp,?_,?_⟩ <;> simp only [zbV,zf8,or_false]
      · rintro p (rfl | rfl)
        · exact ⟨g0,by omega,by omega⟩
        · exact ⟨g2,by omega,by omega⟩
      · rintro p (rfl | rfl) q (rfl | rfl) h1 h2 <;> first | rfl | omega
     obtain ⟨cs,d',e5,o3,o4,hd'⟩:=loop [p0,p2] hP d3 hd3; refine ⟨[p0,p2],cs,d',start _ (zmg _ _ ?_),hP,o3,o4,hd'⟩; simp (disch:=omega) only [e3,zbR,zaB]; exact e5
 | false =>
   obtain ⟨b',d3,e3,hd3⟩:=zmx d1 2 hd1 (by omega)
   have start:∀ y,zhe (p0,d0) (false,d1)=some y→cw zgJ [.loc 1000 2 0 0] (mD d)=some y:=by intro y hy; refine zpl d ?_; simp (disch:=omega) only [e0,e1,zgQ,zbR,zaB,zam,zbz,hy]
   cases b' with
   | true =>
     obtain ⟨p4,d4,e4,a4,b4,g4,hd4⟩:=zw6 d3 1 0 hd3
     have hP:zlK [p0,p4]:=by
      refine ⟨by simp,by simp,?_,?_⟩ <;> simp only [zbV,zf8,or_false]
      · rintro p (rfl | rfl)
        · exact ⟨g0,by omega,by omega⟩
        · exact ⟨g4,by omega,by omega⟩
      · rintro p (rfl | rfl) q (rfl | rfl) h1 h2 <;> first | rfl | omega
     obtain ⟨cs,d',e5,o3,o4,hd'⟩:=loop [p0,p4] hP d4 hd4; refine ⟨[p0,p4],cs,d',start _ (zk0 _ _ ?_),hP,o3,o4,hd'⟩; simp (disch:=omega) only [e3,e4,zgQ,zbR,zaZ,zam,zbz]; exact e5
   | false =>
     have hP:zlK [p0]:=by
      refine ⟨by simp,by simp,?_,?_⟩ <;> simp only [zbV,zf8,or_false]
      · rintro p rfl
        exact ⟨g0,by omega,by omega⟩
      · rintro p rfl q rfl h1 h2; rfl
     obtain ⟨cs,d',e5,o3,o4,hd'⟩:=loop [p0] hP d3 hd3; refine ⟨[p0],cs,d',start _ (zk0 _ _ ?_),hP,o3,o4,hd'⟩; simp (disch:=omega) only [e3,zbR,zaB]; exact e5
def DMarkers (l:List zbk):Prop:=2≤l.length∧l.length≤5∧zpb l∧(∀ m∈l,m.Papers.length≤2)∧∀ m∈l,m.ID≤15
theorem c_Markers (d:zac) (hd:DOk d):∃ (l:List zbk) (d':zac),cw zkG [.loc 1000 2 0 0] (mD d)=some (zhN (l,d'))∧DMarkers l∧DOk d':=by
 have asc1:∀ {l:List zbk} {m:zbk},AscBy zbk.ID l→(∀ x∈l,x.ID < m.ID)→AscBy zbk.ID (l++[m]):=by
  intro l m h1 h2 j hj; simp at hj; by_cases h:j+1 < l.length
  · rw [zox (by omega),zox h]; exact h1 j h
  · have hj':j+1=l.length:=by omega
    rw [zox (by omega),List.getElem_append_right (by omega)]; simpa using h2 _ (zbt (by omega))
 have loop:∀ (k:Nat) (l:List zbk) (d:zac) (id:Int),DOk d→0≤id→id≤3*l.length→l.length+k≤5→(∀ m∈l,zjC m∧AscBy _root_.id m.Papers)→AscBy zbk.ID l→(∀ m∈l,m.ID≤id)→(∀ m∈l,m.Papers.length≤2)→∃ (l':List zbk) (d':zac),zgW (List.map zbh l) d id k=some (zhN (l',d'))∧(l'.length=l.length+k∧(∀ m∈l',zjC m∧AscBy _root_.id m.Papers)∧AscBy zbk.ID l'∧(∀ m∈l',m.Papers.length≤2)∧∀ m∈l',m.ID≤15)∧DOk d':=by
  intro k
  induction k with
  | zero=>intro l d id hd h0 h1 h2 h3 h4 h5 h6; refine ⟨l,d,znv _ _ _ _ ?_,⟨rfl,h3,h4,h6,fun m hm=>by have:=h5 m hm; omega⟩,hd⟩; simp (disch:=omega) only [zaW,zbz]; rfl
  | succ k ih =>
    intro l d id hd h0 h1 h2 h3 h4 h5 h6; obtain ⟨n0,d0,e0,a0,b0,hd0⟩:=zcc d 3 hd (by omega); obtain ⟨n1,d1,e1,a1,hd1⟩:=c_Pick d0 [-1,-1,1,2,3] hd0 (by simp) (by simp); obtain ⟨n2,d2,e2,a2,hd2⟩:=c_Pick d1 [1,1,1,2,3] hd1 (by simp) (by simp); obtain ⟨n3,d3,e3,a3,hd3⟩:=c_Pick d2 [3,2,6,0,1] hd2 (by simp) (by simp); obtain ⟨n4,d4,e4,a4,b4,hd4⟩:=zcc d3 4 hd3 (by omega); have hlt:n4.toNat < ([[0,1],[0],[1],[0,1]]:List (List Int)).length:=by simp; omega
    have hpapers:∀ q∈([[0,1],[0],[1],[0,1]]:List (List Int)),(∀ n∈q,0≤n∧n≤31)∧AscBy _root_.id q∧q.length≤2:=by
     intro q hq; simp only [zbV,zf8,or_false] at hq
     have A:AscBy _root_.id ([0,1]:List Int):=fun j hj=>by
      simp at hj; have:j=0:=by omega
      subst this; show (0:Int) < 1; omega
     rcases hq with rfl | rfl | rfl | rfl
     · exact ⟨by simp,A,by simp⟩
     · exact ⟨by simp,fun j hj=>by simp at hj,by simp⟩
     · exact ⟨by simp,fun j hj=>by simp at hj,by simp⟩
     · exact ⟨by simp,A,by simp⟩
    obtain ⟨q1,q2,q3⟩:=hpapers _ (zbt hlt); simp only [zbV,zf8,or_false] at a1 a2 a3
    obtain ⟨l',d',e5,o1,hd'⟩:=ih (l++[⟨id+(1+n0),n1,n2,n3,([[0,1],[0],[1],[0,1]]:List (List Int))[n4.toNat]⟩]) d4 (id+(1+n0)) hd4 (by omega) (by simp; omega) (by simp; omega)
     (by
      intro m hm; rcases zb3.1 hm with h | h
      · exact h3 m h
      · simp only [zcV] at h; subst h
        refine ⟨⟨?_,?_,?_,?_,q1⟩,q2⟩ <;> dsimp only <;> omega)
     (asc1 h4 (fun x hx=>by have:=h5 x hx; dsimp only; omega))
     (by
      intro m hm; rcases zb3.1 hm with h | h
      · have:=h5 m h; omega
      · simp only [zcV] at h; subst h
        dsimp only; omega)
     (by
      intro m hm; rcases zb3.1 hm with h | h
      · exact h6 m h
      · simp only [zcV] at h; subst h
        exact q3)
    refine ⟨l',d',znv _ _ _ _ ?_,⟨by have:=o1.1; simp at this; omega,o1.2⟩,hd'⟩; have e6:w64 (((k+1:Nat):Int) - 1)=(k:Int):=by rw [w6Q]; omega
    simp (disch:=omega) only [zaC,e0,e1,e2,e3,e4,zaX,zaX,zam,zbz,zaq,w64_id,e6]; rw [show ([zcH [0,1],zcH [0],zcH [1],zcH [0,1]]:List (List AV))=List.map zcH [[0,1],[0],[1],[0,1]] from rfl,zCS,zau hlt,zaS]; simp (disch:=omega) only [zam,zbz,zaq,w64_id,zcS,e5]
 obtain ⟨n,d0,e0,a0,b0,hd0⟩:=zcc d 4 hd (by omega); obtain ⟨l',d',e1,⟨o1,o2,o3,o4,o5⟩,hd'⟩:=loop (2+n).toNat [] d0 0 hd0 (by omega) (by simp) (by simp; omega) (by simp) (fun j hj=>by simp at hj) (by simp) (by simp); simp at o1; refine ⟨l',d',zvz d ?_,⟨by omega,by omega,⟨by omega,o2,o3⟩,o4,o5⟩,hd'⟩; simp only [e0,zaX]; rw [w6Q]; rw [zwW (by omega)] at e1; exact e1
end Go.Proofs.YtlecnobdfhlmnaaGreat
end
