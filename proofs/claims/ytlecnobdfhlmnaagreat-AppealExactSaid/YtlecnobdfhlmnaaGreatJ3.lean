/- What parts of a body do: printed by a program, checked by the kernel. -/
import Derived.Test.YtlecnobdfhlmnaaGreatXAnn
import Derived.Test.YtlecnobdfhlmnaaGreatAb2
import Derived.Test.YtlecnobdfhlmnaaGreatJ2
import Derived.Control
import Derived.Test.YtlecnobdfhlmnaaGreatJ0
import Derived.OpenShut
import Derived.DataElems
import Derived.ChangeArms
set_option linter.all false
noncomputable section
namespace Go.Proofs.YtlecnobdfhlmnaaGreat
open Go.Ab
set_option maxRecDepth 100000
def re0(r:zaP)(q:zbg)(s:zam)(ev:aA)(l:aD):tReg zbF zT 0 ⟨[(0,AV.agg [I r.xm,I r.S,I r.K]),(1,AV.agg [B q.xn,I q.K]),(2,AV.agg [sE s.k,sH s.c,sG s.u,sP s.V,sK s.E,I s.H.x,I s.H.xi,I s.H.Z,I s.H.S]),(3,sC ev),(4,sD l)],[]⟩=(some ⟨[(3,sC ev),(4,sD l),(5,gQ 5 3),(6,gQ 6 2),(7,gQ 7 9)],[(5,pL r),(6,pO q),(7,pI s)]⟩):=by kernel_rfl
def re1(r:zaP)(q:zbg)(s:zam)(ev:aA)(l:aD):tReg zbF zT 1 ⟨[(3,sC ev),(4,sD l),(5,gQ 5 3),(6,gQ 6 2),(7,gQ 7 9)],[(5,pL r),(6,pO q),(7,pI s)]⟩=(callD zde (cw 17 [sY r,sW q,sS s,sC ev,sD l] []) λ(r0:(List Int)×Int)=>some ⟨[(3,sC ev),(4,sD l),(5,gQ 5 3),(7,gQ 7 9),(12,AV.sl 1 (List.map zah r0.1)),(13,I r0.2)],[(5,pL r),(7,pI s)]⟩):=by kernel_rfl
def re2(r:zaP)(s:zam)(ev:aA)(l:aD)(ch:aC)(e:Int):tReg zbF zT 2 ⟨[(3,sC ev),(4,sD l),(5,gQ 5 3),(7,gQ 7 9),(12,AV.sl 1 (List.map zah ch)),(13,I e)],[(5,pL r),(7,pI s)]⟩=(some ⟨[(3,sC ev),(4,sD l),(5,gQ 5 3),(7,gQ 7 9),(12,AV.sl 1 (List.map zah ch)),(13,I e),(39,B (e !=0))],[(5,pL r),(7,pI s)]⟩):=by kernel_rfl
def re3(e:Int):tReg zbF zT 3 ⟨[(13,I e)],[]⟩=(some ⟨[(10,bH),(11,I e)],[]⟩):=by kernel_rfl
def re4(r:zaP)(s:zam)(ev:aA)(l:aD)(ch:aC):tReg zbF zT 4 ⟨[(3,sC ev),(4,sD l),(5,gQ 5 3),(7,gQ 7 9),(12,AV.sl 1 (List.map zah ch))],[(5,pL r),(7,pI s)]⟩=(callD zeP (cw 20 [sD l] []) λ(r0:(List zan)×Int)=>some ⟨[(3,sC ev),(5,gQ 5 3),(7,gQ 7 9),(12,AV.sl 1 (List.map zah ch)),(13,I r0.2),(14,sD r0.1)],[(5,pL r),(7,pI s)]⟩):=by kernel_rfl
def re5(r:zaP)(s:zam)(ev:aA)(ch:aC)(c:aD)(e:Int):tReg zbF zT 5 ⟨[(3,sC ev),(5,gQ 5 3),(7,gQ 7 9),(12,AV.sl 1 (List.map zah ch)),(13,I e),(14,sD c)],[(5,pL r),(7,pI s)]⟩=(some ⟨[(3,sC ev),(5,gQ 5 3),(7,gQ 7 9),(12,AV.sl 1 (List.map zah ch)),(13,I e),(14,sD c),(47,B (e !=0))],[(5,pL r),(7,pI s)]⟩):=by kernel_rfl
def re7(r:zaP)(s:zam)(ev:aA)(ch:aC)(c:aD):tReg zbF zT 7 ⟨[(3,sC ev),(5,gQ 5 3),(7,gQ 7 9),(12,AV.sl 1 (List.map zah ch)),(14,sD c)],[(5,pL r),(7,pI s)]⟩=(callD zgN (cw 55 [sS s,sC ev] []) λ(r0:zaJ×Int)=>some ⟨[(3,sC ev),(5,gQ 5 3),(7,gQ 7 9),(12,AV.sl 1 (List.map zah ch)),(13,I r0.2),(14,sD c),(15,gQ 15 2)],[(5,pL r),(7,pI s),(15,pK r0.1)]⟩):=by kernel_rfl
def re8(r:zaP)(s:zam)(ev:aA)(ch:aC)(c:aD)(m:zaJ)(e:Int):tReg zbF zT 8 ⟨[(3,sC ev),(5,gQ 5 3),(7,gQ 7 9),(12,AV.sl 1 (List.map zah ch)),(13,I e),(14,sD c),(15,gQ 15 2)],[(5,pL r),(7,pI s),(15,pK m)]⟩=(some ⟨[(3,sC ev),(5,gQ 5 3),(7,gQ 7 9),(12,AV.sl 1 (List.map zah ch)),(13,I e),(14,sD c),(15,gQ 15 2),(56,B (e !=0))],[(5,pL r),(7,pI s),(15,pK m)]⟩):=by kernel_rfl
def re10(r:zaP)(s:zam)(ev:aA)(ch:aC)(c:aD)(m:zaJ):tReg zbF zT 10 ⟨[(3,sC ev),(5,gQ 5 3),(7,gQ 7 9),(12,AV.sl 1 (List.map zah ch)),(14,sD c),(15,gQ 15 2)],[(5,pL r),(7,pI s),(15,pK m)]⟩=(some ⟨[(3,sC ev),(5,gQ 5 3),(7,gQ 7 9),(12,AV.sl 1 (List.map zah ch)),(14,sD c),(15,gQ 15 2),(16,AV.map 58)],[(5,pL r),(7,pI s),(15,pK m),(58,⟨0,114,[],false⟩)]⟩):=by kernel_rfl
def re11(r:zaP)(s:zam)(ev:aA)(ch:aC)(c:aD)(m:zaJ):tReg zbF zT 11 ⟨[(3,sC ev),(5,gQ 5 3),(7,gQ 7 9),(12,AV.sl 1 (List.map zah ch)),(14,sD c),(15,gQ 15 2),(16,AV.map 58)],[(5,pL r),(7,pI s),(15,pK m),(58,⟨0,114,[],false⟩)]⟩=(some ⟨[(3,sC ev),(5,gQ 5 3),(7,gQ 7 9),(12,AV.sl 1 (List.map zah ch)),(14,sD c),(15,gQ 15 2),(16,AV.map 58),(17,I 0)],[(5,pL r),(7,pI s),(15,pK m),(58,⟨0,114,[],false⟩)]⟩):=by kernel_rfl
def re12(r:zaP)(s:zam)(ev:aA)(ch:aC)(c:aD)(m:zaJ)(g:Int):tReg zbF zT 12 ⟨[(3,sC ev),(5,gQ 5 3),(7,gQ 7 9),(12,AV.sl 1 (List.map zah ch)),(14,sD c),(15,gQ 15 2),(16,AV.map 58),(17,I g)],[(5,pL r),(7,pI s),(15,pK m),(58,⟨0,114,[],false⟩)]⟩=(some ⟨[(3,sC ev),(5,gQ 5 3),(7,gQ 7 9),(12,AV.sl 1 (List.map zah ch)),(15,gQ 15 2),(16,AV.map 58),(17,I g),(59,sD c),(60,I ((↑(mB c).length:Int))),(61,I 0)],[(5,pL r),(7,pI s),(15,pK m),(58,⟨0,114,[],false⟩)]⟩):=by kernel_rfl
def re13(r:zaP)(s:zam)(ev:aA)(ch:aC)(c:aD)(m:zaJ)(M:aJ)(g:Int)(n:Int)(i:Int):tReg zbF zT 13 ⟨[(3,sC ev),(5,gQ 5 3),(7,gQ 7 9),(12,AV.sl 1 (List.map zah ch)),(15,gQ 15 2),(16,AV.map 58),(17,I g),(59,sD c),(60,I n),(61,I i)],[(5,pL r),(7,pI s),(15,pK m),(58,gD (mK M))]⟩=(some ⟨[(3,sC ev),(5,gQ 5 3),(7,gQ 7 9),(12,AV.sl 1 (List.map zah ch)),(15,gQ 15 2),(16,AV.map 58),(17,I g),(59,sD c),(60,I n),(61,I i),(62,B (decide (i<n)))],[(5,pL r),(7,pI s),(15,pK m),(58,gD (mK M))]⟩):=by kernel_rfl
def re14(r:zaP)(s:zam)(ev:aA)(ch:aC)(c:aD)(m:zaJ)(M:aJ)(g:Int)(n:Int)(i:Int):tReg zbF zT 14 ⟨[(3,sC ev),(5,gQ 5 3),(7,gQ 7 9),(12,AV.sl 1 (List.map zah ch)),(15,gQ 15 2),(16,AV.map 58),(17,I g),(59,sD c),(60,I n),(61,I i)],[(5,pL r),(7,pI s),(15,pK m),(58,gD (mK M))]⟩=(chk ((0:Int)<=i)<|
 elemD zb4 (mB c) i.toNat λ(c0:zan) =>
 some ⟨[(3,sC ev),(5,gQ 5 3),(7,gQ 7 9),(12,AV.sl 1 (List.map zah ch)),(15,gQ 15 2),(16,AV.map 58),(17,I g),(19,gQ 19 6),(59,sD c),(60,I n),(61,I i)],[(5,pL r),(7,pI s),(15,pK m),(19,pN c0),(58,gD (mK M))]⟩):=by kernel_rfl
def re15(r:zaP)(s:zam)(ev:aA)(ch:aC)(c:aD)(m:zaJ)(M:aJ)(g:Int)(n:Int)(i:Int)(x:zan):tReg zbF zT 15 ⟨[(3,sC ev),(5,gQ 5 3),(7,gQ 7 9),(12,AV.sl 1 (List.map zah ch)),(15,gQ 15 2),(16,AV.map 58),(17,I g),(19,gQ 19 6),(59,sD c),(60,I n),(61,I i)],[(5,pL r),(7,pI s),(15,pK m),(19,pN x),(58,gD (mK M))]⟩=(some ⟨[(3,sC ev),(5,gQ 5 3),(7,gQ 7 9),(12,AV.sl 1 (List.map zah ch)),(15,gQ 15 2),(16,AV.map 58),(17,I (if x.a.n > g then x.a.n else g)),(19,gQ 19 6),(59,sD c),(60,I n),(61,I i)],[(5,pL r),(7,pI s),(15,pK m),(19,pN x),(58,gD (mK M))]⟩):=by kernel_rfl
def re16(r:zaP)(s:zam)(ev:aA)(ch:aC)(c:aD)(m:zaJ)(M:aJ)(g:Int)(n:Int)(i:Int)(x:zan):tReg zbF zT 16 ⟨[(3,sC ev),(5,gQ 5 3),(7,gQ 7 9),(12,AV.sl 1 (List.map zah ch)),(15,gQ 15 2),(16,AV.map 58),(17,I g),(19,gQ 19 6),(59,sD c),(60,I n),(61,I i)],[(5,pL r),(7,pI s),(15,pK m),(19,pN x),(58,gD (mK M))]⟩=(callD zeY (cw 21 [sS s,sU m,pB x] []) λ(r0:(List Int))=>some ⟨[(3,sC ev),(5,gQ 5 3),(7,gQ 7 9),(12,AV.sl 1 (List.map zah ch)),(15,gQ 15 2),(16,AV.map 58),(17,I g),(19,gQ 19 6),(59,sD c),(60,I n),(61,I i),(73,AV.sl 1 (List.map zah r0)),(74,I ((↑(List.map zah r0).length:Int))),(75,I 0)],[(5,pL r),(7,pI s),(15,pK m),(19,pN x),(58,gD (mK M))]⟩):=by kernel_rfl
def re17(r:zaP)(s:zam)(ev:aA)(ch:aC)(c:aD)(m:zaJ)(M:aJ)(g:Int)(n:Int)(i:Int)(x:zan)(sc:aC)(k:Int)(j:Int):tReg zbF zT 17 ⟨[(3,sC ev),(5,gQ 5 3),(7,gQ 7 9),(12,AV.sl 1 (List.map zah ch)),(15,gQ 15 2),(16,AV.map 58),(17,I g),(19,gQ 19 6),(59,sD c),(60,I n),(61,I i),(73,AV.sl 1 (List.map zah sc)),(74,I k),(75,I j)],[(5,pL r),(7,pI s),(15,pK m),(19,pN x),(58,gD (mK M))]⟩=(some ⟨[(3,sC ev),(5,gQ 5 3),(7,gQ 7 9),(12,AV.sl 1 (List.map zah ch)),(15,gQ 15 2),(16,AV.map 58),(17,I g),(19,gQ 19 6),(59,sD c),(60,I n),(61,I i),(73,AV.sl 1 (List.map zah sc)),(74,I k),(75,I j),(76,B (decide (j<k)))],[(5,pL r),(7,pI s),(15,pK m),(19,pN x),(58,gD (mK M))]⟩):=by kernel_rfl
def re18(r:zaP)(s:zam)(ev:aA)(ch:aC)(c:aD)(m:zaJ)(M:aJ)(g:Int)(n:Int)(i:Int)(x:zan)(sc:aC)(k:Int)(j:Int):tReg zbF zT 18 ⟨[(3,sC ev),(5,gQ 5 3),(7,gQ 7 9),(12,AV.sl 1 (List.map zah ch)),(15,gQ 15 2),(16,AV.map 58),(17,I g),(19,gQ 19 6),(59,sD c),(60,I n),(61,I i),(73,AV.sl 1 (List.map zah sc)),(74,I k),(75,I j)],[(5,pL r),(7,pI s),(15,pK m),(19,pN x),(58,gD (mK M))]⟩=(chk ((0:Int)<=j)<|
 elemD zbm (List.map zah sc) j.toNat λ(c0:Int) =>
 some ⟨[(3,sC ev),(5,gQ 5 3),(7,gQ 7 9),(12,AV.sl 1 (List.map zah ch)),(15,gQ 15 2),(16,AV.map 58),(17,I g),(19,gQ 19 6),(21,I c0),(59,sD c),(60,I n),(61,I i),(73,AV.sl 1 (List.map zah sc)),(74,I k),(75,I j)],[(5,pL r),(7,pI s),(15,pK m),(19,pN x),(58,gD (mK M))]⟩):=by kernel_rfl
def re19(r:zaP)(s:zam)(ev:aA)(ch:aC)(c:aD)(m:zaJ)(M:aJ)(g:Int)(n:Int)(i:Int)(x:zan)(sc:aC)(k:Int)(j:Int)(y:Int):tReg zbF zT 19 ⟨[(3,sC ev),(5,gQ 5 3),(7,gQ 7 9),(12,AV.sl 1 (List.map zah ch)),(15,gQ 15 2),(16,AV.map 58),(17,I g),(19,gQ 19 6),(21,I y),(59,sD c),(60,I n),(61,I i),(73,AV.sl 1 (List.map zah sc)),(74,I k),(75,I j)],[(5,pL r),(7,pI s),(15,pK m),(19,pN x),(58,gD (mK M))]⟩=(callD zhh (cw 54 [AV.map 1000,I y,I x.a.n] [(1000,gD (mK M))]) λ(r0:(List (Int×Int)))=>some ⟨[(3,sC ev),(5,gQ 5 3),(7,gQ 7 9),(12,AV.sl 1 (List.map zah ch)),(15,gQ 15 2),(16,AV.map 58),(17,I g),(19,gQ 19 6),(59,sD c),(60,I n),(61,I i),(73,AV.sl 1 (List.map zah sc)),(74,I k),(75,I j)],[(5,pL r),(7,pI s),(15,pK m),(19,pN x),(58,gD (mK r0))]⟩):=by kernel_rfl
def re20(r:zaP)(s:zam)(ev:aA)(ch:aC)(c:aD)(m:zaJ)(M:aJ)(g:Int)(n:Int)(i:Int)(x:zan)(sc:aC)(k:Int)(j:Int):tReg zbF zT 20 ⟨[(3,sC ev),(5,gQ 5 3),(7,gQ 7 9),(12,AV.sl 1 (List.map zah ch)),(15,gQ 15 2),(16,AV.map 58),(17,I g),(19,gQ 19 6),(59,sD c),(60,I n),(61,I i),(73,AV.sl 1 (List.map zah sc)),(74,I k),(75,I j)],[(5,pL r),(7,pI s),(15,pK m),(19,pN x),(58,gD (mK M))]⟩=(some ⟨[(3,sC ev),(5,gQ 5 3),(7,gQ 7 9),(12,AV.sl 1 (List.map zah ch)),(15,gQ 15 2),(16,AV.map 58),(17,I g),(19,gQ 19 6),(59,sD c),(60,I n),(61,I i),(73,AV.sl 1 (List.map zah sc)),(74,I k),(75,I (w64 (j+1)))],[(5,pL r),(7,pI s),(15,pK m),(19,pN x),(58,gD (mK M))]⟩):=by kernel_rfl
def re21(r:zaP)(s:zam)(ev:aA)(ch:aC)(c:aD)(m:zaJ)(M:aJ)(g:Int)(n:Int)(i:Int):tReg zbF zT 21 ⟨[(3,sC ev),(5,gQ 5 3),(7,gQ 7 9),(12,AV.sl 1 (List.map zah ch)),(15,gQ 15 2),(16,AV.map 58),(17,I g),(59,sD c),(60,I n),(61,I i)],[(5,pL r),(7,pI s),(15,pK m),(58,gD (mK M))]⟩=(some ⟨[(3,sC ev),(5,gQ 5 3),(7,gQ 7 9),(12,AV.sl 1 (List.map zah ch)),(15,gQ 15 2),(16,AV.map 58),(17,I g),(59,sD c),(60,I n),(61,I (w64 (i+1)))],[(5,pL r),(7,pI s),(15,pK m),(58,gD (mK M))]⟩):=by kernel_rfl
def re22(r:zaP)(s:zam)(ev:aA)(ch:aC)(c:aD)(m:zaJ)(M:aJ)(g:Int):tReg zbF zT 22 ⟨[(3,sC ev),(5,gQ 5 3),(7,gQ 7 9),(12,AV.sl 1 (List.map zah ch)),(15,gQ 15 2),(16,AV.map 58),(17,I g)],[(5,pL r),(7,pI s),(15,pK m),(58,gD (mK M))]⟩=(callD zhD (cw 72 [sS s] []) λ(r0:(List (Int×Bool)))=>some ⟨[(3,sC ev),(5,gQ 5 3),(7,gQ 7 9),(12,AV.sl 1 (List.map zah ch)),(15,gQ 15 2),(16,AV.map 58),(17,I g),(22,AV.map 88)],[(5,pL r),(7,pI s),(15,pK m),(58,gD (mK M)),(88,gH (mM r0))]⟩):=by kernel_rfl
def re23(r:zaP)(s:zam)(ev:aA)(ch:aC)(c:aD)(m:zaJ)(M:aJ)(g:Int)(sd:aS):tReg zbF zT 23 ⟨[(3,sC ev),(5,gQ 5 3),(7,gQ 7 9),(12,AV.sl 1 (List.map zah ch)),(15,gQ 15 2),(16,AV.map 58),(17,I g),(22,AV.map 88)],[(5,pL r),(7,pI s),(15,pK m),(58,gD (mK M)),(88,gH (mM sd))]⟩=(callD zfk (cw 62 [sY r,sS s,sU m,AV.sl 1 (List.map zah ch)] []) λ(r0:(List Int))=>some ⟨[(3,sC ev),(15,gQ 15 2),(16,AV.map 58),(17,I g),(22,AV.map 88),(93,gR 93 1 (List.map zah r0)),(94,I ((↑(List.map zah r0).length:Int))),(95,I 0)],[(15,pK m),(58,gD (mK M)),(88,gH (mM sd)),(93,⟨1,3,List.map zah r0,false⟩)]⟩):=by kernel_rfl
def re24(ev:aA)(m:zaJ)(M:aJ)(g:Int)(sd:aS)(bl:aC)(n:Int)(i:Int):tReg zbF zT 24 ⟨[(3,sC ev),(15,gQ 15 2),(16,AV.map 58),(17,I g),(22,AV.map 88),(93,gR 93 1 (List.map zah bl)),(94,I n),(95,I i)],[(15,pK m),(58,gD (mK M)),(88,gH (mM sd)),(93,⟨1,3,List.map zah bl,false⟩)]⟩=(some ⟨[(3,sC ev),(15,gQ 15 2),(16,AV.map 58),(17,I g),(22,AV.map 88),(93,gR 93 1 (List.map zah bl)),(94,I n),(95,I i),(96,B (decide (i<n)))],[(15,pK m),(58,gD (mK M)),(88,gH (mM sd)),(93,⟨1,3,List.map zah bl,false⟩)]⟩):=by kernel_rfl
def re25(ev:aA)(m:zaJ)(M:aJ)(g:Int)(sd:aS)(bl:aC)(n:Int)(i:Int):tReg zbF zT 25 ⟨[(3,sC ev),(15,gQ 15 2),(16,AV.map 58),(17,I g),(22,AV.map 88),(93,gR 93 1 (List.map zah bl)),(94,I n),(95,I i)],[(15,pK m),(58,gD (mK M)),(88,gH (mM sd)),(93,⟨1,3,List.map zah bl,false⟩)]⟩=(chk ((0:Int)<=i)<|
 chk ((i:Int)<((↑(List.map zah bl).length:Int)))<|
 elemD zbm (List.map zah bl) (0+i.toNat) λ(c0:Int) =>
 some ⟨[(3,sC ev),(15,gQ 15 2),(16,AV.map 58),(17,I g),(22,AV.map 88),(24,I c0),(93,gR 93 1 (List.map zah bl)),(94,I n),(95,I i)],[(15,pK m),(58,gD (mK M)),(88,gH (mM sd)),(93,⟨1,3,List.map zah bl,false⟩)]⟩):=by kernel_rfl
def re26(ev:aA)(m:zaJ)(M:aJ)(g:Int)(sd:aS)(bl:aC)(n:Int)(i:Int)(id:Int):tSeg zbF zT 26 0 3 ⟨[(3,sC ev),(15,gQ 15 2),(16,AV.map 58),(17,I g),(22,AV.map 88),(24,I id),(93,gR 93 1 (List.map zah bl)),(94,I n),(95,I i)],[(15,pK m),(58,gD (mK M)),(88,gH (mM sd)),(93,⟨1,3,List.map zah bl,false⟩)]⟩=(callD zhD (cw 73 [sU m,I id] []) λ(r0:(List (Int×Bool)))=>some ⟨[(101,AV.map 101),(100,I id),(99,AV.agg [sM m.M,sI m.xo]),(3,sC ev),(15,gQ 15 2),(16,AV.map 58),(17,I g),(22,AV.map 88),(24,I id),(93,gR 93 1 (List.map zah bl)),(94,I n),(95,I i)],[(101,gH (mM r0)),(15,pK m),(58,gD (mK M)),(88,gH (mM sd)),(93,⟨1,3,List.map zah bl,false⟩)]⟩):=by kernel_rfl
def re28(ev:aA)(m:zaJ)(M:aJ)(g:Int)(sd:aS)(bl:aC)(n:Int)(i:Int)(p:Addr)(k:Int)(v:Bool):tSeg zbF zT 28 1 2 ⟨[(3,sC ev),(15,gQ 15 2),(16,AV.map 58),(17,I g),(22,AV.map 88),(93,gR 93 1 (List.map zah bl)),(94,I n),(95,I i),(102,AV.v (.pointer (some p))),(105,AV.tup [I k,B v])],[(15,pK m),(58,gD (mK M)),(88,gH (mM sd)),(93,⟨1,3,List.map zah bl,false⟩)]⟩=(some ⟨[(25,I k),(106,I k),(3,sC ev),(15,gQ 15 2),(16,AV.map 58),(17,I g),(22,AV.map 88),(93,gR 93 1 (List.map zah bl)),(94,I n),(95,I i),(102,AV.v (.pointer (some p))),(105,AV.tup [I k,B v])],[(15,pK m),(58,gD (mK M)),(88,gH (mM sd)),(93,⟨1,3,List.map zah bl,false⟩)]⟩):=by kernel_rfl
def re29(ev:aA)(m:zaJ)(M:aJ)(g:Int)(sd:aS)(bl:aC)(n:Int)(i:Int)(p:Addr)(k:Int):tReg zbF zT 29 ⟨[(3,sC ev),(15,gQ 15 2),(16,AV.map 58),(17,I g),(22,AV.map 88),(25,I k),(93,gR 93 1 (List.map zah bl)),(94,I n),(95,I i),(102,AV.v (.pointer (some p)))],[(15,pK m),(58,gD (mK M)),(88,gH (mM sd)),(93,⟨1,3,List.map zah bl,false⟩)]⟩=(mapD zP 3 false dBool (B false) (mM sd) (I k) λ(c0:Bool) (b1:Bool)=>some ⟨[(3,sC ev),(15,gQ 15 2),(16,AV.map 58),(17,I g),(22,AV.map 88),(25,I k),(93,gR 93 1 (List.map zah bl)),(94,I n),(95,I i),(102,AV.v (.pointer (some p))),(110,B (!c0))],[(15,pK m),(58,gD (mK M)),(88,gH (mM sd)),(93,⟨1,3,List.map zah bl,false⟩)]⟩):=by kernel_rfl
def re30(ev:aA)(m:zaJ)(M:aJ)(g:Int)(sd:aS)(bl:aC)(n:Int)(i:Int)(p:Addr)(k:Int):tReg zbF zT 30 ⟨[(3,sC ev),(15,gQ 15 2),(16,AV.map 58),(17,I g),(22,AV.map 88),(25,I k),(93,gR 93 1 (List.map zah bl)),(94,I n),(95,I i),(102,AV.v (.pointer (some p)))],[(15,pK m),(58,gD (mK M)),(88,gH (mM sd)),(93,⟨1,3,List.map zah bl,false⟩)]⟩=(callD zhh (cw 54 [AV.map 1000,I k,I g] [(1000,gD (mK M))]) λ(r0:(List (Int×Int)))=>some ⟨[(3,sC ev),(15,gQ 15 2),(16,AV.map 58),(17,I g),(22,AV.map 88),(93,gR 93 1 (List.map zah bl)),(94,I n),(95,I i),(102,AV.v (.pointer (some p)))],[(15,pK m),(58,gD (mK r0)),(88,gH (mM sd)),(93,⟨1,3,List.map zah bl,false⟩)]⟩):=by kernel_rfl
def re31(ev:aA)(m:zaJ)(M:aJ)(g:Int)(sd:aS)(bl:aC)(n:Int)(i:Int):tReg zbF zT 31 ⟨[(3,sC ev),(15,gQ 15 2),(16,AV.map 58),(17,I g),(22,AV.map 88),(93,gR 93 1 (List.map zah bl)),(94,I n),(95,I i)],[(15,pK m),(58,gD (mK M)),(88,gH (mM sd)),(93,⟨1,3,List.map zah bl,false⟩)]⟩=(some ⟨[(3,sC ev),(15,gQ 15 2),(16,AV.map 58),(17,I g),(22,AV.map 88),(93,gR 93 1 (List.map zah bl)),(94,I n),(95,I (w64 (i+1)))],[(15,pK m),(58,gD (mK M)),(88,gH (mM sd)),(93,⟨1,3,List.map zah bl,false⟩)]⟩):=by kernel_rfl
def re32(ev:aA)(M:aJ):tReg zbF zT 32 ⟨[(3,sC ev),(16,AV.map 58)],[(58,gD (mK M))]⟩=(callD zgM (cw 57 [AV.mp (mK M)] []) λ(r0:(List zad))=>some ⟨[(3,sC ev),(26,sC r0)],[]⟩):=by kernel_rfl
def re33(ev:aA)(o:aA):tReg zbF zT 33 ⟨[(3,sC ev),(26,sC o)],[]⟩=(callD zgM (cw 56 [sC ev,sC o] []) λ(r0:(List zad)) =>
 callD zeE (cw 75 [sC r0] []) λ(r1:(List zad)×Int) =>
 some ⟨[(26,sC o),(28,I r1.2)],[]⟩):=by kernel_rfl
def re34(o:aA)(e:Int):tReg zbF zT 34 ⟨[(26,sC o),(28,I e)],[]⟩=(some ⟨[(26,sC o),(28,I e),(126,B (e !=0))],[]⟩):=by kernel_rfl
def re36(o:aA):tReg zbF zT 36 ⟨[(26,sC o)],[]⟩=(some ⟨[(10,sC o),(11,I 0)],[]⟩):=by kernel_rfl
set_option maxRecDepth 100000
def rpC:Code:=(zbF.fn.body).getD .skip
def rpO(j:Nat):Array Oper:=opsAt j rpC
def rpD(j:Nat):Bool:=ztI j rpC
def rp_hb:zbF.fn.body=some rpC:=by kernel_rfl
def rp_shape:rpC=(.seq (.region 0 (rpO 0) (rpD 0)) (.seq (.region 1 (rpO 1) (rpD 1)) (.seq (.seq (.region 2 (rpO 2) (rpD 2)) (.cond (.tmp 39) (.seq (.region 3 (rpO 3) (rpD 3)) .ret) .skip)) (.seq (.region 4 (rpO 4) (rpD 4)) (.seq (.seq (.region 5 (rpO 5) (rpD 5)) (.cond (.tmp 47) (.seq (.region 6 (rpO 6) (rpD 6)) .ret) .skip)) (.seq (.region 7 (rpO 7) (rpD 7)) (.seq (.seq (.region 8 (rpO 8) (rpD 8)) (.cond (.tmp 56) (.seq (.region 9 (rpO 9) (rpD 9)) .ret) .skip)) (.seq (.region 10 (rpO 10) (rpD 10)) (.seq (.region 11 (rpO 11) (rpD 11)) (.seq (.seq (.region 12 (rpO 12) (rpD 12)) (.block 0 (.loop (.seq (.region 13 (rpO 13) (rpD 13)) (.seq (.cond (.tmp 62) .skip (.exit 0)) (.seq (.block 1 (.seq (.region 14 (rpO 14) (rpD 14)) (.seq (.region 15 (rpO 15) (rpD 15)) (.seq (.region 16 (rpO 16) (rpD 16)) (.block 2 (.loop (.seq (.region 17 (rpO 17) (rpD 17)) (.seq (.cond (.tmp 76) .skip (.exit 2)) (.seq (.block 3 (.seq (.region 18 (rpO 18) (rpD 18)) (.region 19 (rpO 19) (rpD 19)))) (.region 20 (rpO 20) (rpD 20))))))))))) (.region 21 (rpO 21) (rpD 21)))))))) (.seq (.region 22 (rpO 22) (rpD 22)) (.seq (.seq (.region 23 (rpO 23) (rpD 23)) (.block 4 (.loop (.seq (.region 24 (rpO 24) (rpD 24)) (.seq (.cond (.tmp 96) .skip (.exit 4)) (.seq (.block 5 (.seq (.region 25 (rpO 25) (rpD 25)) (.seq (.region 26 (rpO 26) false) (.block 6 (.loop (.seq (.region 27 (rpO 27) false) (.seq (.cond (.tmp 104) .skip (.exit 6)) (.block 7 (.seq (.region 28 (rpO 28) false) (.seq (.region 29 (rpO 29) (rpD 29)) (.cond (.tmp 110) (.region 30 (rpO 30) (rpD 30)) .skip))))))))))) (.region 31 (rpO 31) (rpD 31)))))))) (.seq (.region 32 (rpO 32) (rpD 32)) (.seq (.seq (.region 33 (rpO 33) (rpD 33)) (.seq (.region 34 (rpO 34) (rpD 34)) (.cond (.tmp 126) (.seq (.region 35 (rpO 35) (rpD 35)) .ret) .skip))) (.seq (.region 36 (rpO 36) (rpD 36)) .ret))))))))))))))):=by kernel_rfl
def rp_r26:regOf 26 rpC=some (.region 26 (rpO 26) false):=by kernel_rfl
def rp_r28:regOf 28 rpC=some (.region 28 (rpO 28) false):=by kernel_rfl
def rp_n:zbF.fn.ntmps<=1000:=by decide
def rp_enters:enters zbF.P 23=true:=by kernel_rfl
noncomputable section
abbrev NR:Nat:=zbF.fn.ntmps
abbrev PR:Program:=zbF.P
abbrev e58(M:aJ):Nat×Ent:=(58,gD (mK M))
abbrev e15(m:zaJ):Nat×Ent:=(15,pK m)
abbrev s39(ev:aA):Nat×AV:=(3,.sl 9 (mA ev))
abbrev stP(r:zaP)(s:zam)(ev:aA)(ch:aC)(m:zaJ)(M:aJ)(g:Int)(lt:List (Nat×AV)):St:=
 ⟨[s39 ev,(5,.loc 5 3 0 0),(7,.loc 7 9 0 0),(12,.sl 1 (List.map zah ch)),(15,.loc 15 2 0 0),(16,.map 58),(17,I g)]++lt,[(5,pL r),(7,pI s),e15 m,e58 M]⟩
abbrev ltC(c:aD)(i:Int):List (Nat×AV):=[(59,.sl 6 (mB c)),(60,I (mB c).length),(61,I i)]
abbrev stX(r:zaP)(s:zam)(ev:aA)(ch:aC)(m:zaJ)(M:aJ)(g:Int)(x:zan)(lt:List (Nat×AV)):St:=
 ⟨[s39 ev,(5,.loc 5 3 0 0),(7,.loc 7 9 0 0),(12,.sl 1 (List.map zah ch)),(15,.loc 15 2 0 0),(16,.map 58),(17,I g),(19,.loc 19 6 0 0)]++lt,[(5,pL r),(7,pI s),e15 m,(19,pN x),e58 M]⟩
abbrev ltS(sc:aC)(j:Int):List (Nat×AV):=[(73,.sl 1 (List.map zah sc)),(74,I (List.map zah sc).length),(75,I j)]
abbrev stQ(ev:aA)(m:zaJ)(M:aJ)(g:Int)(sd:aS)(bl:aC)(i:Int)(lt:List (Nat×AV)):St:=
 ⟨[s39 ev,(15,.loc 15 2 0 0),(16,.map 58),(17,I g),(22,.map 88),(93,.row 93 1 0 (List.map zah bl).length),(94,I (List.map zah bl).length),(95,I i)]++lt,[e15 m,e58 M,(88,gH (mM sd)),(93,⟨1,3,List.map zah bl,false⟩)]⟩
def at25(k:Int)(st:St):St:=⟨st.t.take 5++(25,I k)::st.t.drop 5,st.m⟩
def Times.congr{s:zam}{f f':aY}{M:aJ}(h:Times s f M)(e:∀x∈s.c,f x=f' x):Times s f' M:=⟨h.nd,h.num,λx hx=>(h.val x hx).trans (e x hx)⟩
def keysV(kv sd:aS)(done:aF):List Int:=(done.filterMap λj=>(kv[j]?).map (·.1)).filter λk=>!(mfind k sd).getD false
def keysV_snoc(kv sd:aS)(done:aF){j:Nat}{p:Int×Bool}(h:kv[j]?=some p):keysV kv sd (done++[j])=keysV kv sd done++(if(mfind p.1 sd).getD false then[]else[p.1]):=by
 unfold keysV
 grind
def mem_keysV{kv sd:aS}{done:aF}(h1:∀i∈done,i<kv.length)(h2:∀i,i<kv.length->i∈done)(k:Int):k∈keysV kv sd done↔k∈kv.map (·.1)/\(mfind k sd).getD false=false:=by
 unfold keysV;rw[zcf,zdN]
 have e:(∃a,a∈done/\Option.map (λx=>x.1) kv[a]?=some k)↔k∈kv.map (·.1):=by
  rw[zbA];constructor
  .grind
  . rintro⟨p,hp,rfl⟩
    obtain⟨i,hi,rfl⟩:=zbB.1 hp
    grind
 rw[e];simp
def zJf(l:aC)(k t:Int)(M:aJ):addL (l++[k]) t M=addT k t (addL l t M):=by
 unfold addL
 simp_all
section
variable{w0:World}{S0:aB}{κ0:Kap}{K:aB}{a:Act}{w:World}
def rpStep{j:Nat}{st st':St}{X:Sat2}(hX:Stable X)(ht:tReg zbF zT j st=some st')
  (h:NowP w0 S0 κ0 K NR X st a w) {Q:aO} (hQ:∀a' w',NowP w0 S0 κ0 K NR X st' a' w'->Q .normal a' w') (hr:regOf j rpC=some (.region j (rpO j) (rpD j)):=by kernel_rfl):(Code.region j (rpO j) (rpD j)).wp PR Q a w:=stepP hX rp_hb rp_n hr ht h hQ
def rp_scope{r:zaP}{s:zam}{ev:aA}{ch:aC}{m:zaJ}{M:aJ}{g:Int}{c:aD}{i:Int}{x:zan}{sc:aC}(hsc:sc.length<=1000)
  (h:NowP w0 S0 κ0 K NR X0 (stX r s ev ch m M g x (ltC c i++ltS sc 0)) a w) {Q:aO}
  (hQ:∀a' w',NowP w0 S0 κ0 K NR X0 (stP r s ev ch m (addL sc x.a.n M) g (ltC c i)) a' w'->Q .normal a' w'):(Code.block 2 (.loop (.seq (.region 17 (rpO 17) (rpD 17)) (.seq (.cond (.tmp 76) .skip (.exit 2)) (.seq (.block 3 (.seq (.region 18 (rpO 18) (rpD 18)) (.region 19 (rpO 19) (rpD 19)))) (.region 20 (rpO 20) (rpD 20))))))).wp PR Q a w:=by
 refine wp_block (wp_loop (λa w=>∃k:Nat,k<=sc.length/\NowP w0 S0 κ0 K NR X0 (stX r s ev ch m (addL (sc.take k) x.a.n M) g x (ltC c i++ltS sc k)) a w) (λa _=>sc.length-cnt a 75) ⟨0,zc4 _,h⟩ ?_)
 rintro a w ⟨k,hk,hn⟩
 have hc0:cnt a 75=k:=by rw[hn.cnt (n:=(k:Int)) rfl];simp
 generalize hM:addL (sc.take k) x.a.n M=Mk at hn;refine wp_seq (rpStep Stable.none (re17 r s ev ch c m Mk g _ i x sc _ k) hn (λa2 w2 h2=>?_));refine wp_seq (wp_cond (h2.bool (b:=decide ((k:Int)<(List.map zah sc).length)) rfl) ?_);by_cases hlt:k<sc.length
 case neg=>rw[decide_eq_false (by simp;omega),iNs];rw[zaz (by omega)]at hM;exact wp_exit (hQ _ _ (by rw[hM];exact h2.trim Stable.none [3,5,7,12,15,16,17,59,60,61] [19] (by kernel_rfl)))
 rw[decide_eq_true (by simp;omega),if_pos rfl];refine wp_skip ?_;have h3:=h2.trim Stable.none [3,5,7,12,15,16,17,19,59,60,61,73,74,75] [] (st':=stX r s ev ch m Mk g x (ltC c i++ltS sc k)) (by kernel_rfl);have t18:=re18 r s ev ch c m Mk g (mB c).length i x sc (List.map zah sc).length k;rw[cPQ,zb6,show((k:Int)).toNat=k from rfl,zaa hlt,zae]at t18;refine wp_seq (wp_block (wp_seq (rpStep Stable.none t18 h3 (λa4 w4 h4=>?_))));have t19:=re19 r s ev ch c m Mk g (mB c).length i x sc (List.map zah sc).length k sc[k];rw[c_add,zkT]at t19;refine rpStep Stable.none t19 h4 (λa5 w5 h5=>?_);have t20:=re20 r s ev ch c m (addT sc[k] x.a.n Mk) g (mB c).length i x sc (List.map zah sc).length k;rw[w6Q]at t20;refine rpStep Stable.none t20 h5 (λa6 w6 h6=>⟨⟨k+1,hlt,?_⟩,?_⟩)
 .rw[zbP hlt,zJf,hM];exact h6
 . have:cnt a6 75=k+1:=by rw[h6.cnt (n:=(k:Int)+1) rfl];omega
   omega
def rp_appeals{r:zaP}{s:zam}(hs:zb2 s){ev:aA}{ch:aC}{m:zaJ}(hm:m.M.length<=1000000){c:aD}(hc:c.length<=24)
  (h:NowP w0 S0 κ0 K NR X0 (stP r s ev ch m [] 0 (ltC c 0)) a w) {Q:aO}
  (hQ:∀a' w',NowP w0 S0 κ0 K NR X0 (stP r s ev ch m (schedM s m c []) (lastT c) []) a' w'->Q .normal a' w'):(Code.block 0 (.loop (.seq (.region 13 (rpO 13) (rpD 13)) (.seq (.cond (.tmp 62) .skip (.exit 0)) (.seq (.block 1 (.seq (.region 14 (rpO 14) (rpD 14)) (.seq (.region 15 (rpO 15) (rpD 15)) (.seq (.region 16 (rpO 16) (rpD 16)) (.block 2 (.loop (.seq (.region 17 (rpO 17) (rpD 17)) (.seq (.cond (.tmp 76) .skip (.exit 2)) (.seq (.block 3 (.seq (.region 18 (rpO 18) (rpD 18)) (.region 19 (rpO 19) (rpD 19)))) (.region 20 (rpO 20) (rpD 20))))))))))) (.region 21 (rpO 21) (rpD 21))))))).wp PR Q a w:=by
 refine wp_block (wp_loop (λa w=>∃k:Nat,k<=c.length/\NowP w0 S0 κ0 K NR X0 (stP r s ev ch m (schedM s m (c.take k) []) (lastT (c.take k)) (ltC c k)) a w) (λa _=>c.length-cnt a 61) ⟨0,zc4 _,h⟩ ?_)
 rintro a w ⟨k,hk,hn⟩
 have hc0:cnt a 61=k:=by rw[hn.cnt (n:=(k:Int)) rfl];simp
 generalize hM:schedM s m (c.take k) []=Mk at hn;generalize hg:lastT (c.take k)=g at hn;refine wp_seq (rpStep Stable.none (re13 r s ev ch c m Mk g _ k) hn (λa2 w2 h2=>?_));refine wp_seq (wp_cond (h2.bool (b:=decide ((k:Int)<(mB c).length)) rfl) ?_);by_cases hlt:k<c.length
 case neg=>rw[decide_eq_false (by simp;omega),iNs];rw[zaz (by omega)]at hM hg;exact wp_exit (hQ _ _ (by rw[hM,hg];exact h2.trim Stable.none [3,5,7,12,15,16,17] [] (by kernel_rfl)))
 rw[decide_eq_true (by simp;omega),if_pos rfl];refine wp_skip ?_;have h3:=h2.trim Stable.none [3,5,7,12,15,16,17,59,60,61] [] (st':=stP r s ev ch m Mk g (ltC c k)) (by kernel_rfl)
 have hnM:schedM s m (c.take (k+1)) []=addL (scopeL s m c[k]) c[k].a.n Mk:=by rw[zbP hlt,<-hM];unfold schedM;rw[zh9];rfl
 have hng:lastT (c.take (k+1))=if g<c[k].a.n then c[k].a.n else g:=by rw[zbP hlt,<-hg];unfold lastT;rw[zh9];rfl
 have t14:=re14 r s ev ch c m Mk g (mB c).length k;rw[cPQ,zdY,show((k:Int)).toNat=k from rfl,zaa hlt,zae]at t14;generalize c[k]=x at hnM hng t14;refine wp_seq (wp_block (wp_seq (rpStep Stable.none t14 h3 (λa4 w4 h4=>?_))));refine wp_seq (rpStep Stable.none (re15 r s ev ch c m Mk g _ k x) h4 (λa5 w5 h5=>?_));have t16:=re16 r s ev ch c m Mk (if x.a.n > g then x.a.n else g) (mB c).length k x;rw[zzh hs.scripts (by have:=hs.seeds;omega) m hm x,zgs]at t16;refine wp_seq (rpStep Stable.none t16 h5 (λa6 w6 h6=>?_))
 have hsl:(scopeL s m x).length<=1000:=by unfold scopeL;rw[zac];have:=zcv (scopeB s m x) s.c;have:=hs.scripts.1;omega
 refine rp_scope (c:=c) (i:=(k:Int)) (x:=x) (sc:=scopeL s m x) hsl h6 (λa7 w7 h7=>?_);have t21:=re21 r s ev ch c m (addL (scopeL s m x) x.a.n Mk) (if x.a.n > g then x.a.n else g) (mB c).length k;rw[w6Q]at t21;refine rpStep Stable.none t21 h7 (λa8 w8 h8=>⟨⟨k+1,hlt,?_⟩,?_⟩)
 .grind
 . have:cnt a8 61=k+1:=by rw[h8.cnt (n:=(k:Int)+1) rfl];omega
   omega
def rp_marks{s:zam}{ev:aA}{m:zaJ}(hm:m.M.length<=1000000){M:aJ}{g:Int}{sd:aS}{bl:aC}{i id:Int}
  (h:NowP w0 S0 κ0 K NR X0 ⟨[s39 ev,(15,.loc 15 2 0 0),(16,.map 58),(17,I g),(22,.map 88),(24,I id),(93,.row 93 1 0 (List.map zah bl).length),(94,I (List.map zah bl).length),(95,I i)],(stQ ev m M g sd bl i []).m⟩ a w) {Q:aO}
  (hQ:∀ks a' w',(∀k,k∈ks↔marksB m id k=true/\(mfind k sd).getD false=false)->NowP w0 S0 κ0 K NR X0 (stQ ev m (addL ks g M) g sd bl i []) a' w'->Q .normal a' w'):(Code.seq (.region 26 (rpO 26) false) (.block 6 (.loop (.seq (.region 27 (rpO 27) false) (.seq (.cond (.tmp 104) .skip (.exit 6)) (.block 7 (.seq (.region 28 (rpO 28) false) (.seq (.region 29 (rpO 29) (rpD 29)) (.cond (.tmp 110) (.region 30 (rpO 30) (rpD 30)) .skip))))))))).wp PR Q a w:=by
 refine wp_seq (wp_region ?_);have z26:(rpO 26).size=4:=by kernel_rfl
 rw[z26,show List.range 4=List.range' 0 3++[3]from rfl];have t26:=re26 ev m M g sd bl (List.map zah bl).length i id;rw[zAm m id hm,zj4]at t26;generalize hkv:setM (markL m id) []=kv at t26;refine segP Stable.none rp_hb rp_n rp_r26 t26 (by rw[z26];decide) h (λa1 w1 h1=>?_);have h2:=(h1.trim Stable.none [101,3,15,16,17,22,93,94,95] [] (st':=⟨(101,.map 101)::(stQ ev m M g sd bl i []).t,(stQ ev m M g sd bl i []).m++[(101,gH (mM kv))]⟩) (by kernel_rfl)).freeze Stable.none rp_n [101] (by kernel_rfl) (st':=⟨(101,.mp (mM kv))::(stQ ev m M g sd bl i []).t,(stQ ev m M g sd bl i []).m⟩) (by kernel_rfl);rw[wpOps_cons];refine zA0 (t:=68) (k:=3) (e:=4) (by unfold opIs;kernel_rfl) (by kernel_rfl) (by decide) h2 (m:=101) (d:=102) rfl (λa3 w3 r q en clock h3=>?_);have h4:=h3.trim Rng.stable [3,15,16,17,22,93,94,95,102] [] (st':=stQ ev m (addL (keysV kv sd []) g M) g sd bl i [(102,.v (.pointer (some ⟨r,0,none⟩)))]) (by kernel_rfl);refine zA2 (it:=102) (d1:=103) (d2:=104) (r:=r) (stf:=λdone=>stQ ev m (addL (keysV kv sd done) g M) g sd bl i [(102,.v (.pointer (some ⟨r,0,none⟩)))]) [3,15,16,17,22,93,94,95,102] (by kernel_rfl) (by unfold opIs;kernel_rfl) (by unfold opIs;kernel_rfl) (by decide) (by decide) (λ_=>rfl) (λ_ _ _=>by kernel_rfl) ?_ h4 ?_
 . intro done j k v hd hdl hjd hk a w hn
   have hj:j<kv.length:=by have:=(zao.1 hk).1;simpa using this
   have hkj:=zaa hj;rw[zbx,hkj]at hk;simp only[keysV_snoc kv sd done hkj];generalize kv[j]=p at hk hkj ⊢;obtain⟨ky,b⟩:=p;simp only[zbk,zaj,zbE,zaD,and_true]at hk;obtain⟨rfl,rfl⟩:=hk;generalize keysV kv sd done=ks at hn ⊢;refine wp_block (wp_seq (wp_region ?_));have z28:(rpO 28).size=3:=by kernel_rfl
   rw[z28,show List.range 3=0::(List.range' 1 2++[])from rfl,wpOps_cons];refine zAF (by unfold opIs;kernel_rfl) (by decide) hn (it:=102) (d:=105) rfl (by rw[zbx,hkj];rfl) (λa1 w1 h1=>?_);have h2:=h1.trim Rng.stable [3,15,16,17,22,93,94,95,102,105] [] (st':=stQ ev m (addL ks g M) g sd bl i [(102,.v (.pointer (some ⟨r,0,none⟩))),(105,.tup [I ky,B b])]) (by kernel_rfl);refine segP Rng.stable rp_hb rp_n rp_r28 (re28 ev m (addL ks g M) g sd bl _ i ⟨r,0,none⟩ ky b) (by rw[z28];decide) h2 (λa3 w3 h3=>?_);have h4:=h3.trim Rng.stable [3,15,16,17,22,25,93,94,95,102] [] (st':=stQ ev m (addL ks g M) g sd bl i [(102,.v (.pointer (some ⟨r,0,none⟩)))]|> at25 ky) (by kernel_rfl);have t29:=re29 ev m (addL ks g M) g sd bl (List.map zah bl).length i ⟨r,0,none⟩ ky;rw[zlX]at t29;refine wp_seq (rpStep Rng.stable t29 h4 (λa5 w5 h5=>?_));refine wp_cond (h5.bool (b:=!(mfind ky sd).getD false) rfl) ?_
   cases hsd:(mfind ky sd).getD false with
   |true=>rw[iNs];rw[hsd]at h5;refine wp_skip ⟨rfl,?_⟩;rw[if_pos rfl,zcu];exact h5.trim Rng.stable [3,15,16,17,22,93,94,95,102] [] (by kernel_rfl)
   |false=>rw[if_pos (by simp)];rw[hsd]at h5;have h6:=h5.trim Rng.stable [3,15,16,17,22,25,93,94,95,102] [] (st':=stQ ev m (addL ks g M) g sd bl i [(102,.v (.pointer (some ⟨r,0,none⟩)))]|> at25 ky) (by kernel_rfl);have t30:=re30 ev m (addL ks g M) g sd bl (List.map zah bl).length i ⟨r,0,none⟩ ky;rw[c_add,zkT]at t30;refine rpStep Rng.stable t30 h6 (λa7 w7 h7=>⟨rfl,?_⟩);rw[iNs,zJf];exact h7
 . intro done hd hdl hall a' w' hn;refine hQ (keysV kv sd done) a' w' (λk=>?_) (hn.trim Rng.stable [3,15,16,17,22,93,94,95] [] (by kernel_rfl)).drop;rw[mem_keysV (λi hi=>by simpa using hdl i hi) (λi hi=>hall i (by simpa using hi)),<-hkv,<-zGr];refine and_congr_left' ?_;constructor
   . intro hk
     cases hf:mfind k (setM (markL m id) [])with
     |none=>exact absurd hk (zqB.1 hf)
     |some b =>
       rw[zxT]at hf;simp only[mfind]at hf
       simp_all
   .intro hk;apply zfm;intro hn;rw[zqB.2 hn]at hk;cases hk
def rp_blamed{s:zam}{ev:aA}{m:zaJ}(hm:m.M.length<=1000000)(hg:∀n id,marksB m id n=true->∃x∈s.c,x.j=n){f:aY}{M:aJ}(hM:Times s f M){g:Int}(hf:∀x∈s.c,∀a,f x=some a->a<=g){sd:aS}{bl:aC}(hb:bl.length<=1000)
  (h:NowP w0 S0 κ0 K NR X0 (stQ ev m M g sd bl 0 []) a w) {Q:aO}
  (hQ:∀M' a' w',Times s (λx=>(f x).or (if bl.any (λid=>marksB m id x.j)=true/\(mfind x.j sd).getD false=false then some g else none)) M'->NowP w0 S0 κ0 K NR X0 ⟨[s39 ev,(16,.map 58)],[e58 M']⟩ a' w'->Q .normal a' w'):(Code.block 4 (.loop (.seq (.region 24 (rpO 24) (rpD 24)) (.seq (.cond (.tmp 96) .skip (.exit 4)) (.seq (.block 5 (.seq (.region 25 (rpO 25) (rpD 25)) (.seq (.region 26 (rpO 26) false) (.block 6 (.loop (.seq (.region 27 (rpO 27) false) (.seq (.cond (.tmp 104) .skip (.exit 6)) (.block 7 (.seq (.region 28 (rpO 28) false) (.seq (.region 29 (rpO 29) (rpD 29)) (.cond (.tmp 110) (.region 30 (rpO 30) (rpD 30)) .skip))))))))))) (.region 31 (rpO 31) (rpD 31))))))).wp PR Q a w:=by
 refine wp_block (wp_loop (λa w=>∃(k:Nat) (M':aJ),k<=bl.length/\Times s (λx=>(f x).or (if(bl.take k).any (λid=>marksB m id x.j)=true/\(mfind x.j sd).getD false=false then some g else none)) M'/\NowP w0 S0 κ0 K NR X0 (stQ ev m M' g sd bl k []) a w) (λa _=>bl.length-cnt a 95) ⟨0,M,zc4 _,hM.congr (λx hx=>by simp),h⟩ ?_)
 rintro a w ⟨k,M',hk,hT,hn⟩
 have hc0:cnt a 95=k:=by rw[hn.cnt (n:=(k:Int)) rfl];simp
 refine wp_seq (rpStep Stable.none (re24 ev m M' g sd bl _ k) hn (λa2 w2 h2=>?_));refine wp_seq (wp_cond (h2.bool (b:=decide ((k:Int)<(List.map zah bl).length)) rfl) ?_);by_cases hlt:k<bl.length
 case neg=>rw[decide_eq_false (by simp;omega),iNs];rw[zaz (by omega)]at hT;exact wp_exit (hQ M' _ _ hT (h2.trim Stable.none [3,16] [15,88,93] (by kernel_rfl)))
 rw[decide_eq_true (by simp;omega),if_pos rfl];refine wp_skip ?_;have h3:=h2.trim Stable.none [3,15,16,17,22,93,94,95] [] (st':=stQ ev m M' g sd bl k []) (by kernel_rfl);have t25:=re25 ev m M' g sd bl (List.map zah bl).length k;rw[cPQ,zar (by simp;omega),zb6,zaR,show((k:Int)).toNat=k from rfl,zaa hlt,zae]at t25;refine wp_seq (wp_block (wp_seq (rpStep Stable.none t25 h3 (λa4 w4 h4=>?_))));refine rp_marks (s:=s) hm h4 (λks a5 w5 hks h5=>?_);have t31:=re31 ev m (addL ks g M') g sd bl (List.map zah bl).length k;rw[w6Q]at t31;refine rpStep Stable.none t31 h5 (λa6 w6 h6=>⟨⟨k+1,addL ks g M',hlt,?_,h6⟩,?_⟩)
 . refine(hT.addL (l:=ks) (t:=g) (λn hn=>hg n bl[k] ((hks n).1 hn).1) (λx hx b hb=>?_)).congr (λx hx=>?_)
   . cases hfx:f x with
     |some c=>grind
     |none=>simp_all
   . have hkx:=hks x.j;rw[zbP hlt,List.any_append]
     grind
 . have:cnt a6 95=k+1:=by rw[h6.cnt (n:=(k:Int)+1) rfl];omega
   omega
def zJR{r:zaP}{q:zbg}{s:zam}{ev:aA}{l:aD}(h:(zd2 r q s ev l).2≠0):reopR r q s ev l=([],(zd2 r q s ev l).2):=by
 unfold reopR zd2 at *
 grind
def zGy{r:zaP}{q:zbg}{s:zam}{ev:aA}{l:aD}(h:(zd2 r q s ev l).2=0):reopR r q s ev l=(reopS r q s ev (appS l).1,0)/\(appS l).2=0/\(zd2 r q s ev l).1=ze8 r q s ev (appS l).1:=by
 unfold reopR zd2 at *
 grind
def appS_bd{l:aD}{a:zan}(h:a∈(appS l).1):0<=a.a.n:=by
 have:=(zHc.1 (appS_mem h)).2.1;unfold zeA at this;simp only[zaS]at this;obtain⟨⟨h1,_⟩,_⟩:=this;unfold stampB at h1
 simp_all
def rp_body{r:zaP}{q:zbg}{s:zam}{ev:aA}{l:aD}(hO:OkApp s ev l)(h:NowP w0 S0 κ0 K NR X0 ⟨[(0,.agg (zaK r)),(1,.agg (zbt q)),(2,.agg (zap s)),s39 ev,(4,.sl 6 (mB l))],[]⟩ a w):rpC.wp PR (PostC w0 S0 κ0 K NR .ret (if(zd2 r q s ev l).2≠0 then⟨[(10,.v (.slice none 0 0)),(11,I (zd2 r q s ev l).2)],[]⟩else⟨[(10,.sl 9 (mA (reopS r q s ev (appS l).1))),(11,I 0)],[]⟩)) a w:=by
 have hs:=hO.1;rw[rp_shape];refine wp_seq (rpStep Stable.none (re0 r q s ev l) h (λa1 w1 h1=>?_));have t1:=re1 r q s ev l;rw[zJk hO,ze7]at t1;refine wp_seq (rpStep Stable.none t1 h1 (λa2 w2 h2=>?_));refine wp_seq (wp_seq (rpStep Stable.none (re2 r s ev l _ _) h2 (λa3 w3 h3=>?_)));refine wp_cond (h3.bool (b:=(zd2 r q s ev l).2 !=0) rfl) ?_;by_cases hE:(zd2 r q s ev l).2=0
 case neg=>rw[if_pos (show((zd2 r q s ev l).2 !=0)=true by simpa using hE),if_pos hE];have h4:=h3.trim Stable.none [13] [5,7] (st':=⟨[(13,I (zd2 r q s ev l).2)],[]⟩) (by kernel_rfl);refine wp_seq (rpStep Stable.none (re3 _) h4 (λa5 w5 h5=>?_));refine wp_ret ⟨rfl,?_⟩;obtain⟨S,κ,hg,_⟩:=h5;exact⟨S,κ,hg⟩
 rw[if_neg (show¬((zd2 r q s ev l).2 !=0)=true by simpa using hE),if_neg (by simpa using hE)];refine wp_skip ?_;obtain⟨_,hA,hch⟩:=zGy hE;have h4:=h3.trim Stable.none [3,4,5,7,12] [] (st':=⟨[s39 ev,(4,.sl 6 (mB l)),(5,.loc 5 3 0 0),(7,.loc 7 9 0 0),(12,.sl 1 (List.map zah (zd2 r q s ev l).1))],[(5,pL r),(7,pI s)]⟩) (by kernel_rfl);rw[hch]at h4;have hcas:=zMZ (r:=r) (q:=q) hs ev (appS l).1;have hcfew:=zM0 (r:=r) (q:=q) hs ev (appS l).1;have hc24:=zwv l;have hasc:=zFJ l;have hpos:=λa (ha:a∈(appS l).1)=>appS_bd ha
 unfold reopS;generalize ze8 r q s ev (appS l).1=ch at h4 hcas hcfew;have t4:=re4 r s ev l ch;rw[zxC hO.2.2.2,zfZ]at t4;refine wp_seq (rpStep Stable.none t4 h4 (λa5 w5 h5=>?_));generalize appS l=ap at h5 hA hc24 hasc hpos;obtain⟨c,e0⟩:=ap;simp only at hA hc24 hasc hpos;subst hA;refine wp_seq (wp_seq (rpStep Stable.none (re5 r s ev ch c 0) h5 (λa6 w6 h6=>?_)));refine wp_cond (h6.bool (b:=false) rfl) ?_;rw[iNs];refine wp_skip ?_;have h7:=h6.trim Stable.none [3,5,7,12,14] [] (st':=⟨[s39 ev,(5,.loc 5 3 0 0),(7,.loc 7 9 0 0),(12,.sl 1 (List.map zah ch)),(14,.sl 6 (mB c))],[(5,pL r),(7,pI s)]⟩) (by kernel_rfl);have t7:=re7 r s ev ch c;rw[zFL hs (few_ev hO),zhm]at t7;refine wp_seq (rpStep Stable.none t7 h7 (λa8 w8 h8=>?_));have hsm:=zqq hs (few_ev hO)
 have hgv:∀n id,marksB (foldS s ev) id n=true->∃x∈s.c,x.j=n:=λn id hb=>by obtain⟨y,hy,e⟩:=zgr.1 hb;simp only[zY]at e;rw[<-e.2];exact zMm (zqp hs hy).1
 generalize foldS s ev=m at h8 hsm hgv;refine wp_seq (wp_seq (rpStep Stable.none (re8 r s ev ch c m 0) h8 (λa9 w9 h9=>?_)));refine wp_cond (h9.bool (b:=false) rfl) ?_;rw[iNs];refine wp_skip ?_;have h10:=h9.trim Stable.none [3,5,7,12,14,15] [] (st':=⟨[s39 ev,(5,.loc 5 3 0 0),(7,.loc 7 9 0 0),(12,.sl 1 (List.map zah ch)),(14,.sl 6 (mB c)),(15,.loc 15 2 0 0)],[(5,pL r),(7,pI s),e15 m]⟩) (by kernel_rfl);refine wp_seq (rpStep Stable.none (re10 r s ev ch c m) h10 (λa11 w11 h11=>?_));refine wp_seq (rpStep Stable.none (re11 r s ev ch c m) h11 (λa12 w12 h12=>?_));refine wp_seq (wp_seq (rpStep Stable.none (re12 r s ev ch c m 0) h12 (λa13 w13 h13=>?_)));refine rp_appeals hs hsm.1 hc24 h13 (λa14 w14 h14=>?_);have hT:=zFd hs m hasc
 have hlast:∀x∈s.c,∀a,timeS s m c x=some a->a<=lastT c:=λx hx a ha=>by obtain⟨y,hy,_,rfl⟩:=zDL ha;exact(zAM c 0).2 y hy
 have t22:=re22 r s ev ch c m (schedM s m c []) (lastT c);rw[c_seeds s (by have:=hs.seeds;omega),zj4]at t22;refine wp_seq (rpStep Stable.none t22 h14 (λa15 w15 h15=>?_));have t23:=re23 r s ev ch c m (schedM s m c []) (lastT c) (setM (s.E.map (·.h)) []);rw[c_blamed r hs m hsm.1 ch (hcas.imp λh e=>by omega) (by omega),zgU]at t23;refine wp_seq (wp_seq (rpStep Stable.none t23 h15 (λa16 w16 h16=>?_)))
 have hbl:(zgP r s m ch).length<=1000:=by unfold zgP;rw[zac];have:=zcv (λx:zbh=>x.I==1&&decide (r.S<=(ch.filter (marksB m x.ID)).length)) s.k;have:=hs.markers.1;omega
 refine rp_blamed (s:=s) hsm.1 hgv hT hlast hbl h16 (λM' a17 w17 hM' h17=>?_)
 have hM2:Times s (reopT s m c (zgP r s m ch)) M':=hM'.congr (λx hx=>by
  unfold reopT;rw[zGB]
  grind)
 have t32:=re32 ev M';rw[c_open hs hM2,zi5]at t32;refine wp_seq (rpStep Stable.none t32 h17 (λa18 w18 h18=>?_));have hfew:=zwS hO (reopT s m c (zgP r s m ch));have holen:=znM s (reopT s m c (zgP r s m ch));have h60:=hs.scripts.1;have hev:=hO.2.1;have hol:=zt3 (schedL s (reopT s m c (zgP r s m ch)));generalize openS (schedL s (reopT s m c (zgP r s m ch)))=o at h18 hfew hol ⊢;have t33:=re33 ev o;rw[c_with ev o (by omega) (by omega),zi5]at t33;rw[show cw 75 [sC (ev++o)] []=some (zdw (canonS (ev++o),0))from c_canon false hfew,zhf]at t33;refine wp_seq (wp_seq (rpStep Stable.none t33 h18 (λa19 w19 h19=>?_)));refine wp_seq (rpStep Stable.none (re34 o 0) h19 (λa20 w20 h20=>?_));refine wp_cond (h20.bool (b:=false) rfl) ?_;rw[iNs];refine wp_skip ?_;have h21:=h20.trim Stable.none [26] [] (st':=⟨[(26,.sl 9 (mA o))],[]⟩) (by kernel_rfl);refine wp_seq (rpStep Stable.none (re36 o) h21 (λa22 w22 h22=>?_));refine wp_ret ⟨rfl,?_⟩;obtain⟨S,κ,hg,_⟩:=h22;exact⟨S,κ,hg⟩
end
def zNv:CallOK zP (single 23 zOrc):=by
 intro f args ms r ms' h;unfold single at h;split at h
 case isFalse=>cases h
 rename_i hf;subst hf
 cases ms with
 |cons a m =>
   have hz:zOrc 23 args (a::m)=none:=by unfold zOrc;simp(decide:=true) only [if_false,if_true]
   grind
 |nil =>
 have hz:zOrc 23 args []=zuG args:=by unfold zOrc;simp(decide:=true) only [if_false,if_true]
 rw[hz]at h;clear hz;unfold zuG at h;split at h
 case isFalse=>cases h
 rename_i hex;have hsp:=hex.choose_spec.choose_spec.choose_spec.choose_spec.choose_spec;generalize hex.choose_spec.choose_spec.choose_spec.choose_spec.choose=l at h hsp;generalize hex.choose_spec.choose_spec.choose_spec.choose=ev at h hsp;generalize hex.choose_spec.choose_spec.choose=s at h hsp;generalize hex.choose_spec.choose=q at h hsp;generalize hex.choose=r0 at h hsp;obtain⟨rfl,hO⟩:=hsp;injection h with h;injection h with h1 h2;subst h1 h2;refine⟨rp_enters,λw S κ vals hvl hS hv hms hinj=>?_⟩;have hf:zbF.P.funcs[23]?=some zbF.fn:=by kernel_rfl
 refine zpB (args:=argR r0 q s ev l) (frz:=false) (ex:=.ret) hf rp_hb (show 5<=zbF.fn.ntmps by decide) hvl hS hv hms hinj (λid=>by simp) (λa hg=>?_) (st:=if(zd2 r0 q s ev l).2≠0 then⟨[(10,.v (.slice none 0 0)),(11,I (zd2 r0 q s ev l).2)],[]⟩else⟨[(10,.sl 9 (mA (reopS r0 q s ev (appS l).1))),(11,I 0)],[]⟩) ?_ ?_ ?_
 .obtain⟨S,κ,hg⟩:=hg;exact rp_body hO ⟨S,κ,hg,trivial⟩
 . by_cases hE:(zd2 r0 q s ev l).2=0
   .rw[if_neg (by simpa using hE),(zGy hE).1];kernel_rfl
   .rw[if_pos hE,zJR hE];kernel_rfl
 .split<;>kernel_rfl
 .kernel_rfl
def c_Reopened{r:zaP}{q:zbg}{s:zam}{ev:aA}{l:aD}(hO:OkApp s ev l):cw 23 [.agg (zaK r),.agg (zbt q),.agg (zap s),.sl 9 (mA ev),.sl 6 (mB l)] []=some (zdw (reopR r q s ev l)):=by
 refine ziz zNv ?_;show zOrc 23 (argR r q s ev l) []=_
 have hz:zOrc 23 (argR r q s ev l) []=zuG (argR r q s ev l):=by unfold zOrc;simp(decide:=true) only [if_false,if_true]
 rw[hz];unfold zuG;have hex:∃r' q' s' ev' l',argR r q s ev l=argR r' q' s' ev' l'/\OkApp s' ev' l':=⟨r,q,s,ev,l,rfl,hO⟩
 rw[dif_pos hex];have hsp:=hex.choose_spec.choose_spec.choose_spec.choose_spec.choose_spec;generalize hex.choose_spec.choose_spec.choose_spec.choose_spec.choose=l' at hsp;generalize hex.choose_spec.choose_spec.choose_spec.choose=ev' at hsp;generalize hex.choose_spec.choose_spec.choose=s' at hsp;generalize hex.choose_spec.choose=q' at hsp;generalize hex.choose=r' at hsp;have h1:=hsp.1;unfold argR at h1;simp only[zN,AV.agg.injEq,AV.sl.injEq]at h1;obtain⟨g1,g2,g3,g4,g5⟩:=h1;have e1:r=r':=ziN.inj g1;have e2:q=q':=zqi.inj g2;have e3:s=s':=zqj.inj g3;have e4:ev=ev':=ev_inj g4;have e5:l=l':=Eq.mp (TyD.minj zb4) g5;subst e1 e2 e3 e4 e5;rfl
end
set_option maxRecDepth 20000
def c_Rule(d:zak)(hd:DOk d):∃(q:zbg) (d':zak),cw 16 [.loc 1000 2 0 0] (mD d)=some (zrS (q,d'))/\chkR q=0/\DOk d':=by
 obtain⟨b,d1,h1,hd1⟩:=zsu d 2 hd (by omega);obtain⟨n,d2,h2,h0,h3,hd2⟩:=zdD d1 3 hd1 (by omega);refine⟨⟨b,n⟩,d2,zF1 ?_,?_,hd2⟩
 .simp only[h1,h2,zeg,zbD];rfl
 . unfold chkR
   grind
def zLM(d:zak)(hd:DOk d):∃(r:zaP) (d':zak),cw 15 [.loc 1000 2 0 0] (mD d)=some (zm0 (r,d'))/\chkA r=0/\DOk d':=by
 obtain⟨a,d1,h1,ha,hd1⟩:=c_Pick d [1000,100,0] hd (by simp) (by simp);obtain⟨n,d2,h2,n0,n1,hd2⟩:=zdD d1 2 hd1 (by omega);obtain⟨k,d3,h3,k0,k1,hd3⟩:=zdD d2 3 hd2 (by omega);refine⟨⟨a,1+n,k⟩,d3,zyy ?_,?_,hd3⟩
 .rw[h1,zbD];simp only;rw[h2,zbD];simp only;rw[h3,zbD,w6Q];rfl
 . unfold chkA
   grind
def c_Appeals(d:zak)(s:zam)(hd:DOk d)(hs:DSetup s):∃(l:aD) (d':zak),cw 14 [.loc 1000 2 0 0,.agg (zap s),I 5] (mD d)=some (zlJ (l,d'))/\l.length<=10/\DOk d':=by
 have hm1:=hs.markers.1;have hm2:=hs.markers.2.1
 let Q:AV×Mem->Prop:=λy=>∃(l:aD) (d':zak),y=zlJ (l,d')/\l.length<=10/\DOk d'
 have loop:∀(n i:Nat) (xs:aD) (d:zak),i+n=5->xs.length<=2*i->DOk d->Sat Q (zis s 5 (mB xs) d i):=by
  intro n
  induction n with
  |zero=>intro i xs d hi hx hd;refine sat_of (λy=>zsi) ?_;rw[zaH (by omega),cPQ,zcR];exact zrT ⟨xs,d,rfl,by omega,hd⟩
  |succ n ih =>
    intro i xs d hi hx hd
    have next:∀(a:zan) (d:zak),DOk d->Sat Q (ziU s 5 (mB xs) i a d):=by
     intro a d hd;have hraw:mB xs++[[AV.v (Go.Value.int IntKind.i64 a.a.n),AV.v (Go.Value.int IntKind.i64 a.a.b),AV.v (Go.Value.int IntKind.i64 a.a.B),AV.v (Go.Value.int IntKind.i64 a.r),AV.v (Go.Value.int IntKind.i64 a.y),AV.v (Go.Value.int IntKind.i64 a.q)]]=mB (xs++[a]):=by(try simp only[<-zdL zai]);rfl
     obtain⟨b,d1,e1,hd1⟩:=zsu d 5 hd (by omega);refine sat_of (λy=>zw8) ?_;rw[hraw,zar rfl,zar (by grind),zar rfl,e1,zeg];simp only[zdL zai]
     try simp only
     rw[w6Q,show((i:Int)+1)=((i+1:Nat):Int)by omega]
     cases b with
     |false=>rw[zay];exact ih (i+1) (xs++[a]) d1 (by omega) (by simp;omega) hd1
     |true =>
       obtain⟨v,d2,e2,h0,h1,hd2⟩:=zdD d1 ((mB (xs++[a])).length:Int) hd1 (by grind);have hv:v.toNat<(xs++[a]).length:=by simp only[zac,zby,ziJ]at h1 ⊢;omega
       rw[zaO,e2,zbD];simp only;rw[zar h0,zar (by simp_all),zaR,zdY,zaa hv,zae];simp only[zbp];rw[zar (by grind)]
       try simp only[zdL zai]
       exact ih (i+1) (xs++[a]++[(xs++[a])[v.toNat]]) d2 (by omega) (by simp;omega) hd2
    obtain⟨u,d1,e1,u0,u1,hd1⟩:=zdD d 200 hd (by omega);obtain⟨v,d2,e2,v0,v1,hd2⟩:=zdD d1 3 hd1 (by omega);obtain⟨b,d3,e3,hd3⟩:=zsu d2 4 hd2 (by omega);refine sat_of (λy=>zsi) ?_;rw[zaB (by omega),e1,zbD];simp only;rw[e2,zbD];simp only;rw[e3,zeg]
    cases b with
    |true =>
      obtain⟨k,d4,e4,k0,k1,hd4⟩:=zdD d3 ((mI s.k).length:Int) hd3 (by grind);have hk:k.toNat<s.k.length:=by rw[zac]at k1;omega
      simp_all
    |false =>
      obtain⟨k,d4,e4,k0,k1,hd4⟩:=zdD d3 4 hd3 (by omega)
      simp_all
 obtain⟨y,e1,l,d',rfl,h⟩:=loop 5 0 [] d (by omega) (by simp) hd;exact⟨l,d',zBW e1,h⟩
def c_SameList(a b:aA)(ha:a.length<=1000000)(hp:∀e∈a,e.A.length<=1000000):cw 25 [.sl 9 (mA a),.sl 9 (mA b)] []=some (zat (dec (a=b))):=by
 refine zF8 ?_;by_cases h:a.length=b.length
 . simp only[zG,zac,h];have H:=zlj a.length (λj hj=>a[j]=b[j]'(by omega)) (λi=>zmr a b i) zat ?_ ?_ ?_
   .rw[H,zhz];exact⟨λhh=>zdb h (λi h1 h2=>hh i h1),λhh=>by subst hh;intros;rfl⟩
   .exact zqb (by simp(disch:=omega)only[zH];rfl)
   .intro i hi hn;refine zqb ?_;simp(disch:=omega)only[zF,zcB,zaa hi,zaa (show i<b.length by omega)];rw[zwz _ _ (hp _ (zau hi)),zas,zbJ hn];rfl
   .intro i hi y hn hk;refine zqb ?_;simp(disch:=omega)only[zF,zcB,zaa hi,zaa (show i<b.length by omega)];rw[zwz _ _ (hp _ (zau hi)),zas,zbq hn,zaG,zay,w6Q];exact hk
 .rw[zbJ (λhh=>h (by rw[hh]))];simp only[zac,show((a.length:Int) !=(b.length:Int))=true by grind,zaO];rfl
def zFP(a b:aD)(ha:a.length<=1000000):cw 26 [.sl 6 (mB a),.sl 6 (mB b)] []=some (zat (dec (a=b))):=by
 refine zL3 ?_;by_cases h:a.length=b.length
 . simp only[zG,zac,h];have H:=zlj a.length (λj hj=>a[j]=b[j]'(by omega)) (λi=>zqv a b i) zat ?_ ?_ ?_
   .rw[H,zhz];exact⟨λhh=>zdb h (λi h1 h2=>hh i h1),λhh=>by subst hh;intros;rfl⟩
   .exact zt9 (by simp(disch:=omega)only[zH];rfl)
   .intro i hi hn;refine zt9 ?_;simp(disch:=omega)only[zF,zdY,zaa hi,zaa (show i<b.length by omega)];rw[ap_ne,decide_eq_false hn];rfl
   .intro i hi y hn hk;refine zt9 ?_;simp(disch:=omega)only[zF,zdY,zaa hi,zaa (show i<b.length by omega)];rw[ap_ne,decide_eq_true hn,zaG,zay,w6Q];exact hk
 .rw[zbJ (λhh=>h (by rw[hh]))];simp only[zac,show((a.length:Int) !=(b.length:Int))=true by grind,zaO];rfl
def rv(a b c d:Int):zan:=⟨⟨a,b,c⟩,0,d,0⟩
def c_review(a b c d:Int):cw 41 [I a,I b,I c,I d] []=some (zt6 (rv a b c d)):=zIW rfl
def inTime(r:zaP)(p:Int)(l:aD):List zan:=l.filter λa=>stampB a.a&&decide (0<=p/\p<=1000000/\p<=a.a.n/\a.a.n-p<=r.xm)
def zFK(r:zaP)(p:Int)(l:aD)(hl:l.length<=1000000):cw 29 [.agg (zaK r),I p,.sl 6 (mB l)] []=some (zku (inTime r p l)):=by
 refine zHv ?_;by_cases h0:0<=p/\p<=1000000
 case neg =>
  have e:inTime r p l=[]:=by
   unfold inTime
   (simp_all;omega)
  rw[e];by_cases h1:p<0
  .rw[zaB h1];rfl
  .rw[zaH h1,zaB (by omega)];rfl
 rw[zaH (by omega),zaH (by omega)];refine zbW l (λi rest=>∀out:List zan,(out.length:Int)<=i->zhM r p l (mB out) i=some (zku (out++inTime r p rest))) ?_ ?_ [] (by simp)
 .intro out ho;refine zvF ?_;rw[zac,zaH (by omega),zar rfl];unfold inTime;rw[zcX,zcu];rfl
 . intro i hi rest _ ih out ho;refine zvF ?_;rw[zac,zaB (by omega),cPQ,zaf,zdY,zaa hi,zae,zwB,zas,zar rfl,zar (by grind),zar rfl,w64_id (show -9223372036854775808<=(i:Int)+1 by omega) (by omega)];unfold inTime at ih ⊢;rw[zbU];generalize l[i]=a
   cases hs:stampB a.a with
   |false =>
     rw[zay,zcU,iNs]
     grind
   |true =>
     have ht:0<=a.a.n/\a.a.n<=1000000:=by unfold stampB at hs;simp only[decide_eq_true_eq]at hs;exact hs.1
     rw[zaO,zcy,w6Q];by_cases h1:p<=a.a.n
     . by_cases h2:a.a.n-p<=r.xm
       . rw[zaB h1,zaB h2,if_pos (by simp;omega)];have:=ih (out++[a]) (by simp;omega)
         simp_all
       . rw[zaB h1,zaH h2,if_neg (by simp;omega)]
         grind
     . rw[zaH h1,if_neg (by simp;omega)]
       grind
def S38:zam:=⟨[],[⟨7,0,7,3,0,[],[]⟩,⟨8,0,8,3,0,[],[]⟩],[],[],[],⟨0,0,0,0⟩⟩
def okS38:zl1 S38.c:=by
 refine⟨by decide,λx hx=>?_,λj hj=>?_⟩
 . have:x=⟨7,0,7,3,0,[],[]⟩\/x=⟨8,0,8,3,0,[],[]⟩:=by simpa[S38]using hx
   unfold znP;rcases this with rfl|rfl<;>simp
 . have:j=0:=by simp only[S38,zcA,zcN]at hj;omega
   subst this;show(7:Int)<8;omega
def zFQ:cw 9 [] []=some (zat true):=by
 refine zL4 ?_;simp only[c_review,zCR];have h1:appS [rv 5 3 0 7,rv 5 3 0 7,rv 2 3 1 8]=([rv 2 3 1 8,rv 5 3 0 7],0):=by kernel_rfl
 have h2:scopeL S38 ⟨[],[]⟩ (rv 5 3 0 7)=[7]:=by kernel_rfl
 have h3:scopeL S38 ⟨[],[]⟩ (rv 5 4 0 7)=[]:=by kernel_rfl
 have h4:inTime ⟨3,0,0⟩ 2 [rv 2 3 1 8,rv 5 3 0 7]=[rv 2 3 1 8,rv 5 3 0 7]:=by kernel_rfl
 have h5:zeA (rv 2 3 1 8)=true:=by kernel_rfl
 rw[zxC (l:=[rv 5 3 0 7,rv 5 3 0 7,rv 2 3 1 8]) (by simp),h1,zfZ];have e1:=zzh okS38 (by decide) ⟨[],[]⟩ (by simp) (rv 5 3 0 7);have e2:=zzh okS38 (by decide) ⟨[],[]⟩ (by simp) (rv 5 4 0 7);rw[h2]at e1;rw[h3]at e2;unfold S38 at e1 e2;rw[e1,zgs,e2,zgs,zFK _ _ _ (by simp),h4,zoV];rw[cPQ,zdY,show([rv 2 3 1 8,rv 5 3 0 7]:List zan)[Int.toNat 0]?=some (rv 2 3 1 8)from rfl,zae];rw[cPQ,zb6,show([7]:List Int)[Int.toNat 0]?=some 7 from rfl,zae];rw[cPQ,zdY,show([rv 2 3 1 8,rv 5 3 0 7]:List zan)[Int.toNat 0]?=some (rv 2 3 1 8)from rfl,zae,zAk,h5,zas,zAj,za7];rfl
section
variable{s:zam}{m:zaJ}{c:aD}{bl:aC}
end
def zyt{r:zaP}{q:zbg}{s:zam}{ev:aA}{c:aD}{n:Int}(h:n∈ze8 r q s ev c):∃x∈s.c,x.j=n/\∃a∈c,a.r=0/\∀m,scopeB s m a x=true:=by
 unfold ze8 at h;obtain⟨p,hp,rfl⟩:=zbA.1 h;obtain⟨h1,_⟩:=zcf.1 hp;unfold zgC at h1;obtain⟨x,hx,h2,h3⟩:=zuE.1 h1;obtain⟨a,ha,hb,_⟩:=zDL h2;obtain⟨ha,hk⟩:=zcf.1 ha;have hk:a.r=0:=by simpa using hk
 refine⟨x,hx,h3,a,ha,hk,λm=>?_⟩;unfold scopeB at hb ⊢;rw[hk]at hb ⊢;simpa[marksB]using hb
def zBq{r:zaP}{q:zbg}{s:zam}(hs:zb2 s)(ev:aA)(c:aD):(ze8 r q s ev c).Nodup/\(ze8 r q s ev c).length<=60:=by
 have h:=zDy hs (timeS s ⟨[],[]⟩ (c.filter λa=>a.r==0));have hl:=znM s (timeS s ⟨[],[]⟩ (c.filter λa=>a.r==0));have h60:=hs.scripts.1;unfold ze8 zgC;constructor
 .exact((h.imp λh e=>by omega:(List.map _ _).Nodup)).sublist ((List.filter_sublist).map _)
 .rw[zac];exact zbY (zcv _ _) (by omega)
set_option maxRecDepth 20000
def zJ0(s:zbf):dec (zoH s)=stampB s:=by unfold stampB;exact(zf1 (by rw[decide_eq_true_eq];unfold zoH;omega)).symm
def zxD(a:zan):cw 32 [.agg (zai a)] []=some (zat (zeA a)):=by
 refine zKY ?_;rw[zu6,zas,zJ0];unfold zeA
 cases stampB a.a with
 |false=>rfl
 |true =>
   simp only[zO,zL,zeB,zcy]
   repeat' split
   all_goals refine congrArg (λb=>some (zat b)) ?_
   all_goals(rw[zdi];simp;try grind)
def zCJ(r:zaP):cw 36 [.agg (zaK r)] []=some (zbv (chkA r)):=by
 refine zKW ?_;unfold chkA;simp only[zV]
 repeat' split
 all_goals first|rfl|omega
def zJn(r:zaP)(p:Int)(l:aD)(hl:l.length<=1000000):cw 30 [.agg (zaK r),I p,.sl 6 (mB l)] []=some (zku (inTime r p l)):=by
 refine zI5 ?_;refine zbW l (λi rest=>∀out:List zan,(out.length:Int)<=i->zgG r p l (mB out) i=some (zku (out++inTime r p rest))) ?_ ?_ [] (by simp)
 .intro out ho;refine zxh ?_;rw[zac,zaH (by omega),zar rfl];unfold inTime;rw[zcX,zcu];rfl
 . intro i hi rest _ ih out ho;have keep:=ih (out++[l[i]]) (by simp;omega);have skip:=ih out (by omega);rw[zcp,zee]at keep;simp only[zbS]at keep;refine zxh ?_;simp(disch:=omega)only[zF,zdY,zaa hi,zu6,zas,zJ0,zbp,w64_id (show -9223372036854775808<=(i:Int)+1 by omega) (show(i:Int)+1<9223372036854775808 by omega)];unfold inTime at keep skip ⊢;rw[zbU];generalize l[i]=a at *
   cases hs:stampB a.a with
   |false=>exact skip
   |true =>
     have ht:0<=a.a.n/\a.a.n<=1000000:=by unfold stampB at hs;simp only[decide_eq_true_eq]at hs;exact hs.1
     rw[zaO,zcy];by_cases h1:0<=p
     case neg=>rw[zaH h1,if_neg (by simp;omega)];exact skip
     by_cases h2:p<=1000000
     case neg=>rw[zaB h1,zaH h2,if_neg (by simp;omega)];exact skip
     by_cases h3:p<=a.a.n
     case neg=>rw[zaB h1,zaB h2,zaH h3,if_neg (by simp;omega)];exact skip
     rw[zaB h1,zaB h2,zaB h3,w6Q];by_cases h4:a.a.n-p<=r.xm
     .rw[zaB h4,if_pos (by simp;omega)];exact keep
     .rw[zaH h4,if_neg (by simp;omega)];exact skip
def zCQ(m:zaJ)(id n:Int)(hl:m.M.length<=1000000):cw 80 [.agg (zaT m),I id,I n] []=some (zat (marksB m id n)):=by
 refine zI6 ?_;refine zbW m.M (λi r=>zlu m id n i=some (zat (r.any λg=>g.q==id&&g.h==n))) ?_ ?_
 .refine zxi ?_;rw[zac,zaH (by omega)];rfl
 . intro i hi r _ ih;refine zxi ?_;simp(disch:=omega)only[zI,zes,zaa hi,zfd]
   cases m.M[i].q==id with
   |false=>exact ih
   |true =>
     cases m.M[i].h==n with
     |false=>exact ih
     |true=>rfl
def c_rScope{s:zam}(hs:zb2 s)(m:zaJ)(hm:m.M.length<=1000000)(a:zan):cw 34 [.agg (zap s),.agg (zaT m),.agg (zai a)] []=some (zeD (scopeL s m a)):=by
 have h60:=hs.scripts.1;have hsd:=hs.seeds;refine zKX ?_;rw[zxD,zas];unfold scopeL
 cases hv:zeA a with
 |false=>rw[zf6.2 (λx _=>by unfold scopeB;rw[hv];simp)];rfl
 |true =>
 rw[zaG,zay];refine zbW s.c (λi r=>∀out:List Int,(out.length:Int)<=i->zeV s m a (List.map zah out) i=some (zeD (out++(r.filter (scopeB s m a)).map (·.j)))) ?_ ?_ [] (by simp)
 .intro out ho;refine zx8 ?_;rw[zac,zaH (by omega),zar rfl,zcX];simp only[zdH];rw[zcu];rfl
 . intro i hi r _ ih out ho;have skip:=ih out (by omega);have put:=ih (out++[s.c[i].j]) (by simp;omega);rw[zcp]at put;simp only[zbS]at put
   have m11:zhr s m a (List.map zah out) i s.c[i]=some (zeD (out++(s.c[i]::r.filter (scopeB s m a)).map (·.j))):=by refine zDJ ?_;rw[zar rfl,zar (by rw[zac];omega),zar rfl,w6Q];exact put
   refine zx8 ?_;simp(disch:=omega)only[zI,zeC,zaa hi,zim s.E _ (show s.E.length<=1000000 by omega) (zqE hs),zf0,zCQ m _ _ hm,zas];rw[zbU]
   have e:scopeB s m a s.c[i]=(!(seedOf s.E s.c[i].j).isSome&&((a.r==0&&s.c[i].y==a.y&&s.c[i].Q==a.a.b)||(a.r==1&&marksB m a.q s.c[i].j))):=by unfold scopeB;rw[hv,zcy]
   rw[e]
   cases seedOf s.E s.c[i].j with
   |some q=>exact skip
   |none =>
     have last:brn (a.r==1) (brn (marksB m a.q s.c[i].j) (zhr s m a (List.map zah out) i s.c[i]) (zeV s m a (List.map zah out) (i+1))) (zeV s m a (List.map zah out) (i+1))=some (zeD (out++(if(a.r==1&&marksB m a.q s.c[i].j)=true then s.c[i]::r.filter (scopeB s m a)else r.filter (scopeB s m a)).map (·.j))):=by
      cases a.r==1 with
      |false=>exact skip
      |true =>
        cases marksB m a.q s.c[i].j with
        |false=>exact skip
        |true=>exact m11
     cases a.r==0 with
     |false=>exact last
     |true =>
       cases s.c[i].y==a.y with
       |false=>exact last
       |true =>
         cases s.c[i].Q==a.a.b with
         |false=>exact last
         |true=>exact m11
def c_wrong(r:zaP)(q:zbg){s:zam}(hs:zb2 s):cw 81 [.agg (zaK r),.agg (zbt q),.agg (zap s)] []=some (zat (chkA r !=0||chkR q !=0)):=by
 refine zK0 ?_;rw[zCJ,za7,zBn,za7,zrm hs,za7]
 cases chkA r !=0 with
 |true=>rfl
 |false=>cases chkR q !=0<;>rfl
def ins_eq{α:Type}(l:List α)(z x:α){k:Nat}(hk:k<=l.length):(List.take (k+1) (l++[z])++List.take (l.length+1-(k+1)) (List.take (l.length+1-k) (List.drop k (l++[z])))++List.drop (k+1+Min.min (List.take (l.length+1-k) (List.drop k (l++[z]))).length (l.length+1-(k+1))) (l++[z])).set k x=l.take k++x::l.drop k:=by
 have e1:(List.take (l.length+1-k) (List.drop k (l++[z]))).length=l.length+1-k:=by simp
 have e2:List.take (k+1) (l++[z])=l.take k++[(l++[z])[k]'(by simp;omega)]:=by rw[zbP (by simp;omega),zfY hk]
 have e3:List.take (l.length+1-(k+1)) (List.take (l.length+1-k) (List.drop k (l++[z])))=l.drop k:=by rw[List.take_take,zfM (by omega),List.drop_append_of_le_length hk,zfY (by simp),zaz (by simp)]
 have e4:List.drop (k+1+Min.min (List.take (l.length+1-k) (List.drop k (l++[z]))).length (l.length+1-(k+1))) (l++[z])=[]:=zcr (by rw[e1];simp;omega);rw[e2,e3,e4,zcu,zcp,List.set_append_right _ _ (by rw[zdc];omega),zdc,zfM hk,Nat.sub_self];rfl
def KeepA(l:aD)(i:Nat)(x:zan):Prop:=zeA x=true/\∀(k:Nat) (y:zan),l[k]?=some y->zeA y=true->idA y=idA x->y=x/\i<=k
structure CanA(l:aD)(i:Nat)(out:aD):Prop where
 asc:out.Pairwise (λa b=>lessS b.a a.a=false)
 ids:out.Pairwise λa b=>idA a≠idA b
 mem:∀x,x∈out↔∃j,j<i/\l[j]?=some x/\KeepA l j x
 len:out.length<=i
def CanA.skip{l:aD}{i:Nat}{out:aD}(h:CanA l i out)(hi:i<l.length)(hk:¬KeepA l i l[i]):CanA l (i+1) out:=
 ⟨h.asc,h.ids,λx=>(h.mem x).trans ⟨λ⟨j,h1,h2⟩=>⟨j,by omega,h2⟩,λ⟨j,h1,h2,h3⟩=>by
  by_cases e:j=i
  .subst e;rw[zaa hi]at h2;injection h2 with h2;subst h2;exact absurd h3 hk
  .exact⟨j,by omega,h2,h3⟩⟩,by have:=h.len;omega⟩
def CanA.put{l:aD}{i:Nat}{out:aD}(h:CanA l i out)(hi:i<l.length)(hk:KeepA l i l[i]){k:Nat}(hko:k<=out.length)
  (h1:∀(j:Nat) (y:zan),out[j]?=some y->j<k->lessS l[i].a y.a=false) (h2:∀(j:Nat) (y:zan),out[j]?=some y->k<=j->lessS l[i].a y.a=true):CanA l (i+1) (out.take k++l[i]::out.drop k):=by
 have t1:∀g∈out.take k,lessS l[i].a g.a=false:=λg hg=>by
  obtain⟨j,hj⟩:=zce hg;rw[zcx]at hj;split at hj
  .exact h1 j g hj (by omega)
  .cases hj
 have t2:∀g∈out.drop k,lessS g.a l[i].a=false:=λg hg=>by
  obtain⟨j,hj⟩:=zce hg;rw[zb9]at hj;have:=h2 _ g hj (by omega);unfold lessS at this ⊢
  grind
 have tid:∀g∈out,idA g≠idA l[i]:=λg hg e=>by obtain⟨j,hj,hg,hq⟩:=(h.mem g).1 hg;have:=(hk.2 j g hg hq.1 e).2;omega
 refine⟨?_,?_,λx=>?_,?_⟩
 . refine ze3.2 ⟨h.asc.sublist (zky _ _),zcQ.2 ⟨t2,h.asc.sublist (zkw _ _)⟩,λg hg f hf=>?_⟩;rcases za9.1 hf with rfl|hf
   .exact t1 g hg
   .exact(ze3.1 (by rw[List.take_append_drop];exact h.asc)).2.2 g hg f hf
 . refine ze3.2 ⟨h.ids.sublist (zky _ _),zcQ.2 ⟨λg hg e=>tid g (zgn hg) e.symm,h.ids.sublist (zkw _ _)⟩,λg hg f hf=>?_⟩;rcases za9.1 hf with rfl|hf
   .exact tid g (zel hg)
   .exact(ze3.1 (by rw[List.take_append_drop];exact h.ids)).2.2 g hg f hf
 . have:x∈out.take k++l[i]::out.drop k↔x=l[i]\/x∈out:=by
    have e:x∈out↔x∈out.take k\/x∈out.drop k:=by rw[<-zbo,List.take_append_drop]
    rw[zbo,za9,e]
    grind
   rw[this,h.mem];constructor
   . rintro(rfl|⟨j,h1,h2⟩)
     .exact⟨i,by omega,zaa hi,hk⟩
     .exact⟨j,by omega,h2⟩
   . rintro⟨j,h1,h2,h3⟩
     by_cases e:j=i
     .rw[e,zaa hi]at h2;injection h2 with h2;exact .inl h2.symm
     .exact .inr ⟨j,by omega,h2,h3⟩
 .have:=h.len;simp only[zby,zcA,zdc,ze6];omega
def CanA.all{l:aD}{out:aD}(h:CanA l l.length out):out=isort apLt (apKeep l):=by
 refine ap_of ((zcE (h.ids.imp λhn e=>hn (by rw[e])) ((zHb l).imp λhn e=>hn (by rw[e]))).2 λx=>?_) h.asc;rw[h.mem,zHc];constructor
 . rintro⟨j,_,h2,h3,h4⟩
   refine⟨zav h2,h3,λy hy hv e=>?_⟩;obtain⟨k,hk⟩:=zce hy;exact(h4 k y hk hv e).1
 . rintro⟨h1,h2,h3⟩
   have hf:(l.findIdx (λy=>decide (y=x)))<l.length:=List.findIdx_lt_length_of_exists ⟨x,h1,by simp⟩;refine⟨_,hf,?_,h2,λk y hk hv e=>?_⟩
   .rw[zaa hf];have:=List.findIdx_getElem (w:=hf);simp only[decide_eq_true_eq]at this;rw[this]
   .have hyx:=h3 y (zav hk) hv e;refine⟨hyx,Nat.le_of_not_lt λhlt=>?_⟩;have:=List.not_of_lt_findIdx hlt;obtain⟨hkl,hke⟩:=zao.1 hk;simp only[hke,hyx,decide_true]at this;exact absurd this (by simp)
def c_rCanA(l:aD)(hl:l.length<=100000):cw 28 [.sl 6 (mB l)] []=some (zeO (appS l)):=by
 refine zEz ?_;refine zbW l (λi _=>∀out:List zan,CanA l i.toNat out->zg3 l (mB out) (mB out).length i=some (zeO (appS l))) ?_ ?_ [] ⟨List.Pairwise.nil,List.Pairwise.nil,λx=>by simp,by simp⟩
 . intro out h;rw[zaf]at h;have he:=h.all;refine ztw ?_
   have e:appS l=if 24<out.length then([],3)else(out,0):=by unfold appS;rw[<-he,he,(zg7 _).length_eq]
   rw[zac,zaH (by omega),e,zfy,zac];by_cases h24:24<out.length
   .rw[iPQ,if_pos h24];rfl
   .rw[iNQ,if_neg h24,cPQ,zaz (by simp)];rfl
 . intro i hi _ _ ih out h;rw[zaf]at h;have hio:=h.len;have hix:((i:Int)+1).toNat=i+1:=by omega
   rw[hix]at ih;have hiw:w64 ((i:Int)+1)=i+1:=w64_id (by omega) (by omega)
   have m1015:∀k:Nat,k<=out.length->KeepA l i l[i]->(∀(j:Nat) (y:zan),out[j]?=some y->j<k->lessS l[i].a y.a=false)->(∀(j:Nat) (y:zan),out[j]?=some y->k<=j->lessS l[i].a y.a=true)->zjV l (mB out) (mB out).length i k=some (zeO (appS l)):=by
    intro k hk hkeep h1 h2;have hp:=ih _ (h.put hi hkeep hk h1 h2);refine zyU ?_;have hraw:mB out++[[I 0,I 0,I 0,I 0,I 0,I 0]]=mB (out++[⟨⟨0,0,0⟩,0,0,0⟩]):=by(try simp only[<-zdL zai]);rfl
    have hk1:((k:Int)+1).toNat=k+1:=by omega
    have hA:(out++[(⟨⟨0,0,0⟩,0,0,0⟩:zan)]).length=out.length+1:=by simp
    simp(disch:=omega)only[zX,zK,hraw,zdL zai,hk1,zaf,zaR,hA,<-List.map_take,<-zhY,<-zbS,zdY,zaa hi,zf3 zai,ins_eq out _ _ hk];generalize hX:(List.take (k+1) (out++[(⟨⟨0,0,0⟩,0,0,0⟩:zan)])++List.take (out.length+1-(k+1)) (List.take (out.length+1-k) (List.drop k (out++[⟨⟨0,0,0⟩,0,0,0⟩])))++List.drop (k+1+Min.min (List.take (out.length+1-k) (List.drop k (out++[(⟨⟨0,0,0⟩,0,0,0⟩:zan)]))).length (out.length+1-(k+1))) (out++[⟨⟨0,0,0⟩,0,0,0⟩]))=X
    have hXl:k<X.length:=by rw[<-hX];simp only[zby,zdc,ze6,zcA,zcN];omega
    simp(disch:=omega)only[zaa hXl,zae]
    have hl2:(out.take k++l[i]::out.drop k).length=out.length+1:=by simp only[zby,zdc,ze6,zcA];omega
    rw[zac,hl2]at hp;exact hp
   have m3:KeepA l i l[i]->∀k:Nat,k<=out.length->(∀(j:Nat) (y:zan),out[j]?=some y->k<=j->lessS l[i].a y.a=true)->zhT l (mB out) (mB out).length i k=some (zeO (appS l)):=by
    intro hkeep k
    induction k with
    |zero=>intro hk h2;refine zty ?_;rw[zaH (by omega)];exact m1015 0 hk hkeep (λj y _ hj=>absurd hj (by omega)) h2
    |succ k ihk =>
      intro hk h2;have hkl:k<out.length:=by omega
      have hk1:((k+1:Nat):Int)-1=k:=by omega
      refine zty ?_;simp(disch:=omega)only[zI,hk1,zaR,zdY,zaa hkl,zaa hi,zsw,zas]
      cases hv:lessS l[i].a out[k].a with
      |true =>
        rw[zaO];rw[zac]at ihk;refine ihk (by omega) (λj y hj hjk=>?_);by_cases e:j=k
        .subst e;rw[zaa hkl]at hj;injection hj with hj;rw[<-hj];exact hv
        .exact h2 j y hj (by omega)
      |false =>
        rw[zay];have:=m1015 (k+1) hk hkeep (λj y hj hjk=>?_) h2
        .rw[zac]at this;exact this
        . by_cases e:j=k
          .subst e;rw[zaa hkl]at hj;injection hj with hj;rw[<-hj];exact hv
          .obtain⟨q,rfl⟩:=zao.1 hj;exact zmV (zcn.1 h.asc j k q hkl (by omega)) hv
   refine ztw ?_;simp(disch:=omega)only[zF,zdY,zaa hi,zxD,zas];rw[zac]at m3
   have end_:∀ok:Bool,(ok=true↔KeepA l i l[i])->brn (!ok) (zg3 l (mB out) out.length ((i:Int)+1)) (zhT l (mB out) out.length i out.length)=some (zeO (appS l)):=by
    intro ok hok
    cases ok with
    |true=>exact m3 (hok.1 rfl) out.length (zaW _) (λj y hj hjk=>absurd (zao.1 hj).1 (by omega))
    |false=>have:=ih out (h.skip hi λhn=>by simpa using hok.2 hn);rw[zac]at this;exact this
   have loop:=zbW l (λk rest=>∀ok:Bool,(ok=true↔zeA l[i]=true/\∀(j:Nat) (y:zan),(j:Int)<k->l[j]?=some y->zeA y=true->idA y=idA l[i]->y=l[i]/\i<=j)->zet l (mB out) out.length i ok k=some (zeO (appS l))) ?_ ?_ (zeA l[i]) ⟨λh=>⟨h,λj y hj=>absurd hj (by omega)⟩,λh=>h.1⟩
   .exact loop
   .intro ok hok;refine ztx ?_;rw[zac,zaH (by omega),hiw];refine end_ ok (hok.trans ⟨λ⟨h1,h2⟩=>⟨h1,λk y hk=>h2 k y (by have:=(zao.1 hk).1;omega) hk⟩,λ⟨h1,h2⟩=>⟨h1,λk y _ hk=>h2 k y hk⟩⟩)
   . intro k hk rest _ ihk ok hok;refine ztx ?_;simp(disch:=omega)only[zI,zdY,zaa hk,zaa hi,zxD,zas,ap_ne]
     cases ok with
     |false=>rw[zay];exact end_ false (iff_of_false (by simp) λ⟨h1,h2⟩=>absurd (hok.2 ⟨h1,λj y _ hj=>h2 j y hj⟩) (by simp))
     |true =>
       rw[zaO];obtain⟨h1,h2⟩:=hok.1 rfl
       have stay:(zeA l[k]=true->idA l[k]=idA l[i]->l[k]=l[i]/\i<=k)->zet l (mB out) out.length i true ((k:Int)+1)=some (zeO (appS l)):=λhq=>ihk true (iff_of_true rfl ⟨h1,λj y hj hy hv e=>by
        by_cases hjk:j=k
        .subst hjk;rw[zaa hk]at hy;injection hy with hy;subst hy;exact hq hv e
        .exact h2 j y (by omega) hy hv e⟩)
       have gone:(zeA l[k]=true/\idA l[k]=idA l[i]/\¬(l[k]=l[i]/\i<=k))->zet l (mB out) out.length i false ((k:Int)+1)=some (zeO (appS l)):=λ⟨q1,q2,q3⟩=>ihk false (iff_of_false (by simp) λ⟨_,h⟩=>absurd (h k _ (by omega) (zaa hk) q1 q2) q3)
       cases hv:zeA l[k]with
       |false=>rw[zay];exact stay (λh=>by rw[hv]at h;cases h)
       |true =>
         rw[zaO]
         cases e1:l[k].a.b==l[i].a.b with
         |false=>rw[zay];exact stay (λ_ h=>by unfold idA at h;simp only[zaC]at h;rw[h.1]at e1;simp at e1)
         |true =>
           rw[zaO]
           cases e2:l[k].a.B==l[i].a.B with
           |false=>rw[zay];exact stay (λ_ h=>by unfold idA at h;simp only[zaC]at h;rw[h.2]at e2;simp at e2)
           |true =>
             have eid:idA l[k]=idA l[i]:=by unfold idA;rw[eq_of_beq e1,eq_of_beq e2]
             rw[zaO];by_cases hq:l[k]=l[i]
             . rw[show(!decide (l[k]=l[i]))=false by simpa using hq,zay];by_cases hki:k<i
               .rw[zaB (by omega)];exact gone ⟨hv,eid,λh=>absurd h.2 (by omega)⟩
               .rw[zaH (by omega)];exact stay (λ_ _=>⟨hq,by omega⟩)
             .rw[show(!decide (l[k]=l[i]))=true by simpa using hq,zaO];exact gone ⟨hv,eid,λh=>hq h.1⟩
set_option maxRecDepth 20000
def idx_set{α:Type}{l:List α}{f g:Nat->α->Int}{i:Nat}{v:Int}(hi:i<l.length)(hv:v=g i l[i])(h:∀j x,j≠i->f j x=g j x):(l.mapIdx f).set i v=l.mapIdx g:=by
 subst hv;apply zdb
 .simp
 . intro j h1 h2;rw[List.getElem_set];split
   .rename_i e;subst e;simp
   .rename_i e;simp only[zjt];exact h j _ (λq=>e q.symm)
def znH{α:Type}{l:List α}{f g:Nat->α->Int}(h:∀j (hj:j<l.length),f j l[j]=g j l[j]):l.mapIdx f=l.mapIdx g:=by
 apply zdb
 .simp
 .intro j h1 h2;simp only[zjt];exact h j (by simpa using h1)
def zDS{α:Type}(l:List α)(f:α->Int):l.mapIdx (λ_ x=>f x)=l.map f:=by
 apply zdb
 .simp
 .intro j h1 h2;simp
def timeL(s:zam)(m:zaJ)(c:aD):List Int:=s.c.map λx=>(timeS s m c x).getD (-1)
def revB(rv:Bool)(a:zan):Bool:=!rv||a.r==0
def c_times{s:zam}(hs:zb2 s)(m:zaJ)(hm:m.M.length<=1000000)(c:aD)(hc:c.length<=100000)(rv:Bool):cw 82 [.agg (zap s),.agg (zaT m),.sl 6 (mB c),B rv] []=some (zeD (timeL s m (c.filter (revB rv)))):=by
 have h60:=hs.scripts.1;refine zKZ ?_;rw[zac,zar rfl,cPQ,cPQ,zaf,zwd zah]
 have l2:∀k:Nat,k<=c.length->zmy s m c rv (List.map zah (timeL s m ((c.drop k).filter (revB rv)))) ((k:Int)-1)=some (zeD (timeL s m (c.filter (revB rv)))):=by
  intro k
  induction k with
  |zero=>intro _;refine zya ?_;rw[zaH (by omega),zar (by unfold timeL;simp)];rfl
  |succ k ih =>
    intro hk;have hkl:k<c.length:=by omega
    have ih:=ih (by omega);have hw:w64 ((k:Int)-1)=k-1:=w64_id (by omega) (by omega);rw[zbe hkl,zbU]at ih;have e:((k+1:Nat):Int)-1=k:=by omega
    rw[e];generalize hr:(c.drop (k+1)).filter (revB rv)=rest at ih ⊢
    have m1010:revB rv c[k]=true->zmx s m c rv (List.map zah (timeL s m rest)) k=some (zeD (timeL s m (c.filter (revB rv)))):=by
     intro hrv;rw[if_pos hrv]at ih;refine zDK ?_;simp(disch:=omega)only[za,zdY,zaa hkl,zae,c_rScope hs m hm,zgU]
     have hin:∀(i:Nat) (hi:i<s.c.length),(scopeL s m c[k]).any (λn=>n==s.c[i].j)=scopeB s m c[k] s.c[i]:=λi hi=>by rw[<-zH4 hs m c[k] (zau hi),zdi,zgr,zfn];simp
     have hsl:(scopeL s m c[k]).length<=60:=by unfold scopeL;rw[zac];have:=zcv (scopeB s m c[k]) s.c;omega
     have hold:∀x,(timeS s m (c[k]::rest) x).getD (-1)=if scopeB s m c[k] x=true then c[k].a.n else(timeS s m rest x).getD (-1):=λx=>by unfold timeS;rw[List.find?_cons];cases scopeB s m c[k] x<;>rfl
     have ge:c[k]?=some c[k]:=zaa hkl;generalize c[k]=a at *;generalize scopeL s m a=sc at hin hsl ⊢;have l3:=zbW s.c (λi _=>zpl s m c rv k sc (List.map zah (s.c.mapIdx λj x=>if j<i.toNat then(timeS s m (a::rest) x).getD (-1)else(timeS s m rest x).getD (-1))) i=some (zeD (timeL s m (c.filter (revB rv))))) ?_ ?_
     .rw[show timeL s m rest=s.c.mapIdx λj x=>if j<Int.toNat 0 then(timeS s m (a::rest) x).getD (-1)else(timeS s m rest x).getD (-1)from(zDS _ _).symm.trans (znH λj _=>by simp)];exact l3
     .refine zyb ?_;unfold gU;rw[zac,zb0,zaf,zaH (by omega),hw,show(s.c.mapIdx λj x=>if j<s.c.length then(timeS s m (a::rest) x).getD (-1)else(timeS s m rest x).getD (-1))=timeL s m (a::rest)from(znH λj hj=>by rw[if_pos hj]).trans (zDS _ _)];exact ih
     . intro i hi _ _ ihi;have hix:((i:Int)+1).toNat=i+1:=by omega
       have hiw:w64 ((i:Int)+1)=i+1:=w64_id (by omega) (by omega);rw[hix]at ihi;refine zyb ?_;unfold gU;rw[zac,zb0,zaf,zaB (by omega)];simp only[zaf];have l4:=zbW sc (λj r=>∀f:Bool,(f||r.any λn=>n==s.c[i].j)=scopeB s m a s.c[i]->zmz s m c rv k sc i (List.map zah (s.c.mapIdx λj x=>if j<i then(timeS s m (a::rest) x).getD (-1)else if j=i/\f=true then a.a.n else(timeS s m rest x).getD (-1))) j=some (zeD (timeL s m (c.filter (revB rv))))) ?_ ?_ false (by rw[zc8];exact hin i hi)
       .rw[show(s.c.mapIdx λj x=>if j<i then(timeS s m (a::rest) x).getD (-1)else(timeS s m rest x).getD (-1))=s.c.mapIdx λj x=>if j<i then(timeS s m (a::rest) x).getD (-1)else if j=i/\false=true then a.a.n else(timeS s m rest x).getD (-1)from znH λj _=>by simp];exact l4
       . intro f hf;refine zyc ?_;rw[zkf,zfc]at hf
         rw[zac,zaH (by omega),hiw,show(s.c.mapIdx λj x=>if j<i then(timeS s m (a::rest) x).getD (-1)else if j=i/\f=true then a.a.n else(timeS s m rest x).getD (-1))=s.c.mapIdx λj x=>if j<i+1 then(timeS s m (a::rest) x).getD (-1)else(timeS s m rest x).getD (-1)from znH λj hj=>by
          by_cases e:j=i
          .subst e;rw[if_neg (Nat.lt_irrefl _),if_pos (show j<j+1 by omega),hold,<-hf];cases f<;>simp
          . by_cases h:j<i
            .rw[if_pos h,iPQ]
            .rw[if_neg h,iNQ,iNQ]]
         exact ihi
       . intro j hj r _ ihj f hf;rw[zfd,<-zjQ]at hf;have hjw:w64 ((j:Int)+1)=j+1:=w64_id (by omega) (by omega);refine zyc ?_;simp(disch:=omega)only[zF,zb0,zaR,zb6,zaa hj,zeC,zaa hi,zdY,ge,hjw,zeH,zbk,zf3 zah]
         cases hq:sc[j]==s.c[i].j with
         |false=>rw[hq,zfc]at hf;exact ihj f hf
         |true=>rw[hq,Bool.or_true]at hf;rw[zaO,idx_set hi (g:=λj x=>if j<i then(timeS s m (a::rest) x).getD (-1)else if j=i/\true=true then a.a.n else(timeS s m rest x).getD (-1)) (by simp) (λj x hj=>by simp[hj])];exact ihj true hf
    refine zya ?_;rw[zaB (by omega),cPQ,zaf,zdY,zaa hkl,zae,hw]
    cases rv with
    |false=>exact m1010 rfl
    |true =>
      rw[zaO];by_cases h0:c[k].r=0
      .rw[show(c[k].r !=0)=false by simpa using h0,zay];exact m1010 (by unfold revB;simpa using h0)
      .rw[show(c[k].r !=0)=true by simpa using h0,zaO];rw[if_neg (by unfold revB;simpa using h0)]at ih;exact ih
 have l1:=zbW s.c (λi _=>zpk s m c rv (List.map zah (mkN s.c.length (λ_=>-1) 0 i.toNat)) i=some (zeD (timeL s m (c.filter (revB rv))))) ?_ ?_
 .rw[show Int.toNat 0=0 from rfl,zGs]at l1;exact l1
 . refine zx9 ?_;have:=l2 c.length (zaW _);rw[List.drop_length]at this
   unfold gU;rw[zac,zb0,zaf,zaH (by omega),zac,w6Q,mkN_all,show(List.range s.c.length).map (λ_=>(-1:Int))=timeL s m (List.filter (revB rv) [])from by
    unfold timeL timeS
    simp[List.map_const']]
   exact this
 . intro i hi _ _ ih;have hix:((i:Int)+1).toNat=i+1:=by omega
   rw[hix]at ih;refine zx9 ?_;simp(disch:=omega)only[zI,zb0,zaR,zb6,zzz hi,zf3 zah,zwe (f:=λ_=>(-1:Int)) (i:=i) (v:=-1) rfl];exact ih
def c_ropen{s:zam}(hs:zb2 s)(f:aY)(hf:∀x∈s.c,∀t,f x=some t->0<=t):cw 83 [.agg (zap s),.sl 1 (List.map zah (s.c.map λx=>(f x).getD (-1)))] []=some (zjd (openS (schedL s f))):=by
 have h60:=hs.scripts.1;refine zMj ?_;generalize hT:(s.c.map λx=>(f x).getD (-1))=T;have hTl:T.length=s.c.length:=by rw[<-hT,zac]
 have hTi:∀(i:Nat) (hi:i<s.c.length),T[i]?=some ((f s.c[i]).getD (-1)):=λi hi=>by rw[<-hT,zbx,zaa hi];rfl
 refine zbW s.c (λi r=>∀L:List (Int×Int),L.length<=i.toNat->L++(r.filterMap λx=>(f x).map λt=>(x.j,t))=schedL s f->znv s T (mA (openS L)) i=some (zjd (openS (schedL s f)))) ?_ ?_ [] (by simp) rfl
 .intro L hL he;rw[zj3,zcu]at he;refine zzX ?_;rw[zac,hTl,zaH (by omega),cPQ,zaz (zaW _),he];rfl
 . intro i hi r _ ih L hL he;have hx:=zau hi;have hi0:((i:Int)).toNat=i:=rfl;refine zzX ?_;simp(disch:=omega)only[zF,hTl,zb6,hTi i hi,zeC,zaa hi,zbp,w64_id (show -9223372036854775808<=(i:Int)+1 by omega) (show(i:Int)+1<9223372036854775808 by omega)];rw[zhx]at he
   cases hfx:f s.c[i]with
   |none=>rw[hfx]at he;rw[ziD,zaH (by omega)];exact ih L (by omega) he
   |some t=>have ht:=hf _ hx t hfx;have hLl:(openS L).length=L.length:=zt3 L;rw[hfx]at he;have hp:=ih (L++[(s.c[i].j,t)]) (by simp;omega) (by rw[zcp];exact he);rw[show openS (L++[(s.c[i].j,t)])=openS L++[openE L.length (s.c[i].j,t)]from List.mapIdx_concat]at hp;simp only[zbS]at hp;rw[zbO,zaB (by omega),hLl,cPQ,w6Q];exact hp
def c_rUntil(l:aA)(t:Int)(hl:l.length<=100000):cw 84 [.sl 9 (mA l),I t] []=some (zdp (untilS l t)):=by
 refine zKP ?_;unfold untilS;refine zbW l (λi r=>∀out:List zad,(out.length:Int)<=i->zms l t (mA out) i=some (zdp (out++r.filter λe=>decide (e.a.n<=t)))) ?_ ?_ [] (by simp)
 .intro out ho;refine zxZ ?_;rw[zac,zaH (by omega),zar rfl,zcX,zcu];rfl
 . intro i hi r _ ih out ho;refine zxZ ?_;simp(disch:=omega)only[zI,zcB,zaa hi,zbp,zbU];by_cases h:l[i].a.n<=t
   .rw[zaB h,if_pos (by simpa using h)];have:=ih (out++[l[i]]) (by simp;omega);rw[zcp,zee]at this;simp only[zbS]at this;exact this
   .rw[zaH h,if_neg (by simpa using h)];exact ih out (by omega)
def few_2000{s:zam}{ev:aA}{l:aD}(h:OkApp s ev l)(f:aY):(ev++openS (schedL s f)).length<=2000:=by have h1:=h.2.1;have h2:=znM s f;have h3:=h.1.scripts.1;rw[zby,zt3];omega
def time_pos{s:zam}{m:zaJ}{l:aD}{c:aD}(hc:∀a∈c,a∈(appS l).1){x:zaY}{t:Int}(h:timeS s m c x=some t):0<=t:=by obtain⟨a,ha,_,rfl⟩:=zDL h;exact appS_bd (hc a ha)
def zHi{r:zaP}{q:zbg}{s:zam}{ev:aA}{l:aD}(h:OkApp s ev l)(hl:l.length<=100000):cw 37 [.agg (zaK r),.agg (zbt q),.agg (zap s),.sl 9 (mA ev),.sl 6 (mB l)] []=some (zcW (zd2 r q s ev l)):=by
 have hs:=h.1;have h60:=hs.scripts.1;have hev:=h.2.1;refine zHJ ?_;unfold zd2;rw[c_wrong r q hs,zas];by_cases hA:chkA r=0
 case neg=>rw[if_neg (λq=>hA q.1),show(chkA r !=0)=true by simpa using hA];rfl
 by_cases hR:chkR q=0
 case neg=>rw[if_neg (λq=>hR q.2),hA,show(chkR q !=0)=true by simpa using hR];rfl
 rw[if_pos ⟨hA,hR⟩,hA,hR,c_rCanA l hl,zfZ];simp only[zG,Bool.or_self];by_cases hE:(appS l).2=0
 case neg=>rw[if_neg hE,show((appS l).2 !=0)=true by simpa using hE];rfl
 rw[if_pos hE,hE];have hpos:∀x t,timeS s ⟨[],[]⟩ ((appS l).1.filter (revB true)) x=some t->0<=t:=λx t ht=>time_pos (λa ha=>(zcf.1 ha).1) ht
 have hc24:=zwv l;simp only[zG];rw[c_times hs ⟨[],[]⟩ (by simp) _ (by omega) true,zgU]
 have hrev:schedL s (timeS s ⟨[],[]⟩ ((appS l).1.filter (revB true)))=zgC s (appS l).1:=by unfold zgC;rfl
 have hnow:=zwS h (timeS s ⟨[],[]⟩ ((appS l).1.filter (revB true)));have h2000:=few_2000 h (timeS s ⟨[],[]⟩ ((appS l).1.filter (revB true)));have hop:=c_ropen hs _ (λx _ t ht=>hpos x t ht);unfold timeL;rw[hrev]at hnow h2000 hop;simp only[zby]at h2000;rw[zaz (zaW _),cPQ,zar (by rw[zac];omega),hop,zi5];simp only[zac,<-zbS,zby];rw[zbp,cPQ,cPQ,zaz (by simp),zpz hs (by rw[zby];omega) hnow.2.2,zhm];simp only[zG];unfold ze8;have gnow:∀g∈(foldS s (ev++openS (zgC s (appS l).1))).M,zk8 s g:=λg hg=>(zqp hs hg).1
 have snow:=zqq hs hnow;have lnow:=ztW s hnow;generalize foldS s (ev++openS (zgC s (appS l).1))=now at gnow snow lnow ⊢;rw[<-hrev];unfold schedL;generalize timeS s ⟨[],[]⟩ ((appS l).1.filter (revB true))=f at hpos ⊢;generalize hT:(s.c.map λx=>(f x).getD (-1))=T;have hTl:T.length=s.c.length:=by rw[<-hT,zac]
 have hTi:∀(i:Nat) (hi:i<s.c.length),T[i]?=some ((f s.c[i]).getD (-1)):=λi hi=>by rw[<-hT,zbx,zaa hi];rfl
 have hTt:List.take (List.map zah T).length (List.map zah T)=List.map zah T:=zcR;refine zbW s.c (λi rest=>∀out:List Int,(out.length:Int)<=i->zgZ r q s ev T (now,0) (List.map zah out) i=some (zcW (out++(((rest.filterMap λx=>(f x).map λt=>(x.j,t)).filter λp=>decide (r.K<movedS q s (foldS s (untilS ev p.2)) now p.1)).map (·.1)),0))) ?_ ?_ [] (by simp)
 .intro out ho;refine zvL ?_;rw[hTt];simp(disch:=omega)only[zR,zH,hTl,zj3,zcX,zdH,zcu];rw[zaz (by simp)];rfl
 . intro i hi rest _ ih out ho;have hx:=zau hi;refine zvL ?_;rw[hTt];simp(disch:=omega)only[zF,hTl,zb6,hTi i hi,zeC,zaa hi,w64_id (show -9223372036854775808<=(i:Int)+1 by omega) (show(i:Int)+1<9223372036854775808 by omega)];rw[zhx]
   cases hfx:f s.c[i]with
   |none=>rw[ziD,zaB (by omega)];exact ih out (by omega)
   |some t =>
     have ht:=hpos _ t hfx;have hb:=zDg h t;have sb:=zqq hs hb;have gb:∀g∈(foldS s (untilS ev t)).M,zk8 s g:=λg hg=>(zqp hs hg).1
     have lb:=ztW s hb;have hul:(untilS ev t).length<=ev.length:=zcv _ _;obtain⟨b1,b2,b3⟩:=zDW hR hs (foldS s (untilS ev t)) gb hx;obtain⟨n1,n2,n3⟩:=zDW hR hs now gnow hx;rw[zbO,zaH (by omega),c_rUntil ev t (by omega),zhS];simp only[zR,zac];rw[zaz (by simp),zpz hs (l:=untilS ev t) (by omega) hb.2.2,zhm];simp only[zG];rw[zBo q s hs _ (by omega) sb gb,zm8,zBo q s hs now (by omega) snow gnow,zm8];simp only[zbk,zbU];have keep:=ih (out++[s.c[i].j]) (by simp;omega);have skip:=ih out (by omega);rw[zcp]at keep;simp only[zbS]at keep;unfold movedS;generalize totR q s (foldS s (untilS ev t)) s.c[i].j=tb at b1 b2 b3 ⊢;generalize totR q s now s.c[i].j=tn at n1 n2 n3 ⊢;obtain⟨x1,x2,x3⟩:=tb;obtain⟨y1,y2,y3⟩:=tn;simp only at b1 b2 b3 n1 n2 n3 ⊢;have hTol:0<=r.K:=by unfold chkA at hA;split at hA<;>omega
     by_cases h1:x1=3
     case neg=>rw[show(x1==3)=false by simpa using h1,zay,show(if x1=3/\y1=3 then distI y2 x2 else 0)=0 from if_neg (λq=>h1 q.1),if_neg (by simp;omega)];exact skip
     by_cases h2:y1=3
     case neg=>rw[show(x1==3)=true by simpa using h1,zaO,show(y1==3)=false by simpa using h2,zay,show(if x1=3/\y1=3 then distI y2 x2 else 0)=0 from if_neg (λq=>h2 q.2),if_neg (by simp;omega)];exact skip
     rw[show(x1==3)=true by simpa using h1,zaO,show(y1==3)=true by simpa using h2,zaO,show(if x1=3/\y1=3 then distI y2 x2 else 0)=distI y2 x2 from if_pos ⟨h1,h2⟩,w6Q,w6Q];rw[show(if y2-x2 > x2-y2 then y2-x2 else x2-y2)=distI y2 x2 by unfold distI;split<;>split<;>omega]
     cases decide (r.K<distI y2 x2)with
     |false=>exact skip
     |true=>rw[zaO];exact keep
def zJm{r:zaP}{s:zam}{ev:aA}{l:aD}(h:OkApp s ev l)(ch:aC)(hn:ch.Nodup)(hc:ch.length<=1000)(hm:∀n∈ch,∃x∈s.c,x.j=n):cw 38 [.agg (zaK r),.agg (zap s),.sl 9 (mA ev),.sl 1 (List.map zah ch)] []=some (zcW (if chkA r=0 then(zgP r s (foldS s ev) ch,0)else([],1))):=by
 have hs:=h.1;have h60:=hs.scripts.1;have h16:=hs.markers.1;have hev:=h.2.1;refine zI4 ?_;rw[zCJ,za7];by_cases hA:chkA r=0
 case neg=>rw[if_neg hA,show(chkA r !=0)=true by simpa using hA];rfl
 have hml:=ztW s (few_ev h);rw[if_pos hA,hA,zrm hs,za7,zpz hs (by omega) h.2.2.1,zhm];simp only[zG];generalize foldS s ev=m at hml ⊢
 have hcount:∀id,((s.c.filter λx=>ch.contains x.j&&marksB m id x.j).length:Int)=(ch.filter (marksB m id)).length:=λid=>by
  have hp:List.Perm ((s.c.filter λx=>ch.contains x.j&&marksB m id x.j).map (·.j)) (ch.filter (marksB m id)):=by
   refine(zcE ?_ (hn.filter _)).2 λn=>?_
   .have ha:=zGu hs.scripts;rw[zdW]at ha;rw[List.nodup_iff_pairwise_ne,zdW];exact(ha.filter _).imp λq e=>by omega
   . simp only[zbA,zcf,zaS,zfn];constructor
     .rintro⟨x,⟨_,h1,h2⟩,rfl⟩;exact⟨h1,h2⟩
     . rintro⟨h1,h2⟩
       obtain⟨x,hx,rfl⟩:=hm n h1;exact⟨x,⟨hx,h1,h2⟩,rfl⟩
  have:=hp.length_eq;rw[zac]at this;omega
 unfold zgP;refine zbW s.k (λi rest=>∀out:List Int,(out.length:Int)<=i->zjF r s ch (m,0) (List.map zah out) i=some (zcW (out++(rest.filter λx=>x.I==1&&decide (r.S<=((ch.filter (marksB m x.ID)).length:Int))).map (·.ID),0))) ?_ ?_ [] (by simp)
 .intro out ho;refine zxe ?_;rw[zac,zaH (by omega),cPQ,zaz (zaW _),zcX];simp only[zdH];rw[zcu];rfl
 . intro i hi rest _ ih out ho;have hiw:w64 ((i:Int)+1)=i+1:=w64_id (by omega) (by omega);have keep:=ih (out++[s.k[i].ID]) (by simp;omega);have skip:=ih out (by omega);rw[zcp]at keep;simp only[zbS]at keep;refine zxe ?_;rw[zac,zaB (by omega),zbU,<-hcount];have hne:s.k[i]?=some s.k[i]:=zaa hi;generalize s.k[i]=x at *;refine zbW s.c (λk sr=>∀n:Int,0<=n->n<=k->n+((sr.filter λy=>ch.contains y.j&&marksB m x.ID y.j).length:Int)=((s.c.filter λy=>ch.contains y.j&&marksB m x.ID y.j).length:Int)->zjG r s ch (m,0) (List.map zah out) i n k=some (zcW (out++(if(x.I==1&&decide (r.S<=((s.c.filter λy=>ch.contains y.j&&marksB m x.ID y.j).length:Int)))=true then x::(rest.filter λx=>x.I==1&&decide (r.S<=((ch.filter (marksB m x.ID)).length:Int)))else rest.filter λx=>x.I==1&&decide (r.S<=((ch.filter (marksB m x.ID)).length:Int))).map (·.ID),0))) ?_ ?_ 0 (by omega) (by omega) (by omega)
   . intro n _ _ hnn;rw[zcX,zcN,zkQ,zfx]at hnn;refine zxf ?_;rw[zac,zaH (by omega),cPQ,zaf,ze0,hne,zae,<-hnn,hiw]
     cases x.I==1 with
     |false=>exact skip
     |true =>
       cases decide (r.S<=n)with
       |false=>exact skip
       |true=>rw[zaO,zaO,cPQ,ze0,hne,zae,zar rfl,zar (by rw[zac];omega),zar rfl];exact keep
   . intro k hk sr _ ihk n hn0 hnk hnn;have hkw:w64 ((k:Int)+1)=k+1:=w64_id (by omega) (by omega);refine zxf ?_;rw[zac,zaB (by omega)];rw[zbU]at hnn;have hke:s.c[k]?=some s.c[k]:=zaa hk;generalize s.c[k]=y at *;refine zbW ch (λj cr=>∀f:Bool,(f||cr.contains y.j)=ch.contains y.j->zlt r s ch (m,0) (List.map zah out) i n k f j=_) ?_ ?_ false (zc8 _)
     . intro f hf;rw[show([]:List Int).contains y.j=false from rfl,zfc]at hf;refine zxg ?_;rw[zac,zaH (by omega),hkw];rw[<-hf]at hnn
       cases f with
       |false=>exact ihk n hn0 (by omega) (by simpa using hnn)
       |true =>
         rw[zaO,cPQ,zaf,ze0,hne,zae,cPQ,zaf,zeC,hke,zae,zCQ m _ _ (by omega),zas,w6Q]
         cases hb:marksB m x.ID y.j with
         |false=>rw[hb]at hnn;exact ihk n hn0 (by omega) (by simpa using hnn)
         |true=>rw[hb]at hnn;exact ihk (n+1) (by omega) (by omega) (by rw[if_pos (by simp),zcA]at hnn;omega)
     . intro j hj cr _ ihj f hf;have hjw:w64 ((j:Int)+1)=j+1:=w64_id (by omega) (by omega);rw[List.contains_cons,<-zjQ]at hf;refine zxg ?_;rw[zac,zaB (by omega),cPQ,zaf,zb6,zaa hj,zae,cPQ,zaf,zeC,hke,zae,hjw]
       cases f with
       |true=>exact ihj true (by rw[<-hf];simp)
       |false=>rw[zay];exact ihj _ (by rw[<-hf,zc8,show(ch[j]==y.j)=(y.j==ch[j])from Bool.beq_comm])
def last_time{c:aD}(hc:AscT c)(h0:∀a∈c,0<=a.a.n)(hi:c.length-1<c.length):c[c.length-1].a.n=lastT c:=by
 obtain⟨h1,h2⟩:=zAM c 0;have hmem:c[c.length-1]∈c:=zau hi;have h3:=h2 _ hmem
 have h4:∀(l:aD) (t u:Int),t<=u->(∀a∈l,a.a.n<=u)->l.foldl (λt a=>if t<a.a.n then a.a.n else t) t<=u:=by
  intro l
  induction l with
  |nil=>intro t u h _;exact h
  |cons a l ih=>intro t u h hl;rw[zcG];have:=hl a (by simp);exact ih _ u (by split<;>omega) (λb hb=>hl b (by simp[hb]))
 have h5:=h4 c 0 c[c.length-1].a.n (h0 _ hmem) (λa ha=>by
  obtain⟨j,hj,rfl⟩:=zbB.1 ha;by_cases e:j=c.length-1
  .subst e;omega
  .exact zcn.1 hc j (c.length-1) hj hi (by omega))
 unfold lastT;omega
def zMU{r:zaP}{q:zbg}{s:zam}{ev:aA}{l:aD}(h:OkApp s ev l)(hl:l.length<=100000):cw 39 [.agg (zaK r),.agg (zbt q),.agg (zap s),.sl 9 (mA ev),.sl 6 (mB l)] []=some (zdw (reopR r q s ev l)):=by
 have hs:=h.1;have h60:=hs.scripts.1;have h16:=hs.markers.1;have hev:=h.2.1;have hsd:=hs.seeds;refine zGc ?_;rw[zHi h hl,ze7];by_cases hE:(zd2 r q s ev l).2=0
 case neg=>rw[show((zd2 r q s ev l).2 !=0)=true by simpa using hE,zaO,zJR hE];rfl
 obtain⟨e1,e2,e3⟩:=zGy hE
 have hA:chkA r=0:=by
  unfold zd2 at hE;split at hE
  .rename_i q;exact q.1
  .simp at hE
 have hcn:=zBq (r:=r) (q:=q) hs ev (appS l).1;have hml:=ztW s (few_ev h);have hc24:=zwv l;rw[hE,e1,e3,zJm h _ hcn.1 (by omega) (λn hn=>by obtain⟨x,hx,e,_⟩:=zyt hn;exact⟨x,hx,e⟩),ze7,if_pos hA];simp only[zG];rw[zpz hs (by omega) h.2.2.1,zhm,c_rCanA l hl,zfZ,c_times hs (foldS s ev) (by omega) _ (by omega) false,zgU];have hfil:(appS l).1.filter (revB false)=(appS l).1:=List.filter_eq_self.2 λa _=>rfl
 rw[hfil];unfold reopS
 have hne:∀id∈zgP r s (foldS s ev) (ze8 r q s ev (appS l).1),0<(appS l).1.length:=λid hid=>by
  unfold zgP at hid;obtain⟨x,hx,_⟩:=zbA.1 hid;have h2:=(zcf.1 hx).2;simp only[zU]at h2;have hF:1<=r.S:=by unfold chkA at hA;split at hA<;>omega
  have:0<((ze8 r q s ev (appS l).1).filter (marksB (foldS s ev) x.ID)).length:=by have:=h2.2;omega
  obtain⟨n,hn⟩:=List.exists_mem_of_length_pos this;obtain⟨y,_,_,a,ha,_⟩:=zyt (zcf.1 hn).1;exact List.length_pos_of_mem ha
 have hbl:(zgP r s (foldS s ev) (ze8 r q s ev (appS l).1)).length<=16:=by unfold zgP;rw[zac];exact zbY (zcv _ _) h16
 have hpos:=λx t=>time_pos (s:=s) (m:=foldS s ev) (l:=l) (c:=(appS l).1) (λa ha=>ha) (x:=x) (t:=t)
 have hasc:=zFJ l;have h0:∀a∈(appS l).1,0<=a.a.n:=λa ha=>appS_bd ha
 generalize zgP r s (foldS s ev) (ze8 r q s ev (appS l).1)=bl at hne hbl ⊢;generalize ze8 r q s ev (appS l).1=ch;generalize appS l=C at hne hpos hc24 hasc h0 e2 ⊢;obtain⟨c,z⟩:=C;simp only at hne hpos hc24 hasc h0 e2 ⊢;subst e2;generalize foldS s ev=m at hml hpos ⊢
 have hR:∀x∈s.c,∀t,reopT s m c bl x=some t->0<=t:=λx _ t ht=>by
  unfold reopT at ht;split at ht
  .rename_i t' ht';injection ht with ht;subst ht;exact hpos x _ ht'
  . split at ht
    .injection ht with ht;subst ht;exact(zAM c 0).1
    .cases ht
 have h2000:=few_2000 h (reopT s m c bl);have hfe:=zwS h (reopT s m c bl);have hop:=c_ropen hs (reopT s m c bl) hR;have hTl:(timeL s m c).length=s.c.length:=by unfold timeL;rw[zac]
 rw[zby]at h2000;have l1:=zbW s.c (λi _=>zj9 s ev (bl,0) (m,0) (c,0) (timeL s m c) (List.map zah (s.c.mapIdx λj x=>if j<i.toNat then(reopT s m c bl x).getD (-1)else(timeS s m c x).getD (-1))) i=some (zdw (openS (schedL s (reopT s m c bl)),0))) ?_ ?_
 .rw[show(s.c.mapIdx λj x=>if j<Int.toNat 0 then(reopT s m c bl x).getD (-1)else(timeS s m c x).getD (-1))=timeL s m c from(znH λj _=>by simp).trans (zDS _ _)]at l1;exact l1
 .refine zuZ ?_;rw[show(s.c.mapIdx λj x=>if j<((s.c.length:Nat):Int).toNat then(reopT s m c bl x).getD (-1)else(timeS s m c x).getD (-1))=s.c.map λx=>(reopT s m c bl x).getD (-1)from(znH λj hj=>by rw[iPQ]).trans (zDS _ _)];rw[zac,hTl,zaH (by omega),zaz (by simp),zar (by simp),hop,zi5];simp only[zac,<-zbS,zby];rw[cPQ,cPQ,cPQ,zbp,cPQ,cPQ,zaz (by simp),zCK _ (by rw[zby];omega) hfe.2.2,zhf,cPQ];rfl
 . intro i hi _ _ ih;have hix:((i:Int)+1).toNat=i+1:=by omega
   have hiw:w64 ((i:Int)+1)=i+1:=w64_id (by omega) (by omega);rw[hix]at ih;refine zuZ ?_;rw[zac,hTl,zaB (by omega),zaf]
   have hre:reopT s m c bl s.c[i]=match timeS s m c s.c[i]with
    |some t=>some t
    |none=>if(!(seedOf s.E s.c[i].j).isSome&&bl.any λid=>marksB m id s.c[i].j)=true then some (lastT c)else none:=rfl
   have fin:∀v:Int,v=(reopT s m c bl s.c[i]).getD (-1)->zj9 s ev (bl,0) (m,0) (c,0) (timeL s m c) (List.map zah (s.c.mapIdx λj x=>if j<i then(reopT s m c bl x).getD (-1)else if j=i then v else(timeS s m c x).getD (-1))) ((i:Int)+1)=some (zdw (openS (schedL s (reopT s m c bl)),0)):=λv hv=>by
    rw[show(s.c.mapIdx λj x=>if j<i then(reopT s m c bl x).getD (-1)else if j=i then v else(timeS s m c x).getD (-1))=s.c.mapIdx λj x=>if j<i+1 then(reopT s m c bl x).getD (-1)else(timeS s m c x).getD (-1)from znH λj hj=>by
     by_cases e:j=i
     .subst e;rw[iNQ,if_pos rfl,iPQ,hv]
     . by_cases hji:j<i
       .rw[if_pos hji,iPQ]
       .rw[if_neg hji,if_neg e,iNQ]]
    exact ih
   have l2:=zbW bl (λk br=>∀v:Int,(∃b0:Bool,v=(match timeS s m c s.c[i]with
     |some t=>t
     |none=>if b0=true then lastT c else -1)/\(b0||(!(seedOf s.E s.c[i].j).isSome&&br.any λid=>marksB m id s.c[i].j))=(!(seedOf s.E s.c[i].j).isSome&&bl.any λid=>marksB m id s.c[i].j)) ->
     zhq s ev (bl,0) (m,0) (c,0) (timeL s m c) i (List.map zah (s.c.mapIdx λj x=>if j<i then(reopT s m c bl x).getD (-1)else if j=i then v else(timeS s m c x).getD (-1))) k=some (zdw (openS (schedL s (reopT s m c bl)),0))) ?_ ?_ ((timeS s m c s.c[i]).getD (-1)) ⟨false,by cases timeS s m c s.c[i]<;>rfl,zc8 _⟩
   . rw[show(s.c.mapIdx λj x=>if j<i then(reopT s m c bl x).getD (-1)else(timeS s m c x).getD (-1))=s.c.mapIdx λj x=>if j<i then(reopT s m c bl x).getD (-1)else if j=i then(timeS s m c s.c[i]).getD (-1)else(timeS s m c x).getD (-1)from znH λj hj=>by
      by_cases e:j=i
      .subst e;rw[iNQ,iNQ,if_pos rfl]
      .rw[if_neg e]]
     exact l2
   . rintro v ⟨b0,hv,hb⟩
     refine zu0 ?_;simp only[zac];rw[zaH (by omega),hiw];rw[zkf,zeq,zfc]at hb;refine fin v ?_;rw[hre,<-hb,hv]
     cases timeS s m c s.c[i]with
     |some t=>rfl
     |none=>cases b0<;>rfl
   . rintro k hk br _ ihk v ⟨b0,hv,hb⟩
     have hkw:w64 ((k:Int)+1)=k+1:=w64_id (by omega) (by omega);have hcl:=hne _ (zau hk);have hcl1:c.length-1<c.length:=by omega
     have hlast:=last_time hasc h0 hcl1;have hc1:((c.length:Int)-1).toNat=c.length-1:=by omega
     rw[zfd]at hb;refine zu0 ?_;simp(disch:=omega)only[zI,zeC,zaa hi,zim s.E _ (show s.E.length<=1000000 by omega) (zqE hs),zf0,hTl,zaR,zb6,zeH,zbk,Nat.lt_irrefl,if_false,if_true,zaa hk,zCQ m _ _ (show m.M.length<=1000000 by omega),zas,hc1,zdY,zaa hcl1,hlast,zf3 zah]
     cases hso:seedOf s.E s.c[i].j with
     |some y=>refine ihk v ⟨b0,hv,?_⟩;rw[hso]at hb ⊢;exact hb
     |none =>
       rw[hso]at hb;simp only[zW,seedR];by_cases hv0:v<0
       case neg =>
        rw[zaH hv0];refine ihk v ⟨b0||marksB m bl[k] s.c[i].j,?_,by rw[hso,<-hb];simp[zjQ]⟩
        cases ht:timeS s m c s.c[i]with
        |some t=>rw[ht]at hv;exact hv
        |none =>
          rw[ht]at hv
          cases b0 with
          |true=>exact hv
          |false=>simp only[zQ]at hv;omega
       rw[zaB hv0]
       have ht:timeS s m c s.c[i]=none:=by
        cases ht:timeS s m c s.c[i]with
        |none=>rfl
        |some t=>rw[ht]at hv;have:=hpos _ t ht;simp only at hv;omega
       cases hmb:marksB m bl[k] s.c[i].j with
       |false=>rw[hmb,zc8]at hb;exact ihk v ⟨b0,hv,by rw[hso];exact hb⟩
       |true=>rw[zaO,idx_set hi (g:=λj x=>if j<i then(reopT s m c bl x).getD (-1)else if j=i then lastT c else(timeS s m c x).getD (-1)) (by simp) (λj x hj=>by simp[hj])];refine ihk (lastT c) ⟨true,by rw[ht];rfl,?_⟩;rw[hmb]at hb;rw[hso,<-hb];simp
set_option maxRecDepth 20000
def c_ints(a:aC)(ha:a.length<=1000000):cw 33 [.sl 1 (List.map zah a),.sl 1 (List.map zah a)] []=some (zat true):=by
 refine zL2 ?_;rw[bne_self_eq_false,zay];refine zbW a (λi _=>zqu a a i=some (zat true)) ?_ ?_
 .refine zzO ?_;rw[zac,zaH (by omega)];rfl
 .intro i hi r _ ih;refine zzO ?_;simp(disch:=omega)only[zI,zG,zb6,zaa hi];exact ih
def zMY{r:zaP}{q:zbg}{s:zam}(hs:zb2 s)(ev:aA)(l:aD):(zd2 r q s ev l).1.Nodup/\(zd2 r q s ev l).1.length<=60/\∀n∈(zd2 r q s ev l).1,∃x∈s.c,x.j=n:=by
 unfold zd2;split
 . split
   .obtain⟨h1,h2⟩:=zBq (r:=r) (q:=q) hs ev (appS l).1;exact⟨h1,h2,λn hn=>by obtain⟨x,hx,e,_⟩:=zyt hn;exact⟨x,hx,e⟩⟩
   .simp
 .simp
def zMP(r:zaP){s:zam}(hs:zb2 s)(m:zaJ)(ch:aC):(if chkA r=0 then(zgP r s m ch,(0:Int))else([],1)).1.length<=16:=by
 split
 .unfold zgP;rw[zac];exact zbY (zcv _ _) hs.markers.1
 .simp
def reopR_bd{r:zaP}{q:zbg}{s:zam}(hs:zb2 s)(ev:aA)(l:aD):(reopR r q s ev l).1.length<=60/\∀e∈(reopR r q s ev l).1,e.A.length<=1000000:=by
 unfold reopR;split
 . split
   .unfold reopS;refine⟨?_,λe he=>by rw[zIa he];simp⟩;have h1:=znM s (reopT s (foldS s ev) (appS l).1 (zgP r s (foldS s ev) (ze8 r q s ev (appS l).1)));have h2:=hs.scripts.1;simp only[zt3];omega
   .simp
 .simp
def zH0(t:aC)(raw:aD)(rule:zaP)(p:Int):cw 6 [.sl 1 (List.map zah t),.sl 6 (mB raw),.agg (zaK rule),I p] []=some (zat true):=by
 refine zBV ?_;rw[c_Light,zas];by_cases ht:(t.length:Int)<=600
 case neg=>rw[decide_eq_false ht,zbj,zaO,zFQ,zas];rfl
 rw[decide_eq_true ht,zaG,zay,zac];by_cases h20:(20:Int)<raw.length
 case pos=>rw[zaB h20,zFQ,zas];rfl
 rw[zaH h20,c_Roll,zHl];obtain⟨s,d1,e1,hs,hd1⟩:=c_Setup ⟨t,0⟩ ⟨by simp,by show t.length<=600;omega⟩;obtain⟨a,d2,e2,ha,hpa,hd2⟩:=c_Full d1 s 20 hd1 hs (by omega);obtain⟨b,d3,e3,hb,hpb,hd3⟩:=c_Events d2 s 20 hd2 hs (by omega);obtain⟨l,d4,e4,hl,hd4⟩:=c_Appeals d3 s hd3 hs;obtain⟨r,d5,e5,hr,hd5⟩:=zLM d4 hd4;obtain⟨q,d6,e6,hq,hd6⟩:=c_Rule d5 hd5;rw[e1,zzl];simp only;rw[e2,zsx];simp only;rw[e3,zsx];simp only;have hlab:(a++b).length<=140:=by rw[zby];omega
 have hpg:∀e∈a++b,e.A.length<=1000000:=λe he=>by
  rcases zbo.1 he with h|h
  .have:=hpa e h;omega
  .have:=hpb e h;omega
 have hab:(a++b).length=a.length+b.length:=zby;have hll:(l++raw).length=l.length+raw.length:=zby;have hev:OkApp s (a++b) (l++raw):=⟨hs.ok,by omega,hpg,by omega⟩
 have hsd:=hs.ok.seeds;have hgl:=ztW s (few_ev hev);simp only[zcR,<-zbS];simp(disch:=omega)only[zK,hab,zaR,zaW,e4,zxk,e5,zvc,e6,zAr,zpz hs.ok (show(a++b).length<=2000 by omega) hev.2.2.1,zhm]
 let T:=some (zat true)
 have hch:=λk=>zMY (r:=k) (q:=q) hs.ok (a++b) (l++raw)
 have hre:=λk=>reopR_bd (r:=k) (q:=q) hs.ok (a++b) (l++raw)
 have hbl:=λk=>zMP k hs.ok (foldS s (a++b)) (zd2 k q s (a++b) (l++raw)).1
 have l3:=zbW [r,rule] (λi _=>zkm raw rule (s,d1) (a,d2) (b,d3) (l,d4) (r,d5) (q,d6) i=T) ?_ ?_
 rotate_left
 .refine zsh ?_;rw[zaH (by simp),zFQ,zas];rfl
 .intro i hi _ _ ih;have hi2:i<2:=hi;have hiw:w64 ((i:Int)+1)=i+1:=w64_id (by omega) (by omega);refine zsh ?_;rw[zaB (by omega),cPQ,cPQ,zaf,show([zaK (r,d5).1,zaK rule]:List (List AV))=List.map zaK [r,rule]from rfl,zEA,zaa hi,zae,hiw];generalize [r,rule][i]=k;have hc:=hch k;have hb:=hbl k;have hr:=hre k;simp only[zcR,<-zbS];simp(disch:=omega)only[zG,zAj,za7,zCJ,za7,zJk hev,ze7,zHi hev (show(l++raw).length<=100000 by omega),ze7,c_Blamed hev _ hc.1 (show _<=1000 by omega),ze7,zJm hev _ hc.1 (show _<=1000 by omega) hc.2.2,ze7,c_Reopened hev,zhf,zMU hev (show(l++raw).length<=100000 by omega),zhf,c_ints _ (show(zd2 k q s (a++b) (l++raw)).1.length<=1000000 by omega),c_ints _ (show(if chkA k=0 then(zgP k s (foldS s (a++b)) (zd2 k q s (a++b) (l++raw)).1,(0:Int))else([],1)).1.length<=1000000 by omega),zas,c_SameList _ _ (show(reopR k q s (a++b) (l++raw)).1.length<=1000000 by omega) hr.2,zas,show dec True=true from zbq trivial,zaG];exact ih
 generalize foldS s (a++b)=M at hgl ⊢;have l1:=zbW [l,raw,l++raw] (λi _=>zkk raw rule p (s,d1) (a,d2) (b,d3) (l,d4) (r,d5) (q,d6) (M,0) i=T) ?_ ?_
 .exact l1
 .refine zsf ?_;rw[zaH (by simp)];exact l3
 . intro i hi _ _ ih;have hi3:i<3:=hi
   have hcl:([l,raw,l++raw][i]).length<=1000:=by have:=zau hi;simp only[zS]at this;rcases this with h|h|h<;>rw[h]<;>omega
   refine zsf ?_;rw[zaB (by omega),cPQ,cPQ,zaf];simp only[zcR,<-zbS];rw[show([zmB l,zmB raw,[sD (l++raw)]]:List (List AV))=List.map zmB [l,raw,l++raw]from rfl,zHN,zaa hi,zae];have hiw:w64 ((i:Int)+1)=i+1:=w64_id (by omega) (by omega);generalize [l,raw,l++raw][i]=c at hcl ⊢;have hcs:∀(k:zaP) (p:Int),(inTime k p c).length<=1000:=λk p=>zbY (zcv _ _) hcl
   simp only[zR,zG,zxC (show c.length<1000000 by omega),zfZ,c_rCanA c (by omega),zfZ,zFP _ _ (show(appS c).1.length<=1000000 by have:=zwv c;omega),zas,show dec True=true from zbq trivial,zaG,zFK r p c (by omega),zoV,zJn r p c (by omega),zoV,zFK rule 60 c (by omega),zJn rule 60 c (by omega),zcR,zFP _ _ (show(inTime r p c).length<=1000000 by have:=hcs r p;omega),zFP _ _ (show(inTime rule 60 c).length<=1000000 by have:=hcs rule 60;omega)];refine zbW c (λk _=>zkl raw rule p (s,d1) (a,d2) (b,d3) (l,d4) (r,d5) (q,d6) (M,0) i c k=T) ?_ ?_
   .refine zsg ?_;rw[zac,zaH (by omega),hiw];exact ih
   . intro k hk _ _ ihk
     have hsl:(scopeL s M c[k]).length<=60:=by unfold scopeL;rw[zac];exact zbY (zcv _ _) hs.ok.scripts.1
     refine zsg ?_;have hb:(!(zeA c[k]==zeA c[k]))=false:=by simp
     simp(disch:=omega)only[zR,zI,zdY,zaa hk,zAk,zas,zxD,zas,hb,zay,zzh hs.ok.scripts (show s.E.length<=1000000 by omega) M (show M.M.length<=1000000 by omega),zgs,c_rScope hs.ok M (show M.M.length<=1000000 by omega),zgU];rw[zaz (by simp),c_ints _ (by omega),zas,zaG,zay];exact ihk
end Go.Proofs.YtlecnobdfhlmnaaGreat
namespace Go.Ab
open Go.RowKit
abbrev Old(w:World):Nat->Prop:=λg=>g<w.heap.size
def Rd(P:Program)(w:World)(t:TypeId)(n:Nat){T:Type}(nT:T->List AV):Prop:=
 P.cellsOf t=n/\(∀v,(nT v).length=n)/\∀(H:Type) (enc:TypeId×Value->H) (base:Nat) (spare:Nat->Bool) (held:Bool) (fuel:Nat) (cs:List Value) (x:DataW H×List MemPlace),DataW.trod enc P w base spare held fuel t cs=some x->∃v:T,cs.length=n/\∀(j:Nat) (c:AV) (y:Value),(nT v)[j]?=some c->cs[j]?=some y->CRel (Old w) w c y/\y.oneCell'=true
def rd_int{P:Program}{w:World}{t:TypeId}{k:IntKind}(hc:P.cellsOf t=1)(ht:P.underlying t=some (.int k)):Rd P w t 1 (λn:Int=>[AV.v (.int k n)]):=by
 refine⟨hc,λ_=>rfl,λH enc base spare held fuel cs x h=>?_⟩;obtain⟨n,rfl,_,_⟩:=DataW.trod_int ht h;refine⟨n,rfl,λj c y h1 h2=>?_⟩
 cases j with
 |zero=>simp at h1 h2;subst h1;subst h2;exact⟨.v _,rfl⟩
 |succ j=>simp at h1
def rd_map{P:Program}{w:World}{t:TypeId}{n:Nat}{T U:Type}{nT:T->List AV}{nU:U->List AV}(h:Rd P w t n nT)(g:T->U)(hg:∀v,nU (g v)=nT v)(hl:∀u,(nU u).length=n):Rd P w t n nU:=by refine⟨h.1,hl,λH enc base spare held fuel cs x hx=>?_⟩;obtain⟨v,h1,h2⟩:=h.2.2 H enc base spare held fuel cs x hx;exact⟨g v,h1,by rw[hg];exact h2⟩
def list_of{T:Type}{R:Nat->T->Prop}:∀n:Nat,(∀i,i<n->∃v,R i v)->∃l:List T,l.length=n/\∀i v,l[i]?=some v->R i v
 |0,_=>⟨[],rfl,λi v h=>by simp at h⟩
 |n+1,h=>by
   obtain⟨l,h1,h2⟩:=list_of n (λi hi=>h i (by omega));obtain⟨v,hv⟩:=h n (by omega);refine⟨l++[v],by simp[h1],λi u hu=>?_⟩;by_cases hi:i<n
   .rw[zdP (by omega)]at hu;exact h2 i u hu
   . have hlt:=(zao.1 hu).1;simp at hlt;have:i=l.length:=by omega
     subst this;rw[zgJ (by omega)]at hu;simp at hu;subst hu;rw[h1];exact hv
def rd_slice{P:Program}{w:World}{t e:TypeId}{n:Nat}{T:Type}{nT:T->List AV}(hc:P.cellsOf t=1)(ht:P.underlying t=some (.slice e))(hn:0<n)(he:Rd P w e n nT):Rd P w t 1 (λl:List T=>[AV.sl n (l.map nT)]):=by
 refine⟨hc,λ_=>rfl,λH enc base spare held fuel cs x h=>?_⟩
 have done:∀(l:List T) (y:Value),CRel (Old w) w (.sl n (l.map nT)) y->y.oneCell'=true->∃v:List T,[y].length=1/\∀(j:Nat) (c:AV) (z:Value),[AV.sl n (v.map nT)][j]?=some c->[y][j]?=some z->CRel (Old w) w c z/\z.oneCell'=true:=by
  intro l y hy h1;refine⟨l,rfl,λj c z hj hz=>?_⟩
  cases j with
  |zero=>simp at hj hz;subst hj;subst hz;exact⟨hy,h1⟩
  |succ j=>simp at hj
 rcases DataW.trod_slice ht h with⟨rfl,_⟩|⟨a,len,cap,elems,rest,m,rfl,rfl,_,hb,hl,_,hlen,hel,_,_⟩
 .exact done [] _ (CRel.nil_sl n) rfl
 . have each:∀i,i<len->∃v:T,a.block<w.heap.size/\∀(j:Nat) (c:AV),(nT v)[j]?=some c->∃y,w.cell? (a.add (i*n+j))=some y/\CRel (Old w) w c y/\y.oneCell'=true:=by
    intro i hi;have h1:=hel i hi;rw[zaa (by omega),he.1]at h1;obtain⟨cs',h2,h3⟩:=Option.bind_eq_some_iff.1 h1;obtain⟨v,h4,h5⟩:=he.2.2 H enc base spare held m cs' _ h3;obtain⟨h6,h7,h8⟩:=World.cells?_some h2;have hblk:=World.cells?_block h2 hn;rw[znG]at hblk;refine⟨v,hblk,λj c hj=>?_⟩;have hjn:j<n:=by have:=(zao.1 hj).1;rw[he.2.1]at this;exact this
    have h9:=h8 j hjn;rw[Go.Addr.add_add]at h9;have h10:cs'[j]?=some (cs'[j]'(by omega)):=zaa (by omega);refine⟨cs'[j]'(by omega),by rw[h9,h10],h5 j c _ hj h10⟩
   obtain⟨l,hll,hlr⟩:=list_of len each;refine done l _ (.sl n _ (some a) len cap (λi j=>(w.cell? (a.add (i*n+j))).getD undef) (by simp;omega) hl (λcs hcs=>by obtain⟨v,_,rfl⟩:=zbA.1 hcs;exact he.2.1 v) ?_ ?_) rfl
   . cases l with
     |nil=>left;rfl
     |cons v l'=>right;refine⟨a,rfl,(hlr 0 v rfl).1,λi j cs c h1 h2=>?_⟩;rw[zbx]at h1;obtain⟨u,hu,rfl⟩:=zdf.1 h1;obtain⟨y,hy,hr,ho⟩:=(hlr i u hu).2 j c h2;rw[hy];exact⟨rfl,ho⟩
   .intro i j cs c h1 h2;rw[zbx]at h1;obtain⟨u,hu,rfl⟩:=zdf.1 h1;obtain⟨y,hy,hr,ho⟩:=(hlr i u hu).2 j c h2;rw[hy];exact hr
def RdF(P:Program)(w:World)(fs:List Field)(off n:Nat){T:Type}(nT:T->List AV):Prop:=
 (∀v,(nT v).length=n)/\∀(H:Type) (enc:TypeId×Value->H) (base:Nat) (spare:Nat->Bool) (held:Bool) (fuel:Nat) (cs:List Value),off+n<=cs.length->(∀f∈fs,∃x,DataW.trod enc P w base spare held fuel f.type ((cs.drop f.offset).take (P.cellsOf f.type))=some x)->∃v:T,∀(j:Nat) (c:AV) (y:Value),(nT v)[j]?=some c->cs[off+j]?=some y->CRel (Old w) w c y/\y.oneCell'=true
def rdf_nil{P:Program}{w:World}{off:Nat}:RdF P w [] off 0 (λ_:Unit=>[]):=
 ⟨λ_=>rfl,λ_ _ _ _ _ _ _ _ _=>⟨(),λj c y h=>by simp at h⟩⟩
def zm1{P:Program}{w:World}{f:Field}{fs:List Field}{off n m:Nat}{A B:Type}{nA:A->List AV}{nB:B->List AV}(hA:Rd P w f.type n nA)(ho:f.offset=off)(hB:RdF P w fs (off+n) m nB):RdF P w (f::fs) off (n+m) (λv:A×B=>nA v.1++nB v.2):=by
 refine⟨λv=>by simp[hA.2.1,hB.1],λH enc base spare held fuel cs hl h=>?_⟩;obtain⟨x,hx⟩:=h f (by simp);obtain⟨a,h1,h2⟩:=hA.2.2 H enc base spare held fuel _ x hx;obtain⟨b,h3⟩:=hB.2 H enc base spare held fuel cs (by omega) (λg hg=>h g (by simp[hg]));refine⟨(a,b),λj c y hj hy=>?_⟩;by_cases hjn:j<n
 .rw[zdP (by rw[hA.2.1];exact hjn)]at hj;refine h2 j c y hj ?_;rw[List.getElem?_take_of_lt (by rw[hA.1];exact hjn),zb9,ho];exact hy
 .rw[zgJ (by rw[hA.2.1];omega),hA.2.1]at hj;refine h3 (j-n) c y hj ?_;rw[show off+n+(j-n)=off+j by omega];exact hy
def zDw{P:Program}{w:World}{t:TypeId}{fs:Array Field}{n:Nat}{T:Type}{nT:T->List AV}(hc:P.cellsOf t=n)(ht:P.underlying t=some (.struct fs))(hf:RdF P w fs.toList 0 n nT):Rd P w t n nT:=by
 refine⟨hc,hf.1,λH enc base spare held fuel cs x h=>?_⟩;obtain⟨xs,m,rfl,_,h2,h3,h4⟩:=DataW.trod_struct ht h
 obtain⟨v,hv⟩:=hf.2 H enc base spare held m cs (by omega) (λf hfm=>by
  obtain⟨i,hi,hif⟩:=zbB.1 hfm;have hi':i<fs.size:=by simpa using hi
  have:=h4 i f (by rw[za3 hi'];simpa using hif);rw[zaa (by omega)]at this
  exact⟨_,this⟩)
 exact⟨v,by omega,by simpa using hv⟩
def arg_cell{P:Program}{w:World}{t:TypeId}{T:Type}{f:T->AV}(hr:Rd P w t 1 (λv=>[f v])){H:Type}{enc:TypeId×Value->H}{base:Nat}{spare:Nat->Bool}{held:Bool}{y:Value}(hy:y.cells.toList=[y]){d:DataW H}{ps:List MemPlace}
  (h:DataW.Trod enc P w base spare held t y d ps) {κ:Kap} {D:aB}:∃v:T,VRel (Old w) κ D w (f v) y:=by
 obtain⟨fuel,hf⟩:=h;rw[hy]at hf;obtain⟨v,_,h2⟩:=hr.2.2 H enc base spare held fuel _ _ hf;exact⟨v,.c (h2 0 _ _ rfl rfl).1⟩
def arg_agg{P:Program}{w:World}{t:TypeId}{n:Nat}{T:Type}{nT:T->List AV}(hr:Rd P w t n nT){H:Type}{enc:TypeId×Value->H}{base:Nat}{spare:Nat->Bool}{held:Bool}{vs:aM}{d:DataW H}{ps:List MemPlace}
  (h:DataW.Trod enc P w base spare held t (.agg vs) d ps) {κ:Kap} {D:aB}:∃v:T,VRel (Old w) κ D w (.agg (nT v)) (.agg vs):=by
 obtain⟨fuel,hf⟩:=h;obtain⟨v,h1,h2⟩:=hr.2.2 H enc base spare held fuel _ _ hf;have hvs:(Value.agg vs).cells.toList=vs.toList:=rfl;rw[hvs]at h1 h2;have hlen:vs.size=n:=by simpa using h1
 have hl2:=hr.2.1 v;refine⟨v,.c (.agg _ _ (by omega) ?_ ?_)⟩
 .intro x hx;obtain⟨i,hi,rfl⟩:=Array.mem_iff_getElem.1 hx;exact(h2 i ((nT v)[i]'(by omega)) _ (zaa _) (by simp[hi])).2
 .intro j c x hj hx;exact(h2 j c x hj (by simpa using hx)).1
end Go.Ab
end
