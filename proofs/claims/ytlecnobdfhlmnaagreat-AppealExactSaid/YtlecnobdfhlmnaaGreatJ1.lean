/- slices.Clone answers bc said, for numbers and truth values. -/
import Derived.Test.YtlecnobdfhlmnaaGreatXAnn
import Derived.Test.YtlecnobdfhlmnaaGreatAb2
import Derived.Control
import Derived.Test.YtlecnobdfhlmnaaGreatProg
import Derived.Shelf.SlSortCmp.WholeK
import Derived.Shelf.SlIterI.Nil
import Derived.Shelf.SortM.Plain
import Derived.Shelf.SortM.SortNone
import Derived.Test.YtlecnobdfhlmnaaGreatJ0
set_option linter.all false
noncomputable section
set_option maxRecDepth 100000
namespace Go.Proofs.YtlecnobdfhlmnaaGreat
open Go.Ab
abbrev zV:=zB @decide_eq_true_eq @zeB
def ciC:Code:=(zcS.fn.body).getD .skip
def ciO(j:Nat):Array Oper:=opsAt j ciC
def ciD(j:Nat):Bool:=ztI j ciC
def ci_hb:zcS.fn.body=some ciC:=by kernel_rfl
def ci_shape:ciC=(.seq (.region 0 (ciO 0) (ciD 0)) (.seq (.seq (.region 1 (ciO 1) false) (.cond (.tmp 4) (.seq (.region 2 (ciO 2) (ciD 2)) .ret) .skip)) (.seq (.region 3 (ciO 3) (ciD 3)) .ret))):=by kernel_rfl
def ci_r0:regOf 0 ciC=some (.region 0 (ciO 0) (ciD 0)):=by kernel_rfl
def ci_r1:regOf 1 ciC=some (.region 1 (ciO 1) false):=by kernel_rfl
def ci_r2:regOf 2 ciC=some (.region 2 (ciO 2) (ciD 2)):=by kernel_rfl
def ci_r3:regOf 3 ciC=some (.region 3 (ciO 3) (ciD 3)):=by kernel_rfl
def ci_n:zcS.fn.ntmps<=1000:=by decide
def ci_enters:enters zcS.P 151=true:=by kernel_rfl
def ci_t0(es:aI):tReg zcS zT 0 ⟨[(0,AV.sl 1 es)],[]⟩=some ⟨[(0,AV.sl 1 es)],[]⟩:=by kernel_rfl
def ci_t1(es:aI):tSeg zcS zT 1 0 1 ⟨[(0,AV.sl 1 es)],[]⟩=some ⟨[(3,AV.sl 1 es),(0,AV.sl 1 es)],[]⟩:=by kernel_rfl
def ci_t2:tReg zcS zT 2 ⟨[],[]⟩=some ⟨[(2,AV.row 2 1 0 0)],[(2,⟨1,3,[],false⟩)]⟩:=by kernel_rfl
def ci_t3(es:aI):tReg zcS zT 3 ⟨[(0,AV.sl 1 es)],[]⟩=(chk (0=0)<|chk ((0+es.length)*(8+1)<=1099511627776)<|chk (es.length=es.length)<|some ⟨[(2,AV.row 2 1 0 es.length)],[(2,gG es)]⟩):=by kernel_rfl
def ci_body{w0:World}{S0:aB}{κ0:Kap}{K:aB}{a:Act}{w:World}{es:aI}(hl:es.length<=100000000)(h:NowP w0 S0 κ0 K zcS.fn.ntmps (λ_ _ _ _=>True) ⟨[(0,AV.sl 1 es)],[]⟩ a w):ciC.wp zcS.P (PostC w0 S0 κ0 K zcS.fn.ntmps .ret ⟨[(2,AV.row 2 1 0 es.length)],[(2,gG es)]⟩) a w:=by
 rw[ci_shape];refine wp_seq (stepP Stable.none ci_hb ci_n ci_r0 (ci_t0 es) h (λa1 w1 h1=>?_));refine wp_seq (wp_seq (wp_region ?_));have z1:(ciO 1).size=2:=by kernel_rfl
 rw[z1,show List.range 2=List.range' 0 1++[1]from rfl];refine segP Stable.none ci_hb ci_n ci_r1 (ci_t1 es) (by rw[z1];decide) h1 (λa2 w2 h2=>?_);rw[wpOps_cons];refine nil_op (t:=22) (u:=22) (e:=3) (s:=3) (d:=4) (by unfold opIs;kernel_rfl) (by kernel_rfl) (by decide) h2 rfl (λb hb h3=>?_);refine wp_cond (h3.bool (b:=b) rfl) ?_
 cases b with
 |true=>have:=hb rfl;subst this;rw[if_pos rfl];have h4:=h3.trim Stable.none [] [] (st':=⟨[],[]⟩) (by kernel_rfl);refine wp_seq (stepP Stable.none ci_hb ci_n ci_r2 ci_t2 h4 (λa5 w5 h5=>?_));refine wp_ret ⟨rfl,?_⟩;obtain⟨S,κ,hg,_⟩:=h5;exact⟨S,κ,hg⟩
 |false=>rw[iNs];refine wp_skip ?_;have h4:=h3.trim Stable.none [0] [] (st':=⟨[(0,AV.sl 1 es)],[]⟩) (by kernel_rfl);have t3:=ci_t3 es;rw[zar rfl,cPQ,zar rfl]at t3;refine wp_seq (stepP Stable.none ci_hb ci_n ci_r3 t3 h4 (λa5 w5 h5=>?_));refine wp_ret ⟨rfl,?_⟩;obtain⟨S,κ,hg,_⟩:=h5;exact⟨S,κ,hg⟩
def ci_ok:CallOK zP (single 151 zOrc):=by
 intro f args ms r ms' h;unfold single at h;split at h
 case isFalse=>cases h
 rename_i hf;subst hf
 cases ms with
 |cons a m =>
   have hz:zOrc 151 args (a::m)=none:=by unfold zOrc;simp(decide:=true) only [if_false,if_true]
   rw[hz]at h;cases h
 |nil =>
 have hz:zOrc 151 args []=oClone 3 args:=by unfold zOrc;simp(decide:=true) only [if_false,if_true]
 rw[hz]at h;clear hz;unfold oClone at h;split at h
 case h_2=>cases h
 rename_i es;split at h
 case isFalse=>cases h
 rename_i hl;injection h with h;injection h with h1 h2;subst h1 h2;refine⟨ci_enters,λw S κ vals hvl hS hv hms hinj=>?_⟩;have hf:zcS.P.funcs[151]?=some zcS.fn:=by kernel_rfl
 refine zpB (args:=[AV.sl 1 es]) (frz:=false) (ex:=.ret) (st:=⟨[(2,AV.row 2 1 0 es.length)],[(2,gG es)]⟩) hf ci_hb (show 1<=zcS.fn.ntmps by decide) hvl hS hv hms hinj (λid=>by simp) (λa hg=>?_) ?_ ?_ ?_
 .obtain⟨S,κ,hg⟩:=hg;exact ci_body hl ⟨S,κ,hg,trivial⟩
 .rw[show zjM zcS.P false zcS.fn ⟨[(2,.row 2 1 0 es.length)],[(2,gG es)]⟩=outOf false [(2,gG es)] (.row 2 1 0 es.length)from by kernel_rfl];simp[outOf,Ab.look]
 .kernel_rfl
 .kernel_rfl
def cbC:Code:=(zcF.fn.body).getD .skip
def cbO(j:Nat):Array Oper:=opsAt j cbC
def cbD(j:Nat):Bool:=ztI j cbC
def cb_hb:zcF.fn.body=some cbC:=by kernel_rfl
def cb_shape:cbC=(.seq (.region 0 (cbO 0) (cbD 0)) (.seq (.seq (.region 1 (cbO 1) false) (.cond (.tmp 4) (.seq (.region 2 (cbO 2) (cbD 2)) .ret) .skip)) (.seq (.region 3 (cbO 3) (cbD 3)) .ret))):=by kernel_rfl
def cb_r0:regOf 0 cbC=some (.region 0 (cbO 0) (cbD 0)):=by kernel_rfl
def cb_r1:regOf 1 cbC=some (.region 1 (cbO 1) false):=by kernel_rfl
def cb_r2:regOf 2 cbC=some (.region 2 (cbO 2) (cbD 2)):=by kernel_rfl
def cb_r3:regOf 3 cbC=some (.region 3 (cbO 3) (cbD 3)):=by kernel_rfl
def cb_n:zcF.fn.ntmps<=1000:=by decide
def cb_enters:enters zcF.P 245=true:=by kernel_rfl
def cb_t0(es:aI):tReg zcF zT 0 ⟨[(0,AV.sl 1 es)],[]⟩=some ⟨[(0,AV.sl 1 es)],[]⟩:=by kernel_rfl
def cb_t1(es:aI):tSeg zcF zT 1 0 1 ⟨[(0,AV.sl 1 es)],[]⟩=some ⟨[(3,AV.sl 1 es),(0,AV.sl 1 es)],[]⟩:=by kernel_rfl
def cb_t2:tReg zcF zT 2 ⟨[],[]⟩=some ⟨[(2,AV.row 2 1 0 0)],[(2,⟨1,4,[],false⟩)]⟩:=by kernel_rfl
def cb_t3(es:aI):tReg zcF zT 3 ⟨[(0,AV.sl 1 es)],[]⟩=(chk (0=0)<|chk ((0+es.length)*(1+1)<=1099511627776)<|chk (es.length=es.length)<|some ⟨[(2,AV.row 2 1 0 es.length)],[(2,gL es)]⟩):=by kernel_rfl
def cb_body{w0:World}{S0:aB}{κ0:Kap}{K:aB}{a:Act}{w:World}{es:aI}(hl:es.length<=100000000)(h:NowP w0 S0 κ0 K zcF.fn.ntmps (λ_ _ _ _=>True) ⟨[(0,AV.sl 1 es)],[]⟩ a w):cbC.wp zcF.P (PostC w0 S0 κ0 K zcF.fn.ntmps .ret ⟨[(2,AV.row 2 1 0 es.length)],[(2,gL es)]⟩) a w:=by
 rw[cb_shape];refine wp_seq (stepP Stable.none cb_hb cb_n cb_r0 (cb_t0 es) h (λa1 w1 h1=>?_));refine wp_seq (wp_seq (wp_region ?_));have z1:(cbO 1).size=2:=by kernel_rfl
 rw[z1,show List.range 2=List.range' 0 1++[1]from rfl];refine segP Stable.none cb_hb cb_n cb_r1 (cb_t1 es) (by rw[z1];decide) h1 (λa2 w2 h2=>?_);rw[wpOps_cons];refine nil_op (t:=129) (u:=129) (e:=4) (s:=3) (d:=4) (by unfold opIs;kernel_rfl) (by kernel_rfl) (by decide) h2 rfl (λb hb h3=>?_);refine wp_cond (h3.bool (b:=b) rfl) ?_
 cases b with
 |true=>have:=hb rfl;subst this;rw[if_pos rfl];have h4:=h3.trim Stable.none [] [] (st':=⟨[],[]⟩) (by kernel_rfl);refine wp_seq (stepP Stable.none cb_hb cb_n cb_r2 cb_t2 h4 (λa5 w5 h5=>?_));refine wp_ret ⟨rfl,?_⟩;obtain⟨S,κ,hg,_⟩:=h5;exact⟨S,κ,hg⟩
 |false=>rw[iNs];refine wp_skip ?_;have h4:=h3.trim Stable.none [0] [] (st':=⟨[(0,AV.sl 1 es)],[]⟩) (by kernel_rfl);have t3:=cb_t3 es;rw[zar rfl,cPQ,zar rfl]at t3;refine wp_seq (stepP Stable.none cb_hb cb_n cb_r3 t3 h4 (λa5 w5 h5=>?_));refine wp_ret ⟨rfl,?_⟩;obtain⟨S,κ,hg,_⟩:=h5;exact⟨S,κ,hg⟩
def cb_ok:CallOK zP (single 245 zOrc):=by
 intro f args ms r ms' h;unfold single at h;split at h
 case isFalse=>cases h
 rename_i hf;subst hf
 cases ms with
 |cons a m =>
   have hz:zOrc 245 args (a::m)=none:=by unfold zOrc;simp(decide:=true) only [if_false,if_true]
   rw[hz]at h;cases h
 |nil =>
 have hz:zOrc 245 args []=oClone 4 args:=by unfold zOrc;simp(decide:=true) only [if_false,if_true]
 rw[hz]at h;clear hz;unfold oClone at h;split at h
 case h_2=>cases h
 rename_i es;split at h
 case isFalse=>cases h
 rename_i hl;injection h with h;injection h with h1 h2;subst h1 h2;refine⟨cb_enters,λw S κ vals hvl hS hv hms hinj=>?_⟩;have hf:zcF.P.funcs[245]?=some zcF.fn:=by kernel_rfl
 refine zpB (args:=[AV.sl 1 es]) (frz:=false) (ex:=.ret) (st:=⟨[(2,AV.row 2 1 0 es.length)],[(2,gL es)]⟩) hf cb_hb (show 1<=zcF.fn.ntmps by decide) hvl hS hv hms hinj (λid=>by simp) (λa hg=>?_) ?_ ?_ ?_
 .obtain⟨S,κ,hg⟩:=hg;exact cb_body hl ⟨S,κ,hg,trivial⟩
 .rw[show zjM zcF.P false zcF.fn ⟨[(2,.row 2 1 0 es.length)],[(2,gL es)]⟩=outOf false [(2,gL es)] (.row 2 1 0 es.length)from by kernel_rfl];simp[outOf,Ab.look]
 .kernel_rfl
 .kernel_rfl
def frA(b:Bool)(k:Nat)(l:aA):AV:=bif b then .row k 9 0 (mA l).length else .sl 9 (mA l)
def frM(b:Bool)(k:Nat)(l:aA):Mem:=bif b then[(k,gB (mA l))]else[]
def c0(b:Bool)(l:aA):tReg zbr zT 0 ⟨[(0,frA b 1000 l)],frM b 1000 l⟩=(some ⟨[(0,frA b 1000 l)],frM b 1000 l⟩):=by cases b<;>kernel_rfl
def c1(b:Bool)(l:aA):tReg zbr zT 1 ⟨[(0,frA b 1000 l)],frM b 1000 l⟩=(some ⟨[(0,frA b 1000 l),(4,AV.row 4 9 0 0)],[(4,⟨9,85,[],false⟩)]++frM b 1000 l⟩):=by cases b<;>kernel_rfl
def c4(b:Bool)(l:aA)(ev:aA)(p:Addr)(k:Int×Int)(g:zb7):tSeg zbr zT 4 1 3 ⟨[(0,frA b 1000 l),(4,gR 4 9 (mA ev)),(10,AV.v (.pointer (some p))),(13,AV.tup [AV.agg [I k.1,I k.2],AV.agg [I g.first,B g.W]])],[(4,gB (mA ev))]++frM b 1000 l⟩=(some ⟨[(6,gQ 6 2),(14,AV.agg [I g.first,B g.W]),(0,frA b 1000 l),(4,gR 4 9 (mA ev)),(10,AV.v (.pointer (some p))),(13,AV.tup [AV.agg [I k.1,I k.2],AV.agg [I g.first,B g.W]])],[(6,pW g),(4,gB (mA ev))]++frM b 1000 l⟩):=by cases b<;>kernel_rfl
def c5(b:Bool)(l:aA)(ev:aA)(p:Addr)(g:zb7):tReg zbr zT 5 ⟨[(0,frA b 1000 l),(4,gR 4 9 (mA ev)),(6,gQ 6 2),(10,AV.v (.pointer (some p)))],[(4,gB (mA ev)),(6,pW g)]++frM b 1000 l⟩=(some ⟨[(0,frA b 1000 l),(4,gR 4 9 (mA ev)),(6,gQ 6 2),(10,AV.v (.pointer (some p))),(17,B (!g.W))],[(4,gB (mA ev)),(6,pW g)]++frM b 1000 l⟩):=by cases b<;>kernel_rfl
def c7(b:Bool)(l:aA)(ev:aA):tReg zbr zT 7 ⟨[(4,gR 4 9 (mA ev))],[(4,gB (mA ev))]++frM b 1000 l⟩=(some ⟨[(4,gR 4 9 (mA ev)),(28,B (decide (2000<(↑(mA ev).length:Int))))],[(4,gB (mA ev))]++frM b 1000 l⟩):=by cases b<;>kernel_rfl
def c9(b:Bool)(l:aA)(ev:aA):tReg zbr zT 9 ⟨[(4,gR 4 9 (mA ev))],[(4,gB (mA ev))]++frM b 1000 l⟩=(callD zex (cw 128 [gR 1000 9 (mA ev),AV.fn 129 []] [(1000,gB (mA ev))]) λ(r0:(List zad))=>some ⟨[(4,AV.row 4 9 0 ((mA ev).length))],[(4,gB (mA r0))]++frM b 1000 l⟩):=by cases b<;>kernel_rfl
def c10(b:Bool)(l:aA)(ev:aA):tReg zbr zT 10 ⟨[(4,gR 4 9 (mA ev))],[(4,gB (mA ev))]++frM b 1000 l⟩=(some ⟨[(4,gR 4 9 (mA ev)),(32,I ((↑(mA ev).length:Int))),(33,I 0)],[(4,gB (mA ev))]++frM b 1000 l⟩):=by cases b<;>kernel_rfl
def c11(b:Bool)(l:aA)(ev:aA)(n:Int)(i:Int):tReg zbr zT 11 ⟨[(4,gR 4 9 (mA ev)),(32,I n),(33,I i)],[(4,gB (mA ev))]++frM b 1000 l⟩=(some ⟨[(4,gR 4 9 (mA ev)),(32,I n),(33,I i),(34,B (decide (i<n)))],[(4,gB (mA ev))]++frM b 1000 l⟩):=by cases b<;>kernel_rfl
def c12(b:Bool)(l:aA)(ev:aA)(n:Int)(i:Int):tReg zbr zT 12 ⟨[(4,gR 4 9 (mA ev)),(32,I n),(33,I i)],[(4,gB (mA ev))]++frM b 1000 l⟩=(some ⟨[(4,gR 4 9 (mA ev)),(7,I i),(32,I n),(33,I i)],[(4,gB (mA ev))]++frM b 1000 l⟩):=by cases b<;>kernel_rfl
def c13(b:Bool)(l:aA)(ev:aA)(n:Int)(i:Int):tReg zbr zT 13 ⟨[(4,gR 4 9 (mA ev)),(7,I i),(32,I n),(33,I i)],[(4,gB (mA ev))]++frM b 1000 l⟩=(chk ((0:Int)<=i)<|
 chk ((i:Int)<((↑(mA ev).length:Int)))<|
 elemD za4 (mA ev) (0+i.toNat) λ(c0:zad) =>
 callD zmI (cw 103 [sV c0] []) λ(r1:zad) =>
 chk ((0:Int)<=i)<|
 chk ((i:Int)<((↑(mA ev).length:Int)))<|
 elemD za4 (mA ev) (0+i.toNat) λ(c2:zad) =>
 some ⟨[(4,AV.row 4 9 0 ((mA ev).length)),(32,I n),(33,I i)],[(4,⟨9,85,List.set (mA ev) (0+i.toNat) (zab r1),false⟩)]++frM b 1000 l⟩):=by cases b<;>kernel_rfl
def c14(b:Bool)(l:aA)(ev:aA)(n:Int)(i:Int):tReg zbr zT 14 ⟨[(4,gR 4 9 (mA ev)),(32,I n),(33,I i)],[(4,gB (mA ev))]++frM b 1000 l⟩=(some ⟨[(4,gR 4 9 (mA ev)),(32,I n),(33,I (w64 (i+1)))],[(4,gB (mA ev))]++frM b 1000 l⟩):=by cases b<;>kernel_rfl
def c15(b:Bool)(l:aA)(ev:aA):tReg zbr zT 15 ⟨[(4,gR 4 9 (mA ev))],[(4,gB (mA ev))]++frM b 1000 l⟩=(some ⟨[(2,gR 4 9 (mA ev)),(3,I 0)],[(4,gB (mA ev))]++frM b 1000 l⟩):=by cases b<;>kernel_rfl
def c2(l:aA):tSeg zbr zT 2 0 2 ⟨[(0,gR 1000 9 (mA l)),(4,AV.row 4 9 0 0)],[(4,⟨9,85,[],false⟩),(1000,gB (mA l))]⟩=(callD zol (cw 127 [gR 1000 9 (mA l)] [(1000,gB (mA l))]) λ(r0:((List ((Int×Int)×zb7)))×(List zad))=>some ⟨[(9,AV.map 9),(8,AV.row 1000 9 0 ((mA l).length)),(0,AV.row 1000 9 0 ((mA l).length)),(4,AV.row 4 9 0 0)],[(9,gP (mY r0.1)),(4,⟨9,85,[],false⟩),(1000,gB (mA r0.2))]⟩):=by kernel_rfl
def c2f(l:aA):tSeg zbr zT 2 0 2 ⟨[(0,sC l),(4,AV.row 4 9 0 0)],[(4,⟨9,85,[],false⟩)]⟩=(callD zmJ (cw 127 [sC l] []) λ(r0:(List ((Int×Int)×zb7)))=>some ⟨[(9,AV.map 9),(8,sC l),(0,sC l),(4,AV.row 4 9 0 0)],[(9,gP (mY r0)),(4,⟨9,85,[],false⟩)]⟩):=by kernel_rfl
def c6(l:aA)(ev:aA)(p:Addr)(g:zb7):tReg zbr zT 6 ⟨[(0,gR 1000 9 (mA l)),(4,gR 4 9 (mA ev)),(6,gQ 6 2),(10,AV.v (.pointer (some p)))],[(4,gB (mA ev)),(6,pW g),(1000,gB (mA l))]⟩=(chk ((0:Int)<=g.first)<|
 chk ((g.first:Int)<((↑(mA l).length:Int)))<|
 elemD za4 (mA l) (0+g.first.toNat) λ(c0:zad) =>
 chk ((mA ev).length=(mA ev).length)<|
 chk (((mA ev).length+1)*(88+1)<=1099511627776)<|
 chk ((mA ev++[[AV.v (Go.Value.int IntKind.i64 c0.a.n),AV.v (Go.Value.int IntKind.i64 c0.a.b),AV.v (Go.Value.int IntKind.i64 c0.a.B),AV.v (Go.Value.int IntKind.i64 c0.r),AV.v (Go.Value.int IntKind.i64 c0.h),AV.v (Go.Value.int IntKind.i64 c0.x),AV.v (Go.Value.int IntKind.i64 c0.s),AV.v (Go.Value.int IntKind.i64 c0.q),AV.sl 1 (List.map zah c0.A)]]).length=(mA ev++[[AV.v (Go.Value.int IntKind.i64 c0.a.n),AV.v (Go.Value.int IntKind.i64 c0.a.b),AV.v (Go.Value.int IntKind.i64 c0.a.B),AV.v (Go.Value.int IntKind.i64 c0.r),AV.v (Go.Value.int IntKind.i64 c0.h),AV.v (Go.Value.int IntKind.i64 c0.x),AV.v (Go.Value.int IntKind.i64 c0.s),AV.v (Go.Value.int IntKind.i64 c0.q),AV.sl 1 (List.map zah c0.A)]]).length)<|
 some ⟨[(0,gR 1000 9 (mA l)),(4,gR 4 9 ((mA ev)++([[I c0.a.n,I c0.a.b,I c0.a.B,I c0.r,I c0.h,I c0.x,I c0.s,I c0.q,AV.sl 1 (List.map zah c0.A)]]))),(10,AV.v (.pointer (some p)))],[(4,⟨9,85,(mA ev)++([zab c0]),false⟩),(1000,gB (mA l))]⟩):=by kernel_rfl
def c6f(l:aA)(ev:aA)(p:Addr)(g:zb7):tReg zbr zT 6 ⟨[(0,sC l),(4,gR 4 9 (mA ev)),(6,gQ 6 2),(10,AV.v (.pointer (some p)))],[(4,gB (mA ev)),(6,pW g)]⟩=(chk ((0:Int)<=g.first)<|
 elemD za4 (mA l) g.first.toNat λ(c0:zad) =>
 chk ((mA ev).length=(mA ev).length)<|
 chk (((mA ev).length+1)*(88+1)<=1099511627776)<|
 chk ((mA ev++[[AV.v (Go.Value.int IntKind.i64 c0.a.n),AV.v (Go.Value.int IntKind.i64 c0.a.b),AV.v (Go.Value.int IntKind.i64 c0.a.B),AV.v (Go.Value.int IntKind.i64 c0.r),AV.v (Go.Value.int IntKind.i64 c0.h),AV.v (Go.Value.int IntKind.i64 c0.x),AV.v (Go.Value.int IntKind.i64 c0.s),AV.v (Go.Value.int IntKind.i64 c0.q),AV.sl 1 (List.map zah c0.A)]]).length=(mA ev++[[AV.v (Go.Value.int IntKind.i64 c0.a.n),AV.v (Go.Value.int IntKind.i64 c0.a.b),AV.v (Go.Value.int IntKind.i64 c0.a.B),AV.v (Go.Value.int IntKind.i64 c0.r),AV.v (Go.Value.int IntKind.i64 c0.h),AV.v (Go.Value.int IntKind.i64 c0.x),AV.v (Go.Value.int IntKind.i64 c0.s),AV.v (Go.Value.int IntKind.i64 c0.q),AV.sl 1 (List.map zah c0.A)]]).length)<|
 some ⟨[(0,sC l),(4,gR 4 9 ((mA ev)++([[I c0.a.n,I c0.a.b,I c0.a.B,I c0.r,I c0.h,I c0.x,I c0.s,I c0.q,AV.sl 1 (List.map zah c0.A)]]))),(10,AV.v (.pointer (some p)))],[(4,⟨9,85,(mA ev)++([zab c0]),false⟩)]⟩):=by kernel_rfl
def cnC:Code:=(zbr.fn.body).getD .skip
def cnO(j:Nat):Array Oper:=opsAt j cnC
def cnD(j:Nat):Bool:=ztI j cnC
def cn_hb:zbr.fn.body=some cnC:=by kernel_rfl
def cn_shape:cnC=(.seq (.region 0 (cnO 0) (cnD 0)) (.seq (.region 1 (cnO 1) (cnD 1)) (.seq (.seq (.region 2 (cnO 2) false) (.block 0 (.loop (.seq (.region 3 (cnO 3) false) (.seq (.cond (.tmp 12) .skip (.exit 0)) (.block 1 (.seq (.region 4 (cnO 4) false) (.seq (.region 5 (cnO 5) (cnD 5)) (.cond (.tmp 17) (.region 6 (cnO 6) (cnD 6)) .skip))))))))) (.seq (.seq (.region 7 (cnO 7) (cnD 7)) (.cond (.tmp 28) (.seq (.region 8 (cnO 8) (cnD 8)) .ret) .skip)) (.seq (.region 9 (cnO 9) (cnD 9)) (.seq (.seq (.region 10 (cnO 10) (cnD 10)) (.block 2 (.loop (.seq (.region 11 (cnO 11) (cnD 11)) (.seq (.cond (.tmp 34) .skip (.exit 2)) (.seq (.block 3 (.seq (.region 12 (cnO 12) (cnD 12)) (.region 13 (cnO 13) (cnD 13)))) (.region 14 (cnO 14) (cnD 14)))))))) (.seq (.region 15 (cnO 15) (cnD 15)) .ret))))))):=by kernel_rfl
def cn_r2:regOf 2 cnC=some (.region 2 (cnO 2) false):=by kernel_rfl
def cn_r4:regOf 4 cnC=some (.region 4 (cnO 4) false):=by kernel_rfl
def cn_n:zbr.fn.ntmps<=1000:=by decide
abbrev X0:Sat2:=λ_ _ _ _=>True
def pickG(l:aA)(p:(Int×Int)×zb7):Option zad:=if p.2.W then none else l[p.2.first.toNat]?
def evsOf(l:aA)(gs:zga)(done:aF):List zad:=done.filterMap λj=>gs[j]?.bind (pickG l)
def evsOf_snoc(l:aA)(gs:zga)(done:aF)(j:Nat):evsOf l gs (done++[j])=evsOf l gs done++((gs[j]?.bind (pickG l)).toList):=by
 unfold evsOf
 grind
def zzt{α β:Type}{f:α->Option β}{g:α->β}:∀l:List α,(∀x∈l,f x=some (g x))->l.filterMap f=l.map g
 |[],_=>rfl
 |x::r,h=>by rw[zhx,h x (by simp)];simp only[zbX];rw[zzt r (λy hy=>h y (by simp[hy]))]
def zuH{β:Type}(l:List β):(List.range l.length).filterMap (λj=>l[j]?)=l:=by
 cases l with
 |nil=>rfl
 |cons d r =>
   rw[zzt (g:=λj=>(d::r).getD j d) _ (λj hj=>by simp_all)]
   apply zdb
   .simp
   simp_all
section
abbrev bL(l:aA):Nat×Ent:=(1000,gB (mA l))
abbrev bV(ev:aA):Nat×Ent:=(4,gB (mA ev))
abbrev s0(b:Bool)(l:aA):Nat×AV:=(0,frA b 1000 l)
abbrev s4(ev:aA):Nat×AV:=(4,.row 4 9 0 (mA ev).length)
abbrev s10(r:Nat):Nat×AV:=(10,.v (.pointer (some ⟨r,0,none⟩)))
abbrev stC(b:Bool)(l ev:aA)(r:Nat):St:=⟨[s0 b l,s4 ev,s10 r],[bV ev]++frM b 1000 l⟩
structure CnLegs(b:Bool)(l:aA):Prop where
 len:l.length<1000000
 glen:(zdu l).length<1000000
 few:(keepS l).length<1000
 cGroups:cw 127 [frA b 1000 l] (frM b 1000 l)=some (bif b then zht (zdu l,l)else zgy (zdu l))
 first:∀p∈zdu l,0<=p.2.first/\p.2.first<l.length
 cSort:∀ev,List.Perm ev (keepS l)->cw 128 [.row 1000 9 0 (mA ev).length,.fn 129 []] [bL ev]=some (zev (canonS l))
 perm:List.Perm (canonS l) (keepS l)
 cClone:∀e∈canonS l,cw 103 [.agg (zab e)] []=some (zmD e)
def c2b(b:Bool)(l:aA){gs:zga}(h:cw 127 [frA b 1000 l] (frM b 1000 l)=some (bif b then zht (gs,l)else zgy gs)):tSeg zbr zT 2 0 2 ⟨[(0,frA b 1000 l),(4,AV.row 4 9 0 0)],[(4,⟨9,85,[],false⟩)]++frM b 1000 l⟩=some ⟨[(9,AV.map 9),(8,frA b 1000 l),(0,frA b 1000 l),(4,AV.row 4 9 0 0)],[(9,gP (mY gs)),(4,⟨9,85,[],false⟩)]++frM b 1000 l⟩:=by
 cases b with
 |true=>have t:=c2 l;rw[show cw 127 [gR 1000 9 (mA l)] [(1000,gB (mA l))]=some (zht (gs,l))from h,zAu]at t;exact t
 |false=>have t:=c2f l;rw[show cw 127 [sC l] []=some (zgy gs)from h,zyr]at t;exact t
def c6b(b:Bool)(l ev:aA)(p:Addr)(g:zb7)(h1:0<=g.first)(h2:g.first<(l.length:Int))(hev:ev.length<1000000000):tReg zbr zT 6 ⟨[(0,frA b 1000 l),(4,gR 4 9 (mA ev)),(6,gQ 6 2),(10,AV.v (.pointer (some p)))],[(4,gB (mA ev)),(6,pW g)]++frM b 1000 l⟩ =
  some ⟨[(0,frA b 1000 l),(4,gR 4 9 ((mA ev)++[zab (l[g.first.toNat]'(by omega))])),(10,AV.v (.pointer (some p)))],[(4,⟨9,85,(mA ev)++[zab (l[g.first.toNat]'(by omega))],false⟩)]++frM b 1000 l⟩:=by
 have hf:g.first.toNat<l.length:=by omega
 cases b with
 |true=>have t6:=c6 l ev p g;rw[zar h1,zar (by simpa using h2),zaR,zcB,zaa hf,zae,zar rfl,zar (by simp;omega),zar rfl]at t6;exact t6
 |false=>have t6:=c6f l ev p g;rw[zar h1,zcB,zaa hf,zae,zar rfl,zar (by simp;omega),zar rfl]at t6;exact t6
section
variable{w0:World}{S0:aB}{κ0:Kap}{K:aB}{a:Act}{w:World}
def cnStep{j:Nat}{st st':St}{X:Sat2}(hX:Stable X)(ht:tReg zbr zT j st=some st')
  (h:NowP w0 S0 κ0 K zbr.fn.ntmps X st a w) {Q:aO} (hQ:∀a' w',NowP w0 S0 κ0 K zbr.fn.ntmps X st' a' w'->Q .normal a' w') (hr:regOf j cnC=some (.region j (cnO j) (cnD j)):=by kernel_rfl):(Code.region j (cnO j) (cnD j)).wp zbr.P Q a w:=stepP hX cn_hb cn_n hr ht h hQ
def keepS_perm{l:aA}{done:aF}(hd:done.Nodup)(h1:∀i∈done,i<(zdu l).length)(h2:∀i,i<(zdu l).length->i∈done):List.Perm (evsOf l (zdu l) done) (keepS l):=by
 have hp:List.Perm done (List.range (zdu l).length):=(zcE hd zkR).2 (λi=>⟨λh=>zfH.2 (h1 i h),λh=>h2 i (zfH.1 h)⟩)
 have e:keepS l=evsOf l (zdu l) (List.range (zdu l).length):=by
  unfold keepS evsOf;have:zdu l=(List.range (zdu l).length).filterMap λj=>(zdu l)[j]?:=(zuH _).symm
  conv=>lhs;rw[this]
  rw[List.filterMap_filterMap];rfl
 rw[e];exact hp.filterMap _
def cn_range{b:Bool}{l:aA}(g:CnLegs b l)
  (h:NowP w0 S0 κ0 K zbr.fn.ntmps X0 ⟨[s0 b l,s4 []],[bV []]++frM b 1000 l⟩ a w) {Q:aO}
  (hQ:∀ev a' w',List.Perm ev (keepS l)->NowP w0 S0 κ0 K zbr.fn.ntmps X0 ⟨[s4 ev],[bV ev]++frM b 1000 l⟩ a' w'->Q .normal a' w'):(Code.seq (.region 2 (cnO 2) false) (.block 0 (.loop (.seq (.region 3 (cnO 3) false) (.seq (.cond (.tmp 12) .skip (.exit 0)) (.block 1 (.seq (.region 4 (cnO 4) false) (.seq (.region 5 (cnO 5) (cnD 5)) (.cond (.tmp 17) (.region 6 (cnO 6) (cnD 6)) .skip))))))))).wp zbr.P Q a w:=by
 refine wp_seq (wp_region ?_);have z2:(cnO 2).size=3:=by cases b<;>kernel_rfl
 rw[z2,show List.range 3=List.range' 0 2++[2]from rfl];have t2:=c2b b l g.cGroups;refine segP Stable.none cn_hb cn_n cn_r2 t2 (by rw[z2];decide) h (λa1 w1 h1=>?_);have h2:=h1.freeze Stable.none cn_n [9] (by cases b<;>kernel_rfl) (st':=⟨[(9,.mp (mY (zdu l))),(8,frA b 1000 l),s0 b l,(4,.row 4 9 0 0)],[(4,⟨9,85,[],false⟩)]++frM b 1000 l⟩) (by cases b<;>kernel_rfl);rw[wpOps_cons];refine zA0 (t:=206) (k:=137) (e:=209) (by unfold opIs;kernel_rfl) (by cases b<;>kernel_rfl) (by decide) h2 (m:=9) (d:=10) rfl (λa3 w3 r q en clock h3=>?_);have h4:=h3.trim Rng.stable [0,4,10] [] (st':=stC b l (evsOf l (zdu l) []) r) (by cases b<;>kernel_rfl);refine zA2 (it:=10) (d1:=11) (d2:=12) (r:=r) (stf:=λdone=>stC b l (evsOf l (zdu l) done) r) [0,4,10] (by cases b<;>kernel_rfl) (by unfold opIs;kernel_rfl) (by unfold opIs;kernel_rfl) (by decide) (by decide) (λ_=>rfl) (λ_ _ _=>by cases b<;>kernel_rfl) ?_ h4 ?_
 . intro done j k v hd hl hjd hkv a w hn
   have hj:j<(zdu l).length:=by have:=(zao.1 hkv).1;simpa using this
   rw[zbx,zaa hj]at hkv;have hp:=g.first _ (zau hj)
   have hev:evsOf l (zdu l) (done++[j])=evsOf l (zdu l) done++(pickG l (zdu l)[j]).toList:=by rw[evsOf_snoc,zaa hj];rfl
   have hlen:(evsOf l (zdu l) done).length<1000000000:=by have:(evsOf l (zdu l) done).length<=done.length:=zdB _ _;have:=zxP hd (n:=(zdu l).length) (λi hi=>by simpa using hl i hi);have:=g.glen;omega
   simp only[hev];generalize evsOf l (zdu l) done=ev at hn hlen ⊢;generalize hx:(zdu l)[j]=x at hkv hp ⊢;obtain⟨⟨k1,k2⟩,gr⟩:=x;simp only[zbk,zaj,zc0,zaD,and_true]at hkv;obtain⟨rfl,rfl⟩:=hkv;refine wp_block (wp_seq (wp_region ?_));have z4:(cnO 4).size=4:=by cases b<;>kernel_rfl
   rw[z4,show List.range 4=0::(List.range' 1 3++[])from rfl,wpOps_cons];refine zAF (by unfold opIs;kernel_rfl) (by decide) hn (it:=10) (d:=13) rfl (by rw[zbx,zaa hj,hx];rfl) (λa1 w1 h1=>?_);have h2:=h1.trim Rng.stable [0,4,10,13] [] (st':=⟨[s0 b l,s4 ev,s10 r,(13,.tup [.agg [I k1,I k2],.agg [I gr.first,B gr.W]])],[bV ev]++frM b 1000 l⟩) (by cases b<;>kernel_rfl);refine segP Rng.stable cn_hb cn_n cn_r4 (c4 b l ev _ (k1,k2) gr) (by rw[z4];decide) h2 (λa3 w3 h3=>?_);have h4:=h3.trim Rng.stable [0,4,6,10] [] (st':=⟨[s0 b l,s4 ev,(6,.loc 6 2 0 0),s10 r],[bV ev,(6,pW gr)]++frM b 1000 l⟩) (by cases b<;>kernel_rfl);refine wp_seq (cnStep Rng.stable (c5 b l ev _ gr) h4 (λa5 w5 h5=>?_));refine wp_cond (h5.bool (b:=!gr.W) rfl) ?_
   cases hdsp:gr.W with
   |true =>
     rw[iNs];refine wp_skip ⟨rfl,?_⟩;have h6:=h5.trim Rng.stable [0,4,10] [6] (st':=stC b l ev r) (by cases b<;>kernel_rfl);have e:pickG l ((k1,k2),gr)=none:=by unfold pickG;simp[hdsp]
     simp_all
   |false =>
     rw[if_pos (by simp)];have h6:=h5.trim Rng.stable [0,4,6,10] [] (st':=⟨[s0 b l,s4 ev,(6,.loc 6 2 0 0),s10 r],[bV ev,(6,pW gr)]++frM b 1000 l⟩) (by cases b<;>kernel_rfl);simp only at hp;have hf:gr.first.toNat<l.length:=by omega
     have t6:=c6b b l ev ⟨r,0,none⟩ gr hp.1 hp.2 (by omega);refine cnStep Rng.stable t6 h6 (λa7 w7 h7=>⟨rfl,?_⟩);have h8:=h7.trim Rng.stable [0,4,10] [6] (st':=⟨[s0 b l,(4,.row 4 9 0 (List.length ((mA ev)++[zab l[gr.first.toNat]]))),s10 r],[(4,⟨9,85,(mA ev)++[zab l[gr.first.toNat]],false⟩)]++frM b 1000 l⟩) (by cases b<;>kernel_rfl);have e:pickG l ((k1,k2),gr)=some l[gr.first.toNat]:=by unfold pickG;simp[hdsp,hf]
     grind
 .intro done hd hl hall a' w' hn;refine hQ _ a' w' (keepS_perm hd (λi hi=>by simpa using hl i hi) (λi hi=>hall i (by simpa using hi))) ?_;exact(hn.trim Rng.stable [4] [] (st':=⟨[s4 (evsOf l (zdu l) done)],[bV (evsOf l (zdu l) done)]++frM b 1000 l⟩) (by cases b<;>kernel_rfl)).drop
abbrev s33(n i:Int):List (Nat×AV):=[(32,I n),(33,I i)]
def cn_copy{b:Bool}{l ev:aA}(hcl:∀e∈ev,cw 103 [.agg (zab e)] []=some (zmD e))(hev:ev.length<1000000)
  (h:NowP w0 S0 κ0 K zbr.fn.ntmps X0 ⟨[s4 ev],[bV ev]++frM b 1000 l⟩ a w) {Q:aO}
  (hQ:∀a' w',NowP w0 S0 κ0 K zbr.fn.ntmps X0 ⟨[s4 ev],[bV ev]++frM b 1000 l⟩ a' w'->Q .normal a' w'):(Code.seq (.region 10 (cnO 10) (cnD 10)) (.block 2 (.loop (.seq (.region 11 (cnO 11) (cnD 11)) (.seq (.cond (.tmp 34) .skip (.exit 2)) (.seq (.block 3 (.seq (.region 12 (cnO 12) (cnD 12)) (.region 13 (cnO 13) (cnD 13)))) (.region 14 (cnO 14) (cnD 14)))))))).wp zbr.P Q a w:=by
 refine wp_seq (cnStep Stable.none (c10 b l ev) h (λa1 w1 h1=>?_));refine wp_block (wp_loop (λa w=>∃k:Nat,k<=ev.length/\NowP w0 S0 κ0 K zbr.fn.ntmps X0 ⟨s4 ev::s33 (mA ev).length k,[bV ev]++frM b 1000 l⟩ a w) (λa _=>ev.length-cnt a 33) ⟨0,zc4 _,h1⟩ ?_)
 rintro a w ⟨k,hk,hn⟩
 have hc0:cnt a 33=k:=by rw[hn.cnt (n:=(k:Int)) rfl];simp
 refine wp_seq (cnStep Stable.none (c11 b l ev _ _) hn (λa2 w2 h2=>?_));refine wp_seq (wp_cond (h2.bool (b:=decide ((k:Int)<(mA ev).length)) rfl) ?_);by_cases hlt:k<ev.length
 . rw[decide_eq_true (by simp;omega),if_pos rfl];refine wp_skip ?_;have h3:=h2.trim Stable.none [4,32,33] [] (st':=⟨s4 ev::s33 (mA ev).length k,[bV ev]++frM b 1000 l⟩) (by cases b<;>kernel_rfl);refine wp_seq (wp_block (wp_seq (cnStep Stable.none (c12 b l ev _ _) h3 (λa4 w4 h4=>?_))));have t:=c13 b l ev (mA ev).length k;rw[cPQ,zar (by simp;omega),zaR,zcB,show((k:Int)).toNat=k from rfl,zaa hlt,zae,hcl _ (zau hlt),ztn,cPQ,zar (by simp;omega),zcB,zaa hlt,zae]at t
   have e:List.set (mA ev) k (zab ev[k])=mA ev:=by rw[<-List.map_set,List.set_getElem_self]
   rw[e]at t;refine cnStep Stable.none t h4 (λa5 w5 h5=>?_);refine cnStep Stable.none (c14 b l ev _ _) h5 (λa6 w6 h6=>?_);rw[w6Q]at h6;refine⟨⟨k+1,hlt,by exact_mod_cast h6⟩,?_⟩;have:cnt a6 33=k+1:=by rw[h6.cnt (n:=(k:Int)+1) rfl];omega
   omega
 .rw[decide_eq_false (by simp;omega),iNs];exact wp_exit (hQ _ _ (h2.trim Stable.none [4] [] (by cases b<;>kernel_rfl)))
abbrev stN(b:Bool)(l:aA):St:=⟨[(2,.row 4 9 0 (mA (canonS l)).length),(3,I 0)],[bV (canonS l)]++frM b 1000 l⟩
def cn_body{b:Bool}{l:aA}(g:CnLegs b l)(h:NowP w0 S0 κ0 K zbr.fn.ntmps X0 ⟨[s0 b l],(frM b 1000 l)⟩ a w):cnC.wp zbr.P (PostC w0 S0 κ0 K zbr.fn.ntmps .ret (stN b l)) a w:=by
 rw[cn_shape];refine wp_seq (cnStep Stable.none (c0 b l) h (λa1 w1 h1=>?_));refine wp_seq (cnStep Stable.none (c1 b l) h1 (λa2 w2 h2=>?_));refine wp_seq (cn_range g h2 (λev a3 w3 hp h3=>?_));have hl:ev.length=(keepS l).length:=hp.length_eq;have hf:=g.few;refine wp_seq (wp_seq (cnStep Stable.none (c7 b l ev) h3 (λa4 w4 h4=>?_)));refine wp_cond (h4.bool (b:=decide (2000<((mA ev).length:Int))) rfl) ?_;rw[decide_eq_false (by simp;omega),iNs];refine wp_skip ?_;have h5:=h4.trim Stable.none [4] [] (st':=⟨[s4 ev],[bV ev]++frM b 1000 l⟩) (by cases b<;>kernel_rfl);have t9:=c9 b l ev;rw[show List.length (mA ev)=(mA ev).length from rfl,g.cSort ev hp,zla]at t9
 have hlen:(mA ev).length=(mA (canonS l)).length:=by rw[zac,zac,hp.length_eq,g.perm.length_eq]
 have hcl:(canonS l).length=(keepS l).length:=g.perm.length_eq;refine wp_seq (cnStep Stable.none t9 h5 (λa6 w6 h6=>?_));rw[hlen]at h6;refine wp_seq (cn_copy (ev:=canonS l) g.cClone (by omega) h6 (λa7 w7 h7=>?_));refine wp_seq (cnStep Stable.none (c15 b l (canonS l)) h7 (λa8 w8 h8=>?_));refine wp_ret ⟨rfl,?_⟩;obtain⟨S,κ,hg,_⟩:=h8;exact⟨S,κ,hg⟩
def zJr:enters zbr.P 75=true:=by kernel_rfl
def cn_calls{b:Bool}{l:aA}(g:CnLegs b l)(w:World)(S:aB)(κ:Kap)(vals:aM)(hvl:vals.size=1)(hS:∀g,S g->g<w.heap.size)
  (hv:∀(k:Nat) (a:AV) (x:Value),[frA b 1000 l][k]?=some a->vals[k]?=some x->VRel S κ (Dm (frM b 1000 l)) w a x)
  (hms:∀d ent,Ab.look (frM b 1000 l) d=some ent->EntAt S κ (Dm (frM b 1000 l)) w (κ d) ent) (hinj:∀d d' g c c',Dm (frM b 1000 l) d->Dm (frM b 1000 l) d'->κ d=some (g,c)->κ d'=some (g,c')->d=d'):Calls zbr.P 75 vals w (Ab.Left S κ (frM b 1000 l) (frM b 1000 l) (.tup [.sl 9 (mA (canonS l)),I 0]) w):=by
 have hf:zbr.P.funcs[75]?=some zbr.fn:=by cases b<;>kernel_rfl
 refine zpB (args:=[frA b 1000 l]) (frz:=false) (ex:=.ret) (st:=stN b l) hf cn_hb (show 1<=zbr.fn.ntmps by decide) hvl hS hv hms hinj (λid=>by simp) (λa hg=>?_) ?_ ?_ ?_
 .obtain⟨S,κ,hg⟩:=hg;exact cn_body g ⟨S,κ,hg,trivial⟩
 .unfold stN bV;generalize mA (canonS l)=xs;rw[show zjM zbr.P false zbr.fn ⟨[(2,.row 4 9 0 xs.length),(3,I 0)],[(4,gB xs)]++frM b 1000 l⟩=outOf false ([(4,gB xs)]++frM b 1000 l) (.tup [.row 4 9 0 xs.length,I 0])from by cases b<;>kernel_rfl];simp[outOf,snap,mapO,Ab.look]
 .cases b<;>kernel_rfl
 .cases b<;>kernel_rfl
end
end
section
open Go.Shelf
def zGn:Go.Shelf.Ren:=⟨λ|6=>97|15=>123|14=>147|28=>170|29=>171|20=>193|21=>194|22=>195|23=>196|24=>197|25=>198|26=>199|27=>200|46=>247|47=>222|48=>223|49=>248|50=>249|57=>264|n=>n,λ|22=>51|24=>70|25=>183|3=>3|39=>204|0=>0|53=>256|55=>258|4=>4|46=>250|45=>249|50=>166|5=>5|9=>9|66=>292|70=>296|76=>313|77=>314|n=>n,λ|n=>n⟩
def layG:Go.Proofs.SlLaysF0.n6 Tryz.prog zGn:={ mixed:=by kernel_rfl,f6:=⟨Tryz.f97.name,by decide,Tryz.func97.trans bJ⟩,f14:=⟨Tryz.f147.name,by decide,Tryz.func147.trans bJ⟩,f15:=Tryz.func123.trans bJ,f20:=⟨Tryz.f193.name,by decide,Tryz.func193.trans bJ⟩,f21:=⟨Tryz.f194.name,by decide,Tryz.func194.trans bJ⟩,f22:=⟨Tryz.f195.name,by decide,Tryz.func195.trans bJ⟩,f23:=⟨Tryz.f196.name,by decide,Tryz.func196.trans bJ⟩,f24:=⟨Tryz.f197.name,by decide,Tryz.func197.trans bJ⟩,f25:=⟨Tryz.f198.name,by decide,Tryz.func198.trans bJ⟩,f26:=⟨Tryz.f199.name,by decide,Tryz.func199.trans bJ⟩,f27:=⟨Tryz.f200.name,by decide,Tryz.func200.trans bJ⟩,f28:=Tryz.func170.trans bJ,f29:=Tryz.func171.trans bJ,f46:=⟨Tryz.f247.name,by decide,Tryz.func247.trans bJ⟩,f47:=Tryz.func222.trans bJ,f48:=Tryz.func223.trans bJ,f49:=⟨Tryz.f248.name,by decide,Tryz.func248.trans bJ⟩,f50:=⟨Tryz.f249.name,by decide,Tryz.func249.trans bJ⟩,f57:=⟨Tryz.f264.name,by decide,Tryz.func264.trans bJ⟩,t0:=Tryz.underlying0,a0:=Tryz.isAgg0,z0:=Tryz.sizeOf0,v0:=Tryz.zeroValue0,t3:=Tryz.underlying3,a3:=Tryz.isAgg3,z3:=Tryz.sizeOf3,v3:=Tryz.zeroValue3,t4:=Tryz.underlying4,a4:=Tryz.isAgg4,z4:=Tryz.sizeOf4,v4:=Tryz.zeroValue4,t5:=Tryz.underlying5,a5:=Tryz.isAgg5,z5:=Tryz.sizeOf5,v5:=Tryz.zeroValue5,t9:=Tryz.underlying9,a9:=Tryz.isAgg9,z9:=Tryz.sizeOf9,v9:=Tryz.zeroValue9,t22:=Tryz.underlying51,a22:=Tryz.isAgg51,z22:=Tryz.sizeOf51,v22:=Tryz.zeroValue51,t25:=Tryz.underlying183,a25:=Tryz.isAgg183,z25:=Tryz.sizeOf183,v25:=Tryz.zeroValue183,t39:=Tryz.underlying204,a39:=Tryz.isAgg204,z39:=Tryz.sizeOf204,v39:=Tryz.zeroValue204,t45:=Tryz.underlying249,a45:=Tryz.isAgg249,z45:=Tryz.sizeOf249,v45:=Tryz.zeroValue249,t46:=Tryz.underlying250,a46:=Tryz.isAgg250,z46:=Tryz.sizeOf250,v46:=Tryz.zeroValue250,t50:=Tryz.underlying166,a50:=Tryz.isAgg166,z50:=Tryz.sizeOf166,v50:=Tryz.zeroValue166,t53:=Tryz.underlying256,a53:=Tryz.isAgg256,z53:=Tryz.sizeOf256,v53:=Tryz.zeroValue256,t55:=Tryz.underlying258,a55:=Tryz.isAgg258,z55:=Tryz.sizeOf258,v55:=Tryz.zeroValue258,t66:=Tryz.underlying292,a66:=Tryz.isAgg292,z66:=Tryz.sizeOf292,v66:=Tryz.zeroValue292,t70:=Tryz.underlying296,a70:=Tryz.isAgg296,z70:=Tryz.sizeOf296,v70:=Tryz.zeroValue296,t76:=Tryz.underlying313,a76:=Tryz.isAgg313,z76:=Tryz.sizeOf313,v76:=Tryz.zeroValue313,t77:=Tryz.underlying314,a77:=Tryz.isAgg314,z77:=Tryz.sizeOf314,v77:=Tryz.zeroValue314 }
def aggG(w:World):(Go.isAgg (zGn.t 24)).run Tryz.prog w=.ok true w:=Tryz.isAgg70 w
def sizeG(w:World):(Go.sizeOf (zGn.t 24)).run Tryz.prog w=.ok 8 w:=Tryz.sizeOf70 w
def zGm:Go.Shelf.Ren:=⟨λ|6=>128|15=>123|14=>176|28=>170|29=>171|20=>227|21=>228|22=>229|23=>230|24=>231|25=>232|26=>233|27=>234|46=>259|47=>222|48=>223|49=>260|50=>261|57=>269|n=>n,λ|22=>37|24=>85|25=>211|3=>3|39=>204|0=>0|53=>256|55=>258|4=>4|46=>250|45=>249|50=>166|5=>5|9=>9|66=>292|70=>296|76=>313|77=>314|n=>n,λ|n=>n⟩
def layE:Go.Proofs.SlLaysF0.n6 Tryz.prog zGm:={ mixed:=by kernel_rfl,f6:=⟨Tryz.f128.name,by decide,Tryz.func128.trans bJ⟩,f14:=⟨Tryz.f176.name,by decide,Tryz.func176.trans bJ⟩,f15:=Tryz.func123.trans bJ,f20:=⟨Tryz.f227.name,by decide,Tryz.func227.trans bJ⟩,f21:=⟨Tryz.f228.name,by decide,Tryz.func228.trans bJ⟩,f22:=⟨Tryz.f229.name,by decide,Tryz.func229.trans bJ⟩,f23:=⟨Tryz.f230.name,by decide,Tryz.func230.trans bJ⟩,f24:=⟨Tryz.f231.name,by decide,Tryz.func231.trans bJ⟩,f25:=⟨Tryz.f232.name,by decide,Tryz.func232.trans bJ⟩,f26:=⟨Tryz.f233.name,by decide,Tryz.func233.trans bJ⟩,f27:=⟨Tryz.f234.name,by decide,Tryz.func234.trans bJ⟩,f28:=Tryz.func170.trans bJ,f29:=Tryz.func171.trans bJ,f46:=⟨Tryz.f259.name,by decide,Tryz.func259.trans bJ⟩,f47:=Tryz.func222.trans bJ,f48:=Tryz.func223.trans bJ,f49:=⟨Tryz.f260.name,by decide,Tryz.func260.trans bJ⟩,f50:=⟨Tryz.f261.name,by decide,Tryz.func261.trans bJ⟩,f57:=⟨Tryz.f269.name,by decide,Tryz.func269.trans bJ⟩,t0:=Tryz.underlying0,a0:=Tryz.isAgg0,z0:=Tryz.sizeOf0,v0:=Tryz.zeroValue0,t3:=Tryz.underlying3,a3:=Tryz.isAgg3,z3:=Tryz.sizeOf3,v3:=Tryz.zeroValue3,t4:=Tryz.underlying4,a4:=Tryz.isAgg4,z4:=Tryz.sizeOf4,v4:=Tryz.zeroValue4,t5:=Tryz.underlying5,a5:=Tryz.isAgg5,z5:=Tryz.sizeOf5,v5:=Tryz.zeroValue5,t9:=Tryz.underlying9,a9:=Tryz.isAgg9,z9:=Tryz.sizeOf9,v9:=Tryz.zeroValue9,t22:=Tryz.underlying37,a22:=Tryz.isAgg37,z22:=Tryz.sizeOf37,v22:=Tryz.zeroValue37,t25:=Tryz.underlying211,a25:=Tryz.isAgg211,z25:=Tryz.sizeOf211,v25:=Tryz.zeroValue211,t39:=Tryz.underlying204,a39:=Tryz.isAgg204,z39:=Tryz.sizeOf204,v39:=Tryz.zeroValue204,t45:=Tryz.underlying249,a45:=Tryz.isAgg249,z45:=Tryz.sizeOf249,v45:=Tryz.zeroValue249,t46:=Tryz.underlying250,a46:=Tryz.isAgg250,z46:=Tryz.sizeOf250,v46:=Tryz.zeroValue250,t50:=Tryz.underlying166,a50:=Tryz.isAgg166,z50:=Tryz.sizeOf166,v50:=Tryz.zeroValue166,t53:=Tryz.underlying256,a53:=Tryz.isAgg256,z53:=Tryz.sizeOf256,v53:=Tryz.zeroValue256,t55:=Tryz.underlying258,a55:=Tryz.isAgg258,z55:=Tryz.sizeOf258,v55:=Tryz.zeroValue258,t66:=Tryz.underlying292,a66:=Tryz.isAgg292,z66:=Tryz.sizeOf292,v66:=Tryz.zeroValue292,t70:=Tryz.underlying296,a70:=Tryz.isAgg296,z70:=Tryz.sizeOf296,v70:=Tryz.zeroValue296,t76:=Tryz.underlying313,a76:=Tryz.isAgg313,z76:=Tryz.sizeOf313,v76:=Tryz.zeroValue313,t77:=Tryz.underlying314,a77:=Tryz.isAgg314,z77:=Tryz.sizeOf314,v77:=Tryz.zeroValue314 }
def aggE(w:World):(Go.isAgg (zGm.t 24)).run Tryz.prog w=.ok true w:=Tryz.isAgg85 w
def sizeE(w:World):(Go.sizeOf (zGm.t 24)).run Tryz.prog w=.ok 9 w:=Tryz.sizeOf85 w
def zGl:Go.Shelf.Ren:=⟨λ|6=>69|15=>123|14=>122|28=>170|29=>171|20=>162|21=>163|22=>164|23=>165|24=>166|25=>167|26=>168|27=>169|46=>221|47=>222|48=>223|49=>224|50=>225|57=>257|n=>n,λ|22=>39|24=>62|25=>141|3=>3|39=>204|0=>0|53=>256|55=>258|4=>4|46=>250|45=>249|50=>166|5=>5|9=>9|66=>292|70=>296|76=>313|77=>314|n=>n,λ|n=>n⟩
def layA:Go.Proofs.SlLaysF0.n6 Tryz.prog zGl:={ mixed:=by kernel_rfl,f6:=⟨Tryz.f69.name,by decide,Tryz.func69.trans bJ⟩,f14:=⟨Tryz.f122.name,by decide,Tryz.func122.trans bJ⟩,f15:=Tryz.func123.trans bJ,f20:=⟨Tryz.f162.name,by decide,Tryz.func162.trans bJ⟩,f21:=⟨Tryz.f163.name,by decide,Tryz.func163.trans bJ⟩,f22:=⟨Tryz.f164.name,by decide,Tryz.func164.trans bJ⟩,f23:=⟨Tryz.f165.name,by decide,Tryz.func165.trans bJ⟩,f24:=⟨Tryz.f166.name,by decide,Tryz.func166.trans bJ⟩,f25:=⟨Tryz.f167.name,by decide,Tryz.func167.trans bJ⟩,f26:=⟨Tryz.f168.name,by decide,Tryz.func168.trans bJ⟩,f27:=⟨Tryz.f169.name,by decide,Tryz.func169.trans bJ⟩,f28:=Tryz.func170.trans bJ,f29:=Tryz.func171.trans bJ,f46:=⟨Tryz.f221.name,by decide,Tryz.func221.trans bJ⟩,f47:=Tryz.func222.trans bJ,f48:=Tryz.func223.trans bJ,f49:=⟨Tryz.f224.name,by decide,Tryz.func224.trans bJ⟩,f50:=⟨Tryz.f225.name,by decide,Tryz.func225.trans bJ⟩,f57:=⟨Tryz.f257.name,by decide,Tryz.func257.trans bJ⟩,t0:=Tryz.underlying0,a0:=Tryz.isAgg0,z0:=Tryz.sizeOf0,v0:=Tryz.zeroValue0,t3:=Tryz.underlying3,a3:=Tryz.isAgg3,z3:=Tryz.sizeOf3,v3:=Tryz.zeroValue3,t4:=Tryz.underlying4,a4:=Tryz.isAgg4,z4:=Tryz.sizeOf4,v4:=Tryz.zeroValue4,t5:=Tryz.underlying5,a5:=Tryz.isAgg5,z5:=Tryz.sizeOf5,v5:=Tryz.zeroValue5,t9:=Tryz.underlying9,a9:=Tryz.isAgg9,z9:=Tryz.sizeOf9,v9:=Tryz.zeroValue9,t22:=Tryz.underlying39,a22:=Tryz.isAgg39,z22:=Tryz.sizeOf39,v22:=Tryz.zeroValue39,t25:=Tryz.underlying141,a25:=Tryz.isAgg141,z25:=Tryz.sizeOf141,v25:=Tryz.zeroValue141,t39:=Tryz.underlying204,a39:=Tryz.isAgg204,z39:=Tryz.sizeOf204,v39:=Tryz.zeroValue204,t45:=Tryz.underlying249,a45:=Tryz.isAgg249,z45:=Tryz.sizeOf249,v45:=Tryz.zeroValue249,t46:=Tryz.underlying250,a46:=Tryz.isAgg250,z46:=Tryz.sizeOf250,v46:=Tryz.zeroValue250,t50:=Tryz.underlying166,a50:=Tryz.isAgg166,z50:=Tryz.sizeOf166,v50:=Tryz.zeroValue166,t53:=Tryz.underlying256,a53:=Tryz.isAgg256,z53:=Tryz.sizeOf256,v53:=Tryz.zeroValue256,t55:=Tryz.underlying258,a55:=Tryz.isAgg258,z55:=Tryz.sizeOf258,v55:=Tryz.zeroValue258,t66:=Tryz.underlying292,a66:=Tryz.isAgg292,z66:=Tryz.sizeOf292,v66:=Tryz.zeroValue292,t70:=Tryz.underlying296,a70:=Tryz.isAgg296,z70:=Tryz.sizeOf296,v70:=Tryz.zeroValue296,t76:=Tryz.underlying313,a76:=Tryz.isAgg313,z76:=Tryz.sizeOf313,v76:=Tryz.zeroValue313,t77:=Tryz.underlying314,a77:=Tryz.isAgg314,z77:=Tryz.sizeOf314,v77:=Tryz.zeroValue314 }
def aggA(w:World):(Go.isAgg (zGl.t 24)).run Tryz.prog w=.ok true w:=Tryz.isAgg62 w
def sizeA(w:World):(Go.sizeOf (zGl.t 24)).run Tryz.prog w=.ok 6 w:=Tryz.sizeOf62 w
def layK_ren:Go.Shelf.Ren:=⟨λ|7=>74|10=>126|n=>n,λ|23=>68|26=>3|3=>4|28=>121|0=>0|27=>120|33=>98|4=>4|n=>n,λ|n=>n⟩
def layK:Go.Proofs.SlLaysZI.n7 Tryz.prog layK_ren:={ mixed:=by kernel_rfl,f7:=⟨Tryz.f74.name,by decide,Tryz.func74.trans bJ⟩,f10:=⟨Tryz.f126.name,by decide,Tryz.func126.trans bJ⟩,t0:=Tryz.underlying0,a0:=Tryz.isAgg0,z0:=Tryz.sizeOf0,v0:=Tryz.zeroValue0,t4:=Tryz.underlying4,a4:=Tryz.isAgg4,z4:=Tryz.sizeOf4,v4:=Tryz.zeroValue4,t23:=Tryz.underlying68,a23:=Tryz.isAgg68,z23:=Tryz.sizeOf68,v23:=Tryz.zeroValue68,t26:=Tryz.underlying3,a26:=Tryz.isAgg3,z26:=Tryz.sizeOf3,v26:=Tryz.zeroValue3,t27:=Tryz.underlying120,a27:=Tryz.isAgg120,z27:=Tryz.sizeOf120,v27:=Tryz.zeroValue120,t28:=Tryz.underlying121,a28:=Tryz.isAgg121,z28:=Tryz.sizeOf121,v28:=Tryz.zeroValue121,t33:=Tryz.underlying98,a33:=Tryz.isAgg98,z33:=Tryz.sizeOf98,v33:=Tryz.zeroValue98 }
def layL_ren:Go.Shelf.Ren:=⟨λ|7=>59|10=>102|n=>n,λ|23=>114|26=>3|3=>3|28=>121|0=>0|27=>120|33=>98|4=>4|n=>n,λ|n=>n⟩
def layL:Go.Proofs.SlLaysZI.n7 Tryz.prog layL_ren:={ mixed:=by kernel_rfl,f7:=⟨Tryz.f59.name,by decide,Tryz.func59.trans bJ⟩,f10:=⟨Tryz.f102.name,by decide,Tryz.func102.trans bJ⟩,t0:=Tryz.underlying0,a0:=Tryz.isAgg0,z0:=Tryz.sizeOf0,v0:=Tryz.zeroValue0,t4:=Tryz.underlying4,a4:=Tryz.isAgg4,z4:=Tryz.sizeOf4,v4:=Tryz.zeroValue4,t23:=Tryz.underlying114,a23:=Tryz.isAgg114,z23:=Tryz.sizeOf114,v23:=Tryz.zeroValue114,t26:=Tryz.underlying3,a26:=Tryz.isAgg3,z26:=Tryz.sizeOf3,v26:=Tryz.zeroValue3,t27:=Tryz.underlying120,a27:=Tryz.isAgg120,z27:=Tryz.sizeOf120,v27:=Tryz.zeroValue120,t28:=Tryz.underlying121,a28:=Tryz.isAgg121,z28:=Tryz.sizeOf121,v28:=Tryz.zeroValue121,t33:=Tryz.underlying98,a33:=Tryz.isAgg98,z33:=Tryz.sizeOf98,v33:=Tryz.zeroValue98 }
def layS_ren:Go.Shelf.Ren:=⟨λ|6=>58|8=>100|9=>101|11=>149|13=>123|12=>150|23=>170|24=>171|14=>201|15=>202|16=>203|17=>204|18=>205|19=>206|20=>207|21=>208|22=>209|25=>250|26=>222|27=>223|28=>251|29=>252|30=>172|31=>265|n=>n,λ|26=>3|28=>121|24=>22|0=>0|3=>3|37=>204|48=>256|50=>258|4=>4|40=>250|39=>249|45=>166|5=>5|9=>9|51=>292|55=>296|57=>313|58=>314|33=>98|n=>n,λ|n=>n⟩
def layS:Go.Proofs.SlLaysZI.n6 Tryz.prog layS_ren:={ mixed:=by kernel_rfl,f6:=⟨Tryz.f58.name,by decide,Tryz.func58.trans bJ⟩,f8:=⟨Tryz.f100.name,by decide,Tryz.func100.trans bJ⟩,f11:=⟨Tryz.f149.name,by decide,Tryz.func149.trans bJ⟩,t0:=Tryz.underlying0,a0:=Tryz.isAgg0,z0:=Tryz.sizeOf0,v0:=Tryz.zeroValue0,t24:=Tryz.underlying22,a24:=Tryz.isAgg22,z24:=Tryz.sizeOf22,v24:=Tryz.zeroValue22,t26:=Tryz.underlying3,a26:=Tryz.isAgg3,z26:=Tryz.sizeOf3,v26:=Tryz.zeroValue3,t28:=Tryz.underlying121,a28:=Tryz.isAgg121,z28:=Tryz.sizeOf121,v28:=Tryz.zeroValue121,i26:=by kernel_rfl }
def layI_ren:Go.Shelf.Ren:=⟨λ|5=>101|8=>123|7=>150|19=>170|20=>171|10=>201|11=>202|12=>203|13=>204|14=>205|15=>206|16=>207|17=>208|18=>209|30=>250|31=>222|32=>223|33=>251|34=>252|35=>172|40=>265|n=>n,λ|23=>22|25=>3|3=>3|32=>204|22=>22|0=>0|44=>256|46=>258|4=>4|36=>250|35=>249|41=>166|5=>5|9=>9|53=>292|57=>296|63=>313|64=>314|n=>n,λ|n=>n⟩
def layI:Go.Proofs.SlLaysM.n5 Tryz.prog layI_ren:={ mixed:=by kernel_rfl,f5:=⟨Tryz.f101.name,by decide,Tryz.func101.trans bJ⟩,f7:=⟨Tryz.f150.name,by decide,Tryz.func150.trans bJ⟩,f8:=Tryz.func123.trans bJ,f10:=⟨Tryz.f201.name,by decide,Tryz.func201.trans bJ⟩,f11:=⟨Tryz.f202.name,by decide,Tryz.func202.trans bJ⟩,f12:=⟨Tryz.f203.name,by decide,Tryz.func203.trans bJ⟩,f13:=⟨Tryz.f204.name,by decide,Tryz.func204.trans bJ⟩,f14:=⟨Tryz.f205.name,by decide,Tryz.func205.trans bJ⟩,f15:=⟨Tryz.f206.name,by decide,Tryz.func206.trans bJ⟩,f16:=⟨Tryz.f207.name,by decide,Tryz.func207.trans bJ⟩,f17:=⟨Tryz.f208.name,by decide,Tryz.func208.trans bJ⟩,f18:=⟨Tryz.f209.name,by decide,Tryz.func209.trans bJ⟩,f19:=Tryz.func170.trans bJ,f20:=Tryz.func171.trans bJ,f30:=⟨Tryz.f250.name,by decide,Tryz.func250.trans bJ⟩,f31:=Tryz.func222.trans bJ,f32:=Tryz.func223.trans bJ,f33:=⟨Tryz.f251.name,by decide,Tryz.func251.trans bJ⟩,f34:=⟨Tryz.f252.name,by decide,Tryz.func252.trans bJ⟩,f35:=⟨Tryz.f172.name,by decide,Tryz.func172.trans bJ⟩,f40:=⟨Tryz.f265.name,by decide,Tryz.func265.trans bJ⟩,t0:=Tryz.underlying0,a0:=Tryz.isAgg0,z0:=Tryz.sizeOf0,v0:=Tryz.zeroValue0,t3:=Tryz.underlying3,a3:=Tryz.isAgg3,z3:=Tryz.sizeOf3,v3:=Tryz.zeroValue3,t4:=Tryz.underlying4,a4:=Tryz.isAgg4,z4:=Tryz.sizeOf4,v4:=Tryz.zeroValue4,t5:=Tryz.underlying5,a5:=Tryz.isAgg5,z5:=Tryz.sizeOf5,v5:=Tryz.zeroValue5,t9:=Tryz.underlying9,a9:=Tryz.isAgg9,z9:=Tryz.sizeOf9,v9:=Tryz.zeroValue9,t22:=Tryz.underlying22,a22:=Tryz.isAgg22,z22:=Tryz.sizeOf22,v22:=Tryz.zeroValue22,t23:=Tryz.underlying22,a23:=Tryz.isAgg22,z23:=Tryz.sizeOf22,v23:=Tryz.zeroValue22,t25:=Tryz.underlying3,a25:=Tryz.isAgg3,z25:=Tryz.sizeOf3,v25:=Tryz.zeroValue3,t32:=Tryz.underlying204,a32:=Tryz.isAgg204,z32:=Tryz.sizeOf204,v32:=Tryz.zeroValue204,t35:=Tryz.underlying249,a35:=Tryz.isAgg249,z35:=Tryz.sizeOf249,v35:=Tryz.zeroValue249,t36:=Tryz.underlying250,a36:=Tryz.isAgg250,z36:=Tryz.sizeOf250,v36:=Tryz.zeroValue250,t41:=Tryz.underlying166,a41:=Tryz.isAgg166,z41:=Tryz.sizeOf166,v41:=Tryz.zeroValue166,t44:=Tryz.underlying256,a44:=Tryz.isAgg256,z44:=Tryz.sizeOf256,v44:=Tryz.zeroValue256,t46:=Tryz.underlying258,a46:=Tryz.isAgg258,z46:=Tryz.sizeOf258,v46:=Tryz.zeroValue258,t53:=Tryz.underlying292,a53:=Tryz.isAgg292,z53:=Tryz.sizeOf292,v53:=Tryz.zeroValue292,t57:=Tryz.underlying296,a57:=Tryz.isAgg296,z57:=Tryz.sizeOf296,v57:=Tryz.zeroValue296,t63:=Tryz.underlying313,a63:=Tryz.isAgg313,z63:=Tryz.sizeOf313,v63:=Tryz.zeroValue313,t64:=Tryz.underlying314,a64:=Tryz.isAgg314,z64:=Tryz.sizeOf314,v64:=Tryz.zeroValue314 }
end
section
variable{α:Type}{lt:α->α->Bool}
def zGi(x:α):∀l:List α,List.Perm (ins lt x l) (x::l)
 |[]=>zgz _
 |y::r=>by
   unfold ins;split
   .exact zgz _
   .exact((zGi x r).cons y).trans (List.Perm.swap x y r)
def zg7:∀l:List α,List.Perm (isort lt l) l
 |[]=>zgz _
 |x::r=>(zGi x (isort lt r)).trans ((zg7 r).cons x)
def zHX(ht:∀a b c,lt b a=false->lt c b=false->lt c a=false)(ha:∀a b,lt a b=true->lt b a=false)(x:α):∀l:List α,l.Pairwise (λa b=>lt b a=false)->(ins lt x l).Pairwise (λa b=>lt b a=false)
 |[],_=>by simp[ins]
 |y::r,h=>by
   unfold ins;split
   . rename_i hxy;refine zcQ.2 ⟨λz hz=>?_,h⟩;rcases za9.1 hz with rfl|hz
     .exact ha _ _ hxy
     .exact ht _ _ _ (ha _ _ hxy) ((zcQ.1 h).1 z hz)
   . rename_i hxy;obtain⟨h1,h2⟩:=zcQ.1 h;refine zcQ.2 ⟨λz hz=>?_,zHX ht ha x r h2⟩;rcases za9.1 ((zGi x r).mem_iff.1 hz)with rfl|hz
     .simpa using hxy
     .exact h1 z hz
def zpV(ht:∀a b c,lt b a=false->lt c b=false->lt c a=false)(ha:∀a b,lt a b=true->lt b a=false):∀l:List α,(isort lt l).Pairwise (λa b=>lt b a=false)
 |[]=>List.Pairwise.nil
 |x::r=>zHX ht ha x _ (zpV ht ha r)
def zlZ:∀{l1 l2:List α},List.Perm l1 l2->l1.Pairwise (λa b=>lt b a=false)->l2.Pairwise (λa b=>lt b a=false)->(∀a∈l1,∀b∈l1,lt a b=false->lt b a=false->a=b)->l1=l2
 |[],l2,hp,_,_,_=>(List.nil_perm.1 hp).symm
 |x::r,l2,hp,h1,h2,ha=>by
   cases l2 with
   |nil=>simp_all
   |cons y s =>
     obtain⟨h3,h4⟩:=zcQ.1 h1;obtain⟨h5,h6⟩:=zcQ.1 h2
     have hxy:x=y:=by
      have m1:y∈x::r:=hp.mem_iff.2 (by simp);have m2:x∈y::s:=hp.mem_iff.1 (by simp);rcases za9.1 m1 with e|m1
      .exact e.symm
      rcases za9.1 m2 with e|m2
      .exact e
      exact ha x (by simp) y (by simp[m1]) (h5 x m2) (h3 y m1)
     subst hxy;rw[zlZ ((List.perm_cons x).1 hp) h4 h6 (λa ha' b hb=>ha a (by simp[ha']) b (by simp[hb]))]
end
def zk5{a b:zbf}(h:lessS a b=true):lessS b a=false:=by
 rcases zyK a b with q|q
 .rw[h]at q;cases q
 .exact q
def zGo{a b:zbf}(h1:lessS a b=false)(h2:lessS b a=false):a=b:=by
 unfold lessS at h1 h2;obtain⟨t,s,q⟩:=a;obtain⟨t',s',q'⟩:=b
 grind
def zwB(s:zbf):cw 78 [.agg (zcc s)] []=some (zat (stampB s)):=by
 refine zK1 ?_;unfold stampB;simp only[zV]
 repeat' split
 all_goals first
  |(rw[decide_eq_false (by omega)];rfl)
  |(rw[show decide ((0<=s.n/\s.n<=1000000)/\(0<=s.b/\s.b<=99)/\(0<=s.B/\s.B<=9999))=decide (s.B<=9999)from decide_eq_decide.2 (by omega)];rfl)
def zBp(n:Int):cw 258 [I n] []=some (zat (!decide (0<=n/\n<=1152921504606846976))):=by
 refine zzs ?_;rw[zfy];split
 .rw[show decide (0<=n/\n<=1152921504606846976)=false from decide_eq_false (by omega)];rfl
 . rw[show(!decide (0<=n/\n<=1152921504606846976))=decide (1152921504606846976<n)by grind]
   rfl
def c_idx_v(l:aC)(hl:l.length<=1000000):cw 235 [.sl 1 (List.map zah l),.fn 258 []] []=some (zbv (match fnd (λn=>!decide (0<=n/\n<=1152921504606846976)) 0 l with|some (i,_)=>(i:Int)|none=>-1)):=by
 refine ztM ?_;refine ziS l (λn=>!decide (0<=n/\n<=1152921504606846976)) (λi=>zhb l i) (λo=>zbv (match o with|some (i,_)=>(i:Int)|none=>-1)) ?_ ?_ ?_
 .exact zi3 (by simp(disch:=omega)only[zH];rfl)
 .intro i hi h;refine zi3 ?_;simp(disch:=omega)only[zF,zb6,zaa hi,zBp,zas];rw[h,zaO];rfl
 .intro i hi y h hk;refine zi3 ?_;simp(disch:=omega)only[zF,zb6,zaa hi,zBp,zas];rw[h,zay,w6Q];exact hk
def zLO(l:aC)(hl:l.length<=1000000):cw 180 [.sl 1 (List.map zah l),.fn 258 []] []=some (zat (l.any λn=>!decide (0<=n/\n<=1152921504606846976))):=by
 refine zsn ?_;rw[c_idx_v l hl,za7,<-fnd_any]
 cases fnd (λn=>!decide (0<=n/\n<=1152921504606846976)) 0 l with
 |none=>rfl
 |some q=>simp;rfl
def zMN{α:Type}(p:α->Bool)(l:List α):(!l.any λn=>!p n)=l.all p:=by grind
def zMW(e:zad)(hp:e.A.length<=1000000):cw 226 [.agg (zab e)] []=some (zat (decide (1<=e.a.b/\(0<=e.x/\e.x<=23)/\(-1<=e.s/\e.s<=40)/\e.q=0)&&decide (e.A.length<=12)&&e.A.all (λn=>decide (0<=n/\n<=1152921504606846976)))):=by
 refine zB1 ?_;rw[zLO _ hp,zas,zMN,zac];simp only[zV,bne_iff_ne,ne_eq];by_cases hl:12<e.A.length
 . rw[if_pos (show(12:Int)<(e.A.length:Int)by omega),show decide (e.A.length<=12)=false from decide_eq_false (by omega),zeq,zcU]
   repeat' split
   all_goals rfl
 . rw[if_neg (show¬(12:Int)<(e.A.length:Int)by omega),show decide (e.A.length<=12)=true from decide_eq_true (by omega),zhX]
   repeat' split
   all_goals first
    |(rw[decide_eq_false (by omega),zcU];rfl)
    |(rw[decide_eq_true (by omega),zcy];rfl)
def c_Valid(e:zad)(hp:e.A.length<=1000000):cw 173 [.agg (zab e)] []=some (zat (eventB e)):=by
 refine zHC ?_;rw[zwB,zas,zMW e hp,zas,zac];unfold eventB
 cases hs:stampB e.a with
 |false=>simp only[zW,zcU];rfl
 |true =>
 simp only[zQ,zO,zL,zcy,zeB];by_cases h1:0<=e.h/\e.h<=319999
 case neg =>
  rw[decide_eq_false h1,zcU,zcU,zcU];by_cases h2:e.h<0
  .rw[if_pos h2];rfl
  .rw[if_neg h2,if_pos (show 319999<e.h by omega)];rfl
 rw[if_neg (show¬e.h<0 by omega),if_neg (show¬319999<e.h by omega),decide_eq_true h1,zcy];by_cases k0:e.r=0
 .rw[if_pos k0];have:decide ((e.r=0/\1<=e.a.b/\(0<=e.x/\e.x<=23)/\(-1<=e.s/\e.s<=40)/\e.q=0)\/(e.r=1/\e.a.b=0/\e.h=0/\e.x=0/\e.s=0/\(1<=e.q/\e.q<=99)/\e.A.length=0)\/(e.r=2/\e.a.b=0/\e.s=0/\e.q=0/\(-1<=e.x/\e.x<=23)/\e.A.length=0))=decide (1<=e.a.b/\(0<=e.x/\e.x<=23)/\(-1<=e.s/\e.s<=40)/\e.q=0):=decide_eq_decide.2 (by omega);rw[this];generalize decide (1<=e.a.b/\(0<=e.x/\e.x<=23)/\(-1<=e.s/\e.s<=40)/\e.q=0)=x;generalize decide (e.A.length<=12)=y;generalize (e.A.all λn=>decide (0<=n/\n<=1152921504606846976))=z;cases x<;>cases y<;>cases z<;>rfl
 rw[if_neg k0];by_cases hl:e.A.length=0
 . have hnil:e.A=[]:=zcV hl;rw[hnil];simp only[zcN,List.all_nil,zhX,and_true];rw[show decide ((0:Nat)<=12)=true from rfl,zcy]
   repeat' split
   all_goals first
    |(rw[decide_eq_false (by omega)];rfl)
    |(rw[decide_eq_true (by omega)];rfl)
 . have:decide ((e.r=0/\1<=e.a.b/\(0<=e.x/\e.x<=23)/\(-1<=e.s/\e.s<=40)/\e.q=0) \/
    (e.r=1/\e.a.b=0/\e.h=0/\e.x=0/\e.s=0/\(1<=e.q/\e.q<=99)/\e.A.length=0)\/(e.r=2/\e.a.b=0/\e.s=0/\e.q=0/\(-1<=e.x/\e.x<=23)/\e.A.length=0))=false:=decide_eq_false (by omega)
   rw[this,zeq,show((e.A.length:Int)==0)=false by simp_all]
   repeat' split
   all_goals rfl
def c_Same(a b:zad)(hl:a.A.length<=1000000):cw 175 [.agg (zab a),.agg (zab b)] []=some (zat (decide (a=b))):=by
 refine zIX ?_;rw[c_Equal _ _ hl,zas,zHs];obtain⟨⟨t,s,q⟩,k,sc,pa,v,m,pg⟩:=a;obtain⟨⟨t',s',q'⟩,k',sc',pa',v',m',pg'⟩:=b;simp only[zY,zeB,and_true,zad.mk.injEq,zbf.mk.injEq]
 repeat' split
 all_goals first
  |(rw[decide_eq_false (by simp_all)];rfl)
  |(rename_i h1 h2 h3 h4 h5 h6
    rw[show decide ((t=t'/\s=s'/\q=q')/\k=k'/\sc=sc'/\pa=pa'/\v=v'/\m=m'/\pg=pg')=decide (pg=pg')from decide_eq_decide.2 (by simp_all)]
    rfl)
def c_clone(e:zad)(hl:e.A.length<=1000000):cw 103 [.agg (zab e)] []=some (zmD e):=by refine zHD ?_;rw[c_CloneI ci_ok _ hl,zgU,cPQ,zaz (by omega)];rfl
def zKw[Dr](a b:zad):cw 129 [.agg (zab a),.agg (zab b)] []=some (zbv (cmpS a.a b.a)):=by refine zzr ?_;rw[zzi,za7];rfl
def zsS{l:aA}{m:zga}{i:Nat}{e:zad}(hm:∀p∈m,0<=p.2.first/\p.2.first<(i:Int)):∀p∈zgY l m i e,0<=p.2.first/\p.2.first<((i+1:Nat):Int):=by
 intro p hp;have up:p∈m->0<=p.2.first/\p.2.first<((i+1:Nat):Int):=λh=>by have:=hm p h;omega
 unfold zgY at hp;split at hp
 . split at hp
   . rcases zmX hp with rfl|h
     .simp;omega
     .exact up h
   . rename_i g hg;have:=hm _ (zjc hg);rcases zmX hp with rfl|h
     .grind
     .exact up h
 .exact up hp
def zNd(l:aA)(hl:l.length<=1000000)(hp:∀e∈l,e.A.length<=1000000):∀(n i:Nat) (m:zga),i+n=l.length->(∀p∈m,0<=p.2.first/\p.2.first<(i:Int))->zgv l (mY m) i=some (zht (zfw l (l.drop i) i m,l)):=by
 intro n
 induction n with
 |zero=>intro i m hi hm;refine zuV ?_;rw[zac,zaH (by omega),zcr (by omega)];rfl
 |succ n ih =>
   intro i m hi hm;have hlt:i<l.length:=by omega
   have hpe:=hp _ (zau hlt)
   have IH:∀m':zga,zgY l m i l[i]=m'->zgv l (mY m') ((i+1:Nat):Int)=some (zht (zfw l (l.drop i) i m,l)):=by intro m' hm';rw[zbe hlt];unfold zfw;rw[hm'];refine ih (i+1) m' (by omega) ?_;rw[<-hm'];exact zsS hm
   refine zuV ?_;rw[zaB (by simp;omega),cPQ,zar (by simp;omega),zaR,zaf,zcB,zaa hlt,zae,c_Valid _ hpe,zas,w6Q,show((i:Int)+1)=((i+1:Nat):Int)by omega];unfold zgY at IH
   cases hv:eventB l[i]with
   |false=>simp_all
   |true =>
     rw[zaG,zay,zux (y:=zmE (l[i].a.b,l[i].a.B)) rfl,zq6];rw[show(AV.agg (zgV.enc (l[i].a.b,l[i].a.B)))=.agg (zcd (l[i].a.b,l[i].a.B))from rfl,zpm];rw[hv]at IH;simp only[if_true]at IH
     cases hf:mfind (l[i].a.b,l[i].a.B) m with
     |none=>rw[hf]at IH;simp only[zW,zeJ,ziD];rw[zf9];exact IH _ rfl
     |some g =>
       rw[hf]at IH;have hg:=hm _ (zjc hf);simp only at hg;have hgl:g.first.toNat<l.length:=by omega
       simp only[zO,zdd,zbO];rw[zar hg.1,zar (by simp;omega),zaR,zcB,zaa hgl,zae,c_Same _ _ (hp _ (zau hgl)),zas];by_cases he:l[g.first.toNat]=l[i]
       . rw[decide_eq_true he,zaG,zay,zf9]
         simp_all
       . rw[decide_eq_false he,zbj,zaO,zf9]
         simp_all
def c_groups(l:aA)(hl:l.length<=1000000)(hp:∀e∈l,e.A.length<=1000000):cw 127 [.row 1000 9 0 (mA l).length] [(1000,gB (mA l))]=some (zht (zdu l,l)):=by refine zF6 ?_;have:=zNd l hl hp l.length 0 [] (by omega) (by simp);rw[zhF]at this;exact this
def zK4(l:aA)(hl:l.length<=1000000)(hp:∀e∈l,e.A.length<=1000000):∀(n i:Nat) (m:zga),i+n=l.length->(∀p∈m,0<=p.2.first/\p.2.first<(i:Int))->zfT l (mY m) i=some (zgy (zfw l (l.drop i) i m)):=by
 intro n
 induction n with
 |zero=>intro i m hi hm;refine zs9 ?_;rw[zac,zaH (by omega),zcr (by omega)];rfl
 |succ n ih =>
   intro i m hi hm;have hlt:i<l.length:=by omega
   have hpe:=hp _ (zau hlt)
   have IH:∀m':zga,zgY l m i l[i]=m'->zfT l (mY m') ((i+1:Nat):Int)=some (zgy (zfw l (l.drop i) i m)):=by intro m' hm';rw[zbe hlt];unfold zfw;rw[hm'];refine ih (i+1) m' (by omega) ?_;rw[<-hm'];exact zsS hm
   refine zs9 ?_;rw[zaB (by simp;omega),cPQ,zaf,zcB,zaa hlt,zae,c_Valid _ hpe,zas,w6Q,show((i:Int)+1)=((i+1:Nat):Int)by omega];unfold zgY at IH
   cases hv:eventB l[i]with
   |false=>simp_all
   |true =>
     rw[zaG,zay,zux (y:=zmE (l[i].a.b,l[i].a.B)) rfl,zq6];rw[show(AV.agg (zgV.enc (l[i].a.b,l[i].a.B)))=.agg (zcd (l[i].a.b,l[i].a.B))from rfl,zpm];rw[hv]at IH;simp only[if_true]at IH
     cases hf:mfind (l[i].a.b,l[i].a.B) m with
     |none=>rw[hf]at IH;simp only[zW,zeJ,ziD];rw[zf9];exact IH _ rfl
     |some g =>
       rw[hf]at IH;have hg:=hm _ (zjc hf);simp only at hg;have hgl:g.first.toNat<l.length:=by omega
       simp only[zO,zdd,zbO];rw[zar hg.1,zcB,zaa hgl,zae,c_Same _ _ (hp _ (zau hgl)),zas];by_cases he:l[g.first.toNat]=l[i]
       . rw[decide_eq_true he,zaG,zay,zf9]
         simp_all
       . rw[decide_eq_false he,zbj,zaO,zf9]
         simp_all
def c_groups_d(l:aA)(hl:l.length<=1000000)(hp:∀e∈l,e.A.length<=1000000):cw 127 [.sl 9 (mA l)] []=some (zgy (zdu l)):=by refine zC5 ?_;have:=zK4 l hl hp l.length 0 [] (by omega) (by simp);rw[zhF]at this;exact this
def zwT{l:aA}:∀{r:aA} {i:Nat} {m:zga},(∀p∈m,0<=p.2.first/\p.2.first<(i:Int))->∀p∈zfw l r i m,0<=p.2.first/\p.2.first<((i+r.length:Nat):Int)
 |[],i,m,h,p,hp=>by simpa using h p hp
 |e::r,i,m,h,p,hp=>by
   have:=zwT (zsS h) p hp
   grind
def zDk(l:aA):∀p∈zdu l,0<=p.2.first/\p.2.first<(l.length:Int):=λp hp=>by have:=zwT (l:=l) (r:=l) (i:=0) (m:=[]) (by simp) p hp;simpa using this
def zt1{κ ν:Type}[DecidableEq κ]{k:κ}{v:ν}:∀{l:List (κ×ν)},(mput k v l).length<=l.length+1
 |[]=>by simp[mput]
 |p::r=>by
   unfold mput;split
   .simp
   . have:=zt1 (k:=k) (v:=v) (l:=r)
     simp_all
def zK3{l:aA}{m:zga}{i:Nat}{e:zad}:(zgY l m i e).length<=m.length+1:=by
 unfold zgY;split
 . split
   .exact zt1
   .exact zt1
 .omega
def zzw{l:aA}:∀{r:aA} {i:Nat} {m:zga},(zfw l r i m).length<=m.length+r.length
 |[],i,m=>by simp[zfw]
 |e::r,i,m=>by
   have h1:=zzw (l:=l) (r:=r) (i:=i+1) (m:=zgY l m i e);have h2:=zK3 (l:=l) (m:=m) (i:=i) (e:=e);unfold zfw
   grind
def zHV(l:aA):(zdu l).length<=l.length:=by have:=zzw (l:=l) (r:=l) (i:=0) (m:=[]);rw[zcN,zaR]at this;exact this
def znL{κ ν:Type}[DecidableEq κ]{k:κ}{v:ν}{l:List (κ×ν)}(h:(l.map (·.1)).Nodup):((mput k v l).map (·.1)).Nodup/\∀x,x∈(mput k v l).map (·.1)->x=k\/x∈l.map (·.1):=by
 induction l with
 |nil=>simp[mput]
 |cons p r ih =>
   obtain⟨h1,h2⟩:=zhj.1 h;unfold mput
   grind
def Keyed(l:aA)(m:zga):Prop:=(m.map (·.1)).Nodup/\∀p∈m,∃e,l[p.2.first.toNat]?=some e/\(e.a.b,e.a.B)=p.1/\eventB e=true
def zHU{l:aA}{m:zga}{i:Nat}{e:zad}(h:Keyed l m)(he:l[i]?=some e):Keyed l (zgY l m i e):=by
 unfold zgY;split
 . rename_i hv;split
   . refine⟨(znL h.1).1,λp hp=>?_⟩;rcases zmX hp with rfl|hp
     .simp_all
     .exact h.2 p hp
   . rename_i g hg;refine⟨(znL h.1).1,λp hp=>?_⟩;rcases zmX hp with rfl|hp
     . obtain⟨e',h1,h2,h3⟩:=h.2 _ (zjc hg)
       simp_all
     .exact h.2 p hp
 .exact h
def zwU{l:aA}:∀{r:aA} {i:Nat} {m:zga},Keyed l m->l.drop i=r->Keyed l (zfw l r i m)
 |[],i,m,h,_=>h
 |e::r,i,m,h,hd=>by
   unfold zfw
   have he:l[i]?=some e:=by have:=congrArg (·[0]?) hd;simpa using this
   refine zwU (zHU h he) ?_;have:=congrArg (List.drop 1) hd;simpa[List.drop_drop]using this
def zsT(l:aA):Keyed l (zdu l):=zwU ⟨by simp,by simp⟩ (by simp)
def zBt{l:aA}{m:zga}(h:Keyed l m):(m.filterMap (pickG l)).Pairwise (λa b=>(a.a.b,a.a.B)≠(b.a.b,b.a.B))/\∀e∈m.filterMap (pickG l),eventB e=true/\e∈l:=by
 constructor
 . rw[List.pairwise_filterMap];have hn:=h.1;rw[List.Nodup,zdW]at hn;refine zhd ?_ hn;intro a b ha hb hab x hx y hy;obtain⟨e,h1,h2,_⟩:=h.2 a ha;obtain⟨f,h3,h4,_⟩:=h.2 b hb
   have e1:x=e:=by
    unfold pickG at hx;split at hx
    .cases hx
    .simp_all
   have e2:y=f:=by
    unfold pickG at hy;split at hy
    .cases hy
    .simp_all
   simp_all
 . intro x hx;obtain⟨p,hp,hpx⟩:=zdN.1 hx;obtain⟨e,h1,_,h3⟩:=h.2 p hp;unfold pickG at hpx
   grind
def keep_mem{l:aA}{e:zad}(h:e∈keepS l):eventB e=true/\e∈l:=(zBt (zsT l)).2 e h
def zGj(l:aA):(keepS l).Pairwise (λa b=>(a.a.b,a.a.B)≠(b.a.b,b.a.B)):=(zBt (zsT l)).1
def zDt{α:Type}{f:α->Int×Int}{l:List α}(h:l.Pairwise (λa b=>f a≠f b)){a b:α}(ha:a∈l)(hb:b∈l)(e:f a=f b):a=b:=by
 induction l with
 |nil=>cases ha
 |cons x r ih =>
   obtain⟨h1,h2⟩:=zcQ.1 h
   grind
def keep_inj{l:aA}{a b:zad}(ha:a∈keepS l)(hb:b∈keepS l)(e:a.a=b.a):a=b:=zDt (f:=λx=>(x.a.b,x.a.B)) (zGj l) ha hb (by simp only[e])
def zCU(l:aA):(canonS l).Pairwise (λa b=>lessS b.a a.a=false):=
 zpV (lt:=λa b:zad=>lessS a.a b.a) (λ_ _ _ h1 h2=>zmV h1 h2) (λ_ _ h=>zk5 h) _
def zid(l:aA):List.Perm (canonS l) (keepS l):=zg7 _
def canon_of{l r:aA}(hp:List.Perm r (keepS l))(hs:r.Pairwise (λa b=>lessS b.a a.a=false)):r=canonS l:=
 zlZ (lt:=λa b:zad=>lessS a.a b.a) (hp.trans (zid l).symm) hs (zCU l) (λ_ ha _ hb h1 h2=>keep_inj (hp.mem_iff.1 ha) (hp.mem_iff.1 hb) (zGo h1 h2))
def swoE:Go.Sort.SWO (λa b:zad=>lessS a.a b.a) where
 irrefl:=λx=>by rcases zyK x.a x.a with h|h<;>exact h
 trans:=λx y z h1 h2=>by
  cases h:lessS x.a z.a with
  |true=>rfl
  |false =>
    have h3:=zmV (zk5 h2) h
    simp_all
 ntrans:=λx y z h1 h2=>zmV h2 h1
theorem cmpE[Dr](x y:zad):∃v:Int,cw 129 [.agg (zab x),.agg (zab y)] []=some (.v (.int .i64 v),[])/\decide (v<0)=evLt x y:=⟨_,zKw x y,cmpS_neg _ _⟩
def sortE_ok:CallOK zP (single 128 zOrc):=
 zGv (C:=zC) (A:=zA) (ty:=85) (nT:=zab) (lt:=evLt) layE rfl (by kernel_rfl) aggE sizeE (by decide) (λ_=>rfl) (by kernel_rfl) swoE (@cmpE drOn) (λargs ms=>by unfold zOrc;simp(decide:=true) only [if_false,if_true])
def c_sortE(ev:aA)(h:ev.length<1000000):cw 128 [.row 1000 9 0 (mA ev).length,.fn 129 []] [bL ev]=some (zev (sortS evLt ev)):=by
 rw[zac];refine ziz sortE_ok ?_;have hz:∀args ms,zOrc 128 args ms=oSort 9 85 129 zab evLt args ms:=λargs ms=>by unfold zOrc;simp(decide:=true) only [if_false,if_true]
 exact(hz _ _).trans (zDq (λx y h=>za4.inj h) h)
def cnLegs(b:Bool){l:aA}(h:FewEv l):CnLegs b l where
 len:=h.1
 glen:=by have:=zHV l;have:=h.1;omega
 few:=by have:=h.2.1;omega
 cGroups:=by
  cases b with
  |true=>exact c_groups l (by have:=h.1;omega) h.2.2
  |false=>exact c_groups_d l (by have:=h.1;omega) h.2.2
 first:=zDk l
 cSort:=λev hp=>by have h1:=c_sortE ev (by have:=hp.length_eq;have:=h.2.1;omega);rw[show sortS evLt ev=canonS l from canon_of ((zv2 (lt:=evLt) swoE ev).trans hp) (zw4 (lt:=evLt) swoE ev)]at h1;exact h1
 perm:=zid l
 cClone:=λe he=>c_clone e (h.2.2 e (keep_mem ((zid l).mem_iff.1 he)).2)
def f0(b:Bool)(s:zam)(l:aA):tReg zbM zT 0 ⟨[(0,AV.agg [sE s.k,sH s.c,sG s.u,sP s.V,sK s.E,I s.H.x,I s.H.xi,I s.H.Z,I s.H.S]),(1,frA b 1001 l)],frM b 1001 l⟩=(some ⟨[(1,frA b 1001 l),(2,gQ 2 9),(4,gQ 4 2)],[(2,pI s),(4,bI)]++frM b 1001 l⟩):=by cases b<;>kernel_rfl
def f1(b:Bool)(s:zam)(l:aA):tReg zbM zT 1 ⟨[(1,frA b 1001 l),(2,gQ 2 9),(4,gQ 4 2)],[(2,pI s),(4,bI)]++frM b 1001 l⟩=(callD zaV (cw 53 [sS s] []) λ(r0:Int)=>some ⟨[(1,frA b 1001 l),(2,gQ 2 9),(4,gQ 4 2),(17,B (r0 !=0))],[(2,pI s),(4,bI)]++frM b 1001 l⟩):=by cases b<;>kernel_rfl
def f4(b:Bool)(s:zam)(l:aA)(ev:aA)(c:Int):tReg zbM zT 4 ⟨[(2,gQ 2 9),(4,gQ 4 2),(6,sC ev),(7,I c)],[(2,pI s),(4,bI)]++frM b 1001 l⟩=(some ⟨[(2,gQ 2 9),(4,gQ 4 2),(6,sC ev),(7,I c),(25,B (c !=0))],[(2,pI s),(4,bI)]++frM b 1001 l⟩):=by cases b<;>kernel_rfl
def f6(b:Bool)(s:zam)(l:aA)(ev:aA):tReg zbM zT 6 ⟨[(2,gQ 2 9),(4,gQ 4 2),(6,sC ev)],[(2,pI s),(4,bI)]++frM b 1001 l⟩=(callD zqD (cw 95 [sS s,sC ev] []) λ(r0:List (Option zaF)×List (za1×zbf))=>some ⟨[(4,gQ 4 2),(8,AV.fa 1 (mS r0.1)),(9,sF r0.2)],[(4,bI)]++frM b 1001 l⟩):=by cases b<;>kernel_rfl
def f7(b:Bool)(l:aA)(ds:ag)(R:aZ):tReg zbM zT 7 ⟨[(4,gQ 4 2),(8,AV.fa 1 (mS ds)),(9,sF R)],[(4,bI)]++frM b 1001 l⟩=(some ⟨[(4,gQ 4 2),(8,AV.fa 1 (mS ds)),(9,sF R),(10,gQ 10 2)],[(4,bI),(10,⟨2,54,[[AV.row 301 8 0 0,AV.row 302 12 0 0]],true⟩),(301,⟨8,70,[],false⟩),(302,⟨12,147,[],false⟩)]++frM b 1001 l⟩):=by cases b<;>kernel_rfl
def f8(b:Bool)(l:aA)(ds:ag)(R:aZ)(xs:aI)(ys:aI):tReg zbM zT 8 ⟨[(4,gQ 4 2),(8,AV.fa 1 (mS ds)),(9,sF R),(10,gQ 10 2)],[(4,bI),(10,⟨2,54,[[gR 301 8 xs,gR 302 12 ys]],true⟩),(301,gF xs),(302,gA ys)]++frM b 1001 l⟩=(some ⟨[(4,gQ 4 2),(9,sF R),(10,gQ 10 2),(34,AV.fa 1 (mS ds)),(35,I 0)],[(4,bI),(10,⟨2,54,[[gR 301 8 xs,gR 302 12 ys]],true⟩),(301,gF xs),(302,gA ys)]++frM b 1001 l⟩):=by cases b<;>kernel_rfl
def f9(b:Bool)(l:aA)(ds:ag)(R:aZ)(xs:aI)(ys:aI)(i:Int):tReg zbM zT 9 ⟨[(4,gQ 4 2),(9,sF R),(10,gQ 10 2),(34,AV.fa 1 (mS ds)),(35,I i)],[(4,bI),(10,⟨2,54,[[gR 301 8 xs,gR 302 12 ys]],true⟩),(301,gF xs),(302,gA ys)]++frM b 1001 l⟩=(some ⟨[(4,gQ 4 2),(9,sF R),(10,gQ 10 2),(34,AV.fa 1 (mS ds)),(35,I i),(36,B (decide (i<100)))],[(4,bI),(10,⟨2,54,[[gR 301 8 xs,gR 302 12 ys]],true⟩),(301,gF xs),(302,gA ys)]++frM b 1001 l⟩):=by cases b<;>kernel_rfl
def f10(b:Bool)(l:aA)(ds:ag)(R:aZ)(xs:aI)(ys:aI)(i:Int):tReg zbM zT 10 ⟨[(4,gQ 4 2),(9,sF R),(10,gQ 10 2),(34,AV.fa 1 (mS ds)),(35,I i)],[(4,bI),(10,⟨2,54,[[gR 301 8 xs,gR 302 12 ys]],true⟩),(301,gF xs),(302,gA ys)]++frM b 1001 l⟩=(chk ((0:Int)<=i)<|
 chk ((i:Int)<(↑100:Int))<|
 elemP zlU (mS ds) i.toNat (some ⟨[(4,gQ 4 2),(9,sF R),(10,gQ 10 2),(11,I i),(12,AV.v (.pointer none)),(34,AV.fa 1 (mS ds)),(35,I i)],[(4,bI),(10,⟨2,54,[[gR 301 8 xs,gR 302 12 ys]],true⟩),(301,gF xs),(302,gA ys)]++frM b 1001 l⟩)
 (λ(p0:Addr)=>some ⟨[(4,gQ 4 2),(9,sF R),(10,gQ 10 2),(11,I i),(12,AV.v (.pointer (some p0))),(34,AV.fa 1 (mS ds)),(35,I i)],[(4,bI),(10,⟨2,54,[[gR 301 8 xs,gR 302 12 ys]],true⟩),(301,gF xs),(302,gA ys)]++frM b 1001 l⟩)
 λ(c1:zaF) =>
 some ⟨[(4,gQ 4 2),(9,sF R),(10,gQ 10 2),(11,I i),(12,AV.fp [I c1.N,sJ c1.marks,I c1.period,I c1.l.n,I c1.l.b,I c1.l.B,sL c1.R,AV.sl 1 (List.map nBool c1.watch.J),B c1.watch.p,I c1.good.n,I c1.good.b,I c1.good.B,B c1.some,sI c1.d]),(34,AV.fa 1 (mS ds)),(35,I i)],[(4,bI),(10,⟨2,54,[[gR 301 8 xs,gR 302 12 ys]],true⟩),(301,gF xs),(302,gA ys)]++frM b 1001 l⟩):=by cases b<;>kernel_rfl
def f11n(b:Bool)(l:aA)(ds:ag)(R:aZ)(xs:aI)(ys:aI)(i:Int):tReg zbM zT 11 ⟨[(4,gQ 4 2),(9,sF R),(10,gQ 10 2),(11,I i),(12,AV.v (.pointer none)),(34,AV.fa 1 (mS ds)),(35,I i)],[(4,bI),(10,⟨2,54,[[gR 301 8 xs,gR 302 12 ys]],true⟩),(301,gF xs),(302,gA ys)]++frM b 1001 l⟩=(some ⟨[(4,gQ 4 2),(9,sF R),(10,gQ 10 2),(11,I i),(12,AV.v (.pointer none)),(34,AV.fa 1 (mS ds)),(35,I i),(42,B true)],[(4,bI),(10,⟨2,54,[[gR 301 8 xs,gR 302 12 ys]],true⟩),(301,gF xs),(302,gA ys)]++frM b 1001 l⟩):=by cases b<;>kernel_rfl
def f11d(b:Bool)(l:aA)(ds:ag)(R:aZ)(xs:aI)(ys:aI)(i:Int)(d:zaF):tReg zbM zT 11 ⟨[(4,gQ 4 2),(9,sF R),(10,gQ 10 2),(11,I i),(12,AV.fp [I d.N,sJ d.marks,I d.period,I d.l.n,I d.l.b,I d.l.B,sL d.R,AV.sl 1 (List.map nBool d.watch.J),B d.watch.p,I d.good.n,I d.good.b,I d.good.B,B d.some,sI d.d]),(34,AV.fa 1 (mS ds)),(35,I i)],[(4,bI),(10,⟨2,54,[[gR 301 8 xs,gR 302 12 ys]],true⟩),(301,gF xs),(302,gA ys)]++frM b 1001 l⟩=(some ⟨[(4,gQ 4 2),(9,sF R),(10,gQ 10 2),(11,I i),(12,AV.fp [I d.N,sJ d.marks,I d.period,I d.l.n,I d.l.b,I d.l.B,sL d.R,AV.sl 1 (List.map nBool d.watch.J),B d.watch.p,I d.good.n,I d.good.b,I d.good.B,B d.some,sI d.d]),(34,AV.fa 1 (mS ds)),(35,I i),(42,B false)],[(4,bI),(10,⟨2,54,[[gR 301 8 xs,gR 302 12 ys]],true⟩),(301,gF xs),(302,gA ys)]++frM b 1001 l⟩):=by cases b<;>kernel_rfl
def f12(b:Bool)(l:aA)(ds:ag)(R:aZ)(xs:aI)(ys:aI)(i:Int)(d:zaF):tReg zbM zT 12 ⟨[(4,gQ 4 2),(9,sF R),(10,gQ 10 2),(11,I i),(12,AV.fp [I d.N,sJ d.marks,I d.period,I d.l.n,I d.l.b,I d.l.B,sL d.R,AV.sl 1 (List.map nBool d.watch.J),B d.watch.p,I d.good.n,I d.good.b,I d.good.B,B d.some,sI d.d]),(34,AV.fa 1 (mS ds)),(35,I i)],[(4,bI),(10,⟨2,54,[[gR 301 8 xs,gR 302 12 ys]],true⟩),(301,gF xs),(302,gA ys)]++frM b 1001 l⟩=(chk (ys.length=ys.length)<|
 chk ((ys.length+(mF d.d).length)*(88+1)<=1099511627776)<|
 some ⟨[(4,gQ 4 2),(9,sF R),(10,gQ 10 2),(11,I i),(12,AV.fp [I d.N,sJ d.marks,I d.period,I d.l.n,I d.l.b,I d.l.B,sL d.R,AV.sl 1 (List.map nBool d.watch.J),B d.watch.p,I d.good.n,I d.good.b,I d.good.B,B d.some,sI d.d]),(34,AV.fa 1 (mS ds)),(35,I i)],[(4,bI),(10,⟨2,54,[[gR 301 8 xs,gR 302 12 (ys++(mF d.d))]],true⟩),(301,gF xs),(302,⟨12,147,ys++(mF d.d),false⟩)]++frM b 1001 l⟩):=by cases b<;>kernel_rfl
def f13(b:Bool)(l:aA)(ds:ag)(R:aZ)(xs:aI)(ys:aI)(i:Int)(d:zaF):tSeg zbM zT 13 0 3 ⟨[(4,gQ 4 2),(9,sF R),(10,gQ 10 2),(11,I i),(12,AV.fp [I d.N,sJ d.marks,I d.period,I d.l.n,I d.l.b,I d.l.B,sL d.R,AV.sl 1 (List.map nBool d.watch.J),B d.watch.p,I d.good.n,I d.good.b,I d.good.B,B d.some,sI d.d]),(34,AV.fa 1 (mS ds)),(35,I i)],[(4,bI),(10,⟨2,54,[[gR 301 8 xs,gR 302 12 ys]],true⟩),(301,gF xs),(302,gA ys)]++frM b 1001 l⟩=(callD zjk (cw 96 [AV.fp [I d.N,sJ d.marks,I d.period,I d.l.n,I d.l.b,I d.l.B,sL d.R,AV.sl 1 (List.map nBool d.watch.J),B d.watch.p,I d.good.n,I d.good.b,I d.good.B,B d.some,sI d.d],sF R] []) λ(r0:(List (za1×zad)))=>some ⟨[(53,AV.map 53),(52,sF R),(51,AV.fp [I d.N,sJ d.marks,I d.period,I d.l.n,I d.l.b,I d.l.B,sL d.R,AV.sl 1 (List.map nBool d.watch.J),B d.watch.p,I d.good.n,I d.good.b,I d.good.B,B d.some,sI d.d]),(4,gQ 4 2),(9,sF R),(10,gQ 10 2),(11,I i),(12,AV.fp [I d.N,sJ d.marks,I d.period,I d.l.n,I d.l.b,I d.l.B,sL d.R,AV.sl 1 (List.map nBool d.watch.J),B d.watch.p,I d.good.n,I d.good.b,I d.good.B,B d.some,sI d.d]),(34,AV.fa 1 (mS ds)),(35,I i)],[(53,⟨0,178,sB r0,false⟩),(4,bI),(10,⟨2,54,[[gR 301 8 xs,gR 302 12 ys]],true⟩),(301,gF xs),(302,gA ys)]++frM b 1001 l⟩):=by cases b<;>kernel_rfl
def f15(b:Bool)(l:aA)(ds:ag)(R:aZ)(xs:aI)(ys:aI)(i:Int)(d:zaF)(p:Addr)(k:za1)(e:zad):tSeg zbM zT 15 1 3 ⟨[(4,gQ 4 2),(9,sF R),(10,gQ 10 2),(11,I i),(12,AV.fp [I d.N,sJ d.marks,I d.period,I d.l.n,I d.l.b,I d.l.B,sL d.R,AV.sl 1 (List.map nBool d.watch.J),B d.watch.p,I d.good.n,I d.good.b,I d.good.B,B d.some,sI d.d]),(34,AV.fa 1 (mS ds)),(35,I i),(54,AV.v (.pointer (some p))),(57,AV.tup [AV.agg [I k.script,I k.xc],AV.agg [I e.a.n,I e.a.b,I e.a.B,I e.r,I e.h,I e.x,I e.s,I e.q,AV.sl 1 (List.map zah e.A)]])],[(4,bI),(10,⟨2,54,[[gR 301 8 xs,gR 302 12 ys]],true⟩),(301,gF xs),(302,gA ys)]++frM b 1001 l⟩=(some ⟨[(14,gQ 14 9),(58,AV.agg [I e.a.n,I e.a.b,I e.a.B,I e.r,I e.h,I e.x,I e.s,I e.q,AV.sl 1 (List.map zah e.A)]),(4,gQ 4 2),(9,sF R),(10,gQ 10 2),(11,I i),(12,AV.fp [I d.N,sJ d.marks,I d.period,I d.l.n,I d.l.b,I d.l.B,sL d.R,AV.sl 1 (List.map nBool d.watch.J),B d.watch.p,I d.good.n,I d.good.b,I d.good.B,B d.some,sI d.d]),(34,AV.fa 1 (mS ds)),(35,I i),(54,AV.v (.pointer (some p))),(57,AV.tup [AV.agg [I k.script,I k.xc],AV.agg [I e.a.n,I e.a.b,I e.a.B,I e.r,I e.h,I e.x,I e.s,I e.q,AV.sl 1 (List.map zah e.A)]])],[(14,pM e),(4,bI),(10,⟨2,54,[[gR 301 8 xs,gR 302 12 ys]],true⟩),(301,gF xs),(302,gA ys)]++frM b 1001 l⟩):=by cases b<;>kernel_rfl
def f16(b:Bool)(l:aA)(ds:ag)(R:aZ)(xs:aI)(ys:aI)(i:Int)(d:zaF)(p:Addr)(e:zad):tReg zbM zT 16 ⟨[(4,gQ 4 2),(9,sF R),(10,gQ 10 2),(11,I i),(12,AV.fp [I d.N,sJ d.marks,I d.period,I d.l.n,I d.l.b,I d.l.B,sL d.R,AV.sl 1 (List.map nBool d.watch.J),B d.watch.p,I d.good.n,I d.good.b,I d.good.B,B d.some,sI d.d]),(14,gQ 14 9),(34,AV.fa 1 (mS ds)),(35,I i),(54,AV.v (.pointer (some p)))],[(4,bI),(10,⟨2,54,[[gR 301 8 xs,gR 302 12 ys]],true⟩),(14,pM e),(301,gF xs),(302,gA ys)]++frM b 1001 l⟩=(chk (xs.length=xs.length)<|
 chk ((xs.length+1)*(64+1)<=1099511627776)<|
 some ⟨[(4,gQ 4 2),(9,sF R),(10,gQ 10 2),(11,I i),(12,AV.fp [I d.N,sJ d.marks,I d.period,I d.l.n,I d.l.b,I d.l.B,sL d.R,AV.sl 1 (List.map nBool d.watch.J),B d.watch.p,I d.good.n,I d.good.b,I d.good.B,B d.some,sI d.d]),(34,AV.fa 1 (mS ds)),(35,I i),(54,AV.v (.pointer (some p)))],[(4,bI),(10,⟨2,54,[[gR 301 8 (xs++([[I e.h,I e.x,I i,I d.N,I e.s,I e.a.n,I e.a.b,I e.a.B]])),gR 302 12 ys]],true⟩),(301,⟨8,70,xs++([zaE (⟨e.h,e.x,i,d.N,e.s,⟨e.a.n,e.a.b,e.a.B⟩⟩)]),false⟩),(302,gA ys)]++frM b 1001 l⟩):=by cases b<;>kernel_rfl
def f17(b:Bool)(l:aA)(ds:ag)(R:aZ)(xs:aI)(ys:aI)(i:Int):tReg zbM zT 17 ⟨[(4,gQ 4 2),(9,sF R),(10,gQ 10 2),(34,AV.fa 1 (mS ds)),(35,I i)],[(4,bI),(10,⟨2,54,[[gR 301 8 xs,gR 302 12 ys]],true⟩),(301,gF xs),(302,gA ys)]++frM b 1001 l⟩=(some ⟨[(4,gQ 4 2),(9,sF R),(10,gQ 10 2),(34,AV.fa 1 (mS ds)),(35,I (w64 (i+1)))],[(4,bI),(10,⟨2,54,[[gR 301 8 xs,gR 302 12 ys]],true⟩),(301,gF xs),(302,gA ys)]++frM b 1001 l⟩):=by cases b<;>kernel_rfl
def f18(b:Bool)(l:aA)(gs:aL)(ys:aI):tReg zbM zT 18 ⟨[(4,gQ 4 2),(10,gQ 10 2)],[(4,bI),(10,⟨2,54,[[gR 301 8 (mC gs),gR 302 12 ys]],true⟩),(301,gF (mC gs)),(302,gA ys)]++frM b 1001 l⟩=(callD zfG (cw 97 [gR 1000 8 (mC gs),AV.fn 98 []] [(1000,gF (mC gs))]) λ(r0:(List za6))=>some ⟨[(4,gQ 4 2),(10,gQ 10 2)],[(4,bI),(10,⟨2,54,[[AV.row 301 8 0 ((mC gs).length),gR 302 12 ys]],true⟩),(301,gF (mC r0)),(302,gA ys)]++frM b 1001 l⟩):=by cases b<;>kernel_rfl
def f19(b:Bool)(l:aA)(xs:aI)(ys:aI):tReg zbM zT 19 ⟨[(4,gQ 4 2),(10,gQ 10 2)],[(4,bI),(10,⟨2,54,[[gR 301 8 xs,gR 302 12 ys]],true⟩),(301,gF xs),(302,gA ys)]++frM b 1001 l⟩=(some ⟨[(4,gQ 4 2),(5,I 0)],[(4,⟨2,54,[[gR 301 8 xs,gR 302 12 ys]],true⟩),(301,gF xs),(302,gA ys)]++frM b 1001 l⟩):=by cases b<;>kernel_rfl
def f3(s:zam)(l:aA):tReg zbM zT 3 ⟨[(1,gR 1001 9 (mA l)),(2,gQ 2 9),(4,gQ 4 2)],[(2,pI s),(4,bI),(1001,gB (mA l))]⟩=(callD zlQ (cw 75 [gR 1000 9 (mA l)] [(1000,gB (mA l))]) λ(r0:((List zad)×Int)×(List zad))=>some ⟨[(2,gQ 2 9),(4,gQ 4 2),(6,sC r0.1.1),(7,I r0.1.2)],[(2,pI s),(4,bI),(1001,gB (mA r0.2))]⟩):=by kernel_rfl
def f3f(s:zam)(l:aA):tReg zbM zT 3 ⟨[(1,sC l),(2,gQ 2 9),(4,gQ 4 2)],[(2,pI s),(4,bI)]⟩=(callD zeE (cw 75 [sC l] []) λ(r0:(List zad)×Int)=>some ⟨[(2,gQ 2 9),(4,gQ 4 2),(6,sC r0.1),(7,I r0.2)],[(2,pI s),(4,bI)]⟩):=by kernel_rfl
def foC:Code:=(zbM.fn.body).getD .skip
def foO(j:Nat):Array Oper:=opsAt j foC
def foD(j:Nat):Bool:=ztI j foC
def fo_hb:zbM.fn.body=some foC:=by kernel_rfl
def fo_shape:foC=(.seq (.region 0 (foO 0) (foD 0)) (.seq (.seq (.region 1 (foO 1) (foD 1)) (.cond (.tmp 17) (.seq (.region 2 (foO 2) (foD 2)) .ret) .skip)) (.seq (.region 3 (foO 3) (foD 3)) (.seq (.seq (.region 4 (foO 4) (foD 4)) (.cond (.tmp 25) (.seq (.region 5 (foO 5) (foD 5)) .ret) .skip)) (.seq (.region 6 (foO 6) (foD 6)) (.seq (.region 7 (foO 7) (foD 7)) (.seq (.seq (.region 8 (foO 8) (foD 8)) (.block 0 (.loop (.seq (.region 9 (foO 9) (foD 9)) (.seq (.cond (.tmp 36) .skip (.exit 0)) (.seq (.block 1 (.seq (.region 10 (foO 10) (foD 10)) (.seq (.seq (.region 11 (foO 11) (foD 11)) (.cond (.tmp 42) (.exit 1) .skip)) (.seq (.region 12 (foO 12) (foD 12)) (.seq (.region 13 (foO 13) false) (.block 2 (.loop (.seq (.region 14 (foO 14) false) (.seq (.cond (.tmp 56) .skip (.exit 2)) (.block 3 (.seq (.region 15 (foO 15) false) (.region 16 (foO 16) (foD 16))))))))))))) (.region 17 (foO 17) (foD 17)))))))) (.seq (.region 18 (foO 18) (foD 18)) (.seq (.region 19 (foO 19) (foD 19)) .ret))))))))):=by kernel_rfl
def fo_r13:regOf 13 foC=some (.region 13 (foO 13) false):=by kernel_rfl
def fo_r15:regOf 15 foC=some (.region 15 (foO 15) false):=by kernel_rfl
def fo_n:zbM.fn.ntmps<=1000:=by decide
def zec(ds:Desks)(R:Reop)(n:Nat):List za6:=(List.range n).flatMap λ(i:Nat)=>match ds i with
 |some d=>(countS d R).map λp=>zdQ i d p.2
 |none=>[]
def suspTo(ds:Desks)(n:Nat):List zcb:=(List.range n).flatMap λ(i:Nat)=>match ds i with
 |some d=>d.d
 |none=>[]
def zpT(ds:Desks)(R:Reop)(n:Nat):zec ds R (n+1)=zec ds R n++(match ds n with
 |some d=>(countS d R).map λp=>zdQ n d p.2
 |none=>[]):=by
 unfold zec;rw[zeI,zgg];simp
def zre(ds:Desks)(n:Nat):suspTo ds (n+1)=suspTo ds n++(match ds n with
 |some d=>d.d
 |none=>[]):=by
 unfold suspTo;rw[zeI,zgg];simp
def deskL_get(ds:Desks){i:Nat}(hi:i<100):(mS (deskL ds))[i]?=some (nDp (ds i)):=by
 unfold deskL
 simp_all
def gotOf(i:Nat)(d:zaF)(cs:Counts)(done:aF):List za6:=done.filterMap λj=>cs[j]?.map λp=>zdQ i d p.2
section
abbrev fA(b:Bool)(l:aA):Nat×AV:=(1,frA b 1001 l)
abbrev fB2(s:zam):Nat×Ent:=(2,pI s)
abbrev fB4:Nat×Ent:=(4,⟨2,54,[[.v (.slice none 0 0),.v (.slice none 0 0)]],true⟩)
abbrev fS2:Nat×AV:=(2,.loc 2 9 0 0)
abbrev fS4:Nat×AV:=(4,.loc 4 2 0 0)
abbrev fS10:Nat×AV:=(10,.loc 10 2 0 0)
abbrev fS9(R:Reop):Nat×AV:=(9,.mp (mL R))
abbrev fS34(ds:Desks):Nat×AV:=(34,.fa 1 (mS (deskL ds)))
abbrev fS35(i:Nat):Nat×AV:=(35,I (i:Int))
abbrev fS11(i:Nat):Nat×AV:=(11,I (i:Int))
abbrev fS12(d:zaF):Nat×AV:=(12,.fp (zgL d))
abbrev fS54(r:Nat):Nat×AV:=(54,.v (.pointer (some ⟨r,0,none⟩)))
abbrev fM(b:Bool)(gs:aL)(us:List zcb)(l:aA):Mem:=[fB4,(10,⟨2,54,[[.row 301 8 0 (mC gs).length,.row 302 12 0 (mF us).length]],true⟩),(301,gF (mC gs)),(302,gA (mF us))]++frM b 1001 l
abbrev stF(b:Bool)(l:aA)(ds:Desks)(R:Reop)(gs:aL)(us:List zcb)(i:Nat):St:=⟨[fS4,fS9 R,fS10,fS34 ds,fS35 i],fM b gs us l⟩
abbrev stG(b:Bool)(l:aA)(ds:Desks)(R:Reop)(gs:aL)(us:List zcb)(i:Nat)(d:zaF)(r:Nat):St:=⟨[fS4,fS9 R,fS10,fS11 i,fS12 d,fS34 ds,fS35 i,fS54 r],fM b gs us l⟩
structure FoLegs(b:Bool)(s:zam)(l:aA)(ds:Desks)(R:Reop):Prop where
 cCheck:cw 53 [.agg (zap s)] []=some (zbv 0)
 cCanon:cw 75 [frA b 1000 l] (frM b 1000 l)=some (bif b then zhV ((canonS l,0),l)else zdw (canonS l,0))
 cWalk:cw 95 [.agg (zap s),.sl 9 (mA (canonS l))] []=some (zny (deskL ds,R))
 cCount:∀i d,ds i=some d->cw 96 [.fp (zgL d),.mp (mL R)] []=some (zfI (countS d R))
 cSort:∀gs,List.Perm gs (zec ds R 100)->cw 97 [.row 1000 8 0 (mC gs).length,.fn 98 []] [(1000,gF (mC gs))]=some (zfF (isort zci (zec ds R 100)))
 few:(zec ds R 100).length<1000000
 fewS:(suspTo ds 100).length<1000000
def f3b(b:Bool)(s:zam)(l:aA){ev:aA}(h:cw 75 [frA b 1000 l] (frM b 1000 l)=some (bif b then zhV ((ev,0),l)else zdw (ev,0))):tReg zbM zT 3 ⟨[(1,frA b 1001 l),(2,gQ 2 9),(4,gQ 4 2)],[(2,pI s),(4,bI)]++frM b 1001 l⟩=some ⟨[(2,gQ 2 9),(4,gQ 4 2),(6,sC ev),(7,I 0)],[(2,pI s),(4,bI)]++frM b 1001 l⟩:=by
 cases b with
 |true=>have t:=f3 s l;rw[show cw 75 [gR 1000 9 (mA l)] [(1000,gB (mA l))]=some (zhV ((ev,0),l))from h,zxl]at t;exact t
 |false=>have t:=f3f s l;rw[show cw 75 [sC l] []=some (zdw (ev,0))from h,zhf]at t;exact t
section
variable{w0:World}{S0:aB}{κ0:Kap}{K:aB}{a:Act}{w:World}
abbrev Y0:Sat2:=λ_ _ _ _=>True
def foStep{j:Nat}{st st':St}{X:Sat2}(hX:Stable X)(ht:tReg zbM zT j st=some st')
  (h:NowP w0 S0 κ0 K zbM.fn.ntmps X st a w) {Q:aO} (hQ:∀a' w',NowP w0 S0 κ0 K zbM.fn.ntmps X st' a' w'->Q .normal a' w') (hr:regOf j foC=some (.region j (foO j) (foD j)):=by kernel_rfl):(Code.region j (foO j) (foD j)).wp zbM.P Q a w:=stepP hX fo_hb fo_n hr ht h hQ
def got_snoc(i:Nat)(d:zaF)(cs:Counts)(done:aF){j:Nat}{k:za1}{e:zad}(hj:cs[j]?=some (k,e)):gotOf i d cs (done++[j])=gotOf i d cs done++[zdQ i d e]:=by
 unfold gotOf
 simp_all
def got_perm(i:Nat)(d:zaF)(cs:Counts){done:aF}(hd:done.Nodup)(h1:∀i∈done,i<cs.length)(h2:∀i,i<cs.length->i∈done):List.Perm (gotOf i d cs done) (cs.map λp=>zdQ i d p.2):=by
 have hp:List.Perm done (List.range cs.length):=(zcE hd zkR).2 (λi=>⟨λh=>zfH.2 (h1 i h),λh=>h2 i (zfH.1 h)⟩);refine(hp.filterMap _).trans (.of_eq ?_)
 have e:(List.range cs.length).filterMap (λj=>cs[j]?.map λp=>zdQ i d p.2)=((List.range cs.length).filterMap (λj=>cs[j]?)).map λp=>zdQ i d p.2:=by grind
 rw[e,zuH]
def fo_range{b:Bool}{l:aA}{ds:Desks}{R:Reop}{gs:aL}{us:List zcb}{i:Nat}{d:zaF}(hc:cw 96 [.fp (zgL d),.mp (mL R)] []=some (zfI (countS d R)))(hfew:gs.length+(countS d R).length<1000000)
  (h:NowP w0 S0 κ0 K zbM.fn.ntmps Y0 ⟨[fS4,fS9 R,fS10,fS11 i,fS12 d,fS34 ds,fS35 i],fM b gs us l⟩ a w) {Q:aO}
  (hQ:∀xs a' w',List.Perm xs ((countS d R).map λp=>zdQ i d p.2)->NowP w0 S0 κ0 K zbM.fn.ntmps Y0 (stF b l ds R (gs++xs) us i) a' w'->Q .normal a' w'):(Code.seq (.region 13 (foO 13) false) (.block 2 (.loop (.seq (.region 14 (foO 14) false) (.seq (.cond (.tmp 56) .skip (.exit 2)) (.block 3 (.seq (.region 15 (foO 15) false) (.region 16 (foO 16) (foD 16))))))))).wp zbM.P Q a w:=by
 refine wp_seq (wp_region ?_);have z2:(foO 13).size=4:=by kernel_rfl
 rw[z2,show List.range 4=List.range' 0 3++[3]from rfl];have t2:=f13 b l (deskL ds) R (mC gs) (mF us) i d;unfold zgL at hc;rw[hc,zut]at t2;refine segP Stable.none fo_hb fo_n fo_r13 t2 (by rw[z2];decide) h (λa1 w1 h1=>?_);have h2:=h1.freeze Stable.none fo_n [53] (by cases b<;>kernel_rfl) (st':=⟨[(53,.mp (sB (countS d R))),(52,.mp (mL R)),(51,.fp (zgL d)),fS4,fS9 R,fS10,fS11 i,fS12 d,fS34 ds,fS35 i],fM b gs us l⟩) (by cases b<;>kernel_rfl);rw[wpOps_cons];refine zA0 (t:=178) (k:=181) (e:=85) (by unfold opIs;kernel_rfl) (by cases b<;>kernel_rfl) (by decide) h2 (m:=53) (d:=54) rfl (λa3 w3 r q en clock h3=>?_);have h4:=h3.trim Rng.stable [4,9,10,11,12,34,35,54] [] (st':=stG b l ds R gs us i d r) (by cases b<;>kernel_rfl);rw[show gs=gs++gotOf i d (countS d R) []by simp[gotOf]]at h4;refine zA2 (it:=54) (d1:=55) (d2:=56) (r:=r) (stf:=λdone=>stG b l ds R (gs++gotOf i d (countS d R) done) us i d r) [4,9,10,11,12,34,35,54] (by cases b<;>kernel_rfl) (by unfold opIs;kernel_rfl) (by unfold opIs;kernel_rfl) (by decide) (by decide) (λ_=>rfl) (λ_ _ _=>by cases b<;>kernel_rfl) ?_ h4 ?_
 . intro done j k v hd hl hjd hkv a w hn
   have hj:j<(countS d R).length:=by have:=(zao.1 hkv).1;simpa using this
   rw[zbx,zaa hj]at hkv
   have hlen:(gs++gotOf i d (countS d R) done).length<1000000:=by have h1:(gotOf i d (countS d R) done).length<=done.length:=zdB _ _;have h2:=zxP hd (n:=(countS d R).length) (λi hi=>by simpa using hl i hi);rw[zby];omega
   have hev:=got_snoc i d (countS d R) done (j:=j) (k:=(countS d R)[j].1) (e:=(countS d R)[j].2) (zaa hj);simp only[hev,<-zcp];generalize gs++gotOf i d (countS d R) done=xs at hn hlen ⊢;generalize hx:(countS d R)[j]=x at hkv ⊢;obtain⟨kk,e⟩:=x;simp only[zbk,zaj,zd8,zaD,and_true]at hkv;obtain⟨rfl,rfl⟩:=hkv;refine wp_block (wp_seq (wp_region ?_));have z4:(foO 15).size=4:=by kernel_rfl
   rw[z4,show List.range 4=0::(List.range' 1 3++[])from rfl,wpOps_cons];refine zAF (by unfold opIs;kernel_rfl) (by decide) hn (it:=54) (d:=57) rfl (by rw[zbx,zaa hj,hx];rfl) (λa1 w1 h1=>?_);have h2:=h1.trim Rng.stable [4,9,10,11,12,34,35,54,57] [] (st':=⟨[fS4,fS9 R,fS10,fS11 i,fS12 d,fS34 ds,fS35 i,fS54 r,(57,.tup [.agg (zcM kk),.agg (zab e)])],fM b xs us l⟩) (by cases b<;>kernel_rfl);refine segP Rng.stable fo_hb fo_n fo_r15 (f15 b l (deskL ds) R (mC xs) (mF us) i d _ kk e) (by rw[z4];decide) h2 (λa3 w3 h3=>?_);have h4:=h3.trim Rng.stable [4,9,10,11,12,14,34,35,54] [] (st':=⟨[fS4,fS9 R,fS10,fS11 i,fS12 d,(14,.loc 14 9 0 0),fS34 ds,fS35 i,fS54 r],[fB4,(10,⟨2,54,[[.row 301 8 0 (mC xs).length,.row 302 12 0 (mF us).length]],true⟩),(14,pM e),(301,gF (mC xs)),(302,gA (mF us))]++frM b 1001 l⟩) (by cases b<;>kernel_rfl);have t6:=f16 b l (deskL ds) R (mC xs) (mF us) i d ⟨r,0,none⟩ e;rw[zar rfl,zar (by grind)]at t6;refine foStep Rng.stable t6 h4 (λa7 w7 h7=>⟨rfl,?_⟩);have e1:mC (xs++[zdQ i d e])=mC xs++[zaE (zdQ i d e)]:=by simp
   unfold stG fM;rw[e1];exact h7
 .intro done hd hl hall a' w' hn;refine hQ _ a' w' (got_perm i d (countS d R) hd (λi hi=>by simpa using hl i hi) (λi hi=>hall i (by simpa using hi))) ?_;exact(hn.trim Rng.stable [4,9,10,34,35] [] (st':=stF b l ds R (gs++gotOf i d (countS d R) done) us i) (by cases b<;>kernel_rfl)).drop
def fo_loop{b:Bool}{s:zam}{l:aA}{ds:Desks}{R:Reop}(g:FoLegs b s l ds R)(h:NowP w0 S0 κ0 K zbM.fn.ntmps Y0 (stF b l ds R [] [] 0) a w){Q:aO}
  (hQ:∀gs a' w',List.Perm gs (zec ds R 100)->NowP w0 S0 κ0 K zbM.fn.ntmps Y0 (stF b l ds R gs (suspTo ds 100) 100) a' w'->Q .normal a' w'):(Code.wp zbM.P (.block 0 (.loop (.seq (.region 9 (foO 9) (foD 9)) (.seq (.cond (.tmp 36) .skip (.exit 0)) (.seq (.block 1 (.seq (.region 10 (foO 10) (foD 10)) (.seq (.seq (.region 11 (foO 11) (foD 11)) (.cond (.tmp 42) (.exit 1) .skip)) (.seq (.region 12 (foO 12) (foD 12)) (.seq (.region 13 (foO 13) false) (.block 2 (.loop (.seq (.region 14 (foO 14) false) (.seq (.cond (.tmp 56) .skip (.exit 2)) (.block 3 (.seq (.region 15 (foO 15) false) (.region 16 (foO 16) (foD 16))))))))))))) (.region 17 (foO 17) (foD 17))))))) Q a w):=by
 have mono:∀k,k<=100->(zec ds R k).length<=(zec ds R 100).length/\(suspTo ds k).length<=(suspTo ds 100).length:=λk hk=>by
  induction hn:100-k generalizing k with
  |zero=>grind
  |succ n ih=>have h1:=ih (k+1) (by omega) (by omega);rw[zpT,zre,zby,zby]at h1;omega
 have hfew:=g.few;have hfewS:=g.fewS;refine wp_block (wp_loop (λa w=>∃k gs,k<=100/\List.Perm gs (zec ds R k)/\NowP w0 S0 κ0 K zbM.fn.ntmps Y0 (stF b l ds R gs (suspTo ds k) k) a w) (λa _=>100-cnt a 35) ⟨0,[],zc4 _,zgz _,h⟩ ?_)
 rintro a w ⟨k,gs,hk,hp,hn⟩
 have hc0:cnt a 35=k:=by rw[hn.cnt (n:=(k:Int)) rfl];simp
 have hup:∀(a':Act) (w':World) (gs':aL),k<100->List.Perm gs' (zec ds R (k+1))->NowP w0 S0 κ0 K zbM.fn.ntmps Y0 (stF b l ds R gs' (suspTo ds (k+1)) k) a' w'->(Code.region 17 (foO 17) (foD 17)).wp zbM.P (Exit.then (λa' w'=>(∃k gs,k<=100/\List.Perm gs (zec ds R k)/\NowP w0 S0 κ0 K zbM.fn.ntmps Y0 (stF b l ds R gs (suspTo ds k) k) a' w')/\100-cnt a' 35<100-cnt a 35) (Exit.inBlock 0 Q)) a' w':=λa' w' gs' hk' hp' hn'=>by
  refine foStep Stable.none (f17 b l (deskL ds) R _ _ _) hn' (λa6 w6 h6=>?_);rw[w6Q]at h6;refine⟨⟨k+1,gs',hk',hp',by exact_mod_cast h6⟩,?_⟩;have:cnt a6 35=k+1:=by rw[h6.cnt (n:=(k:Int)+1) rfl];omega
  omega
 refine wp_seq (foStep Stable.none (f9 b l (deskL ds) R _ _ _) hn (λa2 w2 h2=>?_));refine wp_seq (wp_cond (h2.bool (b:=decide ((k:Int)<100)) rfl) ?_);by_cases hlt:k<100
 . rw[decide_eq_true (by omega),if_pos rfl];refine wp_skip ?_;have h3:=h2.trim Stable.none [4,9,10,34,35] [] (st':=stF b l ds R gs (suspTo ds k) k) (by cases b<;>kernel_rfl);have t:=f10 b l (deskL ds) R (mC gs) (mF (suspTo ds k)) k;have hget:=deskL_get ds hlt;rw[cPQ,zar (show((k:Int))<100 by omega)]at t;refine wp_seq (wp_block (wp_seq ?_))
   cases hd:ds k with
   |none =>
     rw[hd]at hget;rw[zDe (by simpa[nDp]using hget)]at t;refine foStep Stable.none t h3 (λa4 w4 h4=>?_);refine wp_seq (wp_seq (foStep Stable.none (f11n b l (deskL ds) R _ _ _) h4 (λa5 w5 h5=>?_)));refine wp_cond (h5.bool (b:=true) rfl) ?_;rw[if_pos rfl];refine wp_exit ?_;have h6:=h5.trim Stable.none [4,9,10,34,35] [] (st':=stF b l ds R gs (suspTo ds k) k) (by cases b<;>kernel_rfl);refine hup a5 w5 gs hlt ?_ ?_
     .rw[zpT,hd];simpa using hp
     .rw[zre,hd];simpa using h6
   |some d =>
     rw[hd]at hget;rw[elemP_dat (D:=zlU) (x:=d) (by simpa[nDp]using hget)]at t;refine foStep Stable.none t h3 (λa4 w4 h4=>?_);refine wp_seq (wp_seq (foStep Stable.none (f11d b l (deskL ds) R _ _ _ d) h4 (λa5 w5 h5=>?_)));refine wp_cond (h5.bool (b:=false) rfl) ?_;rw[iNs];refine wp_skip ?_;have h6:=h5.trim Stable.none [4,9,10,11,12,34,35] [] (st':=⟨[fS4,fS9 R,fS10,fS11 k,fS12 d,fS34 ds,fS35 k],fM b gs (suspTo ds k) l⟩) (by cases b<;>kernel_rfl);have hm:=mono (k+1) (by omega);rw[zpT,zre,hd,zby,zby]at hm;simp only[zac]at hm;have t12:=f12 b l (deskL ds) R (mC gs) (mF (suspTo ds k)) k d;rw[zar rfl,zar (by grind)]at t12;refine wp_seq (foStep Stable.none t12 h6 (λa7 w7 h7=>?_))
     have e1:mF (suspTo ds (k+1))=mF (suspTo ds k)++mF d.d:=by rw[zre,hd];simp
     have h8:NowP w0 S0 κ0 K zbM.fn.ntmps Y0 ⟨[fS4,fS9 R,fS10,fS11 k,fS12 d,fS34 ds,fS35 k],fM b gs (suspTo ds (k+1)) l⟩ a7 w7:=by unfold fM;rw[e1];exact h7
     have hgl:gs.length=(zec ds R k).length:=hp.length_eq;refine fo_range (g.cCount k d hd) (by omega) h8 (λxs a9 w9 hx h9=>?_);refine hup a9 w9 (gs++xs) hlt ?_ h9;rw[zpT,hd];exact hp.append hx
 . rw[decide_eq_false (by omega),iNs];have:k=100:=by omega
   subst this;exact wp_exit (hQ _ _ _ hp (h2.trim Stable.none [4,9,10,34,35] [] (by cases b<;>kernel_rfl)))
abbrev stZ(b:Bool)(l:aA)(ds:Desks)(R:Reop):St:=⟨[fS4,(5,I 0)],[(4,⟨2,54,[[.row 301 8 0 (mC (isort zci (zec ds R 100))).length,.row 302 12 0 (mF (suspTo ds 100)).length]],true⟩),(301,gF (mC (isort zci (zec ds R 100)))),(302,gA (mF (suspTo ds 100)))]++frM b 1001 l⟩
def fo_body{b:Bool}{s:zam}{l:aA}{ds:Desks}{R:Reop}(g:FoLegs b s l ds R)(hl:(isort zci (zec ds R 100)).length=(zec ds R 100).length)(h:NowP w0 S0 κ0 K zbM.fn.ntmps Y0 ⟨[(0,.agg (zap s)),fA b l],(frM b 1001 l)⟩ a w):foC.wp zbM.P (PostC w0 S0 κ0 K zbM.fn.ntmps .ret (stZ b l ds R)) a w:=by
 rw[fo_shape];refine wp_seq (foStep Stable.none (f0 b s l) h (λa1 w1 h1=>?_));have t1:=f1 b s l;rw[g.cCheck,za7]at t1;refine wp_seq (wp_seq (foStep Stable.none t1 h1 (λa2 w2 h2=>?_)));refine wp_cond (h2.bool (b:=false) rfl) ?_;rw[iNs];refine wp_skip ?_;have h3:=h2.trim Stable.none [1,2,4] [] (st':=⟨[fA b l,fS2,fS4],[fB2 s,fB4]++frM b 1001 l⟩) (by cases b<;>kernel_rfl);have t3:=f3b b s l g.cCanon;refine wp_seq (foStep Stable.none t3 h3 (λa4 w4 h4=>?_));refine wp_seq (wp_seq (foStep Stable.none (f4 b s l (canonS l) 0) h4 (λa5 w5 h5=>?_)));refine wp_cond (h5.bool (b:=false) rfl) ?_;rw[iNs];refine wp_skip ?_;have h6:=h5.trim Stable.none [2,4,6] [] (st':=⟨[fS2,fS4,(6,.sl 9 (mA (canonS l)))],[fB2 s,fB4]++frM b 1001 l⟩) (by cases b<;>kernel_rfl);have t6:=f6 b s l (canonS l);rw[g.cWalk,zCT]at t6;refine wp_seq (foStep Stable.none t6 h6 (λa7 w7 h7=>?_));refine wp_seq (foStep Stable.none (f7 b l (deskL ds) R) h7 (λa8 w8 h8=>?_));refine wp_seq (wp_seq (foStep Stable.none (f8 b l (deskL ds) R [] []) h8 (λa9 w9 h9=>?_)));refine fo_loop g h9 (λgs a10 w10 hp h10=>?_);have h11:=h10.trim Stable.none [4,10] [] (st':=⟨[fS4,fS10],fM b gs (suspTo ds 100) l⟩) (by cases b<;>kernel_rfl);have t18:=f18 b l gs (mF (suspTo ds 100));rw[show List.length (mC gs)=(mC gs).length from rfl,g.cSort gs hp,znF]at t18;refine wp_seq (foStep Stable.none t18 h11 (λa12 w12 h12=>?_))
 have hlen:(mC gs).length=(mC (isort zci (zec ds R 100))).length:=by rw[zac,zac,hp.length_eq,hl]
 rw[hlen]at h12;refine wp_seq (foStep Stable.none (f19 b l _ _) h12 (λa13 w13 h13=>?_));refine wp_ret ⟨rfl,?_⟩;obtain⟨S,κ,hg,_⟩:=h13;exact⟨S,κ,hg⟩
def zJt:enters zbM.P 55=true:=by kernel_rfl
def fo_calls{b:Bool}{s:zam}{l:aA}{ds:Desks}{R:Reop}(g:FoLegs b s l ds R)(hl:(isort zci (zec ds R 100)).length=(zec ds R 100).length)(w:World)(S:aB)(κ:Kap)(vals:aM)(hvl:vals.size=2)(hS:∀g,S g->g<w.heap.size)
  (hv:∀(k:Nat) (a:AV) (x:Value),[sS s,frA b 1001 l][k]?=some a->vals[k]?=some x->VRel S κ (Dm (frM b 1001 l)) w a x)
  (hms:∀d ent,Ab.look (frM b 1001 l) d=some ent->EntAt S κ (Dm (frM b 1001 l)) w (κ d) ent) (hinj:∀d d' g c c',Dm (frM b 1001 l) d->Dm (frM b 1001 l) d'->κ d=some (g,c)->κ d'=some (g,c')->d=d'):Calls zbM.P 55 vals w (Ab.Left S κ (frM b 1001 l) (frM b 1001 l) (.tup [.agg (zaT ⟨isort zci (zec ds R 100),suspTo ds 100⟩),I 0]) w):=by
 have hf:zbM.P.funcs[55]?=some zbM.fn:=by kernel_rfl
 refine zpB (args:=[sS s,frA b 1001 l]) (frz:=false) (ex:=.ret) (st:=stZ b l ds R) hf fo_hb (show 2<=zbM.fn.ntmps by decide) hvl hS hv hms hinj (λid=>by simp) (λa hg=>?_) ?_ ?_ ?_
 .obtain⟨S,κ,hg⟩:=hg;exact fo_body g hl ⟨S,κ,hg,trivial⟩
 .unfold stZ zaT;simp only;generalize hx:mC (isort zci (zec ds R 100))=xs;generalize hy:mF (suspTo ds 100)=ys;rw[show zjM zbM.P false zbM.fn ⟨[fS4,(5,I 0)],[(4,⟨2,54,[[.row 301 8 0 xs.length,.row 302 12 0 ys.length]],true⟩),(301,gF xs),(302,gA ys)]++frM b 1001 l⟩=outOf false ([(4,⟨2,54,[[.row 301 8 0 xs.length,.row 302 12 0 ys.length]],true⟩),(301,gF xs),(302,gA ys)]++frM b 1001 l) (.tup [.agg [.row 301 8 0 xs.length,.row 302 12 0 ys.length],I 0])from by cases b<;>kernel_rfl];simp[outOf,snap,mapO,Ab.look]<;>exact⟨hx.symm,hy.symm⟩
 .cases b<;>kernel_rfl
 .cases b<;>kernel_rfl
end
end
def markEv(s:zam)(i:Nat)(e:zad):Bool:=e.r==0&&e.a.b.toNat==i&&(fitS s e).isSome&&(seedS s e.h).isNone
def zud(ds:Desks)(i:Nat)(d:zaF):upd ds i d i=some d:=by simp[upd]
def zu1(ds:Desks){i j:Nat}(d:zaF)(h:j≠i):upd ds i d j=ds j:=by simp[upd,h]
def zNu(a:zbf)(d:zaF):(reinS a d).marks=d.marks:=by unfold reinS;split<;>rfl
def zNt(a:zbf)(d:zaF):(reinS a d).N=d.N:=by unfold reinS;split<;>rfl
def zqc(p:Int)(f:Bool)(g:zbf)(i:Nat)(m:zcq):(voidIf p f g i m).G=m.G:=by unfold voidIf;split<;>rfl
def zNz(id:Int)(a:zbf)(d:zaF):(suspS id a d).marks.map (·.G)=d.marks.map (·.G):=by
 unfold suspS;simp only;apply zc6;intro j;rw[zbx,zbx,zeH]
 cases d.marks[j]? with
 |none=>rfl
 |some m=>simp[zqc]
def zNj(s:zam)(p:zaQ)(sd:GSeed)(e:zad)(d:zaF):(noteS s p sd e d).marks.map (·.G)=d.marks.map (·.G):=by
 unfold noteS;split
 .rfl
 . simp only;split
   .rfl
   . split
     .rfl
     . split
       .rw[zNz]
       .split<;>rfl
def zNi(s:zam)(p:zaQ)(sd:GSeed)(e:zad)(d:zaF):(noteS s p sd e d).N=d.N:=by
 unfold noteS;split
 .rfl
 . simp only;split
   .rfl
   . split
     .rfl
     . split
       .rfl
       .split<;>rfl
def evS_desk(s:zam)(st:Desks×Reop)(e:zad)(i:Nat):(∀d,st.1 i=some d->∃d',(evS s st e).1 i=some d'/\d'.marks.map (·.G)=d.marks.map (·.G)++(if markEv s i e then[e]else[])/\d'.N=d.N)/\(st.1 i=none->(evS s st e).1 i=none):=by
 have same:(evS s st e).1 i=st.1 i->markEv s i e=false->(∀d,st.1 i=some d->∃d',(evS s st e).1 i=some d'/\d'.marks.map (·.G)=d.marks.map (·.G)++(if markEv s i e then[e]else[])/\d'.N=d.N)/\(st.1 i=none->(evS s st e).1 i=none):=λh1 h2=>⟨λd hd=>⟨d,by rw[h1,hd],by rw[h2];simp,rfl⟩,λhn=>by rw[h1,hn]⟩
 by_cases k1:e.r=1
 . have hm:markEv s i e=false:=by unfold markEv;simp[k1]
   cases hd:st.1 e.q.toNat with
   |none=>exact same (by unfold evS;simp_all) hm
   |some d =>
     have he:(evS s st e).1=upd st.1 e.q.toNat (reinS e.a d):=by unfold evS;rw[if_pos k1];simp only[hd]
     by_cases hi:i=e.q.toNat
     . subst hi;refine⟨λd' hd'=>⟨_,by rw[he,zud],?_,?_⟩,λhn=>by grind⟩
       .rw[hd]at hd';injection hd' with hd';subst hd';rw[hm,zNu];simp
       .rw[hd]at hd';injection hd' with hd';subst hd';exact zNt _ _
     .exact same (by rw[he,zu1 _ _ hi]) hm
 by_cases k2:e.r=2
 . have hm:markEv s i e=false:=by unfold markEv;simp[k2]
   exact same (by unfold evS;rw[if_neg k1,if_pos k2]) hm
 by_cases k0:e.r=0
 case neg =>
  have hm:markEv s i e=false:=by unfold markEv;simp[k0]
  exact same (by unfold evS;simp_all) hm
 cases hd:st.1 e.a.b.toNat with
 |none =>
   have he:(evS s st e).1=st.1:=by unfold evS;rw[if_neg k1,if_neg k2,if_pos k0];simp only[hd]
   refine⟨λd hd'=>⟨d,by rw[he,hd'],?_,rfl⟩,λhn=>by rw[he,hn]⟩
   have:markEv s i e=false:=by
    unfold markEv
    have:(e.a.b.toNat==i)=false:=by rw[beq_eq_false_iff_ne];intro h;rw[h]at hd;rw[hd]at hd';cases hd'
    simp[this]
   rw[this];simp
 |some d =>
   cases hf:fitS s e with
   |none =>
     have he:(evS s st e).1=st.1:=by unfold evS;rw[if_neg k1,if_neg k2,if_pos k0];simp only[hd,hf]
     exact same (by rw[he]) (by unfold markEv;simp[hf])
   |some q =>
     obtain⟨x,p,y,h1,h2,h3,h4,h5,h6,h7,h8⟩:=zr7 hf;have hp:s.u[q]?=some p:=(zfb h3).1
     cases hs:seedS s e.h with
     |some sd =>
       have he:(evS s st e).1=upd st.1 e.a.b.toNat (noteS s p sd e d):=by unfold evS;rw[if_neg k1,if_neg k2,if_pos k0];simp only[hd,hf,hs,hp]
       have hm:markEv s i e=false:=by unfold markEv;simp[hs]
       by_cases hi:i=e.a.b.toNat
       . subst hi;refine⟨λd' hd'=>⟨_,by rw[he,zud],?_,?_⟩,λhn=>by grind⟩
         .rw[hd]at hd';injection hd' with hd';subst hd';rw[hm,zNj];simp
         .rw[hd]at hd';injection hd' with hd';subst hd';exact zNi _ _ _ _ _
       .exact same (by rw[he,zu1 _ _ hi]) hm
     |none =>
       have he:(evS s st e).1=upd st.1 e.a.b.toNat { d with marks:=d.marks++[⟨e,d.watch.p⟩] }:=by unfold evS;rw[if_neg k1,if_neg k2,if_pos k0];simp only[hd,hf,hs]
       by_cases hi:i=e.a.b.toNat
       . subst hi;have hm:markEv s e.a.b.toNat e=true:=by unfold markEv;simp[k0,hf,hs]
         refine⟨λd' hd'=>⟨_,by rw[he,zud],?_,?_⟩,λhn=>by grind⟩
         .simp_all
         simp_all
       .exact same (by rw[he,zu1 _ _ hi]) (by unfold markEv;grind)
def zyd(s:zam):∀(ev:aA) (st:Desks×Reop) (i:Nat),(∀d,st.1 i=some d->∃d',(ev.foldl (evS s) st).1 i=some d'/\d'.marks.map (·.G)=d.marks.map (·.G)++ev.filter (markEv s i)/\d'.N=d.N)/\(st.1 i=none->(ev.foldl (evS s) st).1 i=none)
 |[],st,i=>⟨λd hd=>⟨d,hd,by simp,rfl⟩,λh=>h⟩
 |e::r,st,i=>by
   obtain⟨h1,h2⟩:=evS_desk s st e i;obtain⟨h3,h4⟩:=zyd s r (evS s st e) i
   grind
def zxR(ms:aN)(i:Nat):∀d,seats ms i=some d->∃m∈ms,m.ID.toNat=i/\d=desk0 m.I:=by
 have key:∀(ms:aN) (ds:Desks) d,(ms.foldl (λds m=>upd ds m.ID.toNat (desk0 m.I)) ds) i=some d->ds i=some d\/∃m∈ms,m.ID.toNat=i/\d=desk0 m.I:=by
  intro ms
  induction ms with
  |nil=>simp_all
  |cons m ms ih =>
    intro ds d h;rcases ih _ d h with h|⟨m',h1,h2⟩
    . replace h:upd ds m.ID.toNat (desk0 m.I) i=some d:=h;by_cases hi:i=m.ID.toNat
      . rw[hi,zud]at h
        simp_all
      .rw[zu1 _ _ hi]at h;exact .inl h
    grind
 intro d h;rcases key ms (λ_=>none) d h with h|h
 .cases h
 .exact h
def zv8{s:zam}{ev:aA}{i:Nat}{d:zaF}(h:(walkS s ev).1 i=some d):d.marks.map (·.G)=ev.filter (markEv s i):=by
 obtain⟨h1,h2⟩:=zyd s ev (seats s.k,[]) i
 cases hs:seats s.k i with
 |none=>rw[show(walkS s ev).1 i=none from h2 hs]at h;cases h
 |some d0=>obtain⟨d',e1,e2,_⟩:=h1 d0 hs;obtain⟨m,_,_,hd0⟩:=zxR _ _ _ hs;rw[show(walkS s ev).1 i=some d' from e1]at h;injection h with h;subst h;rw[e2,hd0];simp[desk0]
def filters_le{α:Type}(p:Nat->α->Bool)(hp:∀x i j,p i x=true->p j x=true->i=j):∀(n:Nat) (l:List α),((List.range n).map λi=>(l.filter (p i)).length).sum<=l.length:=by
 intro n l
 induction l with
 |nil =>
   simp only[zcX,zcN]
   induction n with
   |zero=>simp
   |succ n ih=>rw[zeI];simp only[zbS];rw[zhk];simp;omega
 |cons x r ih =>
   have:((List.range n).map λi=>((x::r).filter (p i)).length).sum<=((List.range n).map λi=>(r.filter (p i)).length).sum+1:=by
    have key:∀n,((List.range n).map λi=>((x::r).filter (p i)).length).sum=((List.range n).map λi=>(r.filter (p i)).length).sum+(if∃i,i<n/\p i x=true then 1 else 0):=by
     intro n
     induction n with
     |zero=>simp
     |succ n ihn =>
       rw[zeI];simp only[zbS];rw[zhk,zhk,ihn];simp only[zbX,zdH,List.sum_cons,List.sum_nil,zeT,zbU];by_cases hn:p n x=true
       . rw[if_pos hn,if_neg (λ⟨i,h1,h2⟩=>by grind),if_pos ⟨n,by omega,hn⟩]
         grind
       . rw[if_neg hn];by_cases h:∃i,i<n/\p i x=true
         .rw[if_pos h,if_pos (by grind)];omega
         grind
    rw[key n];split<;>omega
   grind
def zEP(d:zaF)(R:Reop):∀(l:List zcq) (m:Counts),(l.foldl (zhn d R) m).length<=m.length+l.length
 |[],m=>by simp
 |x::r,m=>by
   have h1:=zEP d R r (zhn d R m x)
   have h2:(zhn d R m x).length<=m.length+1:=by
    unfold zhn;split
    .omega
    . split
      .omega
      .exact zt1
   grind
def countS_len(d:zaF)(R:Reop):(countS d R).length<=d.marks.length:=by have:=zEP d R d.marks [];simpa[countS]using this
def sum_flat{α:Type}(f:Nat->List α):∀n,((List.range n).flatMap f).length=((List.range n).map λi=>(f i).length).sum:=by simp_all
def sum_le_sum{f g:Nat->Nat}(h:∀i,f i<=g i):∀n,((List.range n).map f).sum<=((List.range n).map g).sum:=by
 intro n
 induction n with
 |zero=>simp
 |succ n ih =>
   rw[zeI];simp only[zbS];rw[zhk,zhk]
   grind
def zyI(s:zam)(ev:aA)(R:Reop)(n:Nat):(zec (walkS s ev).1 R n).length<=ev.length:=by
 unfold zec;rw[sum_flat];refine zbY (sum_le_sum (g:=λi=>(ev.filter (markEv s i)).length) (λi=>?_) n) (filters_le (markEv s) (λx i j h1 h2=>?_) n ev)
 . cases hd:(walkS s ev).1 i with
   |none=>simp
   |some d =>
     simp only[zac];have h1:=countS_len d R;have h2:=congrArg List.length (zv8 hd)
     simp_all
 . unfold markEv at h1 h2
   simp_all
def KeyedC(m:Counts):Prop:=(m.map (·.1)).Nodup/\∀p∈m,p.1=⟨p.2.h,p.2.x⟩
def zwF(d:zaF)(R:Reop):KeyedC (countS d R):=by
 have key:∀(l:List zcq) (m:Counts),KeyedC m->KeyedC (l.foldl (zhn d R) m):=by
  intro l
  induction l with
  |nil=>intro m h;exact h
  |cons x r ih =>
    intro m h;refine ih _ ?_;unfold zhn;split
    .exact h
    . split
      .exact h
      . refine⟨(znL h.1).1,λp hp=>?_⟩;rcases zmX hp with rfl|hp
        .rfl
        .exact h.2 p hp
 exact key _ [] ⟨by simp,by simp⟩
def zxI{d:zaF}{R:Reop}:∀{l:List zcq} {m:Counts} {p:za1×zad},p∈l.foldl (zhn d R) m->p∈m\/∃x∈l,p.2=x.G/\x.xf=false/\¬(d.N<2/\reopB R x.G=true)
 |[],m,p,h=>.inl h
 |x::r,m,p,h=>by
   rcases zxI (l:=r) (m:=zhn d R m x) h with h|⟨y,h1,h2⟩
   . unfold zhn at h;split at h
     .exact .inl h
     . split at h
       .exact .inl h
       . rename_i hv hr;rcases zmX h with rfl|h
         .simp_all
         .exact .inl h
   grind
def countS_mem{d:zaF}{R:Reop}{p:za1×zad}(h:p∈countS d R):∃x∈d.marks,p.2=x.G/\x.xf=false/\¬(d.N<2/\reopB R x.G=true):=by
 rcases zxI h with h|h
 .cases h
 .exact h
def zq9{ds:Desks}{R:Reop}{n:Nat}{g:za6}:g∈zec ds R n↔∃i,i<n/\∃d,ds i=some d/\∃p∈countS d R,g=zdQ i d p.2:=by
 unfold zec
 grind
def zJy{ds:Desks}{R:Reop}{n:Nat}{a b:za6}(ha:a∈zec ds R n)(hb:b∈zec ds R n)(h1:a.h=b.h)(h2:a.x=b.x)(h3:a.q=b.q):a=b:=by
 obtain⟨i,hi,d,hd,p,hp,rfl⟩:=zq9.1 ha;obtain⟨j,hj,f,hf,q,hq,rfl⟩:=zq9.1 hb;unfold zdQ at h1 h2 h3;simp only at h1 h2 h3;have:i=j:=by omega
 subst this;rw[hd]at hf;injection hf with hf;subst hf;obtain⟨k1,k2⟩:=zwF d R;have e:p.1=q.1:=by grind
 have:p=q:=by
  have:∀{l:Counts},(l.map (·.1)).Nodup->p∈l->q∈l->p=q:=by
   intro l
   induction l with
   |nil=>intro _ h;cases h
   |cons x r ih=>grind
  exact this k1 hp hq
 rw[this]
def ev_inj{l l':aA}(h:mA l=mA l'):l=l':=Eq.mp (TyD.minj za4) h
def canon_ok:CallOK zP (single 75 zOrc):=by
 intro f args ms r ms' h;unfold single at h;split at h
 case isFalse=>cases h
 rename_i hf;subst hf
 cases ms with
 |nil =>
   have hz:zOrc 75 args []=zzE args:=by unfold zOrc;simp(decide:=true) only [if_false,if_true]
   rw[hz]at h;clear hz;unfold zzE at h;split at h
   case isFalse=>cases h
   rename_i hex;have hsp:=hex.choose_spec;generalize hex.choose=l at h hsp;obtain⟨rfl,hl⟩:=hsp;injection h with h;injection h with h1 h2;subst h1 h2;refine⟨zJr,λw S κ vals hvl hS hv hms hinj=>?_⟩;exact cn_calls (cnLegs false hl) w S κ vals hvl hS hv hms hinj
 |cons a m =>
   have hz:zOrc 75 args (a::m)=oCanon args (a::m):=by unfold zOrc;simp(decide:=true) only [if_false,if_true]
   rw[hz]at h;clear hz;unfold oCanon at h;split at h
   case isFalse=>cases h
   rename_i hex;have hsp:=hex.choose_spec;generalize hex.choose=l at h hsp;obtain⟨⟨ha,hm⟩,hl⟩:=hsp;subst ha;rw[hm]at h ⊢;injection h with h;injection h with h1 h2;subst h1 h2;refine⟨zJr,λw S κ vals hvl hS hv hms hinj=>?_⟩;exact cn_calls (cnLegs true hl) w S κ vals hvl hS hv hms hinj
def c_canon(b:Bool){l:aA}(h:FewEv l):cw 75 [frA b 1000 l] (frM b 1000 l)=some (bif b then zhV ((canonS l,0),l)else zdw (canonS l,0)):=by
 cases b with
 |true =>
   refine ziz canon_ok ?_;show zOrc 75 [(lentEv 1000 l).1] (lentEv 1000 l).2=_
   have hz:zOrc 75 [(lentEv 1000 l).1] (lentEv 1000 l).2=oCanon [(lentEv 1000 l).1] (lentEv 1000 l).2:=by unfold zOrc;simp(decide:=true) only [if_false,if_true];rfl
   rw[hz];unfold oCanon;have hex:∃l',([(lentEv 1000 l).1]=[(lentEv 1000 l').1]/\(lentEv 1000 l).2=(lentEv 1000 l').2)/\FewEv l':=⟨l,⟨rfl,rfl⟩,h⟩
   rw[dif_pos hex];have hsp:=hex.choose_spec;generalize hex.choose=l' at hsp
   have:l=l':=by have h2:=hsp.1.2;unfold lentEv at h2;simp only[zN,zaC,Ent.mk.injEq]at h2;exact ev_inj h2
   subst this;rfl
 |false =>
   refine ziz canon_ok ?_;show zOrc 75 [.sl 9 (mA l)] []=_
   have hz:zOrc 75 [.sl 9 (mA l)] []=zzE [.sl 9 (mA l)]:=by unfold zOrc;simp(decide:=true) only [if_false,if_true]
   rw[hz];unfold zzE;have hex:∃l',[sC l]=[sC l']/\FewEv l':=⟨l,rfl,h⟩
   rw[dif_pos hex];have hsp:=hex.choose_spec;generalize hex.choose=l' at hsp
   have:l=l':=by have h2:=hsp.1;simp only[zN,AV.sl.injEq]at h2;exact ev_inj h2
   subst this;rfl
def c_walk{s:zam}{ev:aA}(h:OkRun s ev):cw 95 [.agg (zap s),.sl 9 (mA ev)] []=some (zny (deskL (walkS s ev).1,(walkS s ev).2)):=by
 refine ziz (walk_ok ci_ok cb_ok) ?_;show zOrc 95 [.agg (zap s),.sl 9 (mA ev)] []=_
 have hz:zOrc 95 [.agg (zap s),.sl 9 (mA ev)] []=oWalk [.agg (zap s),.sl 9 (mA ev)]:=by unfold zOrc;simp(decide:=true) only [if_false,if_true]
 rw[hz];unfold oWalk;have hex:∃s' ev',[sS s,sC ev]=[.agg (zap s'),.sl 9 (mA ev')]/\OkRun s' ev':=⟨s,ev,rfl,h⟩
 rw[dif_pos hex];have hsp:=hex.choose_spec.choose_spec;generalize hex.choose_spec.choose=ev' at hsp;generalize hex.choose=s' at hsp;obtain⟨h1,_⟩:=hsp;simp only[zN,AV.agg.injEq,AV.sl.injEq]at h1;obtain⟨h1,h2⟩:=h1;have e1:s=s':=zqj.inj h1;have e2:ev=ev':=ev_inj h2;subst e1 e2;rfl
def zLQ(R:Reop)(e:zad):cw 146 [.mp (mL R),.agg (zab e)] []=some (zat (reopB R e)):=by
 refine zAA ?_;have last:zgS R e 2=some (zat false):=zm2 (by rw[zaH (by omega)];rfl)
 have one:zgS R e 1=some (zat (match mfind ⟨e.h,-1⟩ R with|some a=>lessS e.a a|none=>false)):=by
  refine zm2 ?_;rw[zaB (by omega),cPQ,show[zbm.enc e.x,zbm.enc (-1)]=List.map zah [e.x,-1]from rfl,zb6];simp only[show(1:Int).toNat=1 from rfl,zfQ,zb3,zae];rw[zm4,w6Q,show(1:Int)+1=2 from rfl,last]
  cases mfind ⟨e.h,-1⟩ R with
  |none=>rfl
  |some a=>simp only[zdd,zaO,zbO];rw[zzi,za7,zFS];cases lessS e.a a<;>rfl
 refine zm2 ?_;rw[zaB (by omega),cPQ,show[zbm.enc e.x,zbm.enc (-1)]=List.map zah [e.x,-1]from rfl,zb6];simp only[show(0:Int).toNat=0 from rfl,zb3,zae];rw[zm4,w6Q,show(0:Int)+1=1 from rfl,one];unfold reopB
 cases mfind ⟨e.h,e.x⟩ R with
 |none=>rw[zc8];rfl
 |some a =>
   simp only[zdd,zaO,zbO];rw[zzi,za7,zFS]
   cases lessS e.a a with
   |true=>rfl
   |false=>rw[zc8];rfl
def c_counting(d:zaF)(R:Reop)(hl:d.marks.length<=1000000):cw 96 [.fp (zgL d),.mp (mL R)] []=some (zfI (countS d R)):=by
 refine zxn ?_
 have key:∀(n i:Nat) (m:Counts),i+n=d.marks.length->zeu d R (sB m) i=some (zfI ((d.marks.drop i).foldl (zhn d R) m)):=by
  intro n
  induction n with
  |zero=>intro i m hi;refine zpq ?_;rw[zac,zaH (by omega),zcr (by omega)];rfl
  |succ n ih =>
    intro i m hi;have hlt:i<d.marks.length:=by omega
    refine zpq ?_;rw[zac,zaB (by omega),cPQ,zaf,zpD,zaa hlt,zae,w6Q,show((i:Int)+1)=((i+1:Nat):Int)by omega,zbe hlt,zcG]
    have put:msetD zP 181 85 (.agg (zgo.enc ⟨d.marks[i].G.h,d.marks[i].G.x⟩)) (.agg (zab d.marks[i].G)) (sB m) (λm4=>zeu d R m4 ((i+1:Nat):Int)) =
      some (zfI ((d.marks.drop (i+1)).foldl (zhn d R) (mput ⟨d.marks[i].G.h,d.marks[i].G.x⟩ d.marks[i].G m))):=by
     rw[show(AV.agg (zgo.enc ⟨d.marks[i].G.h,d.marks[i].G.x⟩))=.agg (zcM ⟨d.marks[i].G.h,d.marks[i].G.x⟩)from rfl,zrd];exact ih (i+1) _ (by omega)
    unfold zhn
    cases hv:d.marks[i].xf with
    |true=>rw[zaO,if_pos rfl];exact ih (i+1) m (by omega)
    |false =>
      rw[zay,iNs,zfy];by_cases hlv:d.N<2
      . rw[if_pos hlv,zLQ,zas]
        cases hr:reopB R d.marks[i].G with
        |true=>rw[zaO,if_pos ⟨hlv,rfl⟩];exact ih (i+1) m (by omega)
        |false=>rw[zay,iNs];exact put
      .rw[if_neg hlv,if_neg (λh=>hlv h.1)];exact put
 exact key d.marks.length 0 [] (by omega)
def zIJ[Dr](a b:za6):∃v:Int,cw 98 [.agg (zaE a),.agg (zaE b)] []=some (zbv v)/\decide (v<0)=zci a b:=by
 refine⟨zns [cmpI a.h b.h,cmpI a.x b.x,cmpI a.q b.q],zyA ?_,?_⟩
 .rw[c_cmp,za7,c_cmp,za7,c_cmp,za7,c_Or _ (by simp),za7];rfl
 . unfold cmpI zci;simp only[zns]
   grind
def zrt{a b:za6}(h:zci a b=true):zci b a=false:=by
 unfold zci at h ⊢
 grind
def ztY{a b c:za6}(h1:zci b a=false)(h2:zci c b=false):zci c a=false:=by
 unfold zci at h1 h2 ⊢
 grind
def zAK{a b:za6}(h1:zci a b=false)(h2:zci b a=false):a.h=b.h/\a.x=b.x/\a.q=b.q:=by
 unfold zci at h1 h2
 grind
def swoG:Go.Sort.SWO zci where
 irrefl:=λx=>by unfold zci;simp
 trans:=λx y z h1 h2=>by unfold zci at h1 h2 ⊢;grind
 ntrans:=λx y z h1 h2=>ztY h2 h1
theorem cmpG[Dr](x y:za6):∃v:Int,cw 98 [.agg (zaE x),.agg (zaE y)] []=some (.v (.int .i64 v),[])/\decide (v<0)=zci x y:=zIJ x y
def sortG_ok:CallOK zP (single 97 zOrc):=
 zGv (C:=zC) (A:=zA) (ty:=70) (nT:=zaE) layG rfl (by kernel_rfl) aggG sizeG (by decide) (λ_=>rfl) (by kernel_rfl) swoG (@cmpG drOn) (λargs ms=>by unfold zOrc;simp(decide:=true) only [if_false,if_true])
def c_sortG(l:aL)(h:l.length<1000000):cw 97 [.row 1000 8 0 (mC l).length,.fn 98 []] [(1000,gF (mC l))]=some (zfF (sortS zci l)):=by
 rw[zac];refine ziz sortG_ok ?_;have hz:∀args ms,zOrc 97 args ms=oSort 8 70 98 zaE zci args ms:=λargs ms=>by unfold zOrc;simp(decide:=true) only [if_false,if_true]
 exact(hz _ _).trans (zDq (λx y h=>zc2.inj h) h)
def okRun{s:zam}(hs:zb2 s){l:aA}(h:FewEv l):OkRun s (canonS l):=
 ⟨hs,λe he=>(keep_mem ((zid l).mem_iff.1 he)).1,by have:=(zid l).length_eq;have:=h.2.1;omega⟩
def desk_ok{s:zam}(hs:zb2 s):∀(ev:aA) {i:Nat} {d:zaF},(walkS s ev).1 i=some d->DeskOk s.H ev.length d:=by
 have key:∀(ev:aA) (k:Nat) (st:Desks×Reop),(∀i d,st.1 i=some d->DeskOk s.H k d)->∀i d,(ev.foldl (evS s) st).1 i=some d->DeskOk s.H (k+ev.length) d:=by
  intro ev
  induction ev with
  |nil=>intro k st h;exact h
  |cons e r ih =>
    intro k st h i d hd;have:=ih (k+1) (evS s st e) ?_ i d hd
    .grind
    . intro j f hj;have up:∀x,(∀g,st.1 x=some g->DeskOk s.H (k+1) g):=λx g hg=>(h x g hg).up
      unfold evS at hj;split at hj
      . split at hj
        . rename_i d0 hd0;unfold upd at hj;simp only at hj;split at hj
          .injection hj with hj;rw[<-hj];exact(h _ _ hd0).rein hs.monitor _
          .exact up _ _ hj
        .exact up _ _ hj
      . split at hj
        .exact up _ _ hj
        . split at hj
          . split at hj
            . rename_i d0 q hd0 _;split at hj
              . unfold upd at hj;simp only at hj;split at hj
                .injection hj with hj;rw[<-hj];exact(h _ _ hd0).note rfl _ _ _
                .exact up _ _ hj
              . unfold upd at hj;simp only at hj;split at hj
                .injection hj with hj;rw[<-hj];exact(h _ _ hd0).app _
                .exact up _ _ hj
              .exact up _ _ hj
            .exact up _ _ hj
          .exact up _ _ hj
 intro ev i d hd
 have:=key ev 0 (seats s.k,[]) (λi d h=>by
  obtain⟨m,_,_,rfl⟩:=zxR _ _ _ h
  exact DeskOk.zero hs.monitor _) i d hd
 simpa using this
def suspTo_len{s:zam}(hs:zb2 s)(ev:aA):∀n,(suspTo (walkS s ev).1 n).length<=n*ev.length:=by
 intro n
 induction n with
 |zero=>simp[suspTo]
 |succ n ih =>
   rw[zre,zby,zhe]
   cases hd:(walkS s ev).1 n with
   |none=>simp;omega
   |some d=>have:=(desk_ok hs ev hd).susp;simp;omega
def foLegs(b:Bool){s:zam}(hs:zb2 s){l:aA}(h:FewEv l):FoLegs b s l (walkS s (canonS l)).1 (walkS s (canonS l)).2 where
 cCheck:=zo9 hs
 cCanon:=c_canon b h
 cWalk:=c_walk (okRun hs h)
 cCount:=λi d hd=>c_counting d _ (by
  have h1:=(desk_ok hs _ hd).marks;have h2:=(okRun hs h).2.2
  omega)
 cSort:=λgs hp=>by
  have h1:=zyI s (canonS l) (walkS s (canonS l)).2 100;have h2:=(zid l).length_eq;have h3:=h.2.1;have h4:=hp.length_eq;have e1:=c_sortG gs (by omega);have e2:=zv2 swoG gs
  have:sortS zci gs=isort zci (zec (walkS s (canonS l)).1 (walkS s (canonS l)).2 100):=
   zlZ (lt:=zci) ((e2.trans hp).trans (zg7 _).symm) (zw4 swoG gs) (zpV (lt:=zci) (λ_ _ _ h1 h2=>ztY h1 h2) (λ_ _ h=>zrt h) _) (λa ha b hb h1 h2=>by
    have q:=zAK h1 h2
    exact zJy ((e2.trans hp).mem_iff.1 ha) ((e2.trans hp).mem_iff.1 hb) q.1 q.2.1 q.2.2)
  simp_all
 few:=by have h1:=zyI s (canonS l) (walkS s (canonS l)).2 100;have h2:=(zid l).length_eq;have h3:=h.2.1;omega
 fewS:=by have h1:=suspTo_len hs (canonS l) 100;have h2:=(zid l).length_eq;have h3:=h.2.1;omega
def zzu(s:zam)(l:aA):foldS s l=⟨isort zci (zec (walkS s (canonS l)).1 (walkS s (canonS l)).2 100),suspTo (walkS s (canonS l)).1 100⟩:=rfl
def fold_ok:CallOK zP (single 55 zOrc):=by
 intro f args ms r ms' h;unfold single at h;split at h
 case isFalse=>cases h
 rename_i hf;subst hf
 cases ms with
 |nil =>
   have hz:zOrc 55 args []=oFoldD args:=by unfold zOrc;simp(decide:=true) only [if_false,if_true]
   rw[hz]at h;clear hz;unfold oFoldD at h;split at h
   case isFalse=>cases h
   rename_i hex;have hsp:=hex.choose_spec.choose_spec;generalize hex.choose_spec.choose=l at h hsp;generalize hex.choose=s at h hsp;obtain⟨rfl,hs,hl⟩:=hsp;injection h with h;injection h with h1 h2;subst h1 h2;refine⟨zJt,λw S κ vals hvl hS hv hms hinj=>?_⟩;exact fo_calls (foLegs false hs hl) (zg7 _).length_eq w S κ vals hvl hS hv hms hinj
 |cons a m =>
   have hz:zOrc 55 args (a::m)=oFold args (a::m):=by unfold zOrc;simp(decide:=true) only [if_false,if_true]
   rw[hz]at h;clear hz;unfold oFold at h;split at h
   case isFalse=>cases h
   rename_i hex;have hsp:=hex.choose_spec.choose_spec;generalize hex.choose_spec.choose=l at h hsp;generalize hex.choose=s at h hsp;obtain⟨⟨ha,hm⟩,hs,hl⟩:=hsp;subst ha;rw[hm]at h ⊢;injection h with h;injection h with h1 h2;subst h1 h2;refine⟨zJt,λw S κ vals hvl hS hv hms hinj=>?_⟩;exact fo_calls (foLegs true hs hl) (zg7 _).length_eq w S κ vals hvl hS hv hms hinj
def c_fold{s:zam}(hs:zb2 s){l:aA}(h:FewEv l):cw 55 [.agg (zap s),.row 1001 9 0 (mA l).length] [(1001,gB (mA l))]=some (zt7 ((foldS s l,0),l)):=by
 refine ziz fold_ok ?_;show zOrc 55 [.agg (zap s),(lentEv 1001 l).1] (lentEv 1001 l).2=_
 have hz:zOrc 55 [.agg (zap s),(lentEv 1001 l).1] (lentEv 1001 l).2=oFold [.agg (zap s),(lentEv 1001 l).1] (lentEv 1001 l).2:=by unfold zOrc;simp(decide:=true) only [if_false,if_true];rfl
 rw[hz];unfold oFold;have hex:∃s' l',([.agg (zap s),(lentEv 1001 l).1]=[.agg (zap s'),(lentEv 1001 l').1]/\(lentEv 1001 l).2=(lentEv 1001 l').2)/\zb2 s'/\FewEv l':=⟨s,l,⟨rfl,rfl⟩,hs,h⟩
 rw[dif_pos hex];have hsp:=hex.choose_spec.choose_spec;generalize hex.choose_spec.choose=l' at hsp;generalize hex.choose=s' at hsp;obtain⟨⟨h1,h2⟩,_⟩:=hsp
 have e2:l=l':=by unfold lentEv at h2;simp only[zN,zaC,Ent.mk.injEq]at h2;exact ev_inj h2
 simp only[zaD,AV.agg.injEq]at h1;have e1:s=s':=zqj.inj h1.1;subst e1 e2;rfl
def zFL{s:zam}(hs:zb2 s){l:aA}(h:FewEv l):cw 55 [.agg (zap s),.sl 9 (mA l)] []=some (znA (foldS s l,0)):=by
 refine ziz fold_ok ?_;show zOrc 55 [.agg (zap s),.sl 9 (mA l)] []=_
 have hz:zOrc 55 [.agg (zap s),.sl 9 (mA l)] []=oFoldD [.agg (zap s),.sl 9 (mA l)]:=by unfold zOrc;simp(decide:=true) only [if_false,if_true]
 rw[hz];unfold oFoldD;have hex:∃s' l',[.agg (zap s),sC l]=[.agg (zap s'),sC l']/\zb2 s'/\FewEv l':=⟨s,l,rfl,hs,h⟩
 rw[dif_pos hex];have hsp:=hex.choose_spec.choose_spec;generalize hex.choose_spec.choose=l' at hsp;generalize hex.choose=s' at hsp;obtain⟨h1,_⟩:=hsp;simp only[zN,AV.agg.injEq,AV.sl.injEq]at h1;have e1:s=s':=zqj.inj h1.1;have e2:l=l':=ev_inj h1.2;subst e1 e2;rfl
abbrev idE(e:zad):Int×Int:=(e.a.b,e.a.B)
def zdA{κ ν:Type}[DecidableEq κ](k:κ)(v:ν):∀l:List (κ×ν),mfind k (mput k v l)=some v
 |[]=>by simp[mput,mfind]
 |p::r=>by
   unfold mput;split
   .simp[mfind]
   .rename_i h;unfold mfind;rw[if_neg h];exact zdA k v r
def zd3{κ ν:Type}[DecidableEq κ]{k j:κ}(v:ν)(h:j≠k):∀l:List (κ×ν),mfind j (mput k v l)=mfind j l
 |[]=>by simp[mput,mfind,Ne.symm h]
 |p::r=>by
   unfold mput;split
   . rename_i hp;simp only[mfind]
     grind
   .simp only[mfind];rw[zd3 v h r]
def zpZ{κ ν:Type}[DecidableEq κ]:∀{l:List (κ×ν)} {p:κ×ν},(l.map (·.1)).Nodup->p∈l->mfind p.1 l=some p.2
 |[],_,_,h=>by cases h
 |x::r,p,hn,h=>by
   obtain⟨n1,n2⟩:=zhj.1 hn;unfold mfind;rcases za9.1 h with e|h
   .rw[e,if_pos rfl]
   .rw[if_neg (λe=>n1 (zbA.2 ⟨p,h,e.symm⟩))];exact zpZ n2 h
def Said(l:aA)(i:Nat)(m:zga):Prop:=∀k,match mfind k m with
 |none=>∀j e,j<i->l[j]?=some e->eventB e=true->idE e≠k
 |some g=>g.W=true↔∃j e,j<i/\l[j]?=some e/\eventB e=true/\idE e=k/\l[g.first.toNat]?≠some e
def zJa{l:aA}{m:zga}{i:Nat}{e:zad}(h:Said l i m)(he:l[i]?=some e):Said l (i+1) (zgY l m i e):=by
 intro k;have hk:=h k;unfold zgY;by_cases hv:eventB e=true
 case neg=>grind
 rw[if_pos hv];by_cases hke:k=idE e
 . subst hke
   cases hf:mfind (idE e) m with
   |none =>
     simp only;rw[show(e.a.b,e.a.B)=idE e from rfl,zdA]
     grind
   |some g =>
     simp only;rw[show(e.a.b,e.a.B)=idE e from rfl,zdA]
     grind
 . have other:∀v:zb7,mfind k (mput (e.a.b,e.a.B) v m)=mfind k m:=λv=>zd3 v hke m
   grind
def zxJ{l:aA}:∀{r:aA} {i:Nat} {m:zga},Said l i m->l.drop i=r->Said l (i+r.length) (zfw l r i m)
 |[],i,m,h,_=>h
 |e::r,i,m,h,hd=>by
   unfold zfw
   have he:l[i]?=some e:=by have:=congrArg (·[0]?) hd;simpa using this
   have:=zxJ (zJa h he) (r:=r) (by
    have:=congrArg (List.drop 1) hd
    simpa[List.drop_drop]using this)
   grind
def zNe(l:aA):Said l l.length (zdu l):=by have:=zxJ (l:=l) (r:=l) (i:=0) (m:=[]) (λk=>by simp[mfind]) rfl;rw[zaR]at this;exact this
def Stays(l:aA)(e:zad):Prop:=e∈l/\eventB e=true/\∀f∈l,eventB f=true->idE f=idE e->f=e
def keep_iff{l:aA}{e:zad}:e∈keepS l↔Stays l e:=by
 have hK:=zsT l;have hS:=zNe l;constructor
 . intro h;obtain⟨p,hp,hpe⟩:=zdN.1 (show e∈(zdu l).filterMap (pickG l)from h);obtain⟨e',h1,h2,h3⟩:=hK.2 p hp;unfold pickG at hpe;split at hpe
   .cases hpe
   rename_i hd;rw[h1]at hpe;injection hpe with hpe;subst hpe;refine⟨zav h1,h3,λf hf hvf hid=>?_⟩;have:=hS p.1;rw[zpZ hK.1 hp]at this;simp only at this;obtain⟨j,hj,hjf⟩:=zbB.1 hf;by_cases hfe:l[p.2.first.toNat]?=some f
   .simp_all
   .exact absurd (this.2 ⟨j,f,hj,by simp_all,hvf,by rw[hid];exact h2,hfe⟩) hd
 . rintro⟨h1,h2,h3⟩
   obtain⟨j,hj,hje⟩:=zbB.1 h1;have hje':l[j]?=some e:=by simp_all
   have:=hS (idE e)
   cases hf:mfind (idE e) (zdu l)with
   |none=>grind
   |some g =>
     rw[hf]at this;simp only at this;have hp:=zjc hf;obtain⟨e',q1,q2,q3⟩:=hK.2 _ hp;have he':e'=e:=h3 e' (zav q1) q3 q2;subst he';show e'∈(zdu l).filterMap (pickG l);refine zdN.2 ⟨_,hp,?_⟩;unfold pickG
     grind
def keep_nodup(l:aA):(keepS l).Nodup:=by
 refine List.Pairwise.imp ?_ (zGj l)
 grind
def zJq{l:aA}{e:zad}:e∈canonS l↔Stays l e:=by rw[(zid l).mem_iff,keep_iff]
def Alike(fb:DMap)(m:zga):Prop:=∀k,mfind k fb.1=(mfind k m).map (·.first)/\(mfind k fb.2).getD false=((mfind k m).map (·.W)).getD false
def step_alike{l:aA}{i:Nat}{e:zad}{fb:DMap}{m:zga}(h:Alike fb m):Alike (dstep l i e fb) (zgY l m i e):=by
 unfold dstep zgY;by_cases hv:eventB e=true
 case neg=>rw[if_neg (λq=>hv (ok_eventB q)),if_neg hv];exact h
 rw[if_pos (zr6 hv),if_pos hv];obtain⟨h1,h2⟩:=h (dKey e)
 cases hf:mfind (dKey e) m with
 |none =>
   rw[hf]at h1;rw[h1]
   try rw[show mfind (e.a.b,e.a.B) m=none from hf]
   simp only[Option.map_none];intro k;by_cases hk:k=dKey e
   . subst hk;rw[zdA,show mfind (dKey e) (mput (e.a.b,e.a.B) (⟨(i:Int),false⟩:zb7) m)=some ⟨i,false⟩from zdA _ _ _]
     simp_all
   .rw[zd3 _ hk,show mfind k (mput (e.a.b,e.a.B) (⟨(i:Int),false⟩:zb7) m)=mfind k m from zd3 _ hk _];exact h k
 |some g =>
   rw[hf]at h1 h2;rw[h1]
   try rw[show mfind (e.a.b,e.a.B) m=some g from hf]
   simp only[zbk];intro k;by_cases hs:l[g.first.toNat]?=some e
   . rw[if_pos hs,if_pos hs];by_cases hk:k=dKey e
     .subst hk;rw[show mfind (dKey e) (mput (e.a.b,e.a.B) (⟨g.first,g.W⟩:zb7) m)=some ⟨g.first,g.W⟩from zdA _ _ _];exact⟨h1,h2⟩
     .rw[show mfind k (mput (e.a.b,e.a.B) (⟨g.first,g.W⟩:zb7) m)=mfind k m from zd3 _ hk _];exact h k
   . rw[if_neg hs,if_neg hs];by_cases hk:k=dKey e
     .subst hk;rw[show mfind (dKey e) (mput (e.a.b,e.a.B) (⟨g.first,true⟩:zb7) m)=some ⟨g.first,true⟩from zdA _ _ _];exact⟨h1,by rw[zdA];rfl⟩
     .rw[show mfind k (mput (e.a.b,e.a.B) (⟨g.first,true⟩:zb7) m)=mfind k m from zd3 _ hk _];exact⟨(h k).1,by rw[zd3 _ hk];exact(h k).2⟩
def zHR{l:aA}:∀{r:aA} {i:Nat} {fb:DMap} {m:zga},Alike fb m->Alike (dfold l r i fb) (zfw l r i m)
 |[],_,_,_,h=>h
 |e::r,i,fb,m,h=>by unfold dfold zfw;exact zHR (step_alike h)
def zCY{fb:DMap}{m:zga}(h:Alike fb m):∀{l:aA} {i:Nat} {e:zad},e∈ckeep fb l i↔∃j,l[j]?=some e/\∃g,mfind (dKey e) m=some g/\g.first=((i+j:Nat):Int)/\g.W=false
 |[],i,e=>by simp[ckeep]
 |x::r,i,e=>by
   have cond:(mfind (dKey x) fb.1=some (i:Int)/\(mfind (dKey x) fb.2).getD false=false)↔∃g,mfind (dKey x) m=some g/\g.first=(i:Int)/\g.W=false:=by
    obtain⟨h1,h2⟩:=h (dKey x);rw[h1,h2]
    cases hf:mfind (dKey x) m with
    |none=>simp
    |some g=>simp
   have ih:=zCY h (l:=r) (i:=i+1) (e:=e)
   have tail:(∃j,r[j]?=some e/\∃g,mfind (dKey e) m=some g/\g.first=((i+1+j:Nat):Int)/\g.W=false)↔∃j,0<j/\(x::r)[j]?=some e/\∃g,mfind (dKey e) m=some g/\g.first=((i+j:Nat):Int)/\g.W=false:=by
    constructor
    . rintro⟨j,h1,g,h2,h3,h4⟩
      exact⟨j+1,by omega,by simpa using h1,g,h2,by rw[h3];omega,h4⟩
    .grind
   unfold ckeep
   grind
def zCX{fb:DMap}{m:zga}(h:Alike fb m):∀{l:aA} {i:Nat},(ckeep fb l i).Pairwise (λa b=>idE a≠idE b)
 |[],_=>by simp[ckeep]
 |x::r,i=>by
   unfold ckeep;split
   . rename_i hc;refine zcQ.2 ⟨λy hy e=>?_,zCX h⟩;obtain⟨j,_,g,h1,h2,_⟩:=(zCY h).1 hy;have:=(h (dKey x)).1
     grind
   .exact zCX h
def zHn(l:aA):List.Perm (ckeep (dispF l) l 0) (keepS l):=by
 have hA:Alike (dispF l) (zdu l):=zHR (λk=>by simp[mfind]);refine(zcE ?_ (keep_nodup l)).2 (λe=>?_)
 . refine List.Pairwise.imp ?_ (zCX hA)
   grind
 . rw[zCY hA];have hK:=zsT l;constructor
   . rintro⟨j,h1,g,h2,h3,h4⟩
     show e∈(zdu l).filterMap (pickG l);refine zdN.2 ⟨_,zjc h2,?_⟩;unfold pickG
     simp_all
   . intro h;obtain⟨p,hp,hpe⟩:=zdN.1 (show e∈(zdu l).filterMap (pickG l)from h);obtain⟨e',h1,h2,h3⟩:=hK.2 p hp;unfold pickG at hpe;split at hpe
     .cases hpe
     rename_i hd;have q:=hpe;rw[h1]at q;injection q with q;subst q;have:=zDk l p hp;refine⟨p.2.first.toNat,hpe,p.2,?_,by omega,by simpa using hd⟩;rw[show dKey e'=p.1 from h2];exact zpZ hK.1 hp
def zCK(l:aA)(hl:l.length<=2000)(hp:∀e∈l,e.A.length<=1000000):cw 64 [.sl 9 (mA l)] []=some (zdw (canonS l,0)):=by obtain⟨r,h1,h2,h3⟩:=zMS l hl hp;rw[h1,canon_of (h2.trans (zHn l)) (h3.imp λ{a b} h=>by unfold leE at h;simpa using h)]
structure ApInv(p:aD)(st:ah):Prop where
 nd:(st.1.map (·.1)).Nodup
 val:∀q∈st.1,q.2∈p/\zeA q.2=true/\q.1=idA q.2
 has:∀a∈p,zeA a=true->∃b,mfind (idA a) st.1=some b
 dis:∀k,(mfind k st.2).getD false=true↔∃a∈p,∃b,zeA a=true/\idA a=k/\mfind k st.1=some b/\a≠b
def ApInv.step{p:aD}{st:ah}(h:ApInv p st)(a:zan):ApInv (p++[a]) (apStep st a):=by
 unfold apStep;by_cases ha:zeA a=true
 case neg =>
  rw[if_neg ha];refine⟨h.nd,λq hq=>⟨by simp[(h.val q hq).1],(h.val q hq).2⟩,λx hx hv=>?_,λk=>(h.dis k).trans ⟨λ⟨x,hx,r⟩=>⟨x,by simp[hx],r⟩,λ⟨x,hx,b,hv,r⟩=>?_⟩⟩
  . rcases zbo.1 hx with hx|hx
    .exact h.has x hx hv
    simp_all
  simp_all
 rw[if_pos ha]
 cases hf:mfind (idA a) st.1 with
 |none =>
   have hnew:∀x∈p,zeA x=true->idA x≠idA a:=λx hx hv e=>by
    obtain⟨b,hb⟩:=h.has x hx hv
    simp_all
   have hsame:∀k b,k≠idA a->(mfind k (mput (idA a) a st.1)=some b↔mfind k st.1=some b):=λk b hk=>by rw[zd3 a hk]
   refine⟨(znL h.nd).1,λq hq=>?_,λx hx hv=>?_,λk=>(h.dis k).trans ⟨λ⟨x,hx,b,hv,he,hm,hne⟩=>?_,λ⟨x,hx,b,hv,he,hm,hne⟩=>?_⟩⟩
   . rcases zmX hq with rfl|hq
     .simp_all
     .exact⟨by simp[(h.val q hq).1],(h.val q hq).2⟩
   . rcases zbo.1 hx with hx|hx
     . obtain⟨b,hb⟩:=h.has x hx hv
       simp_all
     .rw[zcH.1 hx];exact⟨a,zdA _ _ _⟩
   .exact⟨x,by simp[hx],b,hv,he,(hsame _ _ (by grind)).2 hm,hne⟩
   . rcases zbo.1 hx with hx|hx
     .grind
     . rw[zcH.1 hx]at he hne;rw[<-he,zdA]at hm
       simp_all
 |some b =>
   have hval:∀q∈st.1,q.2∈p++[a]/\zeA q.2=true/\q.1=idA q.2:=λq hq=>⟨by simp[(h.val q hq).1],(h.val q hq).2⟩
   have hhas:∀x∈p++[a],zeA x=true->∃b,mfind (idA x) st.1=some b:=λx hx hv=>by
    rcases zbo.1 hx with hx|hx
    .exact h.has x hx hv
    simp_all
   simp only;by_cases hab:a=b
   . rw[if_pos hab];refine⟨h.nd,hval,hhas,λk=>(h.dis k).trans ⟨λ⟨x,hx,r⟩=>⟨x,by simp[hx],r⟩,λ⟨x,hx,b',hv,he,hm,hne⟩=>?_⟩⟩
     grind
   . rw[if_neg hab];refine⟨h.nd,hval,hhas,λk=>?_⟩;by_cases hk:k=idA a
     . subst hk;simp only[zdA,zbO,true_iff]
       simp_all
     . simp only[zd3 true hk];refine(h.dis k).trans ⟨λ⟨x,hx,r⟩=>⟨x,by simp[hx],r⟩,λ⟨x,hx,b',hv,he,r⟩=>?_⟩
       grind
def zHa:∀(r p:aD) (st:ah),ApInv p st->ApInv (p++r) (r.foldl apStep st)
 |[],p,st,h=>by simpa using h
 |a::r,p,st,h=>by have:=zHa r (p++[a]) (apStep st a) (h.step a);simpa using this
def apInv(l:aD):ApInv l (apMaps l):=by have:=zHa l [] ([],[]) ⟨by simp,by simp,by simp,by simp[mfind]⟩;rw[zfp]at this;exact this
def zHc{l:aD}{x:zan}:x∈apKeep l↔x∈l/\zeA x=true/\∀y∈l,zeA y=true->idA y=idA x->y=x:=by
 have h:=apInv l;unfold apKeep;rw[zdN];constructor
 . rintro⟨q,hq,he⟩
   split at he
   .cases he
   rename_i hd;injection he with he;subst he;obtain⟨v1,v2,v3⟩:=h.val q hq;refine⟨v1,v2,λy hy hv hi=>?_⟩;apply zfm;intro hne;exact hd ((h.dis q.1).2 ⟨y,hy,q.2,hv,hi.trans v3.symm,zpZ h.nd hq,hne⟩)
 . rintro⟨h1,h2,h3⟩
   obtain⟨b,hb⟩:=h.has x h1 h2;have hq:=zjc hb;obtain⟨v1,v2,v3⟩:=h.val _ hq;have hbx:b=x:=h3 b v1 v2 v3.symm;subst hbx;refine⟨_,hq,?_⟩;rw[if_neg];intro hd;obtain⟨y,hy,b',hv,hi,hm,hne⟩:=(h.dis _).1 hd
   simp_all
def zHb(l:aD):(apKeep l).Pairwise λa b=>idA a≠idA b:=by
 have h:=apInv l;unfold apKeep;refine List.Pairwise.filterMap _ (R:=λp q=>p∈(apMaps l).1/\q∈(apMaps l).1/\p.1≠q.1) (λp q hpq x hx y hy=>?_) ?_
 . split at hx
   .cases hx
   split at hy
   .cases hy
   injection hx with hx;injection hy with hy;rw[<-hx,<-hy,<-(h.val p hpq.1).2.2,<-(h.val q hpq.2.1).2.2];exact hpq.2.2
 .have hnd:=h.nd;rw[List.Nodup,zdW]at hnd;exact zhd (λha hb hr=>⟨ha,hb,hr⟩) hnd
def ap_inj{l:aD}{a b:zan}(ha:a∈apKeep l)(hb:b∈apKeep l)(e:a.a=b.a):a=b:=zDt (f:=idA) (zHb l) ha hb (by simp only[idA,e])
def zJg(l:aD):(isort apLt (apKeep l)).Pairwise (λa b=>lessS b.a a.a=false):=
 zpV (lt:=apLt) (λ_ _ _ h1 h2=>zmV h1 h2) (λ_ _ h=>zk5 h) _
def ap_of{l r:aD}(hp:List.Perm r (apKeep l))(hs:r.Pairwise (λa b=>lessS b.a a.a=false)):r=isort apLt (apKeep l):=
 zlZ (lt:=apLt) (hp.trans (zg7 _).symm) hs (zJg l) (λ_ ha _ hb h1 h2=>ap_inj (hp.mem_iff.1 ha) (hp.mem_iff.1 hb) (zGo h1 h2))
def zqB{κ ν:Type}[DecidableEq κ]{k:κ}:∀{l:List (κ×ν)},mfind k l=none↔k ∉ l.map (·.1)
 |[]=>by simp[mfind]
 |p::r=>by
   rw[mfind];simp only[zbX];rw[za9,not_or];by_cases h:p.1=k
   .grind
   . rw[if_neg h,zqB]
     grind
def mput_new{κ ν:Type}[DecidableEq κ]{k:κ}{v:ν}:∀{l:List (κ×ν)},mfind k l=none->mput k v l=l++[(k,v)]
 |[],_=>rfl
 |p::r,h=>by
   rw[mfind]at h;split at h
   .cases h
   .rename_i hp;rw[mput,if_neg hp,mput_new h,zg5]
def zvW{κ ν:Type}[DecidableEq κ](k j:κ)(v:ν)(l:List (κ×ν)):mfind j (mput k v l)=if j=k then some v else mfind j l:=by
 split
 .rename_i h;rw[h,zdA]
 .rename_i h;rw[zd3 v h]
def setM(l:aC)(m:aS):List (Int×Bool):=l.foldl (λm n=>mput n true m) m
def zxT(k:Int):∀(l:aC) (m:aS),mfind k (setM l m)=if k∈l then some true else mfind k m
 |[],m=>by simp[setM]
 |n::r,m=>by
   show mfind k (setM r (mput n true m))=_;rw[zxT k r,zvW]
   grind
def zA5:∀(l:aC) (m:aS),l.Nodup->(∀n∈l,mfind n m=none)->setM l m=m++l.map λn=>(n,true)
 |[],m,_,_=>by simp[setM]
 |n::r,m,h,hm=>by
   obtain⟨h1,h2⟩:=zhj.1 h;show setM r (mput n true m)=_
   rw[zA5 r _ h2 (λj hj=>by
    rw[zvW,if_neg (λe:j=n=>h1 (e▸hj))]
    grind),mput_new (hm n (by simp)),zcp];simp only[zbX];rw[zee]
def addT(n t:Int)(M:aJ):List (Int×Int):=match mfind n M with
 |none=>mput n t M
 |some a=>if t<a then mput n t M else M
def addL(l:aC)(t:Int)(M:aJ):List (Int×Int):=l.foldl (λM n=>addT n t M) M
def schedM(s:zam)(m:zaJ)(c:aD)(M:aJ):List (Int×Int):=c.foldl (λM a=>addL (scopeL s m a) a.a.n M) M
def addT_find{n t:Int}{M:aJ}(h:∀a,mfind n M=some a->a<=t)(k:Int):mfind k (addT n t M)=(mfind k M).or (if k=n then some t else none):=by
 unfold addT
 cases hf:mfind n M with
 |none =>
   simp only;rw[zvW]
   grind
 |some a=>grind
def zCC{t:Int}(k:Int):∀(l:aC) {M:aJ},(∀k a,mfind k M=some a->a<=t)->mfind k (addL l t M)=(mfind k M).or (if k∈l then some t else none)
 |[],M,_=>by simp[addL]
 |n::r,M,h=>by
   show mfind k (addL r t (addT n t M))=_;have hh:=addT_find (h n)
   rw[zCC k r (λj a hj=>by
    rw[hh]at hj
    cases hm:mfind j M with
    |some b=>grind
    |none=>simp_all),hh]
   grind
def zxA:∀(l:aC) {t:Int} {M:aJ},(M.map (·.1)).Nodup->((addL l t M).map (·.1)).Nodup/\∀k,k∈(addL l t M).map (·.1)->k∈l\/k∈M.map (·.1)
 |[],t,M,h=>⟨h,λk hk=>.inr hk⟩
 |n::r,t,M,h=>by
   have hT:((addT n t M).map (·.1)).Nodup/\∀k,k∈(addT n t M).map (·.1)->k=n\/k∈M.map (·.1):=by
    unfold addT;split
    .exact znL h
    . split
      .exact znL h
      simp_all
   obtain⟨h1,h2⟩:=zxA r (t:=t) hT.1;refine⟨h1,λk hk=>?_⟩;rcases h2 k hk with q|q
   .grind
   grind
def AscT(c:aD):Prop:=c.Pairwise λa b=>a.a.n<=b.a.n
def zE7(s:zam)(m:zaJ)(k:Int):∀(c:aD) {M:aJ},AscT c->(∀k a,mfind k M=some a->∀x∈c,a<=x.a.n)->mfind k (schedM s m c M)=(mfind k M).or ((c.find? λa=>(scopeL s m a).contains k).map (·.a.n))
 |[],M,_,_=>by simp[schedM]
 |x::r,M,hc,h=>by
   obtain⟨h1,h2⟩:=zcQ.1 hc;have hx:∀k a,mfind k M=some a->a<=x.a.n:=λk a hk=>h k a hk x (by simp)
   have hL:=λj=>zCC j (scopeL s m x) hx
   show mfind k (schedM s m r (addL (scopeL s m x) x.a.n M))=_
   rw[zE7 s m k r h2 (λj a hj y hy=>by
    rw[hL]at hj
    cases hm:mfind j M with
    |some b=>grind
    |none=>simp_all),hL]
   grind
def zyP(s:zam)(m:zaJ):∀(c:aD) {M:aJ},(M.map (·.1)).Nodup->((schedM s m c M).map (·.1)).Nodup/\∀k,k∈(schedM s m c M).map (·.1)->(∃x∈s.c,x.j=k)\/k∈M.map (·.1)
 |[],M,h=>⟨h,λk hk=>.inr hk⟩
 |a::r,M,h=>by
   obtain⟨h1,h2⟩:=zxA (scopeL s m a) (t:=a.a.n) h;obtain⟨h3,h4⟩:=zyP s m r h1;refine⟨h3,λk hk=>?_⟩;rcases h4 k hk with q|q
   .exact .inl q
   . rcases h2 k q with q|q
     . unfold scopeL at q
       grind
     .exact .inr q
def num_inj{s:zam}(hs:zb2 s){x y:zaY}(hx:x∈s.c)(hy:y∈s.c)(e:x.j=y.j):x=y:=by obtain⟨i,hi,rfl⟩:=zbB.1 hx;obtain⟨j,hj,rfl⟩:=zbB.1 hy;have:=zDO hs.scripts.2.2 hi hj e;subst this;rfl
def zGu{s:zam}(hs:zl1 s.c):(s.c.map (·.j)).Pairwise (·< ·):=by rw[zdW,zcn];intro i j hi hj hij;exact asc_lt hs.2.2 i j hj hij
def zH4{s:zam}(hs:zb2 s)(m:zaJ)(a:zan){x:zaY}(hx:x∈s.c):(scopeL s m a).contains x.j=scopeB s m a x:=by
 unfold scopeL;rw[zdi,zfn,zbA];constructor
 . rintro⟨y,hy,e⟩
   obtain⟨h1,h2⟩:=zcf.1 hy
   rwa[<-num_inj hs h1 hx e]
 grind
def sched_time{s:zam}(hs:zb2 s)(m:zaJ){c:aD}(hc:AscT c){x:zaY}(hx:x∈s.c):mfind x.j (schedM s m c [])=timeS s m c x:=by rw[zE7 s m _ c hc (λ_ _ h=>by simp[mfind]at h)];unfold timeS;simp only[zH4 hs m _ hx];rfl
def asc_sorted{l:aC}(h:l.Pairwise (·< ·)):l.mergeSort leI=l:=
 List.mergeSort_of_pairwise (h.imp λh=>by grind)
def sorted_of{l r:aC}(hl:l.Nodup)(hr:r.Pairwise (·< ·))(h:∀k,k∈l↔k∈r):l.mergeSort leI=r:=by
 have hp:List.Perm l r:=(zcE hl (hr.imp λh e=>by omega)).2 h;have h1:(l.mergeSort leI).Pairwise (λa b=>leI a b=true):=List.pairwise_mergeSort (λa b c=>by grind) (λa b=>by grind) l;refine List.Perm.eq_of_pairwise (le:=λa b=>leI a b=true) (λa b _ _ h1 h2=>?_) h1 (hr.imp λh=>by grind) ((List.mergeSort_perm l leI).trans hp)
 grind
def zDy{s:zam}(hs:zb2 s)(f:aY):((schedL s f).map (·.1)).Pairwise (·< ·):=by
 unfold schedL;simp only[List.map_filterMap];have h:=zGu hs.scripts;rw[zdW]at h;refine List.Pairwise.filterMap _ (λa b hab x hx y hy=>?_) h
 simp_all
def zuE{s:zam}{f:aY}{p:Int×Int}:p∈schedL s f↔∃x∈s.c,f x=some p.2/\x.j=p.1:=by
 unfold schedL;rw[zdN];constructor
 . rintro⟨x,hx,h⟩
   obtain⟨t,ht,rfl⟩:=zdf.1 h
   grind
 grind
structure Times(s:zam)(f:aY)(M:aJ):Prop where
 nd:(M.map (·.1)).Nodup
 num:∀k∈M.map (·.1),∃x∈s.c,x.j=k
 val:∀x∈s.c,mfind x.j M=f x
def Times.keys{s:zam}{f:aY}{M:aJ}(hs:zb2 s)(h:Times s f M):(M.map (·.1)).mergeSort leI=(schedL s f).map (·.1):=by
 refine sorted_of h.nd (zDy hs f) (λk=>?_);constructor
 . intro hk;obtain⟨x,hx,rfl⟩:=h.num k hk
   cases hf:mfind x.j M with
   |none=>exact absurd hk (zqB.1 hf)
   |some t=>exact zbA.2 ⟨(x.j,t),zuE.2 ⟨x,hx,by rw[<-h.val x hx];exact hf,rfl⟩,rfl⟩
 .intro hk;obtain⟨p,hp,rfl⟩:=zbA.1 hk;obtain⟨x,hx,h1,h2⟩:=zuE.1 hp;apply zfm;intro hn;have:=zqB.2 hn;rw[<-h2,h.val x hx,h1]at this;cases this
def Times.find{s:zam}{f:aY}{M:aJ}(h:Times s f M){p:Int×Int}(hp:p∈schedL s f):mfind p.1 M=some p.2:=by obtain⟨x,hx,h1,h2⟩:=zuE.1 hp;rw[<-h2,h.val x hx,h1]
def Times.few{s:zam}{f:aY}{M:aJ}(hs:zb2 s)(h:Times s f M):M.length<=60:=by have h1:=congrArg List.length (h.keys hs);have h2:(schedL s f).length<=s.c.length:=zdB _ _;have h3:=hs.scripts.1;simp at h1;omega
def zFd{s:zam}(hs:zb2 s)(m:zaJ){c:aD}(hc:AscT c):Times s (timeS s m c) (schedM s m c []) where
 nd:=(zyP s m c (M:=[]) (by simp)).1
 num:=λk hk=>((zyP s m c (M:=[]) (by simp)).2 k hk).resolve_right (by simp)
 val:=λx hx=>sched_time hs m hc hx
def Times.addL{s:zam}{f:aY}{M:aJ}(h:Times s f M){l:aC}{t:Int}(hl:∀n∈l,∃x∈s.c,x.j=n)(ht:∀x∈s.c,∀a,f x=some a->a<=t):Times s (λx=>(f x).or (if x.j∈l then some t else none)) (addL l t M) where
 nd:=(zxA l h.nd).1
 num:=λk hk=>((zxA l h.nd).2 k hk).elim (hl k) (h.num k)
 val:=λx hx=>by
  rw[zCC _ l (λk a hk=>?_),h.val x hx];have hm:k∈M.map (·.1):=zfm λq=>by rw[zqB.2 q]at hk;cases hk
  obtain⟨y,hy,rfl⟩:=h.num k hm;rw[h.val y hy]at hk;exact ht y hy a hk
def lessS_time{a b:zbf}(h:lessS b a=false):a.n<=b.n:=by
 unfold lessS at h
 grind
def zFJ(l:aD):AscT (appS l).1:=by
 unfold appS;split
 .exact List.Pairwise.nil
 .exact(zJg l).imp λh=>lessS_time h
def appS_mem{l:aD}{x:zan}(h:x∈(appS l).1):x∈apKeep l:=by
 unfold appS at h;split at h
 .simp at h
 .exact(zg7 _).mem_iff.1 h
def zAM:∀(c:aD) (t:Int),t<=c.foldl (λt a=>if t<a.a.n then a.a.n else t) t/\∀a∈c,a.a.n<=c.foldl (λt a=>if t<a.a.n then a.a.n else t) t
 |[],t=>⟨zfP _,by simp⟩
 |x::r,t=>by
   obtain⟨h1,h2⟩:=zAM r (if t<x.a.n then x.a.n else t)
   grind
def zDL{s:zam}{m:zaJ}{c:aD}{x:zaY}{t:Int}(h:timeS s m c x=some t):∃a∈c,scopeB s m a x=true/\a.a.n=t:=by
 obtain⟨a,ha,e⟩:=zdf.1 h
 grind
def ap0(l:aD):tReg zbR zT 0 ⟨[(0,sD l)],[]⟩=(some ⟨[(0,sD l)],[]⟩):=by kernel_rfl
def ap1(l:aD):tReg zbR zT 1 ⟨[(0,sD l)],[]⟩=(some ⟨[(0,sD l),(4,AV.map 14)],[(14,⟨0,135,[],false⟩)]⟩):=by kernel_rfl
def ap2(l:aD):tReg zbR zT 2 ⟨[(0,sD l),(4,AV.map 14)],[(14,⟨0,135,[],false⟩)]⟩=(some ⟨[(0,sD l),(4,AV.map 14),(5,AV.map 15)],[(14,⟨0,135,[],false⟩),(15,⟨0,136,[],false⟩)]⟩):=by kernel_rfl
def ap3(l:aD):tReg zbR zT 3 ⟨[(0,sD l),(4,AV.map 14),(5,AV.map 15)],[(14,⟨0,135,[],false⟩),(15,⟨0,136,[],false⟩)]⟩=(some ⟨[(4,AV.map 14),(5,AV.map 15),(16,sD l),(17,I ((↑(mB l).length:Int))),(18,I 0)],[(14,⟨0,135,[],false⟩),(15,⟨0,136,[],false⟩)]⟩):=by kernel_rfl
def ap4(l:aD)(m1:ac)(m2:aX)(n:Int)(i:Int):tReg zbR zT 4 ⟨[(4,AV.map 14),(5,AV.map 15),(16,sD l),(17,I n),(18,I i)],[(14,gN (mR m1)),(15,gI (mP m2))]⟩=(some ⟨[(4,AV.map 14),(5,AV.map 15),(16,sD l),(17,I n),(18,I i),(19,B (decide (i<n)))],[(14,gN (mR m1)),(15,gI (mP m2))]⟩):=by kernel_rfl
def ap5(l:aD)(m1:ac)(m2:aX)(n:Int)(i:Int):tReg zbR zT 5 ⟨[(4,AV.map 14),(5,AV.map 15),(16,sD l),(17,I n),(18,I i)],[(14,gN (mR m1)),(15,gI (mP m2))]⟩=(chk ((0:Int)<=i)<|
 elemD zb4 (mB l) i.toNat λ(c0:zan) =>
 some ⟨[(4,AV.map 14),(5,AV.map 15),(7,gQ 7 6),(16,sD l),(17,I n),(18,I i)],[(7,pN c0),(14,gN (mR m1)),(15,gI (mP m2))]⟩):=by kernel_rfl
def ap6(l:aD)(m1:ac)(m2:aX)(n:Int)(i:Int)(x:zan):tReg zbR zT 6 ⟨[(4,AV.map 14),(5,AV.map 15),(7,gQ 7 6),(16,sD l),(17,I n),(18,I i)],[(7,pN x),(14,gN (mR m1)),(15,gI (mP m2))]⟩=(callD zag (cw 31 [pB x] []) λ(r0:Bool)=>some ⟨[(4,AV.map 14),(5,AV.map 15),(7,gQ 7 6),(16,sD l),(17,I n),(18,I i),(24,B (!r0))],[(7,pN x),(14,gN (mR m1)),(15,gI (mP m2))]⟩):=by kernel_rfl
def ap7(l:aD)(m1:ac)(m2:aX)(n:Int)(i:Int)(x:zan):tReg zbR zT 7 ⟨[(4,AV.map 14),(5,AV.map 15),(7,gQ 7 6),(16,sD l),(17,I n),(18,I i)],[(7,pN x),(14,gN (mR m1)),(15,gI (mP m2))]⟩=(some ⟨[(4,AV.map 14),(5,AV.map 15),(7,gQ 7 6),(8,gQ 8 2),(16,sD l),(17,I n),(18,I i)],[(7,pN x),(8,pT (x.a.b,x.a.B)),(14,gN (mR m1)),(15,gI (mP m2))]⟩):=by kernel_rfl
def ap8(l:aD)(m1:ac)(m2:aX)(n:Int)(i:Int)(x:zan)(k:Int×Int):tReg zbR zT 8 ⟨[(4,AV.map 14),(5,AV.map 15),(7,gQ 7 6),(8,gQ 8 2),(16,sD l),(17,I n),(18,I i)],[(7,pN x),(8,pT k),(14,gN (mR m1)),(15,gI (mP m2))]⟩=(mapD zP 137 true zb4 (pB (⟨⟨0,0,0⟩,0,0,0⟩)) (mR m1) (AV.agg (zcd k)) λ(c0:zan) (b1:Bool)=>some ⟨[(4,AV.map 14),(5,AV.map 15),(7,gQ 7 6),(8,gQ 8 2),(9,gQ 9 6),(10,B b1),(16,sD l),(17,I n),(18,I i)],[(7,pN x),(8,pT k),(9,pN c0),(14,gN (mR m1)),(15,gI (mP m2))]⟩):=by kernel_rfl
def ap9(l:aD)(m1:ac)(m2:aX)(n:Int)(i:Int)(x:zan)(k:Int×Int)(z:zan)(b:Bool):tReg zbR zT 9 ⟨[(4,AV.map 14),(5,AV.map 15),(7,gQ 7 6),(8,gQ 8 2),(9,gQ 9 6),(10,B b),(16,sD l),(17,I n),(18,I i)],[(7,pN x),(8,pT k),(9,pN z),(14,gN (mR m1)),(15,gI (mP m2))]⟩=(some ⟨[(4,AV.map 14),(5,AV.map 15),(7,gQ 7 6),(8,gQ 8 2),(9,gQ 9 6),(16,sD l),(17,I n),(18,I i),(39,B (!b))],[(7,pN x),(8,pT k),(9,pN z),(14,gN (mR m1)),(15,gI (mP m2))]⟩):=by kernel_rfl
def ap10(l:aD)(m1:ac)(m2:aX)(n:Int)(i:Int)(x:zan)(k:Int×Int):tReg zbR zT 10 ⟨[(4,AV.map 14),(5,AV.map 15),(7,gQ 7 6),(8,gQ 8 2),(16,sD l),(17,I n),(18,I i)],[(7,pN x),(8,pT k),(14,gN (mR m1)),(15,gI (mP m2))]⟩=(msetD zP 137 62 (AV.agg (zcd k)) (pB x) (mR m1) λ(m0:aI)=>some ⟨[(4,AV.map 14),(5,AV.map 15),(16,sD l),(17,I n),(18,I i)],[(14,gN m0),(15,gI (mP m2))]⟩):=by kernel_rfl
def ap11(l:aD)(m1:ac)(m2:aX)(n:Int)(i:Int)(x:zan)(k:Int×Int)(z:zan):tReg zbR zT 11 ⟨[(4,AV.map 14),(5,AV.map 15),(7,gQ 7 6),(8,gQ 8 2),(9,gQ 9 6),(16,sD l),(17,I n),(18,I i)],[(7,pN x),(8,pT k),(9,pN z),(14,gN (mR m1)),(15,gI (mP m2))]⟩=(some ⟨[(4,AV.map 14),(5,AV.map 15),(8,gQ 8 2),(16,sD l),(17,I n),(18,I i),(45,B (!(x.a.n==z.a.n&&(x.a.b==z.a.b&&(x.a.B==z.a.B&&true))&&(x.r==z.r&&(x.y==z.y&&(x.q==z.q&&true))))))],[(8,pT k),(14,gN (mR m1)),(15,gI (mP m2))]⟩):=by kernel_rfl
def ap12(l:aD)(m1:ac)(m2:aX)(n:Int)(i:Int)(x:zan)(k:Int×Int):tReg zbR zT 12 ⟨[(4,AV.map 14),(5,AV.map 15),(8,gQ 8 2),(16,sD l),(17,I n),(18,I i)],[(8,pT k),(14,gN (mR m1)),(15,gI (mP m2))]⟩=(msetD zP 137 4 (AV.agg (zcd k)) (B true) (mP m2) λ(m0:aI)=>some ⟨[(4,AV.map 14),(5,AV.map 15),(16,sD l),(17,I n),(18,I i)],[(14,gN (mR m1)),(15,gI m0)]⟩):=by kernel_rfl
def ap13(l:aD)(m1:ac)(m2:aX)(n:Int)(i:Int):tReg zbR zT 13 ⟨[(4,AV.map 14),(5,AV.map 15),(16,sD l),(17,I n),(18,I i)],[(14,gN (mR m1)),(15,gI (mP m2))]⟩=(some ⟨[(4,AV.map 14),(5,AV.map 15),(16,sD l),(17,I n),(18,I (w64 (i+1)))],[(14,gN (mR m1)),(15,gI (mP m2))]⟩):=by kernel_rfl
def ap14(m1:ac)(m2:aX):tReg zbR zT 14 ⟨[(4,AV.map 14),(5,AV.map 15)],[(14,gN (mR m1)),(15,gI (mP m2))]⟩=(some ⟨[(4,AV.map 14),(5,AV.map 15),(11,AV.row 11 6 0 0)],[(11,⟨6,62,[],false⟩),(14,gN (mR m1)),(15,gI (mP m2))]⟩):=by kernel_rfl
def ap15(m1:ac)(m2:aX):tSeg zbR zT 15 0 1 ⟨[(4,AV.map 14),(5,AV.map 15),(11,AV.row 11 6 0 0)],[(11,⟨6,62,[],false⟩),(14,gN (mR m1)),(15,gI (mP m2))]⟩=(some ⟨[(49,AV.map 14),(4,AV.map 14),(5,AV.map 15),(11,AV.row 11 6 0 0)],[(11,⟨6,62,[],false⟩),(14,gN (mR m1)),(15,gI (mP m2))]⟩):=by kernel_rfl
def ap17(c:aD)(m2:aX)(p:Addr)(k:Int×Int)(x:zan):tSeg zbR zT 17 1 6 ⟨[(5,AV.map 15),(11,gR 11 6 (mB c)),(50,AV.v (.pointer (some p))),(53,AV.tup [AV.agg [I k.1,I k.2],AV.agg [I x.a.n,I x.a.b,I x.a.B,I x.r,I x.y,I x.q]])],[(11,gM (mB c)),(15,gI (mP m2))]⟩=(some ⟨[(13,gQ 13 6),(12,gQ 12 2),(55,AV.agg [I x.a.n,I x.a.b,I x.a.B,I x.r,I x.y,I x.q]),(54,AV.agg [I k.1,I k.2]),(5,AV.map 15),(11,gR 11 6 (mB c)),(50,AV.v (.pointer (some p))),(53,AV.tup [AV.agg [I k.1,I k.2],AV.agg [I x.a.n,I x.a.b,I x.a.B,I x.r,I x.y,I x.q]])],[(13,pN x),(12,pT k),(11,gM (mB c)),(15,gI (mP m2))]⟩):=by kernel_rfl
def ap18(c:aD)(m2:aX)(p:Addr)(k:Int×Int)(x:zan):tReg zbR zT 18 ⟨[(5,AV.map 15),(11,gR 11 6 (mB c)),(12,gQ 12 2),(13,gQ 13 6),(50,AV.v (.pointer (some p)))],[(11,gM (mB c)),(12,pT k),(13,pN x),(15,gI (mP m2))]⟩=(mapD zP 137 false dBool (B false) (mP m2) (AV.agg (zcd k)) λ(c0:Bool) (b1:Bool)=>some ⟨[(5,AV.map 15),(11,gR 11 6 (mB c)),(13,gQ 13 6),(50,AV.v (.pointer (some p))),(59,B (!c0))],[(11,gM (mB c)),(13,pN x),(15,gI (mP m2))]⟩):=by kernel_rfl
def ap19(c:aD)(m2:aX)(p:Addr)(k:Int×Int)(x:zan):tReg zbR zT 19 ⟨[(5,AV.map 15),(11,gR 11 6 (mB c)),(13,gQ 13 6),(50,AV.v (.pointer (some p)))],[(11,gM (mB c)),(13,pN x),(15,gI (mP m2))]⟩=(chk ((mB c).length=(mB c).length)<|
 chk (((mB c).length+1)*(48+1)<=1099511627776)<|
 chk ((mB c++[[AV.v (Go.Value.int IntKind.i64 x.a.n),AV.v (Go.Value.int IntKind.i64 x.a.b),AV.v (Go.Value.int IntKind.i64 x.a.B),AV.v (Go.Value.int IntKind.i64 x.r),AV.v (Go.Value.int IntKind.i64 x.y),AV.v (Go.Value.int IntKind.i64 x.q)]]).length=(mB c++[[AV.v (Go.Value.int IntKind.i64 x.a.n),AV.v (Go.Value.int IntKind.i64 x.a.b),AV.v (Go.Value.int IntKind.i64 x.a.B),AV.v (Go.Value.int IntKind.i64 x.r),AV.v (Go.Value.int IntKind.i64 x.y),AV.v (Go.Value.int IntKind.i64 x.q)]]).length)<|
 some ⟨[(5,AV.map 15),(11,gR 11 6 ((mB c)++([[I x.a.n,I x.a.b,I x.a.B,I x.r,I x.y,I x.q]]))),(50,AV.v (.pointer (some p)))],[(11,⟨6,62,(mB c)++([zai x]),false⟩),(15,gI (mP m2))]⟩):=by kernel_rfl
def ap20(c:aD):tReg zbR zT 20 ⟨[(11,gR 11 6 (mB c))],[(11,gM (mB c))]⟩=(some ⟨[(11,gR 11 6 (mB c)),(66,B (decide (24<(↑(mB c).length:Int))))],[(11,gM (mB c))]⟩):=by kernel_rfl
def ap21(u:Unit):tReg zbR zT 21 ⟨[],[]⟩=(some ⟨[(2,bH),(3,I 3)],[]⟩):=by kernel_rfl
def ap22(c:aD):tReg zbR zT 22 ⟨[(11,gR 11 6 (mB c))],[(11,gM (mB c))]⟩=(callD zfl (cw 69 [gR 1000 6 (mB c),AV.fn 70 []] [(1000,gM (mB c))]) λ(r0:(List zan))=>some ⟨[(11,AV.row 11 6 0 ((mB c).length))],[(11,gM (mB r0))]⟩):=by kernel_rfl
def ap23(c:aD):tReg zbR zT 23 ⟨[(11,gR 11 6 (mB c))],[(11,gM (mB c))]⟩=(some ⟨[(2,gR 11 6 (mB c)),(3,I 0)],[(11,gM (mB c))]⟩):=by kernel_rfl
def zAk(a:zan):cw 31 [.agg (zai a)] []=some (zat (zeA a)):=by
 refine zIU ?_;rw[zwB,zas];unfold zeA
 cases stampB a.a with
 |false=>rfl
 |true =>
   simp only[zO,zL,zeB,zcy]
   repeat' split
   all_goals refine congrArg (λb=>some (zat b)) ?_
   all_goals(rw[zdi];simp;try grind)
def swoA:Go.Sort.SWO apLt where
 irrefl:=λx=>by unfold apLt lessS;simp
 trans:=λx y z h1 h2=>by unfold apLt lessS at h1 h2 ⊢;grind
 ntrans:=λx y z h1 h2=>zmV h2 h1
theorem cmpA[Dr](x y:zan):∃v:Int,cw 70 [.agg (zai x),.agg (zai y)] []=some (.v (.int .i64 v),[])/\decide (v<0)=apLt x y:=
 ⟨_,zAw (by rw[zzi,za7]),cmpS_neg _ _⟩
def sortA_ok:CallOK zP (single 69 zOrc):=
 zGv (C:=zC) (A:=zA) (ty:=62) (nT:=zai) (lt:=apLt) layA rfl (by kernel_rfl) aggA sizeA (by decide) (λ_=>rfl) (by kernel_rfl) swoA (@cmpA drOn) (λargs ms=>by unfold zOrc;simp(decide:=true) only [if_false,if_true])
def c_sortA(l:aD)(h:l.length<1000000):cw 69 [.row 1000 6 0 (mB l).length,.fn 70 []] [(1000,gM (mB l))]=some (zfj (sortS apLt l)):=by
 rw[zac];refine ziz sortA_ok ?_;have hz:∀args ms,zOrc 69 args ms=oSort 6 62 70 zai apLt args ms:=λargs ms=>by unfold zOrc;simp(decide:=true) only [if_false,if_true]
 exact(hz _ _).trans (zDq (λx y h=>zb4.inj h) h)
def acC:Code:=(zbR.fn.body).getD .skip
def acO(j:Nat):Array Oper:=opsAt j acC
def acD(j:Nat):Bool:=ztI j acC
def ac_hb:zbR.fn.body=some acC:=by kernel_rfl
def ac_shape:acC=(.seq (.region 0 (acO 0) (acD 0)) (.seq (.region 1 (acO 1) (acD 1)) (.seq (.region 2 (acO 2) (acD 2)) (.seq (.seq (.region 3 (acO 3) (acD 3)) (.block 0 (.loop (.seq (.region 4 (acO 4) (acD 4)) (.seq (.cond (.tmp 19) .skip (.exit 0)) (.seq (.block 1 (.seq (.region 5 (acO 5) (acD 5)) (.seq (.seq (.region 6 (acO 6) (acD 6)) (.cond (.tmp 24) (.exit 1) .skip)) (.seq (.region 7 (acO 7) (acD 7)) (.seq (.region 8 (acO 8) (acD 8)) (.seq (.region 9 (acO 9) (acD 9)) (.cond (.tmp 39) (.region 10 (acO 10) (acD 10)) (.seq (.region 11 (acO 11) (acD 11)) (.cond (.tmp 45) (.region 12 (acO 12) (acD 12)) .skip))))))))) (.region 13 (acO 13) (acD 13)))))))) (.seq (.region 14 (acO 14) (acD 14)) (.seq (.seq (.region 15 (acO 15) false) (.block 2 (.loop (.seq (.region 16 (acO 16) false) (.seq (.cond (.tmp 52) .skip (.exit 2)) (.block 3 (.seq (.region 17 (acO 17) false) (.seq (.region 18 (acO 18) (acD 18)) (.cond (.tmp 59) (.region 19 (acO 19) (acD 19)) .skip))))))))) (.seq (.seq (.region 20 (acO 20) (acD 20)) (.cond (.tmp 66) (.seq (.region 21 (acO 21) (acD 21)) .ret) .skip)) (.seq (.region 22 (acO 22) (acD 22)) (.seq (.region 23 (acO 23) (acD 23)) .ret))))))))):=by kernel_rfl
def ac_r15:regOf 15 acC=some (.region 15 (acO 15) false):=by kernel_rfl
def ac_r17:regOf 17 acC=some (.region 17 (acO 17) false):=by kernel_rfl
def ac_n:zbR.fn.ntmps<=1000:=by decide
def ac_enters:enters zbR.P 20=true:=by kernel_rfl
section
abbrev NA:Nat:=zbR.fn.ntmps
abbrev PA:Program:=zbR.P
abbrev bE3(m1:ac):Nat×Ent:=(14,gN (mR m1))
abbrev bD3(m2:aX):Nat×Ent:=(15,gI (mP m2))
abbrev stL3(l:aD)(i:Int)(m:ah):St:=
 ⟨[(4,.map 14),(5,.map 15),(16,.sl 6 (mB l)),(17,I (mB l).length),(18,I i)],[bE3 m.1,bD3 m.2]⟩
abbrev stM3(m:ah):St:=⟨[(4,.map 14),(5,.map 15)],[bE3 m.1,bD3 m.2]⟩
section
variable{w0:World}{S0:aB}{κ0:Kap}{K:aB}{a:Act}{w:World}
def acStep{j:Nat}{st st':St}{X:Sat2}(hX:Stable X)(ht:tReg zbR zT j st=some st')
  (h:NowP w0 S0 κ0 K NA X st a w) {Q:aO} (hQ:∀a' w',NowP w0 S0 κ0 K NA X st' a' w'->Q .normal a' w') (hr:regOf j acC=some (.region j (acO j) (acD j)):=by kernel_rfl):(Code.region j (acO j) (acD j)).wp PA Q a w:=stepP hX ac_hb ac_n hr ht h hQ
def ap_ne(x z:zan):(!(x.a.n==z.a.n&&(x.a.b==z.a.b&&(x.a.B==z.a.B&&true))&&(x.r==z.r&&(x.y==z.y&&(x.q==z.q&&true)))))=!decide (x=z):=by
 congr 1;rw[zdi];obtain⟨⟨a,b,c⟩,d,e,f⟩:=x;obtain⟨⟨a',b',c'⟩,d',e',f'⟩:=z
 simp_all
def ac_maps{l:aD}(hl:l.length<1000000)(h:NowP w0 S0 κ0 K NA X0 ⟨[(0,.sl 6 (mB l)),(4,.map 14),(5,.map 15)],[bE3 [],bD3 []]⟩ a w){Q:aO}
  (hQ:∀a' w',NowP w0 S0 κ0 K NA X0 (stM3 (apMaps l)) a' w'->Q .normal a' w'):(Code.seq (.region 3 (acO 3) (acD 3)) (.block 0 (.loop (.seq (.region 4 (acO 4) (acD 4)) (.seq (.cond (.tmp 19) .skip (.exit 0)) (.seq (.block 1 (.seq (.region 5 (acO 5) (acD 5)) (.seq (.seq (.region 6 (acO 6) (acD 6)) (.cond (.tmp 24) (.exit 1) .skip)) (.seq (.region 7 (acO 7) (acD 7)) (.seq (.region 8 (acO 8) (acD 8)) (.seq (.region 9 (acO 9) (acD 9)) (.cond (.tmp 39) (.region 10 (acO 10) (acD 10)) (.seq (.region 11 (acO 11) (acD 11)) (.cond (.tmp 45) (.region 12 (acO 12) (acD 12)) .skip))))))))) (.region 13 (acO 13) (acD 13)))))))).wp PA Q a w:=by
 refine wp_seq (acStep Stable.none (ap3 l) h (λa1 w1 h1=>?_));refine wp_block (wp_loop (λa w=>∃k:Nat,k<=l.length/\NowP w0 S0 κ0 K NA X0 (stL3 l k ((l.take k).foldl apStep ([],[]))) a w) (λa _=>l.length-cnt a 18) ⟨0,zc4 _,h1⟩ ?_)
 rintro a w ⟨k,hk,hn⟩
 have hc0:cnt a 18=k:=by rw[hn.cnt (n:=(k:Int)) rfl];simp
 generalize hst:(l.take k).foldl apStep ([],[])=st at hn;obtain⟨m1,m2⟩:=st;refine wp_seq (acStep Stable.none (ap4 l m1 m2 _ _) hn (λa2 w2 h2=>?_));refine wp_seq (wp_cond (h2.bool (b:=decide ((k:Int)<(mB l).length)) rfl) ?_);by_cases hlt:k<l.length
 case neg =>
  rw[decide_eq_false (by simp;omega),iNs]
  have e:apMaps l=(m1,m2):=by
   unfold apMaps
   grind
  exact wp_exit (hQ _ _ (by rw[e];exact h2.trim Stable.none [4,5] [] (by kernel_rfl)))
 rw[decide_eq_true (by simp;omega),if_pos rfl];refine wp_skip ?_;have h3:=h2.trim Stable.none [4,5,16,17,18] [] (st':=stL3 l k (m1,m2)) (by kernel_rfl)
 have hnext:(l.take (k+1)).foldl apStep ([],[])=apStep (m1,m2) l[k]:=by rw[zbP hlt,zh9,hst];rfl
 have t5:=ap5 l m1 m2 (mB l).length k;rw[cPQ,zdY,show((k:Int)).toNat=k from rfl,zaa hlt,zae]at t5;generalize l[k]=x at t5 hnext
 have fin:∀{Q':aO} (m:ah) (a1:Act) (w1:World),apStep (m1,m2) x=m->NowP w0 S0 κ0 K NA X0 (stL3 l k m) a1 w1->(∀a' w',((∃k:Nat,k<=l.length/\NowP w0 S0 κ0 K NA X0 (stL3 l k ((l.take k).foldl apStep ([],[]))) a' w')/\l.length-cnt a' 18<l.length-cnt a 18)->Q' .normal a' w')->(Code.region 13 (acO 13) (acD 13)).wp PA Q' a1 w1:=by
  intro Q' m a1 w1 hm hh hq;have t:=ap13 l m.1 m.2 (mB l).length k;rw[w6Q]at t;refine acStep Stable.none t hh (λa6 w6 h6=>hq _ _ ⟨⟨k+1,hlt,?_⟩,?_⟩)
  .grind
  . have:cnt a6 18=k+1:=by rw[h6.cnt (n:=(k:Int)+1) rfl];omega
    omega
 refine wp_seq (wp_block (wp_seq (acStep Stable.none t5 h3 (λa5 w5 h5=>?_))));have t6:=ap6 l m1 m2 (mB l).length k x;rw[zAk,zas]at t6;refine wp_seq (wp_seq (acStep Stable.none t6 h5 (λa6 w6 h6=>?_)));refine wp_cond (h6.bool (b:=!zeA x) rfl) ?_
 cases hv:zeA x with
 |false=>rw[if_pos (by rfl)];exact wp_exit (fin (m1,m2) _ _ (by unfold apStep;rw[hv];rfl) (h6.trim Stable.none [4,5,16,17,18] [7] (by kernel_rfl)) (λ_ _ q=>q))
 |true =>
   rw[iNs];refine wp_skip ?_;have h7:=h6.trim Stable.none [4,5,7,16,17,18] [] (st':=⟨[(4,.map 14),(5,.map 15),(7,.loc 7 6 0 0),(16,.sl 6 (mB l)),(17,I (mB l).length),(18,I k)],[(7,pN x),bE3 m1,bD3 m2]⟩) (by kernel_rfl);refine wp_seq (acStep Stable.none (ap7 l m1 m2 _ k x) h7 (λa8 w8 h8=>?_));have t8:=ap8 l m1 m2 (mB l).length k x (idA x);rw[zyL]at t8;refine wp_seq (acStep Stable.none t8 h8 (λa9 w9 h9=>?_));refine wp_seq (acStep Stable.none (ap9 l m1 m2 _ k x (idA x) _ _) h9 (λa10 w10 h10=>?_));refine wp_cond (h10.bool (b:=!(mfind (idA x) m1).isSome) rfl) ?_
   cases hf:mfind (idA x) m1 with
   |none=>rw[if_pos (by rfl)];rw[hf]at h10;have h11:=h10.trim Stable.none [4,5,7,8,16,17,18] [9] (st':=⟨[(4,.map 14),(5,.map 15),(7,.loc 7 6 0 0),(8,.loc 8 2 0 0),(16,.sl 6 (mB l)),(17,I (mB l).length),(18,I k)],[(7,pN x),(8,pT (idA x)),bE3 m1,bD3 m2]⟩) (by kernel_rfl);have t10:=ap10 l m1 m2 (mB l).length k x (idA x);rw[zyQ]at t10;exact acStep Stable.none t10 h11 (λa12 w12 h12=>fin (mput (idA x) x m1,m2) _ _ (by unfold apStep;simp_all) h12 (λ_ _ q=>q))
   |some z =>
     rw[iNs];rw[hf]at h10;have h11:=h10.trim Stable.none [4,5,7,8,9,16,17,18] [] (st':=⟨[(4,.map 14),(5,.map 15),(7,.loc 7 6 0 0),(8,.loc 8 2 0 0),(9,.loc 9 6 0 0),(16,.sl 6 (mB l)),(17,I (mB l).length),(18,I k)],[(7,pN x),(8,pT (idA x)),(9,pN z),bE3 m1,bD3 m2]⟩) (by kernel_rfl);have t11:=ap11 l m1 m2 (mB l).length k x (idA x) z;rw[ap_ne]at t11;refine wp_seq (acStep Stable.none t11 h11 (λa12 w12 h12=>?_));refine wp_cond (h12.bool (b:=!decide (x=z)) rfl) ?_;by_cases hxz:x=z
     .rw[decide_eq_true hxz,iNs];exact wp_skip (fin (m1,m2) _ _ (by unfold apStep;simp_all) (h12.trim Stable.none [4,5,16,17,18] [8] (by kernel_rfl)) (λ_ _ q=>q))
     .rw[decide_eq_false hxz,if_pos (by rfl)];rw[decide_eq_false hxz]at h12;have h13:=h12.trim Stable.none [4,5,8,16,17,18] [] (st':=⟨[(4,.map 14),(5,.map 15),(8,.loc 8 2 0 0),(16,.sl 6 (mB l)),(17,I (mB l).length),(18,I k)],[(8,pT (idA x)),bE3 m1,bD3 m2]⟩) (by kernel_rfl);have t12:=ap12 l m1 m2 (mB l).length k x (idA x);rw[zw5]at t12;exact acStep Stable.none t12 h13 (λa14 w14 h14=>fin (m1,mput (idA x) true m2) _ _ (by unfold apStep;simp_all) h14 (λ_ _ q=>q))
def pickA(m2:aX)(p:(Int×Int)×zan):Option zan:=if(mfind p.1 m2).getD false then none else some p.2
def apsOf(m:ah)(done:aF):List zan:=done.filterMap λj=>m.1[j]?.bind (pickA m.2)
def zMO{l:aD}{done:aF}(hd:done.Nodup)(h1:∀i∈done,i<(apMaps l).1.length)(h2:∀i,i<(apMaps l).1.length->i∈done):List.Perm (apsOf (apMaps l) done) (apKeep l):=by
 have hp:List.Perm done (List.range (apMaps l).1.length):=(zcE hd zkR).2 (λi=>⟨λh=>zfH.2 (h1 i h),λh=>h2 i (zfH.1 h)⟩)
 have e:apKeep l=apsOf (apMaps l) (List.range (apMaps l).1.length):=by
  unfold apKeep apsOf;have:(apMaps l).1=(List.range (apMaps l).1.length).filterMap λj=>(apMaps l).1[j]?:=(zuH _).symm
  conv=>lhs;rw[this]
  rw[List.filterMap_filterMap];rfl
 rw[e];exact hp.filterMap _
abbrev sR3(c:aD):Nat×AV:=(11,.row 11 6 0 (mB c).length)
abbrev bR3(c:aD):Nat×Ent:=(11,gM (mB c))
abbrev sP3(r:Nat):Nat×AV:=(50,.v (.pointer (some ⟨r,0,none⟩)))
def ac_range{m:ah}(hl:m.1.length<1000000)
  (h:NowP w0 S0 κ0 K NA X0 ⟨[(4,.map 14),(5,.map 15),(11,.row 11 6 0 0)],[(11,⟨6,62,[],false⟩),bE3 m.1,bD3 m.2]⟩ a w) {Q:aO}
  (hQ:∀done a' w',done.Nodup->(∀i∈done,i<m.1.length)->(∀i,i<m.1.length->i∈done)->NowP w0 S0 κ0 K NA X0 ⟨[sR3 (apsOf m done)],[bR3 (apsOf m done)]⟩ a' w'->Q .normal a' w'):(Code.seq (.region 15 (acO 15) false) (.block 2 (.loop (.seq (.region 16 (acO 16) false) (.seq (.cond (.tmp 52) .skip (.exit 2)) (.block 3 (.seq (.region 17 (acO 17) false) (.seq (.region 18 (acO 18) (acD 18)) (.cond (.tmp 59) (.region 19 (acO 19) (acD 19)) .skip))))))))).wp PA Q a w:=by
 obtain⟨m1,m2⟩:=m;refine wp_seq (wp_region ?_);have z15:(acO 15).size=2:=by kernel_rfl
 rw[z15,show List.range 2=List.range' 0 1++[1]from rfl];refine segP Stable.none ac_hb ac_n ac_r15 (ap15 m1 m2) (by rw[z15];decide) h (λa1 w1 h1=>?_);have h2:=h1.freeze Stable.none ac_n [14] (by kernel_rfl) (st':=⟨[(49,.mp (mR m1)),(4,.mp (mR m1)),(5,.map 15),(11,.row 11 6 0 0)],[(11,⟨6,62,[],false⟩),bD3 m2]⟩) (by kernel_rfl);rw[wpOps_cons];refine zA0 (t:=135) (k:=137) (e:=62) (by unfold opIs;kernel_rfl) (by kernel_rfl) (by decide) h2 (m:=49) (d:=50) rfl (λa3 w3 r q en clock h3=>?_);have h4:=h3.trim Rng.stable [5,11,50] [] (st':=⟨[(5,.map 15),sR3 (apsOf (m1,m2) []),sP3 r],[bR3 (apsOf (m1,m2) []),bD3 m2]⟩) (by kernel_rfl);refine zA2 (it:=50) (d1:=51) (d2:=52) (r:=r) (stf:=λdone=>⟨[(5,.map 15),sR3 (apsOf (m1,m2) done),sP3 r],[bR3 (apsOf (m1,m2) done),bD3 m2]⟩) [5,11,50] (by kernel_rfl) (by unfold opIs;kernel_rfl) (by unfold opIs;kernel_rfl) (by decide) (by decide) (λ_=>rfl) (λ_ _ _=>by kernel_rfl) ?_ h4 ?_
 . intro done j k v hd hdl hjd hkv a w hn
   have hj:j<m1.length:=by have:=(zao.1 hkv).1;simpa using this
   rw[zbx,zaa hj]at hkv
   have hev:apsOf (m1,m2) (done++[j])=apsOf (m1,m2) done++(pickA m2 m1[j]).toList:=by unfold apsOf;rw[List.filterMap_append];congr 1;show(List.filterMap _ [j])=_;rw[zhx];simp only[zaa hj,zae,zj3];cases pickA m2 m1[j]<;>rfl
   have hlen:(apsOf (m1,m2) done).length<1000000:=by have:(apsOf (m1,m2) done).length<=done.length:=zdB _ _;have:=zxP hd (n:=m1.length) (λi hi=>by simpa using hdl i hi);simp only at hl;omega
   simp only[hev];generalize apsOf (m1,m2) done=c at hn hlen ⊢;generalize hx:m1[j]=x at hkv ⊢;obtain⟨ky,x⟩:=x;simp only[zbk,zaj,zbT,zaD,and_true]at hkv;obtain⟨rfl,rfl⟩:=hkv;refine wp_block (wp_seq (wp_region ?_));have z17:(acO 17).size=7:=by kernel_rfl
   rw[z17,show List.range 7=0::(List.range' 1 6++[])from rfl,wpOps_cons];refine zAF (by unfold opIs;kernel_rfl) (by decide) hn (it:=50) (d:=53) rfl (by rw[zbx,zaa hj,hx];rfl) (λa1 w1 h1=>?_);have h2:=h1.trim Rng.stable [5,11,50,53] [] (st':=⟨[(5,.map 15),sR3 c,sP3 r,(53,.tup [.agg (zcd ky),.agg (zai x)])],[bR3 c,bD3 m2]⟩) (by kernel_rfl);refine segP Rng.stable ac_hb ac_n ac_r17 (ap17 c m2 _ ky x) (by rw[z17];decide) h2 (λa3 w3 h3=>?_);have h4:=h3.trim Rng.stable [5,11,12,13,50] [] (st':=⟨[(5,.map 15),sR3 c,(12,.loc 12 2 0 0),(13,.loc 13 6 0 0),sP3 r],[bR3 c,(12,pT ky),(13,pN x),bD3 m2]⟩) (by kernel_rfl);have t18:=ap18 c m2 ⟨r,0,none⟩ ky x;rw[zwV]at t18;refine wp_seq (acStep Rng.stable t18 h4 (λa5 w5 h5=>?_));refine wp_cond (h5.bool (b:=!(mfind ky m2).getD false) rfl) ?_
   cases hdsp:(mfind ky m2).getD false with
   |true =>
     rw[iNs];rw[hdsp]at h5;refine wp_skip ⟨rfl,?_⟩;have e:pickA m2 (ky,x)=none:=by unfold pickA;simp[hdsp]
     rw[e];simp only[Option.toList_none,zcu];exact h5.trim Rng.stable [5,11,50] [13] (by kernel_rfl)
   |false =>
     rw[if_pos (by simp)];rw[hdsp]at h5;have h6:=h5.trim Rng.stable [5,11,13,50] [] (st':=⟨[(5,.map 15),sR3 c,(13,.loc 13 6 0 0),sP3 r],[bR3 c,(13,pN x),bD3 m2]⟩) (by kernel_rfl);have t19:=ap19 c m2 ⟨r,0,none⟩ ky x;rw[zar rfl,zar (by simp;omega),zar rfl]at t19;refine acStep Rng.stable t19 h6 (λa7 w7 h7=>⟨rfl,?_⟩);have e:pickA m2 (ky,x)=some x:=by unfold pickA;simp[hdsp]
     grind
 .intro done hd hdl hall a' w' hn;refine hQ done a' w' hd (λi hi=>by simpa using hdl i hi) (λi hi=>hall i (by simpa using hi)) ?_;exact(hn.trim Rng.stable [11] [15] (by kernel_rfl)).drop
def ac_sort{l c:aD}(hl:l.length<1000000)(hp:List.Perm c (apKeep l))(hc:c.length<1000000):cw 69 [.row 1000 6 0 (mB c).length,.fn 70 []] [(1000,gM (mB c))]=some (zfj (isort apLt (apKeep l))):=by rw[c_sortA c hc,ap_of ((zv2 (lt:=apLt) swoA c).trans hp) (zw4 (lt:=apLt) swoA c)]
def apKeep_len(l:aD):(apKeep l).length<=(apMaps l).1.length:=zdB _ _
def apMaps_len(l:aD):(apMaps l).1.length<=l.length:=by
 have key:∀(r:aD) (st:ah),(r.foldl apStep st).1.length<=st.1.length+r.length:=by
  intro r
  induction r with
  |nil=>intro st;simp
  |cons a r ih =>
    intro st;have h1:=ih (apStep st a)
    have h2:(apStep st a).1.length<=st.1.length+1:=by
     unfold apStep;split
     . split
       .exact zt1
       .split<;>simp
     .simp
    grind
 have:=key l ([],[]);simpa[apMaps]using this
def ac_body{l:aD}(hl:l.length<1000000)(h:NowP w0 S0 κ0 K NA X0 ⟨[(0,.sl 6 (mB l))],[]⟩ a w):acC.wp PA (PostC w0 S0 κ0 K NA .ret (if 24<(apKeep l).length then⟨[(2,.v (.slice none 0 0)),(3,I 3)],[]⟩else⟨[(2,.row 11 6 0 (mB (isort apLt (apKeep l))).length),(3,I 0)],[bR3 (isort apLt (apKeep l))]⟩)) a w:=by
 rw[ac_shape];refine wp_seq (acStep Stable.none (ap0 l) h (λa1 w1 h1=>?_));refine wp_seq (acStep Stable.none (ap1 l) h1 (λa2 w2 h2=>?_));refine wp_seq (acStep Stable.none (ap2 l) h2 (λa3 w3 h3=>?_));refine wp_seq (ac_maps hl h3 (λa4 w4 h4=>?_));refine wp_seq (acStep Stable.none (ap14 _ _) h4 (λa5 w5 h5=>?_));have hml:=apMaps_len l;refine wp_seq (ac_range (m:=apMaps l) (by omega) h5 (λdone a6 w6 d1 d2 d3 h6=>?_));have hp:=zMO d1 d2 d3;generalize apsOf (apMaps l) done=c at h6 hp;have hcl:=hp.length_eq;have hkl:=apKeep_len l;refine wp_seq (wp_seq (acStep Stable.none (ap20 c) h6 (λa7 w7 h7=>?_)));refine wp_cond (h7.bool (b:=decide (24<((mB c).length:Int))) rfl) ?_;by_cases hfew:24<(apKeep l).length
 .rw[decide_eq_true (by simp;omega),if_pos rfl,if_pos hfew];have h8:=h7.trim Stable.none [] [11] (st':=⟨[],[]⟩) (by kernel_rfl);refine wp_seq (acStep Stable.none (ap21 ()) h8 (λa9 w9 h9=>?_));refine wp_ret ⟨rfl,?_⟩;obtain⟨S,κ,hg,_⟩:=h9;exact⟨S,κ,hg⟩
 . rw[decide_eq_false (by simp;omega),iNs,if_neg hfew];refine wp_skip ?_;have h8:=h7.trim Stable.none [11] [] (st':=⟨[sR3 c],[bR3 c]⟩) (by kernel_rfl);have t22:=ap22 c;rw[show List.length (mB c)=(mB c).length from rfl,ac_sort hl hp (by omega),zm6]at t22
   have hlen:(mB c).length=(mB (isort apLt (apKeep l))).length:=by rw[zac,zac,hcl,(zg7 _).length_eq]
   refine wp_seq (acStep Stable.none t22 h8 (λa9 w9 h9=>?_));rw[hlen]at h9;refine wp_seq (acStep Stable.none (ap23 (isort apLt (apKeep l))) h9 (λa10 w10 h10=>?_));refine wp_ret ⟨rfl,?_⟩;obtain⟨S,κ,hg,_⟩:=h10;exact⟨S,κ,hg⟩
end
def appeals_ok:CallOK zP (single 20 zOrc):=by
 intro f args ms r ms' h;unfold single at h;split at h
 case isFalse=>cases h
 rename_i hf;subst hf
 cases ms with
 |cons a m =>
   have hz:zOrc 20 args (a::m)=none:=by unfold zOrc;simp(decide:=true) only [if_false,if_true]
   grind
 |nil =>
 have hz:zOrc 20 args []=zwZ args:=by unfold zOrc;simp(decide:=true) only [if_false,if_true]
 rw[hz]at h;clear hz;unfold zwZ at h;split at h
 case isFalse=>cases h
 rename_i hex;have hsp:=hex.choose_spec;generalize hex.choose=l at h hsp;obtain⟨rfl,hl⟩:=hsp;injection h with h;injection h with h1 h2;subst h1 h2;refine⟨ac_enters,λw S κ vals hvl hS hv hms hinj=>?_⟩;have hf:zbR.P.funcs[20]?=some zbR.fn:=by kernel_rfl
 refine zpB (args:=[.sl 6 (mB l)]) (frz:=false) (ex:=.ret) hf ac_hb (show 1<=zbR.fn.ntmps by decide) hvl hS hv hms hinj (λid=>by simp) (λa hg=>?_) (st:=if 24<(apKeep l).length then⟨[(2,.v (.slice none 0 0)),(3,I 3)],[]⟩else⟨[(2,.row 11 6 0 (mB (isort apLt (apKeep l))).length),(3,I 0)],[bR3 (isort apLt (apKeep l))]⟩) ?_ ?_ ?_
 .obtain⟨S,κ,hg⟩:=hg;exact ac_body hl ⟨S,κ,hg,trivial⟩
 . unfold appS bR3;split
   .kernel_rfl
   .generalize mB (isort apLt (apKeep l))=xs;rw[show zjM zbR.P false zbR.fn ⟨[(2,.row 11 6 0 xs.length),(3,I 0)],[(11,gM xs)]⟩=outOf false ([(11,gM xs)]) (.tup [.row 11 6 0 xs.length,I 0])from by kernel_rfl];simp[outOf,snap,mapO,Ab.look]
 .split<;>kernel_rfl
 .kernel_rfl
def zxC{l:aD}(hl:l.length<1000000):cw 20 [.sl 6 (mB l)] []=some (zeO (appS l)):=by
 refine ziz appeals_ok ?_;show zOrc 20 [.sl 6 (mB l)] []=_
 have hz:zOrc 20 [.sl 6 (mB l)] []=zwZ [.sl 6 (mB l)]:=by unfold zOrc;simp(decide:=true) only [if_false,if_true]
 rw[hz];unfold zwZ;have hex:∃l',[sD l]=[.sl 6 (mB l')]/\l'.length<1000000:=⟨l,rfl,hl⟩
 rw[dif_pos hex];have hsp:=hex.choose_spec;generalize hex.choose=l' at hsp;have h1:=hsp.1;simp only[zN,AV.sl.injEq]at h1;have:l=l':=Eq.mp (TyD.minj zb4) h1;subst this;rfl
end
section
open Go.Ab Go.Shelf
def sortsI:AnyZI.SortsIn zP layS_ren Fence.wide 4:=
 ⟨λblk off cap ss W hH hblk hsz=>callsIn_wide.2 (AnyM.slices_Sort_int layI blk off cap ss W hH hblk hsz),λp cap W=>callsIn_wide.2 (AnyM.slices_Sort_int_none layI p cap W)⟩
def keysK_ok:CallOK zP (single 74 zOrc):=
 keys_ok (fk:=126) layK rfl rfl (by kernel_rfl) (λargs ms=>by unfold zOrc;simp(decide:=true) only [if_false,if_true];cases ms<;>rfl)
def keysL_ok:CallOK zP (single 59 zOrc):=
 keys_ok (fk:=102) layL rfl rfl (by kernel_rfl) (λargs ms=>by unfold zOrc;simp(decide:=true) only [if_false,if_true];cases ms<;>rfl)
def oOne(fk:FuncId):zcO:=λ_ args ms=>match ms with|[]=>zle fk args|_=>none
def sortedK_ok:CallOK zP (single 58 (oOne 126)):=
 zJX layS { layK with } sortsI rfl rfl rfl (by kernel_rfl) (by kernel_rfl) (by kernel_rfl) (λ_ _=>rfl)
def sortedL_ok:CallOK zP (single 58 (oOne 102)):=
 zJX layS { layL with } sortsI rfl rfl rfl (by kernel_rfl) (by kernel_rfl) (by kernel_rfl) (λ_ _=>rfl)
def zIg:CallOK zP (single 58 zOrc):=by
 intro g args ms r ms' h;unfold single at h;split at h
 case isFalse=>cases h
 rename_i hg;subst hg;have hz:zOrc 58 args ms=match ms with|[]=>(zle 126 args).or (zle 102 args)|_=>none:=by unfold zOrc;simp(decide:=true) only [if_false,if_true];cases ms<;>rfl
 rw[hz]at h
 cases ms with
 |cons a b=>cases h
 |nil =>
   simp only at h
   cases h1:zle 126 args with
   |some q=>rw[h1,Option.some_or]at h;injection h with h;subst h;exact sortedK_ok _ args [] r ms' (by unfold single oOne;rw[if_pos rfl];exact h1)
   |none=>rw[h1,Option.none_or]at h;exact sortedL_ok _ args [] r ms' (by unfold single oOne;rw[if_pos rfl];exact h)
def W64(k:Int):Prop:=-9223372036854775808<=k/\k<=9223372036854775807
def keysOf_K:∀l:List (Int×Bool),keysOf (mM l)=some (l.map (·.1))
 |[]=>rfl
 |(k,v)::r=>by simp only[zbX];rw[<-zbk,<-keysOf_K r];rfl
def c_keysK(l:aS):cw 74 [.mp (mM l)] []=some (zfh l):=
 ziz keysK_ok (show zOrc 74 [.mp (mM l)] []=some (zfh l)by unfold zOrc;simp(decide:=true) only [if_false,if_true];rfl)
def c_sortedK(l:aS)(hl:l.length<=1000000)(hw:∀k∈l.map (·.1),W64 k)(hn:(l.map (·.1)).Nodup):cw 58 [.fn 126 [.fa 0 [[.mp (mM l)]]]] []=some (zeW ((l.map (·.1)).mergeSort leI)):=by
 refine ziz zIg ?_;show zOrc 58 [.fn 126 [.fa 0 [[.mp (mM l)]]]] []=some (zeW ((l.map (·.1)).mergeSort leI))
 have h:zle 126 [.fn 126 [.fa 0 [[.mp (mM l)]]]]=some (zeW ((l.map (·.1)).mergeSort leI)):=by unfold zle;simp only[keysOf_K];rw[if_pos ⟨trivial,by rw[zac];exact hl,hw,hn⟩];rfl
 unfold zOrc;simp(decide:=true) only [if_false,if_true];rw[h];rfl
def zGk:∀l:List (Int×Int),keysOf (mK l)=some (l.map (·.1))
 |[]=>rfl
 |(k,v)::r=>by simp only[zbX];rw[<-zbk,<-zGk r];rfl
def c_keysL(l:aJ):cw 59 [.mp (mK l)] []=some (zeX l):=
 ziz keysL_ok (show zOrc 59 [.mp (mK l)] []=some (zeX l)by unfold zOrc;simp(decide:=true) only [if_false,if_true];rfl)
def zJo(l:aJ)(hl:l.length<=1000000)(hw:∀k∈l.map (·.1),W64 k)(hn:(l.map (·.1)).Nodup):cw 58 [.fn 102 [.fa 0 [[.mp (mK l)]]]] []=some (zeW ((l.map (·.1)).mergeSort leI)):=by
 refine ziz zIg ?_;show zOrc 58 [.fn 102 [.fa 0 [[.mp (mK l)]]]] []=some (zeW ((l.map (·.1)).mergeSort leI))
 have h:zle 102 [.fn 102 [.fa 0 [[.mp (mK l)]]]]=some (zeW ((l.map (·.1)).mergeSort leI)):=by unfold zle;simp only[zGk];rw[if_pos ⟨trivial,by rw[zac];exact hl,hw,hn⟩];rfl
 unfold zOrc;simp(decide:=true) only [if_false,if_true];rw[h];unfold zle;simp only[zGk];rw[if_neg (λc=>absurd c.1 (by decide))];rfl
def layW_ren:Go.Shelf.Ren:=⟨λ|4=>148|n=>n,λ|22=>37|25=>85|3=>3|4=>4|9=>9|20=>20|0=>0|n=>n,λ|n=>n⟩
def layW:Go.Proofs.Lays8.n4 Tryz.prog layW_ren:={ mixed:=by kernel_rfl,f4:=⟨Tryz.f148.name,by decide,Tryz.func148.trans bJ⟩,t0:=Tryz.underlying0,a0:=Tryz.isAgg0,z0:=Tryz.sizeOf0,v0:=Tryz.zeroValue0,t3:=Tryz.underlying3,a3:=Tryz.isAgg3,z3:=Tryz.sizeOf3,v3:=Tryz.zeroValue3,t4:=Tryz.underlying4,a4:=Tryz.isAgg4,z4:=Tryz.sizeOf4,v4:=Tryz.zeroValue4,t9:=Tryz.underlying9,a9:=Tryz.isAgg9,z9:=Tryz.sizeOf9,v9:=Tryz.zeroValue9,t20:=Tryz.underlying20,a20:=Tryz.isAgg20,z20:=Tryz.sizeOf20,v20:=Tryz.zeroValue20,t22:=Tryz.underlying37,a22:=Tryz.isAgg37,z22:=Tryz.sizeOf37,v22:=Tryz.zeroValue37 }
def growE_ok:CallOK zP (single 148 zOrc):=by
 have h:(zP.info? 85).map (λi=>(i.zero.map (·.cells.size),i.size,i.bytes))=some (some 9,9,88):=by kernel_rfl
 cases hi:zP.info? 85 with
 |none=>rw[hi]at h;cases h
 |some i0=>rw[hi]at h;simp only[zJ,zbk]at h;obtain⟨h1,h2,h3⟩:=h;obtain⟨zv,hz,h4⟩:=zdf.1 h1;exact grow_ok layW rfl hi hz (h4.trans h2.symm) (by omega) (by omega) (by kernel_rfl) (λargs ms=>by rw[h2];unfold zOrc;simp(decide:=true) only [if_false,if_true];rfl)
def c_GrowE(n:Int)(h:0<=n/\n<=1000000):cw 148 [.v (.slice none 0 0),I n] []=some (zdp []):=by
 refine ziz growE_ok ?_
 have:oGrow 9 85 [.v (.slice none 0 0),I n]=some (zdp []):=by show(if 0<=n/\n<=1000000 then some (AV.new 9 85 [],([]:Mem))else none)=_;rw[if_pos h];rfl
 show zOrc 148 [.v (.slice none 0 0),I n] []=_;unfold zOrc;simp(decide:=true) only [if_false,if_true];exact this
end
def countingS(m:zaJ)(sc pa:Int):List za6:=m.M.filter λg=>g.h==sc&&g.x==pa
def c_Counting(m:zaJ)(sc pa:Int)(hl:m.M.length<=1000000):cw 255 [.agg (zaT m),I sc,I pa] []=some (zjY (countingS m sc pa)):=by
 refine zC3 ?_
 have key:∀(n i:Nat) (out:aL),i+n=m.M.length->out.length<=i->zhA m sc pa (mC out) i=some (zjY (out++(m.M.drop i).filter λg=>g.h==sc&&g.x==pa)):=by
  intro n
  induction n with
  |zero=>intro i out hi ho;refine zs8 ?_;rw[zac,zaH (by omega),zar rfl,zcr (by omega)];simp;rfl
  |succ n ih =>
    intro i out hi ho;have hlt:i<m.M.length:=by omega
    refine zs8 ?_;rw[zac,zaB (by omega),cPQ,zaf,zes,zaa hlt,zae,w6Q,show((i:Int)+1)=((i+1:Nat):Int)by omega,zbe hlt,zbU]
    cases h1:(m.M[i].h==sc)with
    |false =>
      rw[zay,zcU,iNs]
      grind
    |true =>
      cases h2:(m.M[i].x==pa)with
      |false =>
        rw[zaO,zay,zeq,iNs]
        grind
      |true =>
        rw[zaO,zaO,zhX,if_pos rfl,zar rfl,zar (by grind),zar rfl];simp only[zdL zaE];have:=ih (i+1) (out++[m.M[i]]) (by omega) (by simp;omega)
        simp_all
 have:=key m.M.length 0 [] (by omega) (by simp);rw[zhF,zfp]at this;exact this
end Go.Proofs.YtlecnobdfhlmnaaGreat
end
