/- An abstract interpreter over structural data for the model's code: its definitions. -/
import Derived.Orders
import Derived.Below
import Derived.Maps.AppendAt
import Derived.KernelRfl
import Derived.DeepKeys
import Derived.Laws.CopyRow
import Derived.Laws.MakeOwn
import Derived.Deep.Slices
set_option linter.unusedSimpArgs false
set_option linter.unusedVariables false
set_option linter.unusedSectionVars false
noncomputable section
namespace Go.Ab
abbrev zaX:=@Nat.le_refl
abbrev zbP:=@Nat.le_trans
abbrev zbR:=@List.getElem?_cons_zero
abbrev zaf:=@Option.some.injEq
abbrev zam:=@List.getElem?_eq_some_iff
abbrev zaU:=@Array.getElem?_eq_getElem
abbrev zaO:=@Bool.and_eq_true
abbrev za4:=@List.mem_cons
abbrev zaq:=@List.mem_of_getElem?
abbrev zhn:=@List.flatMap_cons
abbrev zaa:=@List.getElem?_eq_getElem
abbrev zad:=@List.length_map
abbrev zdZ:=@List.length_range
abbrev zb4:=@List.getElem?_drop
abbrev zhc:=@Nat.add_assoc
abbrev zdD:=@Nat.add_mul
abbrev zch:=@List.getElem?_take
abbrev ziu:=@Nat.lt_or_ge
abbrev zcJ:=@List.foldl_cons
abbrev zer:=@Nat.add_zero
abbrev zfs:=@Array.mem_iff_getElem?
abbrev zgW:=@Array.mem_of_getElem?
abbrev zci:=@List.getElem?_append
abbrev zeA:=@Nat.mod_eq_of_lt
abbrev zfg:=@List.getElem?_cons_succ
abbrev zix:=@Nat.mod_lt
abbrev zcM:=@Array.getElem?_eq_some_iff
abbrev zcG:=@List.mem_iff_getElem?
abbrev zgv:=@Nat.succ_mul
abbrev zbw:=@Nat.mul_le_mul_right
abbrev zfc:=@Array.getElem_mem
abbrev zeY:=@Nat.le_mul_of_pos_right
abbrev zaY:=@Nat.zero_add
abbrev zhy:=@Nat.mul_le_mul_left
abbrev zhV:=@Int.toNat_of_nonneg
abbrev zf1:=@Int.le_refl
abbrev ze5:=@List.eq_of_mem_replicate
abbrev zgY:=@List.getElem?_replicate
abbrev zc2:=@Array.length_toList
abbrev zd4:=@Nat.mul_comm
abbrev zhq:=@Nat.mul_add_mod
abbrev zcf:=@List.length_replicate
abbrev zeC:=@List.length_take
abbrev zhQ:=@List.length_drop
abbrev zgw:=@Nat.div_eq_of_lt
abbrev zfD:=@List.getElem?_set
abbrev zgy:=@Nat.div_lt_iff_lt_mul
abbrev zar:=@List.getElem_mem
abbrev zcb:=@List.length_append
abbrev zcU:=@List.eq_nil_of_length_eq_zero
abbrev zdh:=@Nat.zero_le
abbrev zca:=@Nat.lt_of_lt_of_le
abbrev zbh:=@List.mem_append
abbrev zhp:=@Nat.min_eq_left
abbrev zeE:=@List.mem_of_mem_take
abbrev zdC:=@List.append_assoc
abbrev zcm:=@List.getElem?_of_mem
abbrev zb2:=@List.mem_flatMap
abbrev zhb:=@List.mem_of_mem_drop
abbrev zbt:=@Bool.false_eq_true
abbrev zav:=@Prod.mk.injEq
abbrev zbC:=@List.getElem?_map
abbrev zbg:=@Option.map_some
abbrev zc7:=@List.mem_cons_of_mem
abbrev zf9:=@List.mem_append_left
abbrev zaF:=@Bool.not_true
abbrev zei:=@Bool.false_or
abbrev zbJ:=@List.map_cons
abbrev zfE:=@List.nodup_cons
abbrev zbs:=@List.mem_map
abbrev zaI:=@Option.isSome_iff_exists
abbrev zdI:=@List.mem_of_find?_eq_some
abbrev zf3:=@List.find?_some
abbrev zbH:=@List.all_eq_true
abbrev zbN:=@Option.getD_some
abbrev zae:=@Option.bind_some
abbrev zed:=@Array.getElem?_toList
abbrev zf0:=@Array.getElem?_append
abbrev zc4:=@Bool.not_eq_true'
abbrev zhm:=@Function.comp_def
abbrev zgT:=@List.drop_zero
abbrev zdB:=@Bool.eq_iff_iff
abbrev zds:=@List.map_congr_left
abbrev zbU:=@Array.mem_toList_iff
abbrev zcH:=@Array.getD_eq_getD_getElem?
abbrev zcP:=@List.length_cons
abbrev zel:=@List.mem_filterMap
abbrev zhY:=@List.map_id
abbrev zcc:=@List.mem_filter
abbrev ze9:=@List.mem_range
abbrev zdy:=@List.getElem?_set_ne
abbrev zjn:=@Nat.sub_zero
abbrev zfd:=@Bool.or_eq_true
abbrev ze1:=@List.map_nil
abbrev zhx:=@List.contains_iff_mem
abbrev zax:=@List.cons.injEq
abbrev zcx:=@Bool.true_and
abbrev zcF:=@Bool.false_and
abbrev zbd:=@List.drop_eq_getElem_cons
abbrev zde:=@Prod.ext
abbrev zeB:=@List.ext_getElem
abbrev zgo:=@List.getElem_map
abbrev zew:=@List.pairwise_map
abbrev zcj:=@List.pairwise_iff_getElem
abbrev zjP:=@Array.size_range
abbrev zcW:=@Option.map_eq_some_iff
abbrev zcr:=@List.mem_singleton
abbrev zef:=@List.mem_map_of_mem
abbrev zfM:=@List.getD_eq_getElem?_getD
abbrev zcZ:=@List.length_nil
abbrev zgn:=@List.cons_append
abbrev zhX:=@List.length_singleton
abbrev zit:=@List.nodup_nil
abbrev zjz:=@List.nodup_append
abbrev zbq:=@List.cons.inj
abbrev zbz:=@List.mem_iff_getElem
abbrev zho:=@Nat.lt_trichotomy
abbrev zcI:=@List.ext_getElem?
abbrev zeq:=@List.getElem?_set_self
abbrev zgX:=@List.getElem?_eq_none
abbrev zeR:=@List.length_set
abbrev zdm:=@List.take_length
abbrev ze4:=@Nat.pos_of_ne_zero
abbrev zah:=@Int.toNat_natCast
abbrev zaJ:=@List.take_of_length_le
abbrev zf7:=@Int.tmod_lt_of_pos
abbrev zhW:=@List.length_pos_iff
abbrev zcD:=@List.not_mem_nil
abbrev zd8:=@List.getElem?_append_left
abbrev zft:=@List.getElem_append_left
abbrev zbe:=@Bool.not_false
abbrev zha:=@Bool.and_true
abbrev zdF:=@List.drop_eq_nil_of_le
abbrev zdx:=@List.append_nil
abbrev zhZ:=@List.singleton_append
abbrev zfU:=@List.Perm.refl
abbrev ziY:=@List.map_drop
abbrev zeS:=@List.nil_append
abbrev zem:=@Option.isSome_none
abbrev zcS:=@Option.isSome_some
abbrev zcd:=@List.drop_of_length_le
abbrev zez:=@Bool.and_false
abbrev zco:=@List.take_succ_eq_append_getElem
abbrev zf8:=@List.getElem?_mapIdx
abbrev zKM:=@List.foldl_append
abbrev zcN:=@List.perm_ext_iff_of_nodup
abbrev zjQ:=@List.nodup_range
abbrev zdg:=@List.length_filterMap_le
abbrev zcR:=@List.pairwise_cons
abbrev zgu:=@List.Pairwise.imp_of_mem
abbrev zeT:=@List.range_succ
abbrev zfC:=@List.flatMap_append
abbrev zeQ:=@List.filter_nil
abbrev zcC:=@List.map_append
abbrev zgx:=@List.sum_append
abbrev zcn:=@List.filter_cons
abbrev zfp:=@List.any_cons
abbrev zga:=@Bool.or_false
abbrev zhw:=@Classical.byContradiction
abbrev zee:=@List.length_filter_le
abbrev zgS:=@Int.mul_le_mul_of_nonneg_left
abbrev zgL:=@List.filter_eq_nil_iff
abbrev zjm:=@List.any_nil
abbrev zKG:=@Bool.or_assoc
abbrev zfN:=@List.any_eq_true
inductive AV where
 |bot
 |v (x:Value)
 |sl (z:Nat) (es:List (List AV))
 |agg (cs:List AV)
 |tup (vs:List AV)
 |fp (cs:List AV)
 |loc (b z i o:Nat)
 |row (b z off n:Nat)
 |fn (f:FuncId) (cap:List AV)
 |new (z:Nat) (e:TypeId) (es:List (List AV))
 |newp (z:Nat) (e:TypeId) (cs:List AV)
 |map (b:Nat)
 |mp (es:List (List AV))
 |newm (e:TypeId) (es:List (List AV))
 |fa (z:Nat) (es:List (List AV))
instance:Inhabited AV:=⟨.bot⟩
structure Ent where
 z:Nat
 e:TypeId
 es:List (List AV)
 box:Bool
abbrev Tab:=List (Nat×AV)
abbrev Mem:=List (Nat×Ent)
structure St where
 t:Tab
 m:Mem
def get:Tab->Nat->AV
 |[],_=>.bot
 |(j,a)::r,k=>if k=j then a else get r k
def look:Mem->Nat->Option Ent
 |[],_=>none
 |(j,a)::r,k=>if k=j then some a else look r k
def ev(t:Tab):Operand->AV
 |.tmp k=>get t k
 |.const x=>.v x
 |.func f=>.fn f []
 |.global _=>.bot
def zdL{α:Type}(p:Program):Sem α->Option α
 |.pure a=>some a
 |.program k=>zdL p (k p)
 |.mark _ k=>zdL p k
 |_=>none
def mapO{α β:Type}(f:α->Option β):List α->Option (List β)
 |[]=>some []
 |a::r=>match f a with
   |none=>none
   |some b=>match mapO f r with
     |none=>none
     |some l=>some (b::l)
def AV.scal:AV->Option Value
 |.v x=>some x
 |_=>none
def AV.toVal:AV->Option Value
 |.v x=>some x
 |.agg cs=>match mapO AV.scal cs with
   |some l=>some (.agg l.toArray)
   |none=>none
 |.fn f []=>some (.func (.func f) #[] #[])
 |_=>none
def AV.one:AV->Bool
 |.v x=>x.oneCell'
 |.sl ..|.fp ..|.loc ..|.row ..|.fn ..|.map ..|.mp ..|.fa ..=>true
 |_=>false
def allL{α:Type}(f:α->Bool):List α->Bool
 |[]=>true
 |a::r=>f a&&allL f r
def AV.isC:Nat->AV->Bool
 |0,_=>false
 |k+1,a=>match a with
   |.v _|.sl ..|.fp ..|.mp ..|.fa ..=>true
   |.agg cs=>allL (AV.isC k) cs
   |.fn _ cs=>allL (AV.isC k) cs
   |_=>false
def AV.cells:AV->List AV
 |.agg cs=>cs
 |a=>[a]
def AV.flat:Nat->AV->Bool
 |0,_=>false
 |k+1,a=>match a with
   |.v _=>true
   |.agg cs=>allL (AV.flat k) cs
   |.tup cs=>allL (AV.flat k) cs
   |_=>false
def ofVal(x:Value):Option AV:=
 match x with
 |.tuple vs=>if allL Value.oneCell' vs.toList then some (.tup (vs.toList.map .v))else none
 |x=>if x.oneCell' then some (.v x)else none
def enters(P:Program)(f:FuncId):Bool:=
 match P.funcs[f]? with
 |some fn=>fn.body.isSome&&!(fn.name == "runtime.NumGoroutine")
 |none=>false
def bare(P:Program)(f:FuncId):Bool:=
 match P.funcs[f]? with
 |some fn=>fn.body.isNone
 |none=>false
def AV.kill(b:Nat):Nat->AV->AV
 |0,_=>.bot
 |k+1,a=>match a with
   |.loc c z i o=>if c=b then .bot else .loc c z i o
   |.row c z o n=>if c=b then .bot else .row c z o n
   |.agg cs=>.agg (cs.map (AV.kill b k))
   |.tup cs=>.tup (cs.map (AV.kill b k))
   |.fn f cs=>.fn f (cs.map (AV.kill b k))
   |.v x=>.v x
   |.sl z es=>.sl z es
   |.fp cs=>.fp cs
   |.map c=>if c=b then .bot else .map c
   |.mp es=>.mp es
   |.fa z es=>.fa z es
   |_=>.bot
def killT(b:Nat):Tab->Tab
 |[]=>[]
 |(j,a)::r=>(j,a.kill b 4)::killT b r
def delM(b:Nat):Mem->Mem
 |[]=>[]
 |(j,e)::r=>if j=b then delM b r else
   (j,if e.box then{ e with es:=e.es.map λcs=>cs.map (AV.kill b 4) }else e)::delM b r
def del(b:Nat)(st:St):St:={ t:=killT b st.t,m:=delM b st.m }
def zyq(es:List (List AV))(i o:Nat):List AV:=
 match i,o with
 |0,0=>es.flatten
 |i,o=>(es.drop i).flatten.drop o
theorem zJ2(es:List (List AV))(i o:Nat):zyq es i o=(es.drop i).flatten.drop o:=by
 unfold zyq
 grind
def snap(L:Nat->Option Ent):Nat->AV->Option AV
 |0,_=>none
 |k+1,a=>match a with
   |.v x=>some (.v x)
   |.sl z es=>some (.sl z es)
   |.fp cs=>some (.fp cs)
   |.agg cs=>match mapO (snap L k) cs with
     |some l=>some (.agg l)
     |none=>none
   |.fn f cs=>match mapO (snap L k) cs with
     |some l=>some (.fn f l)
     |none=>none
   |.tup cs=>match mapO (snap L k) cs with
     |some l=>some (.tup l)
     |none=>none
   |.row b z off n=>match L b with
     |some ent=>if ent.z=z/\ent.box=false/\0<z/\off+n<=ent.es.length then some (.sl z ((ent.es.drop off).take n))else none
     |none=>none
   |.loc b z i o=>match L b with
     |some ent=>if ent.z=z/\(ent.box=true\/0<ent.z)then(match ent.es[i]? with
       |some cs=>if ent.box then(match mapO (snap L k) (cs.drop o)with
         |some l=>some (.fp l)
         |none=>none)else if i=0/\o=0 then some (.fa z ent.es)else some (.fp (zyq ent.es i o))
       |none=>none)else none
     |none=>none
   |.mp es=>some (.mp es)
   |.fa z es=>some (.fa z es)
   |.map b=>match L b with
     |some ent=>if ent.z=0/\ent.box=false then some (.mp ent.es)else none
     |none=>none
   |_=>none
def AV.ids(L:Nat->Option Ent):Nat->AV->List Nat
 |0,_=>[]
 |k+1,a=>match a with
   |.agg cs=>cs.flatMap (AV.ids L k)
   |.tup cs=>cs.flatMap (AV.ids L k)
   |.fn _ cs=>cs.flatMap (AV.ids L k)
   |.row b _ _ _=>[b]
   |.loc b _ i o=>b::(match L b with
     |some ent=>if ent.box then(match ent.es[i]? with
       |some cs=>(cs.drop o).flatMap (AV.ids L k)
       |none=>[])else[]
     |none=>[])
   |.map b=>[b]
   |_=>[]
structure Res where
 val:AV
 set:List (Nat×Ent):=[]
 kill:Option Nat:=none
 frz:List Nat:=[]
 re:List Nat:=[]
abbrev zcv:=FuncId->List AV->Mem->Option (AV×Mem)
def isAggB(P:Program)(t:TypeId):Option Bool:=
 match P.underlying t with
 |some (.struct _)|some (.array _ _)=>some true
 |some _=>some false
 |none=>none
def szB(P:Program)(t:TypeId):Option Nat:=(P.info? t).map (·.size)
def zeroB(P:Program)(t:TypeId):Option (List AV):=
 match(P.info? t).bind (·.zero)with
 |some z=>some (z.cells.toList.map .v)
 |none=>none
def zj5(P:Program):Nat->TypeId->List TypeId
 |0,_=>[]
 |k+1,t=>match P.underlying t with
   |some (.struct fs)=>fs.toList.flatMap λf=>zj5 P k f.type
   |some (.array n e)=>(List.replicate n e).flatMap λe=>zj5 P k e
   |_=>[t]
def nrm1(P:Program)(t:TypeId)(a:AV):AV:=
 match a with
 |.v (.slice none 0 0)=>(match P.underlying t with
   |some (.slice e)=>match szB P e with
     |some z=>.sl z []
     |none=>.v (.slice none 0 0)
   |_=>.v (.slice none 0 0))
 |a=>a
def nrmL(P:Program):List TypeId->List AV->List AV
 |t::ts,a::r=>nrm1 P t a::nrmL P ts r
 |_,l=>l
def nrm(P:Program)(t:TypeId)(a:AV):AV:=
 match a with
 |.agg cs=>.agg (nrmL P (zj5 P 8 t) cs)
 |a=>nrm1 P t a
def nrmA(P:Program):List TypeId->List AV->List AV
 |t::ts,a::r=>nrm P t a::nrmA P ts r
 |_,l=>l
def nrmS(P:Program)(L:Nat->Option Ent)(t:TypeId)(a x:AV):AV:=
 match a with
 |.loc b _ _ _=>match L b with
   |some ent=>if ent.box then x else nrm P t x
   |none=>x
 |_=>x
def nrmP(P:Program)(t:TypeId)(a:AV):AV:=
 match P.underlying t with
 |some (.slice e)=>nrm P e a
 |_=>a
def splice(cs:List AV)(o:Nat)(new:List AV):List AV:=cs.take o++new++cs.drop (o+new.length)
def readAt(P:Program)(t:TypeId)(cs:List AV):Option AV:=
 match isAggB P t,szB P t with
 |some true,some n=>if n<=cs.length then some (.agg (cs.take n))else none
 |some false,_=>cs[0]?
 |_,_=>none
def aLoad(P:Program)(L:Nat->Option Ent)(t:TypeId):AV->Option Res
 |.fp cs=>match readAt P t cs with
   |some a=>some { val:=a }
   |none=>none
 |.loc b z i o=>match L b with
   |some ent=>if ent.z=z/\(ent.box=true\/0<ent.z)then(match ent.es[i]? with
     |some cs=>match readAt P t (cs.drop o)with
       |some a=>some { val:=a }
       |none=>none
     |none=>none)else none
   |none=>none
 |_=>none
def aStore(P:Program)(L:Nat->Option Ent)(t:TypeId)(x:AV):AV->Option Res
 |.loc b z i o=>match L b,szB P t with
   |some ent,some n=>if(ent.z=z/\(ent.box=true\/0<ent.z))/\x.cells.length=n/\allL AV.one x.cells=true/\(ent.box=true\/allL (AV.isC 4) x.cells=true)then
     (match ent.es[i]? with
     |some cs=>if o+n<=cs.length then some { val:=.bot,set:=[(b,{ ent with es:=ent.es.set i (splice cs o x.cells) })] }else none
     |none=>none)else none
   |_,_=>none
 |_=>none
def aField(P:Program)(s:TypeId)(f:Nat)(a:AV):Option Res:=
 match P.underlying s with
 |some (.struct fields)=>match fields[f]? with
   |some fd=>match szB P fd.type with
     |some (_+1)=>(match a with
       |.fp cs=>some { val:=.fp (cs.drop fd.offset) }
       |.loc b z i o=>some { val:=.loc b z i (o+fd.offset) }
       |_=>none)
     |_=>none
   |none=>none
 |_=>none
def aIndex(P:Program)(t:TypeId)(x ix:AV):Option Res:=
 match ix with
 |.v (.int _ n)=>match P.underlying t with
   |some (.slice e)=>match szB P e,x with
     |some sz,.sl z es=>if z=sz/\0<=n then(match es[n.toNat]? with
       |some cs=>some { val:=.fp cs }
       |none=>none)else none
     |some sz,.row b z off len=>if z=sz/\0<=n/\n<(len:Int)then some { val:=.loc b z (off+n.toNat) 0 }else none
     |_,_=>none
   |some (.array len e)=>if 0<=n/\n<(len:Int)then(match szB P e,x with
     |some sz,.fp cs=>some { val:=.fp ((cs.drop (n.toNat*sz)).take sz) }
     |some sz,.fa z es=>if z=sz then(match es[n.toNat]? with
       |some cs=>some { val:=.fp cs }
       |none=>none)else none
     |some sz,.loc b z i o=>if z=sz/\o=0 then some { val:=.loc b z (i+n.toNat) 0 }else some { val:=.loc b z i (o+n.toNat*sz) }
     |_,_=>none)else none
   |_=>none
 |_=>none
def natOf(d:Nat):Option AV->Option Nat
 |none=>some d
 |some (.v (.int _ n))=>if 0<=n then some n.toNat else none
 |_=>none
def aSlice(P:Program)(t:TypeId)(x:AV)(lo hi:Option AV):Option Res:=
 match P.underlying t with
 |some (.slice e)=>match szB P e,x with
   |some sz,.sl z es=>match natOf 0 lo,natOf es.length hi with
     |some l,some h=>if z=sz/\l<=h/\h<=es.length then some { val:=.sl z ((es.take h).drop l) }else none
     |_,_=>none
   |some sz,.row b z off n=>match natOf 0 lo,natOf n hi with
     |some l,some h=>if z=sz/\l<=h/\h<=n then some { val:=.row b z (off+l) (h-l) }else none
     |_,_=>none
   |_,_=>none
 |_=>none
def fillL(place:Nat->Option (Nat×Nat)):List (Nat×AV)->List AV->Option (List AV)
 |[],cs=>some cs
 |(i,a)::r,cs=>match place i with
   |some (off,sz)=>if a.cells.length=sz/\off+sz<=cs.length/\allL AV.one a.cells=true then fillL place r (splice cs off a.cells)else none
   |none=>none
def places(P:Program)(fs:Array Field)(i:Nat):Option (Nat×Nat):=
 match fs[i]? with
 |some f=>match szB P f.type with
   |some n=>some (f.offset,n)
   |none=>none
 |none=>none
def allSz(P:Program):List Field->Bool
 |[]=>true
 |f::r=>(szB P f.type).isSome&&allSz P r
def aBuild(P:Program)(t:TypeId)(ps:List (Nat×AV)):Option Res:=
 match zeroB P t,P.underlying t with
 |some zero,some (.struct fs)=>if allSz P fs.toList=true/\allL AV.one zero=true then(match fillL (places P fs) ps zero with
   |some cs=>some { val:=.agg cs }
   |none=>none)else none
 |some zero,some (.array _ e)=>if allL AV.one zero=true then(match szB P e with
   |some sz=>match fillL (λi=>some (i*sz,sz)) ps zero with
     |some cs=>some { val:=.agg cs }
     |none=>none
   |none=>none)else none
 |_,_=>none
def chunk(z:Nat):Nat->List AV->List (List AV)
 |0,_=>[]
 |n+1,cs=>cs.take z::chunk z n (cs.drop z)
def repL(zero:List AV):Nat->List AV
 |0=>[]
 |n+1=>zero++repL zero n
def zpz(P:Program)(d:Nat)(t:TypeId)(len:Nat)(ps:List (Nat×AV)):Option Res:=
 match P.underlying t with
 |some (.slice e)=>match szB P e,zeroB P e with
   |some sz,some zero=>if 0<sz/\zero.length=sz/\len*sz<=65536/\allL AV.one zero=true then
     (match fillL (λi=>some (i*sz,sz)) ps (repL zero len)with
     |some cs=>if allL (AV.isC 4) cs=true then
       some { val:=.row d sz 0 len,set:=[(d,{ z:=sz,e:=e,es:=chunk sz len cs,box:=false })] }else none
     |none=>none)else none
   |_,_=>none
 |_=>none
def aLit(P:Program)(t:TypeId)(len:Nat)(ps:List (Nat×AV)):Option Res:=
 match P.underlying t with
 |some (.slice e)=>match szB P e,zeroB P e with
   |some sz,some zero=>if 0<sz/\zero.length=sz/\len*sz<=65536/\allL AV.one zero=true then
     (match fillL (λi=>some (i*sz,sz)) ps (repL zero len)with
     |some cs=>if allL (AV.isC 4) cs=true then some { val:=.sl sz (chunk sz len cs) }else none
     |none=>none)else none
   |_,_=>none
 |_=>none
def aMake(P:Program)(d:Nat)(t:TypeId)(l c:AV):Option Res:=
 match l,c with
 |.v (.int _ n),.v (.int _ n')=>match P.underlying t with
   |some (.slice e)=>match szB P e,zeroB P e,P.info? e with
     |some sz,some zero,some i=>if n=n'/\0<=n/\0<sz/\zero.length=sz/\allL AV.one zero=true/\n.toNat*(i.bytes+1)<=1099511627776 then
       some { val:=.row d sz 0 (List.replicate n.toNat (nrmL P (zj5 P 8 e) zero)).length,set:=[(d,{ z:=sz,e:=e,es:=List.replicate n.toNat (nrmL P (zj5 P 8 e) zero),box:=false })] }else none
     |_,_,_=>none
   |_=>none
 |_,_=>none
def aMakeL(P:Program)(t:TypeId)(l c:AV):Option Res:=
 match l,c with
 |.v (.int _ n),.v (.int _ n')=>match P.underlying t with
   |some (.slice e)=>match szB P e,zeroB P e,P.info? e with
     |some sz,some zero,some i=>if n=n'/\0<=n/\0<sz/\zero.length=sz/\allL AV.one zero=true/\n.toNat*(i.bytes+1)<=1099511627776 then
       some { val:=.sl sz (List.replicate n.toNat (nrmL P (zj5 P 8 e) zero)) }else none
     |_,_,_=>none
   |_=>none
 |_,_=>none
def srcOf(L:Nat->Option Ent)(z:Nat):AV->Option (List (List AV))
 |.v (.slice none 0 0)=>some []
 |.sl z' es=>if z'=z then some es else none
 |.row b z' off n=>match L b with
   |some ent=>if ent.z=z/\z'=z/\ent.box=false/\0<z/\off+n<=ent.es.length then some ((ent.es.drop off).take n)else none
   |none=>none
 |_=>none
def znp(P:Program)(L:Nat->Option Ent)(d:Nat)(t:TypeId)(s x:AV):Option Res:=
 match P.underlying t with
 |some (.slice e)=>match P.info? e,zeroB P e with
   |some i,some zero=>if 0<i.size/\zero.length=i.size then(match srcOf L i.size x with
     |some new=>(match s with
       |.v (.slice none 0 0)=>if new.length*(i.bytes+1)<=1099511627776 then
         some { val:=.row d i.size 0 new.length,set:=[(d,{ z:=i.size,e:=e,es:=new,box:=false })] }else none
       |.row b z off n=>match L b with
         |some ent=>if b<1000/\b≠d/\ent.z=i.size/\z=i.size/\ent.e=e/\ent.box=false/\off=0/\n=ent.es.length/\(ent.es.length+new.length)*(i.bytes+1)<=1099511627776 then
           some { val:=.row d i.size 0 (ent.es++new).length,set:=[(d,{ z:=i.size,e:=e,es:=ent.es++new,box:=false })],kill:=some b }else none
         |none=>none
       |_=>none)
     |none=>none)else none
   |_,_=>none
 |_=>none
def aCopy(P:Program)(L:Nat->Option Ent)(t:TypeId)(s x:AV):Option Res:=
 match P.underlying t with
 |some (.slice e)=>match szB P e,s with
   |some sz,.row b z off n=>match L b,srcOf L sz x with
     |some ent,some new=>if 0<sz/\z=sz/\ent.z=sz/\ent.box=false/\off+n<=ent.es.length then
       some { val:=.v (.int .i64 (min new.length n:Nat)),set:=[(b,{ ent with es:=ent.es.take off++(new.take n)++ent.es.drop (off+min new.length n) })] }else none
     |_,_=>none
   |_,_=>none
 |_=>none
def aClear(P:Program)(L:Nat->Option Ent)(t:TypeId)(s:AV):Option Res:=
 match P.underlying t with
 |some (.slice e)=>match szB P e,zeroB P e,s with
   |some sz,some zero,.row b z off n=>match L b with
     |some ent=>if 0<sz/\z=sz/\ent.z=sz/\ent.box=false/\zero.length=sz/\allL AV.one zero=true/\off+n<=ent.es.length then
       some { val:=.tup [],set:=[(b,{ ent with es:=ent.es.take off++List.replicate n (nrmL P (zj5 P 8 e) zero)++ent.es.drop (off+n) })] }else none
     |none=>none
   |_,_,_=>none
 |_=>none
def aLen:AV->Option Res
 |.sl _ es=>some { val:=.v (.int .i64 es.length) }
 |.row _ _ _ n=>some { val:=.v (.int .i64 n) }
 |_=>none
structure Cfg where
 wrt:FuncId->List Nat
 orc:zcv:=λ_ _ _=>none
 dp:FuncId->Option Nat:=λ_=>none
 raw:FuncId->Bool:=λ_=>false
def rawT(C:Cfg)(f:FuncId)(ts:Array TypeId):List TypeId:=if C.raw f=true then[]else ts.toList
def AV.data:AV->Bool
 |.sl ..=>true
 |_=>false
def zeX(L:Nat->Option Ent)(wrt:List Nat):Nat->List AV->Option (List AV×Mem×List (Nat×Nat)×List Nat)
 |_,[]=>some ([],[],[],[])
 |k,a::r=>match zeX L wrt (k+1) r with
   |none=>none
   |some (as,ms,bk,fz) =>
     if(wrt.contains k&&!a.data)=true then(match a with
      |.loc b z 0 0=>match L b with
        |some ent=>if ent.z=z/\ent.box=true/\allL (λcs=>allL (AV.isC 4) cs) ent.es=true/\bk.all (λp=>p.1≠b)=true then
          some (.loc (1000+k) z 0 0::as,(1000+k,ent)::ms,(b,1000+k)::bk,fz)else none
        |none=>none
      |.row b z off n=>match L b with
        |some ent=>if ent.z=z/\ent.box=false/\0<z/\bk.all (λp=>p.1≠b)=true then
          some (.row (1000+k) z off n::as,(1000+k,ent)::ms,(b,1000+k)::bk,fz)else none
        |none=>none
      |.map b=>match L b with
        |some ent=>if ent.z=0/\ent.box=false/\bk.all (λp=>p.1≠b)=true then
          some (.map (1000+k)::as,(1000+k,ent)::ms,(b,1000+k)::bk,fz)else none
        |none=>none
      |_=>none)
     else if wrt.contains (100+k)then(match a with
      |.row b z 0 n=>match L b with
        |some ent=>if ent.z=z/\ent.box=false/\0<z/\n=ent.es.length/\b<1000/\k<50/\bk.all (λp=>p.1≠b)=true then
          some (.row (950+k) z 0 n::as,(950+k,ent)::ms,(b,950+k)::bk,fz)else none
        |none=>none
      |_=>none)
     else match snap L 5 a with
      |some a'=>some (a'::as,ms,bk,a.ids L 5++fz)
      |none=>none
def Ent.shut(e:Ent):Bool:=!e.box||allL (λcs=>allL (AV.isC 4) cs) e.es
def backOf(ms:Mem):List (Nat×Nat)->Option (List (Nat×Ent))
 |[]=>some []
 |(b,k)::r=>match look ms k,backOf ms r with
   |some ent,some l=>if ent.shut=true then some ((b,ent)::l)else none
   |_,_=>none
def nest(L:Nat->Option Ent):Nat->List AV->Option (List AV×Mem×List (Nat×Nat))
 |_,[]=>some ([],[],[])
 |q,a::r=>if a.isC 4=true then(match nest L q r with
   |some (cs,ms,bk)=>some (a::cs,ms,bk)
   |none=>none)
   else match a with
    |.row c z 0 n=>match L c,nest L (q+1) r with
      |some ent,some (cs,ms,bk)=>if ent.z=z/\ent.box=false/\0<z/\n=ent.es.length/\c<1000/\q<950/\bk.all (λp=>p.1≠c)=true then
        some (.row q z 0 n::cs,(q,ent)::ms,(c,q)::bk)else none
      |_,_=>none
    |.map c=>match L c,nest L (q+1) r with
      |some ent,some (cs,ms,bk)=>if ent.z=0/\ent.box=false/\c<1000/\q<950/\bk.all (λp=>p.1≠c)=true then
        some (.map q::cs,(q,ent)::ms,(c,q)::bk)else none
      |_,_=>none
    |_=>none
def dArgs(L:Nat->Option Ent)(k0:Nat)(x:AV):Nat->List AV->Option (List AV×List Nat)
 |_,[]=>some ([],[])
 |k,a::r=>match dArgs L k0 x (k+1) r with
   |none=>none
   |some (as,fz)=>if k=k0 then some (x::as,fz)else match snap L 5 a with
     |some a'=>some (a'::as,a.ids L 5++fz)
     |none=>none
def zxL(bk:List (Nat×Nat)):List AV->Option (List AV)
 |[]=>some []
 |a::r=>match zxL bk r with
   |none=>none
   |some cs=>if a.isC 4=true then some (a::cs)else match a with
     |.row q z 0 n=>match bk.find? (λp=>p.2==q)with
       |some p=>some (.row p.1 z 0 n::cs)
       |none=>none
     |.map q=>match bk.find? (λp=>p.2==q)with
       |some p=>some (.map p.1::cs)
       |none=>none
     |_=>none
def backN(ms:Mem):List (Nat×Nat)->Option (List (Nat×Ent))
 |[]=>some []
 |(c,q)::r=>match look ms q,backN ms r with
   |some ent,some l=>if ent.box=false then some ((c,ent)::l)else none
   |_,_=>none
def dRes(b:Nat)(fz:List Nat)(nbk:List (Nat×Nat))(r:AV)(ms':Mem):Option Res:=
 if r.flat 4=true then(match look ms' 1000,backN ms' nbk with
  |some ent1,some back=>(match ent1.box,ent1.es with
    |true,[cs1]=>match zxL nbk cs1 with
      |some cs2=>some { val:=r,set:=(b,{ ent1 with es:=[cs2] })::back,frz:=fz,re:=nbk.map (·.1) }
      |none=>none
    |_,_=>none)
  |_,_=>none)else none
def aDeep(call:zcv)(L:Nat->Option Ent)(f:FuncId)(k0:Nat)(args:List AV):Option Res:=
 match args[k0]? with
 |some (.loc b z 0 0)=>match L b with
   |some ent=>if ent.box=true then(match ent.es with
     |[cs]=>match nest L 900 cs,dArgs L k0 (.loc 1000 z 0 0) 0 args with
       |some (cs',nms,nbk),some (as,fz) =>
         if ent.z=z/\ent.box=true/\nbk.all (λp=>p.1≠b)=true/\fz.all (λc=>decide (c<1000)&&(c !=b&&nbk.all (λp=>p.1≠c)))=true then
          match call f as ((1000,{ ent with es:=[cs'] })::nms)with
          |some (r,ms')=>dRes b fz nbk r ms'
          |none=>none
         else none
       |_,_=>none
     |_=>none)else none
   |none=>none
 |_=>none
def frzOf(r:AV)(bk:List (Nat×Nat))(fz:List Nat):List Nat:=if r.flat 4&&bk.isEmpty then[]else fz
def zus(back:List (Nat×Ent))(bk:List (Nat×Nat))(fz:List Nat)(r:AV)(d:Option Nat):Option Res:=
 match r,d with
 |.new z e es,some d=>some { val:=.row d z 0 es.length,set:=(d,{ z,e,es,box:=false })::back,frz:=fz }
 |.newp z e cs,some d=>some { val:=.loc d z 0 0,set:=(d,{ z,e,es:=[cs],box:=true })::back,frz:=fz }
 |.newm e es,some d=>some { val:=.map d,set:=(d,{ z:=0,e,es,box:=false })::back,frz:=fz }
 |.new ..,none=>none
 |.newp ..,none=>none
 |.newm ..,none=>none
 |.row b z off n,_=>match bk.find? (λp=>p.2==b)with
   |some p=>some { val:=.row p.1 z off n,set:=back,frz:=fz }
   |none=>none
 |.loc b z i o,_=>match bk.find? (λp=>p.2==b)with
   |some p=>some { val:=.loc p.1 z i o,set:=back,frz:=fz }
   |none=>none
 |.map _,_=>none
 |r,_=>some { val:=r,set:=back,frz:=fz }
def ziJ:List (Nat×Nat)->List (Nat×Nat)
 |[]=>[]
 |(b,k)::r=>if k<1000 then ziJ r else(b,k)::ziJ r
def zdv:List (Nat×Nat)->List Nat
 |[]=>[]
 |(b,k)::r=>if k<1000 then b::zdv r else zdv r
def zyY(g:List Nat)(r:Res):Option Res:=
 match g with
 |[]=>some r
 |[b]=>some { r with kill:=some b }
 |_=>none
def aCall(C:Cfg)(call:zcv)(L:Nat->Option Ent)(d:Option Nat)(f:FuncId)(args:List AV):Option Res:=
 match zeX L (C.wrt f) 0 args with
 |none=>none
 |some (as,ms,bk,fz) =>
   if bk.all (λp=>fz.all (λb=>b≠p.1))=true then
    match call f as ms with
    |none=>none
    |some (r,ms')=>match backOf ms' (ziJ bk)with
      |none=>none
      |some back =>
        if(frzOf r bk fz).all (λb=>decide (b<1000))=true then
         match zus back (ziJ bk) (frzOf r bk fz) r d with
         |some res=>zyY (zdv bk) res
         |none=>none
        else none
   else none
def toKill(k:Bool)(r:Res):Option Res:=
 match k,r.frz,r.kill with
 |true,b::rest,none=>if rest.all (λc=>c==b)=true/\r.set.all (λp=>p.1 !=b)=true/\r.re.isEmpty=true then some { r with frz:=[],kill:=some b }else none
 |_,_,_=>some r
def aPure(P:Program)(o:Oper)(E:Operand->AV):Option Res:=
 if o.op.operands.toList.all (λx=>(E x).toVal.isSome)then
  match zdL P (execOp (λx=>((E x).toVal).getD undef) o)with
  |some (.value x)=>match ofVal x with
    |some a=>some { val:=a }
    |none=>none
  |_=>none
 else none
def eqAnd:Option Bool->Option Bool->Option Bool
 |some a,some b=>some (a&&b)
 |_,_=>none
def eqFs(P:Program)(rec_:TypeId->List Value->List Value->Option Bool)(xs ys:List Value):List Field->Option Bool
 |[]=>some true
 |f::r=>if f.name ≠ "_" then(match szB P f.type with
   |some n=>eqAnd (rec_ f.type ((xs.drop f.offset).take n) ((ys.drop f.offset).take n)) (eqFs P rec_ xs ys r)
   |none=>none)else eqFs P rec_ xs ys r
def eqIs(n:Nat)(rec_:List Value->List Value->Option Bool)(xs ys:List Value):List Nat->Option Bool
 |[]=>some true
 |i::r=>eqAnd (rec_ ((xs.drop (i*n)).take n) ((ys.drop (i*n)).take n)) (eqIs n rec_ xs ys r)
def eqV(P:Program):Nat->TypeId->List Value->List Value->Option Bool
 |0,_,_,_=>none
 |k+1,t,xs,ys=>match P.underlying t with
   |some .bool=>(match xs,ys with
     |[.bool a],[.bool b]=>some (a==b)
     |_,_=>none)
   |some (.int _)=>(match xs,ys with
     |[.int q a],[.int q' b]=>if q=q' then some (a==b)else none
     |_,_=>none)
   |some .string=>(match xs,ys with
     |[.string a],[.string b]=>some (a==b)
     |_,_=>none)
   |some (.struct fs)=>if P.stoodInHeld t then none else eqFs P (eqV P k) xs ys fs.toList
   |some (.array n e)=>(match szB P e with
     |some c=>eqIs c (eqV P k e) xs ys (List.range n)
     |none=>none)
   |_=>none
def aEq(P:Program)(op:BinOp)(t:TypeId)(cs ds:List AV):Option Res:=
 match mapO AV.scal cs,mapO AV.scal ds with
 |some xs,some ys=>if P.eqGuardType P.depth t then none else(match isAggB P t,eqV P 20 t xs ys,op with
   |some true,some b,.eql=>some { val:=.v (.bool b) }
   |some true,some b,.neq=>some { val:=.v (.bool (!b)) }
   |_,_,_=>none)
 |_,_=>none
def aArr(P:Program)(d:Nat)(t:TypeId)(zero:List AV):Option Res:=
 match P.underlying t with
 |some (.array len e)=>match szB P e with
   |some sz=>if 0<sz/\zero.length=len*sz/\len<=65536 then some { val:=.loc d sz 0 0,set:=[(d,{ z:=sz,e:=t,es:=chunk sz len zero,box:=false })] }else none
   |none=>none
 |_=>none
def bitsB:Value->Value->Option Bool
 |.int k a,.int k' b=>if k=k' then some (a==b)else none
 |.string a,.string b=>some (a==b)
 |.bool a,.bool b=>some (a==b)
 |_,_=>none
def bitsL:List Value->List Value->Option Bool
 |[],[]=>some true
 |x::r,y::s=>eqAnd (bitsB x y) (bitsL r s)
 |_,_=>none
def agree:Option Bool->Option Bool->Option Bool
 |some a,some b=>if a=b then some a else none
 |_,_=>none
def scalT(P:Program)(t:TypeId):Bool:=
 match P.underlying t with
 |some (.int _)|some .string|some .bool=>true
 |_=>false
def keyEq(P:Program)(t:TypeId)(a b:AV):Option Bool:=
 match a,b with
 |.v x,.v y=>match P.underlying t with
   |some td=>Instr.sameNow td x y
   |none=>none
 |.agg cs,.agg ds=>match mapO AV.scal cs,mapO AV.scal ds with
   |some xs,some ys=>match isAggB P t with
     |some true=>agree (eqV P 20 t xs ys) (bitsL xs ys)
     |_=>none
   |_,_=>none
 |_,_=>none
def mlook(P:Program)(t:TypeId)(k:AV):List (List AV)->Option (Option AV)
 |[]=>some none
 |[ka,va]::r=>match keyEq P t k ka with
   |some true=>some (some va)
   |some false=>mlook P t k r
   |none=>none
 |_=>none
def mset(P:Program)(t:TypeId)(k v:AV):List (List AV)->Option (List (List AV))
 |[]=>some [[k,v]]
 |[ka,va]::r=>match keyEq P t k ka with
   |some true=>some ([k,v]::r)
   |some false=>match mset P t k v r with
     |some l=>some ([ka,va]::l)
     |none=>none
   |none=>none
 |_=>none
def mdel(P:Program)(t:TypeId)(k:AV):List (List AV)->Option (List (List AV))
 |[]=>some []
 |[ka,va]::r=>match keyEq P t k ka with
   |some true=>some r
   |some false=>match mdel P t k r with
     |some l=>some ([ka,va]::l)
     |none=>none
   |none=>none
 |_=>none
def keyAV(P:Program)(t:TypeId)(k:AV):Bool:=
 match k with
 |.v x=>scalT P t&&x.oneCell'
 |.agg cs=>match mapO AV.scal cs,P.underlying t with
   |some xs,some (.struct fs)=>allL AV.one cs&&fs.toList.all λf=>scalT P f.type&&decide (f.offset<xs.length)
   |some xs,some (.array n e)=>allL AV.one cs&&(scalT P e&&((szB P e==some 1)&&decide (n<=xs.length)))
   |_,_=>false
 |_=>false
def mesOf(L:Nat->Option Ent):AV->Option (List (List AV))
 |.v (.map none)=>some []
 |.mp es=>some es
 |.map b=>match L b with
   |some ent=>if ent.z=0/\ent.box=false then some ent.es else none
   |none=>none
 |_=>none
def zeroA(P:Program)(t:TypeId):Option AV:=
 match(P.info? t).bind (·.zero)with
 |some (.agg cs)=>if allL AV.one (cs.toList.map AV.v)=true then some (nrm P t (.agg (cs.toList.map .v)))else none
 |some x=>if x.oneCell'=true then some (nrm P t (.v x))else none
 |none=>none
def aMkMap(P:Program)(d:Nat)(t:TypeId):Option Res:=
 match P.underlying t with
 |some (.map _ _)=>some { val:=.map d,set:=[(d,{ z:=0,e:=t,es:=[],box:=false })] }
 |_=>none
def mres(ok:Bool)(a:AV)(b:Bool):AV:=if ok then .tup [a,.v (.bool b)]else a
def aMLook(P:Program)(L:Nat->Option Ent)(t:TypeId)(m k:AV)(ok:Bool):Option Res:=
 match P.underlying t with
 |some (.map kt et)=>match mesOf L m,zeroA P et with
   |some es,some z=>if keyAV P kt k=true then(match mlook P kt k es with
     |some (some a)=>some { val:=mres ok a true }
     |some none=>some { val:=mres ok z false }
     |none=>none)else none
   |_,_=>none
 |_=>none
def aMSet(P:Program)(L:Nat->Option Ent)(t:TypeId)(m k x:AV):Option Res:=
 match P.underlying t with
 |some (.map kt et)=>match m with
   |.map b=>match L b with
     |some ent=>if ent.z=0/\ent.box=false/\keyAV P kt k=true/\(x.ids L 5).all (λc=>decide (c<1000)&&(c !=b))=true then
       (match snap L 5 (nrm P et x)with
       |some x'=>if x'.isC 4=true then(match mset P kt k x' ent.es with
         |some es=>some { val:=.bot,set:=[(b,{ ent with es:=es })],frz:=x.ids L 5 }
         |none=>none)else none
       |none=>none)else none
     |none=>none
   |_=>none
 |_=>none
def aMDel(P:Program)(L:Nat->Option Ent)(t:TypeId)(m k:AV):Option Res:=
 match P.underlying t with
 |some (.map kt _)=>match m with
   |.map b=>match L b with
     |some ent=>if ent.z=0/\ent.box=false/\keyAV P kt k=true then(match mdel P kt k ent.es with
       |some es=>some { val:=.tup [],set:=[(b,{ ent with es:=es })] }
       |none=>none)else none
     |none=>none
   |_=>none
 |_=>none
def aMLen(L:Nat->Option Ent)(m:AV):Option Res:=
 match mesOf L m with
 |some es=>some { val:=.v (.int .i64 es.length) }
 |none=>none
def nilOp:BinOp->Option Res
 |.eql=>some { val:=.v (.bool false) }
 |.neq=>some { val:=.v (.bool true) }
 |_=>none
def nilCmp(P:Program)(op:BinOp)(t:TypeId)(a b:AV):Option Res:=
 match P.underlying t,a,b with
 |some (.pointer _),.fp _,.v (.pointer none)|some (.pointer _),.fa _ _,.v (.pointer none)|some (.pointer _),.loc _ _ _ _,.v (.pointer none)=>nilOp op
 |_,_,_=>none
def dstOut(L:Nat->Option Ent):Option Nat->Bool
 |some d=>(L d).isNone
 |none=>true
def aop(P:Program)(C:Cfg)(M:List Nat)(call:zcv)(o:Oper)(E:Operand->AV)(L:Nat->Option Ent):Option Res:=
 match o.op with
 |.move x|.assign x=>some { val:=E x }
 |.pick c a b=>match E c with
   |.v (.bool t)=>some { val:=if t then E a else E b }
   |_=>none
 |.alloc t=>match o.dst,zeroB P t,szB P t with
   |some d,some zero,some n=>if zero.length=n/\allL AV.one zero=true/\(L d).isNone=true then(if M.contains d then aArr P d t zero else some { val:=.loc d n 0 0,set:=[(d,{ z:=n,e:=t,es:=[zero],box:=true })] })else none
   |_,_,_=>none
 |.box t x=>match o.dst with
   |some d=>if allL AV.one (E x).cells=true/\(L d).isNone=true then some { val:=.loc d (E x).cells.length 0 0,set:=[(d,{ z:=(E x).cells.length,e:=t,es:=[(E x).cells],box:=true })] }else none
   |none=>none
 |.build t ps=>aBuild P t (ps.toList.map λp=>(p.1,E p.2))
 |.buildSlice t len ps=>match o.dst with
   |some d=>if M.contains d then(if(L d).isNone=true then zpz P d t len (ps.toList.map λp=>(p.1,nrmP P t (E p.2)))else none)
     else aLit P t len (ps.toList.map λp=>(p.1,nrmP P t (E p.2)))
   |none=>none
 |.load t a=>aLoad P L t (E a)
 |.store t a x=>aStore P L t (nrmS P L t (E a) (E x)) (E a)
 |.nilCheck x=>match E x with
   |.fp cs=>some { val:=.fp cs }
   |.loc b z i o=>some { val:=.loc b z i o }
   |.fa z es=>some { val:=.fa z es }
   |_=>none
 |.extract x i=>match E x with
   |.tup vs=>match vs[i]? with
     |some a=>some { val:=a }
     |none=>none
   |_=>none
 |.fieldAddr s x f=>aField P s f (E x)
 |.field s x f=>match E x,P.underlying s with
   |.agg cs,some (.struct fs)=>match fs[f]? with
     |some fd=>match readAt P fd.type (cs.drop fd.offset)with
       |some a=>some { val:=a }
       |none=>none
     |none=>none
   |_,_=>none
 |.indexAddr t x ix=>aIndex P t (E x) (E ix)
 |.index t x ix=>match E x,E ix,P.underlying t with
   |.agg cs,.v (.int _ n),some (.array len e)=>match szB P e with
     |some sz=>if 0<=n/\n<(len:Int)then(match readAt P e (cs.drop (n.toNat*sz))with
       |some a=>some { val:=a }
       |none=>none)else none
     |none=>none
   |_,_,_=>(aPure P o E)
 |.slice t x lo hi none=>match E x with
   |.v _=>(aPure P o E)
   |a=>aSlice P t a (lo.map E) (hi.map E)
 |.makeFunc (.func f) first cap=>if first.size=0 then some { val:=.fn f (cap.toList.map E) }else none
 |.makeSlice t l c=>match o.dst with
   |some d=>if(L d).isNone=true then(if M.contains d then aMakeL P t (E l) (E c)else aMake P d t (E l) (E c))else none
   |none=>none
 |.call { callee:=.builtin .append,args,argTypes }=>match o.dst,args.toList,argTypes.toList with
   |some d,[s,x],[t,t']=>if t=t'/\(L d).isNone=true then znp P L d t (E s) (E x)else none
   |_,_,_=>none
 |.call { callee:=.builtin .copy,args,argTypes }=>match args.toList,argTypes.toList with
   |[s,x],t::_=>aCopy P L t (E s) (E x)
   |_,_=>none
 |.call { callee:=.builtin .clear,args,argTypes }=>match args.toList,argTypes.toList with
   |[s],t::_=>aClear P L t (E s)
   |_,_=>none
 |.call { callee:=.builtin .len,args,argTypes }=>match args.toList,argTypes.toList with
   |[s],[t]=>(match E s,P.underlying t with
     |.v _,_=>(aPure P o E)
     |a,some (.slice _)=>aLen a
     |a,some (.map _ _)=>aMLen L a
     |_,_=>none)
   |_,_=>none
 |.call { callee:=.builtin .delete,args,argTypes }=>match args.toList,argTypes.toList with
   |[m,k],t::_=>aMDel P L t (E m) (E k)
   |_,_=>none
 |.makeMap t none=>match o.dst with
   |some d=>if(L d).isNone=true then aMkMap P d t else none
   |none=>none
 |.lookup t m k ok=>aMLook P L t (E m) (E k) ok
 |.mapUpdate t m k x=>aMSet P L t (E m) (E k) (E x)
 |.insert t m k x=>aMSet P L t (E m) (E k) (E x)
 |.call { callee:=.value g,args,argTypes }=>match E g with
   |.fn f cap=>if bare P f then(aPure P o E)else match C.dp f with
     |some k0=>if dstOut L o.dst then aDeep call L f k0 (nrmA P (rawT C f argTypes) (args.toList.map E)++cap)else none
     |none=>match o.dst with
       |some d=>if(L d).isNone=true then(match aCall C call L (some d) f (nrmA P (rawT C f argTypes) (args.toList.map E)++cap)with
         |some r=>toKill (M.contains d) r
         |none=>none)else none
       |none=>aCall C call L none f (nrmA P (rawT C f argTypes) (args.toList.map E)++cap)
   |_=>none
 |.binOp op t x y _=>match E x,E y with
   |.agg cs,.agg ds=>aEq P op t cs ds
   |a,b=>match nilCmp P op t a b with
     |some r=>some r
     |none=>aPure P o E
 |.select ..=>none
 |_=>aPure P o E
def Oper.looks(ops:Array Oper)(o:Oper):List Nat:=
 (o.op.operands.toList.filterMap λ|.tmp t=>some t|_=>none) ++
 (match o.guard with
  |some (g,_)=>((ops[g]?).bind (·.dst)).toList
  |none=>[])
def zuv(ops:Array Oper)(o:Oper)(t:Tab):Option Bool:=
 match o.guard with
 |none=>some true
 |some (j,want)=>match(ops[j]?).bind (·.dst)with
   |some d=>match get t d with
     |.v (.bool b)=>some (b==want)
     |.v (.tuple _)=>some false
     |_=>none
   |none=>none
def repM(p:Nat×Ent):Mem->Mem
 |[]=>[]
 |q::r=>if p.1=q.1 then p::r else q::repM p r
def setM(p:Nat×Ent)(m:Mem):Mem:=
 match look m p.1 with
 |some _=>repM p m
 |none=>p::m
def setAll:List (Nat×Ent)->Mem->Mem
 |[],m=>m
 |p::r,m=>setM p (setAll r m)
def zfu(bs:List Nat)(L:Nat->Option Ent):Nat->AV->AV
 |0,_=>.bot
 |k+1,a=>match a with
   |.loc c z i o=>if bs.contains c then(if((AV.loc c z i o).ids L 5).all bs.contains then(snap L 5 (.loc c z i o)).getD .bot else .bot)else .loc c z i o
   |.row c z o n=>if bs.contains c then(snap L 5 (.row c z o n)).getD .bot else .row c z o n
   |.agg cs=>.agg (cs.map (zfu bs L k))
   |.tup cs=>.tup (cs.map (zfu bs L k))
   |.fn f cs=>.fn f (cs.map (zfu bs L k))
   |.v x=>.v x
   |.sl z es=>.sl z es
   |.fp cs=>.fp cs
   |.map c=>if bs.contains c then(snap L 5 (.map c)).getD .bot else .map c
   |.mp es=>.mp es
   |.fa z es=>.fa z es
   |_=>.bot
def zut(bs:List Nat)(L:Nat->Option Ent):Tab->Tab
 |[]=>[]
 |(j,a)::r=>(j,zfu bs L 4 a)::zut bs L r
def zqF(bs:List Nat)(L:Nat->Option Ent):Mem->Mem
 |[]=>[]
 |(j,e)::r=>if bs.contains j then zqF bs L r else
   (j,if e.box then{ e with es:=e.es.map λcs=>cs.map (zfu bs L 4) }else e)::zqF bs L r
def zeH(bs:List Nat)(st:St):St:=
 match bs with
 |[]=>st
 |bs=>{ t:=zut bs (look st.m) st.t,m:=zqF bs (look st.m) st.m }
def putO(d:Option Nat)(a:AV)(t:Tab):Tab:=
 match d with
 |some d=>(d,a)::t
 |none=>t
def delAll:List Nat->St->St
 |[],st=>st
 |b::r,st=>delAll r (del b st)
def applyR(dst:Option Nat)(r:Res)(st:St):St:=
 let st1:=zeH r.frz st
 let st2:=match r.kill with
  |some b=>del b st1
  |none=>st1
 let st3:=delAll r.re st2
 { t:=putO dst r.val st3.t,m:=setAll r.set st3.m }
def dstOk(N:Nat):Option Nat->Bool
 |some d=>decide (d<N)
 |none=>true
def aStep(P:Program)(C:Cfg)(M:List Nat)(call:zcv)(N:Nat)(ops:Array Oper)(o:Oper)(st:St):Option (Res×St):=
 if dstOk N o.dst then
  match zuv ops o st.t with
  |some true=>match aop P C M call o (ev st.t) (look st.m)with
    |some r=>some (r,applyR o.dst r st)
    |none=>none
  |some false=>some ({ val:=.v undef },applyR o.dst { val:=.v undef } st)
  |none=>none
 else none
def makes:Op->Bool
 |.alloc _|.box ..|.buildSlice ..|.makeSlice ..|.makeMap ..=>true
 |.call { callee:=.builtin .append,.. }=>true
 |.call { callee:=.value _,.. }=>true
 |_=>false
def preDel:List Oper->St->St
 |[],st=>st
 |o::r,st=>preDel r (match o.dst with
   |some d=>if makes o.op&&(look st.m d).isSome then del d st else st
   |none=>st)
def stills:Op->Bool
 |.move _|.assign _|.pick ..|.nilCheck _|.extract ..|.fieldAddr ..|.field ..|.indexAddr ..=>true
 |_=>false
def zo8(o:Oper)(E:Operand->AV)(L:Nat->Option Ent):List Nat:=
 o.dst.toList++if stills o.op then[]else o.op.operands.toList.flatMap λx=>(E x).ids L 6
def preds(ops:Array Oper):Nat->Nat->List Nat
 |0,_=>[]
 |k+1,i=>match ops[i]? with
   |some o=>o.after.toList.flatMap λe=>if Region.binds .any e then e.on::preds ops k e.on else[]
   |none=>[]
def disj(a b:List Nat):Bool:=a.all λx=>b.all λy=>x !=y
structure Mk where
 i:Nat
 o:Oper
 res:Res
 touch:List Nat
 pre:St
def bar(m:Mk):Bool:=!m.res.frz.isEmpty||!m.res.re.isEmpty
def AV.inert(b:Nat):Nat->AV->Bool
 |0,a=>match a with
   |.bot=>true
   |_=>false
 |k+1,a=>match a with
   |.loc c _ _ _=>c !=b
   |.row c _ _ _=>c !=b
   |.agg cs=>cs.all (AV.inert b k)
   |.tup cs=>cs.all (AV.inert b k)
   |.fn _ cs=>cs.all (AV.inert b k)
   |.v _=>true
   |.sl _ _=>true
   |.fp _=>true
   |.bot=>true
   |.map c=>c !=b
   |.mp _=>true
   |.fa _ _=>true
   |_=>false
def Ent.inert(b:Nat)(e:Ent):Bool:=if e.box then e.es.all λcs=>cs.all (AV.inert b 4)else true
def quiet(ops:Array Oper)(c:Option Nat)(m:Mk)(pre:St):Bool:=
 match c with
 |none=>true
 |some c=>m.res.val.inert c 4&&m.res.set.all (λp=>p.1 !=c&&p.2.inert c) &&
   m.touch.all (λb=>b !=c&&(match look pre.m b with
    |some e=>e.inert c
    |none=>true)) &&
   (Oper.looks ops m.o).all (λj=>(get pre.t j).inert c 4)
def indep(ops:Array Oper)(a b:Mk):Bool:=
 !bar a&&!bar b&&(a.res.kill.isNone||b.res.kill.isNone)&&quiet ops a.res.kill b a.pre&&quiet ops b.res.kill a a.pre &&
 disj a.o.dst.toList (Oper.looks ops b.o)&&disj b.o.dst.toList (Oper.looks ops a.o)&&disj a.o.dst.toList b.o.dst.toList &&
 disj (a.res.set.map (·.1)) b.touch&&disj (b.res.set.map (·.1)) a.touch&&disj (a.res.set.map (·.1)) (b.res.set.map (·.1))
def runOps(P:Program)(C:Cfg)(M:List Nat)(call:zcv)(N:Nat)(ops:Array Oper):Nat->List Oper->St->Option (List Mk×St)
 |_,[],st=>some ([],st)
 |i,o::r,st=>match aStep P C M call N ops o st with
   |none=>none
   |some (res,st')=>match runOps P C M call N ops (i+1) r st' with
     |none=>none
     |some (l,st'')=>some ({ i,o,res,touch:=zo8 o (ev st.t) (look st.m),pre:=st }::l,st'')
def drawOk(ops:Array Oper):List Mk->Bool
 |[]=>true
 |a::r=>r.all (λb=>(preds ops b.i b.i).contains a.i||indep ops a b)&&drawOk ops r
def zqC:Nat->List Oper->Bool
 |_,[]=>true
 |i,o::r=>o.after.toList.all (λe=>!Region.binds .any e||decide (e.on<i))&&zqC (i+1) r
def zkE(P:Program)(C:Cfg)(M:List Nat)(call:zcv)(N:Nat)(ops:Array Oper)(draw:Bool)(st:St):Option St:=
 match runOps P C M call N ops 0 ops.toList (preDel ops.toList st)with
 |none=>none
 |some (l,st')=>if !draw||(drawOk ops l&&zqC 0 ops.toList&&P.follows .mixedOrders)then some st' else none
inductive Ex where
 |normal
 |exit (id:Nat)
 |ret
structure Ann where
 lits:List Nat
 live:Nat->Option (List Nat)
 own:Nat->List (Nat×Nat×TypeId)
 frz:Bool:=false
 cel:Nat->List (Nat×Nat×Nat×Nat×TypeId):=λ_=>[]
 fz:Nat->List Nat:=λ_=>[]
def zle:List Nat->Tab->Tab
 |[],_=>[]
 |k::r,t=>match get t k with
   |.bot=>zle r t
   |a=>(k,a)::zle r t
def AV.ren(b s:Nat):Nat->AV->AV
 |0,_=>.bot
 |k+1,a=>match a with
   |.loc c z i o=>.loc (if c=b then s else c) z i o
   |.row c z o n=>.row (if c=b then s else c) z o n
   |.agg cs=>.agg (cs.map (AV.ren b s k))
   |.tup cs=>.tup (cs.map (AV.ren b s k))
   |.fn f cs=>.fn f (cs.map (AV.ren b s k))
   |.v x=>.v x
   |.sl z es=>.sl z es
   |.fp cs=>.fp cs
   |.map c=>.map (if c=b then s else c)
   |.mp es=>.mp es
   |.fa z es=>.fa z es
   |_=>.bot
def renE(b s:Nat)(e:Ent):Ent:=if e.box then{ e with es:=e.es.map λcs=>cs.map (AV.ren b s 4) }else e
def renT(b s:Nat):Tab->Tab
 |[]=>[]
 |(j,a)::r=>(j,a.ren b s 4)::renT b s r
def renM(b s:Nat):Mem->Mem
 |[]=>[]
 |(j,e)::r=>(if j=b then s else j,renE b s e)::renM b s r
def renS(b s:Nat)(st:St):St:={ t:=renT b s st.t,m:=renM b s st.m }
def own1(s z:Nat)(e:TypeId)(st:St):St:=
 if s<1000/\0<z then
  match get st.t s with
  |.v (.slice none 0 0) =>
    let st':=del s st
    { t:=(s,.row s z 0 0)::st'.t,m:=(s,{ z,e,es:=[],box:=false })::st'.m }
  |.row b z' off n=>if b=s then st else match look st.m b with
    |some ent=>if b<1000/\off=0/\n=ent.es.length/\ent.box=false/\z'=ent.z then
      let st':=del b (del s st)
      { t:=(s,.row s z' 0 n)::st'.t,m:=(s,ent)::st'.m }
      else st
    |none=>st
  |.map b=>if b=s then st else if b<1000 then renS b s (del s st)else st
  |_=>st
 else st
def ownAll:List (Nat×Nat×TypeId)->St->St
 |[],st=>st
 |(s,z,e)::r,st=>ownAll r (own1 s z e st)
def cell1(B j s z:Nat)(e:TypeId)(st:St):St:=
 if s<1000/\B≠s/\0<z then
  match look st.m B with
  |some ent=>match ent.box,ent.es with
    |true,[cs]=>match cs[j]? with
      |some (.row b _ _ _)=>if b=s then st else if b<1000 then renS b s (del s st)else st
      |some (.map b)=>if b=s then st else if b<1000 then renS b s (del s st)else st
      |some (.v (.slice none 0 0)) =>
        let st':=del s st
        match look st'.m B with
        |some ent'=>match ent'.box,ent'.es with
          |true,[cs']=>match cs'[j]? with
            |some (.v (.slice none 0 0))=>{ t:=st'.t,m:=(s,{ z,e,es:=[],box:=false })::repM (B,{ ent' with es:=[cs'.set j (.row s z 0 0)] }) st'.m }
            |_=>st
          |_,_=>st
        |none=>st
      |_=>st
    |_,_=>st
  |none=>st
 else if s=1000 then
  match look st.m B with
  |some ent=>match ent.box,ent.es with
    |true,[cs]=>match cs[j]? with
      |some (.v (.slice none 0 0))=>{ t:=st.t,m:=repM (B,{ ent with es:=[cs.set j (.sl z [])] }) st.m }
      |_=>st
    |_,_=>st
  |none=>st
 else st
def zr9:List (Nat×Nat×Nat×Nat×TypeId)->St->St
 |[],st=>st
 |(B,j,s,z,e)::r,st=>zr9 r (cell1 B j s z e st)
def deadIds(st:St):List Nat:=
 let r:=(st.t.flatMap λp=>p.2.ids (look st.m) 5)++(st.m.flatMap λp=>if decide (1000<=p.1)&&p.2.box then p.2.es.flatMap λcs=>cs.flatMap λa=>a.ids (look st.m) 4 else[])
 (st.m.map (·.1)).filter λb=>decide (b<1000)&&!r.contains b
def insM(p:Nat×Ent):Mem->Mem
 |[]=>[p]
 |q::r=>if p.1<=q.1 then p::q::r else q::insM p r
def sortM:Mem->Mem
 |[]=>[]
 |p::r=>insM p (sortM r)
def fzIds(l:List Nat)(st:St):List Nat:=l.flatMap λs=>(get st.t s).ids (look st.m) 5
def znu(l:List Nat)(st:St):St:=
 match l with
 |[]=>st
 |l=>if(fzIds l st).all (λb=>decide (b<1000)&&(look st.m b).isSome)=true then zeH (fzIds l st) st else st
def tidy(A:Ann)(id:Nat)(st:St):St:=
 match A.live id with
 |some l =>
   let st:=zr9 (A.cel id) (ownAll (A.own id) (znu (A.fz id) st))
   let st':St:={ st with t:=zle l st.t }
   let st':=delAll (deadIds st') st'
   { st' with m:=sortM st'.m }
 |none=>zr9 (A.cel id) (ownAll (A.own id) (znu (A.fz id) st))
abbrev Loop:=(St->Option (Ex×St))->St->Option (Ex×St)
def aeval(P:Program)(C:Cfg)(A:Ann)(N:Nat)(call:zcv)(it:Loop):Code->St->Option (Ex×St)
 |.skip,st=>some (.normal,st)
 |.region id ops draw,st=>match zkE P C A.lits call N ops draw (znu (A.fz (id+1000)) st)with
   |some st'=>some (.normal,tidy A id st')
   |none=>none
 |.seq a b,st=>match aeval P C A N call it a st with
   |some (.normal,st')=>aeval P C A N call it b st'
   |r=>r
 |.cond c x y,st=>match ev st.t c with
   |.v (.bool b)=>if b then aeval P C A N call it x st else aeval P C A N call it y st
   |_=>none
 |.block id c,st=>match aeval P C A N call it c st with
   |some (.exit j,st')=>if j=id then some (.normal,st')else some (.exit j,st')
   |r=>r
 |.loop c,st=>it (aeval P C A N call it c) st
 |.exit id,st=>some (.exit id,st)
 |.ret,st=>some (.ret,st)
 |_,_=>none
def iter:Nat->Loop
 |0,_,_=>none
 |n+1,step,st=>match step st with
   |some (.normal,st')=>iter n step st'
   |r=>r
def outOf(frz:Bool)(m:Mem)(a:AV):Option AV:=
 let L:Nat->Option Ent:=λb=>if b<1000 then look m b else none
 match a with
 |.row b z off n=>if 1000<=b then(if frz=false/\(look m b).isSome=true then some (.row b z off n)else none)else match L b with
   |some ent=>if frz=false/\ent.z=z/\off=0/\n=ent.es.length/\ent.box=false/\0<z then some (.new z ent.e ent.es)else snap L 5 a
   |none=>none
 |.loc b z i o=>if 1000<=b then(if(look m b).isSome=true then some (.loc b z i o)else none)else match L b with
   |some ent=>if ent.z=z/\ent.box=true/\i=0/\o=0 then(match ent.es with
     |[cs]=>if allL (AV.isC 4) cs=true then some (.newp z ent.e cs)else none
     |_=>none)else none
   |none=>none
 |.map b=>if 1000<=b then none else match L b with
   |some ent=>if frz=false/\ent.z=0/\ent.box=false then some (.newm ent.e ent.es)else snap L 5 a
   |none=>none
 |a=>snap L 5 a
def resVar(P:Program)(st:St):ResultVar->Option AV
 |.tmp t=>match get st.t t with
   |.bot=>none
   |a=>some a
 |.cell a t=>match aLoad P (look st.m) t (get st.t a)with
   |some r=>some r.val
   |none=>none
def out1(P:Program)(frz:Bool)(t:TypeId)(m:Mem)(a:AV):Option AV:=
 match a,frz with
 |.v (.slice none 0 0),false=>(match P.underlying t with
   |some (.slice e)=>(match szB P e with
     |some z=>if 0<z then some (.new z e [])else none
     |none=>none)
   |_=>none)
 |a,frz=>outOf frz m (nrm P t a)
def ziU(P:Program)(frz:Bool)(fn:Func)(st:St):Option AV:=
 match mapO (resVar P st) fn.results.toList with
 |some [a]=>out1 P frz (fn.resultTypes.getD 0 0) st.m a
 |some l=>outOf frz st.m (.tup (nrmA P fn.resultTypes.toList l))
 |none=>none
def argTab:Nat->List AV->Tab
 |_,[]=>[]
 |k,a::r=>(k,a)::argTab (k+1) r
def nref(is:List Nat):AV->Bool
 |.row c _ 0 _=>decide (900<=c)&&(decide (c<950)&&is.contains c)
 |.map c=>decide (900<=c)&&(decide (c<950)&&is.contains c)
 |_=>false
def zka(is:List Nat)(m:Mem):Mem->Option Mem
 |[]=>some []
 |(k,_)::r=>if k<1000 then(if 900<=k/\k<950 then(match look m k,zka is m r with
   |some ent,some l=>if ent.box=false then some ((k,ent)::l)else none
   |_,_=>none)else zka is m r)else match look m k,zka is m r with
   |some ent,some l=>if ent.box=false\/allL (λcs=>allL (λa=>a.isC 4||nref is a) cs) ent.es=true then some ((k,ent)::l)else none
   |_,_=>none
def zoR(m ms:Mem):Option Mem:=zka (ms.map (·.1)) m ms
def zxv(r:AV)(ms:Mem):Option (AV×Mem):=if(ms.all (λp=>decide (1000<=p.1))||r.flat 4)=true then some (r,ms)else none
abbrev AnnF:=FuncId->Ann
end Go.Ab
namespace Go.Ab
open Go.RowKit
class Dr where
 on:Prop
instance (priority:=low) drOff:Dr:=⟨False⟩
@[reducible] def drOn:Dr:=⟨True⟩
def OutD[Dr](w w':World):Prop:=w'.output=w.output/\(Dr.on->w.drawn<=w'.drawn)
theorem OutD.of[Dr]{w w':World}(h:w'.output=w.output:=by rfl)(h2:w.drawn<=w'.drawn:=by first|exact zaX _|exact Nat.le_add_right _ _|simp):OutD w w':=⟨h,λ_=>h2⟩
theorem OutD.trans[Dr]{a b c:World}(h:OutD a b)(h':OutD b c):OutD a c:=⟨h'.1.trans h.1,λd=>zbP (h.2 d) (h'.2 d)⟩
inductive CRel(S:Nat->Prop)(w:World):AV->Value->Prop
 |v (x:Value):CRel S w (.v x) x
 |sl (z:Nat) (es:List (List AV)) (A:Option Addr) (len cap:Nat) (u:Nat->Nat->Value) (hlen:len=es.length) (hcap:len<=cap)
   (hz:∀cs∈es,cs.length=z) (ha:es=[]\/∃a,A=some a/\S a.block/\∀(i j:Nat) (cs:List AV) (c:AV),es[i]?=some cs->cs[j]?=some c->w.cell? (a.add (i*z+j))=some (u i j)/\(u i j).oneCell'=true)
   (hr:∀(i j:Nat) (cs:List AV) (c:AV),es[i]?=some cs->cs[j]?=some c->CRel S w c (u i j)):CRel S w (.sl z es) (.slice A len cap)
 |agg (cs:List AV) (vs:Array Value) (hlen:vs.size=cs.length) (h1:∀x∈vs,x.oneCell'=true)
   (hr:∀(j:Nat) (c:AV) (x:Value),cs[j]?=some c->vs[j]?=some x->CRel S w c x):CRel S w (.agg cs) (.agg vs)
 |tup (cs:List AV) (vs:Array Value) (hlen:vs.size=cs.length)
   (hr:∀(j:Nat) (c:AV) (x:Value),cs[j]?=some c->vs[j]?=some x->CRel S w c x):CRel S w (.tup cs) (.tuple vs)
 |fp (cs:List AV) (a:Addr) (u:Nat->Value) (hS:S a.block) (hc:∀(j:Nat) (c:AV),cs[j]?=some c->w.cell? (a.add j)=some (u j)/\(u j).oneCell'=true)
   (hr:∀(j:Nat) (c:AV),cs[j]?=some c->CRel S w c (u j)):CRel S w (.fp cs) (.pointer (some a))
 |fn (f:FuncId) (cs:List AV) (vs:Array Value) (hlen:vs.size=cs.length)
   (hr:∀(j:Nat) (c:AV) (x:Value),cs[j]?=some c->vs[j]?=some x->CRel S w c x):CRel S w (.fn f cs) (.func (.func f) #[] vs)
 |fa (z:Nat) (es:List (List AV)) (a:Addr) (u:Nat->Nat->Value) (hz:∀cs∈es,cs.length=z) (hS:S a.block)
   (hc:∀(i j:Nat) (cs:List AV) (c:AV),es[i]?=some cs->cs[j]?=some c->w.cell? (a.add (i*z+j))=some (u i j)/\(u i j).oneCell'=true)
   (hr:∀(i j:Nat) (cs:List AV) (c:AV),es[i]?=some cs->cs[j]?=some c->CRel S w c (u i j)):CRel S w (.fa z es) (.pointer (some a))
 |mp (es:List (List AV)) (g:Nat) (en:Array MapEntry) (clock:Nat) (hS:S g) (hg:w.heap[g]?=some (.map en clock)) (hlen:en.size=es.length)
   (hb:∀(i:Nat) (e:MapEntry),en[i]?=some e->e.born<clock) (hi:∀(i j:Nat) (e f:MapEntry),i<j->en[i]?=some e->en[j]?=some f->e.born<f.born)
   (h2:∀cs∈es,∃k v,cs=[k,v])
   (hk:∀(i:Nat) (k v:AV) (e:MapEntry),es[i]?=some [k,v]->en[i]?=some e->CRel S w k e.key)
   (hv:∀(i:Nat) (k v:AV) (e:MapEntry),es[i]?=some [k,v]->en[i]?=some e->CRel S w v e.val):CRel S w (.mp es) (.map (some g))
 |bx (x:AV) (g:Nat) (u:Value) (hS:S g) (hc:w.cell? ⟨g,0,none⟩=some u/\u.oneCell'=true) (hr:CRel S w x u):CRel S w (.fa 0 [[x]]) (.pointer (some ⟨g,0,none⟩))
theorem CRel.fa_data{S:Nat->Prop}{w:World}{z:Nat}{es:List (List AV)}{y:Value}(h:CRel S w (.fa z es) y):∃(a:Addr) (u:Nat->Nat->Value),y=.pointer (some a)/\S a.block/\(∀(i j:Nat) (cs:List AV) (c:AV),es[i]?=some cs->cs[j]?=some c->w.cell? (a.add (i*z+j))=some (u i j)/\(u i j).oneCell'=true)/\∀(i j:Nat) (cs:List AV) (c:AV),es[i]?=some cs->cs[j]?=some c->CRel S w c (u i j):=by
 cases h with
 |fa _ _ a u hz hS hc hr=>exact⟨a,u,rfl,hS,hc,hr⟩
 |bx x g u hS hc hr =>
   refine⟨⟨g,0,none⟩,λ_ _=>u,rfl,hS,λi j cs c hi hj=>?_,λi j cs c hi hj=>?_⟩
   all_goals
    match i,hi with
    |0,hi =>
      simp only[zbR,zaf]at hi;subst hi
      match j,hj with
      |0,hj =>
        simp only[zbR,zaf]at hj;subst hj
        first|exact hc|exact hr
abbrev Kap:=Nat->Option (Nat×Nat)
inductive VRel(S:Nat->Prop)(κ:Kap)(D:Nat->Prop)(w:World):AV->Value->Prop
 |bot (x:Value):VRel S κ D w .bot x
 |c {a:AV} {x:Value} (h:CRel S w a x):VRel S κ D w a x
 |loc (b z i o g c:Nat) (hd:D b) (hk:κ b=some (g,c)):VRel S κ D w (.loc b z i o) (.pointer (some ⟨g,i*z+o,none⟩))
 |row0 (b z:Nat) (hd:D b) (hk:κ b=none):VRel S κ D w (.row b z 0 0) (.slice none 0 0)
 |row (b z off n g c off' cap:Nat) (hd:D b) (hk:κ b=some (g,c)) (hn:n<=cap) (ho:off'=off*z\/(n=0/\off≠0)) (hc:off=0->cap=c) :
   VRel S κ D w (.row b z off n) (.slice (some ⟨g,off',none⟩) n cap)
 |map (b g c:Nat) (hd:D b) (hk:κ b=some (g,c)):VRel S κ D w (.map b) (.map (some g))
 |agg (cs:List AV) (vs:Array Value) (hlen:vs.size=cs.length) (h1:∀x∈vs,x.oneCell'=true)
   (hr:∀(j:Nat) (c:AV) (x:Value),cs[j]?=some c->vs[j]?=some x->VRel S κ D w c x):VRel S κ D w (.agg cs) (.agg vs)
 |tup (cs:List AV) (vs:Array Value) (hlen:vs.size=cs.length)
   (hr:∀(j:Nat) (c:AV) (x:Value),cs[j]?=some c->vs[j]?=some x->VRel S κ D w c x):VRel S κ D w (.tup cs) (.tuple vs)
 |fn (f:FuncId) (cs:List AV) (vs:Array Value) (hlen:vs.size=cs.length)
   (hr:∀(j:Nat) (c:AV) (x:Value),cs[j]?=some c->vs[j]?=some x->VRel S κ D w c x):VRel S κ D w (.fn f cs) (.func (.func f) #[] vs)
theorem zmn(a:Addr)(n:Nat):(a.add n).block=a.block:=by unfold Addr.add;split<;>rfl
theorem CRel.mono{S S':Nat->Prop}{w w':World}(hS:∀g,S g->S' g)(hw:∀g,S g->w'.heap[g]?=w.heap[g]?){a:AV}{x:Value}(h:CRel S w a x):CRel S' w' a x:=by
 have hcell:∀p:Addr,S p.block->w'.cell? p=w.cell? p:=λp hp=>World.cell?_of_block (hw _ hp)
 induction h with
 |v x=>exact .v x
 |sl z es A len cap u hlen hcap hz ha hr ih =>
   refine .sl z es A len cap u hlen hcap hz ?_ ih;rcases ha with h0|⟨a,hA,hs,hc⟩
   ·exact .inl h0
   · refine .inr ⟨a,hA,hS _ hs,λi j cs c h1 h2=>?_⟩;rw[hcell _ (by rw[zmn];exact hs)]
     grind
 |agg cs vs hlen h1 hr ih=>exact .agg cs vs hlen h1 ih
 |tup cs vs hlen hr ih=>exact .tup cs vs hlen ih
 |fp cs a u hs hc hr ih=>refine .fp cs a u (hS _ hs) (λj c h=>?_) ih;rw[hcell _ (by rw[zmn];exact hs)];exact hc j c h
 |fn f cs vs hlen hr ih=>exact .fn f cs vs hlen ih
 |fa z es a u hz hs hc hr ih =>
   refine .fa z es a u hz (hS _ hs) (λi j cs c h1 h2=>?_) ih;rw[hcell _ (by rw[zmn];exact hs)]
   grind
 |mp es g en clock hs hg hlen hb hi h2 hk hv ihk ihv=>exact .mp es g en clock (hS _ hs) ((hw _ hs).trans hg) hlen hb hi h2 ihk ihv
 |bx x g u hs hc hr ih=>exact .bx x g u (hS _ hs) (by rw[hcell _ hs];exact hc) ih
theorem VRel.mono{S S':Nat->Prop}{κ κ':Kap}{D D':Nat->Prop}{w w':World}(hS:∀g,S g->S' g)(hw:∀g,S g->w'.heap[g]?=w.heap[g]?)
  (hD:∀b,D b->D' b) (hκ:∀b,D b->κ' b=κ b) {a:AV} {x:Value} (h:VRel S κ D w a x):VRel S' κ' D' w' a x:=by
 induction h with
 |bot x=>exact .bot x
 |c h=>exact .c (h.mono hS hw)
 |loc b z i o g c hd hk=>exact .loc b z i o g c (hD _ hd) ((hκ _ hd).trans hk)
 |row0 b z hd hk=>exact .row0 b z (hD _ hd) ((hκ _ hd).trans hk)
 |row b z off n g c off' cap hd hk hn ho hc=>exact .row b z off n g c off' cap (hD _ hd) ((hκ _ hd).trans hk) hn ho hc
 |map b g c hd hk=>exact .map b g c (hD _ hd) ((hκ _ hd).trans hk)
 |agg cs vs hlen h1 hr ih=>exact .agg cs vs hlen h1 ih
 |tup cs vs hlen hr ih=>exact .tup cs vs hlen ih
 |fn f cs vs hlen hr ih=>exact .fn f cs vs hlen ih
section inv
variable{S:Nat->Prop}{κ:Kap}{D:Nat->Prop}{w:World}
theorem VRel.v_inv{x y:Value}(h:VRel S κ D w (.v x) y):y=x:=by
 cases h with
 |c h=>cases h;rfl
theorem VRel.agg_inv{cs:List AV}{y:Value}(h:VRel S κ D w (.agg cs) y):∃vs,y=.agg vs/\vs.size=cs.length/\(∀x∈vs,x.oneCell'=true)/\∀(j:Nat) (c:AV) (x:Value),cs[j]?=some c->vs[j]?=some x->VRel S κ D w c x:=by
 cases h with
 |c h=>cases h with|agg _ vs hlen h1 hr=>exact⟨vs,rfl,hlen,h1,λj c x a b=>.c (hr j c x a b)⟩
 |agg _ vs hlen h1 hr=>grind
theorem VRel.tup_inv{cs:List AV}{y:Value}(h:VRel S κ D w (.tup cs) y):∃vs,y=.tuple vs/\vs.size=cs.length/\∀(j:Nat) (c:AV) (x:Value),cs[j]?=some c->vs[j]?=some x->VRel S κ D w c x:=by
 cases h with
 |c h=>cases h with|tup _ vs hlen hr=>exact⟨vs,rfl,hlen,λj c x a b=>.c (hr j c x a b)⟩
 |tup _ vs hlen hr=>grind
theorem VRel.fn_inv{f:FuncId}{cs:List AV}{y:Value}(h:VRel S κ D w (.fn f cs) y):∃vs,y=.func (.func f) #[] vs/\vs.size=cs.length/\∀(j:Nat) (c:AV) (x:Value),cs[j]?=some c->vs[j]?=some x->VRel S κ D w c x:=by
 cases h with
 |c h=>cases h with|fn _ _ vs hlen hr=>exact⟨vs,rfl,hlen,λj c x a b=>.c (hr j c x a b)⟩
 |fn _ _ vs hlen hr=>grind
theorem VRel.sl_inv{z:Nat}{es:List (List AV)}{y:Value}(h:VRel S κ D w (.sl z es) y):CRel S w (.sl z es) y:=by
 cases h with
 |c h=>exact h
theorem VRel.fp_inv{cs:List AV}{y:Value}(h:VRel S κ D w (.fp cs) y):CRel S w (.fp cs) y:=by
 cases h with
 |c h=>exact h
theorem VRel.loc_inv{b z i o:Nat}{y:Value}(h:VRel S κ D w (.loc b z i o) y):∃g c,D b/\κ b=some (g,c)/\y=.pointer (some ⟨g,i*z+o,none⟩):=by
 cases h with
 |c h=>cases h
 |loc _ _ _ _ g c hd hk=>simp_all
theorem VRel.fa_inv{z:Nat}{es:List (List AV)}{y:Value}(h:VRel S κ D w (.fa z es) y):CRel S w (.fa z es) y:=by
 cases h with
 |c h=>exact h
theorem VRel.mp_inv{es:List (List AV)}{y:Value}(h:VRel S κ D w (.mp es) y):CRel S w (.mp es) y:=by
 cases h with
 |c h=>exact h
theorem VRel.map_inv{b:Nat}{y:Value}(h:VRel S κ D w (.map b) y):∃g c,D b/\κ b=some (g,c)/\y=.map (some g):=by
 cases h with
 |c h=>cases h
 |map _ g c hd hk=>simp_all
theorem zyM{a:AV}{x y:Value}(h:a.scal=some x)(hr:VRel S κ D w a y):y=x:=by cases a<;>simp[AV.scal]at h;subst h;exact hr.v_inv
theorem zmq{α β:Type}{f:α->Option β}:∀{l:List α} {r:List β},mapO f l=some r->r.length=l.length/\∀(j:Nat) (a:α),l[j]?=some a->∃b,r[j]?=some b/\f a=some b
 |[],r,h=>by simp[mapO]at h;subst h;simp
 |a::l,r,h=>by
   simp only[mapO]at h
   cases hf:f a with
   |none=>simp[hf]at h
   |some b =>
     simp only[hf]at h
     cases hm:mapO f l with
     |none=>simp[hm]at h
     |some l' =>
       simp only[hm,zaf]at h;subst h;obtain⟨h1,h2⟩:=zmq hm
       grind
theorem zCL{a:AV}{x y:Value}(h:a.toVal=some x)(hr:VRel S κ D w a y):y=x:=by
 cases a<;>simp[AV.toVal]at h
 case v=>subst h;exact hr.v_inv
 case agg cs =>
  cases hm:mapO AV.scal cs with
  |none=>simp[hm]at h
  |some l =>
    simp only[hm,zaf]at h;subst h;obtain⟨vs,rfl,hlen,_,hp⟩:=hr.agg_inv;obtain⟨hl,hs⟩:=zmq hm;congr 1;apply Array.ext_getElem?;intro j
    cases hj:cs[j]? with
    |none=>simp_all
    |some c =>
      obtain⟨b,hb,hc⟩:=hs j c hj;have hlt:j<vs.size:=by have:=(zam.1 hj).1;omega
      have hv:vs[j]?=some vs[j]:=zaU hlt;rw[hv];have:=zyM hc (hp j c _ hj hv);simp[hb,this]
 case fn f cs =>
  cases cs with
  |nil =>
    simp at h;subst h;obtain⟨vs,rfl,hlen,_⟩:=hr.fn_inv
    simp_all
  |cons _ _=>simp at h
theorem zKc{x:Value}{a:AV}(h:ofVal x=some a):CRel S w a x:=by
 unfold ofVal at h;split at h
 · split at h<;>simp at h;subst h;refine .tup _ _ (by simp) λj c y hc hy=>?_
   simp at hc;obtain⟨q,hq,rfl⟩:=hc;rw[hq]at hy;injection hy with hy;subst hy;exact .v _
 ·split at h<;>simp at h;subst h;exact .v _
theorem ztD{α:Type}(P:Program):∀(s:Sem α) (x:α),zdL P s=some x->∀w,s.run P w=.ok x w
 |.pure a,x,h,w=>by simp[zdL]at h;subst h;rfl
 |.program k,x,h,w=>by simp only[zdL]at h;exact ztD P (k P) x h w
 |.mark m k,x,h,w=>by simp only[zdL]at h;exact ztD P k x h w
 |.load ..,x,h,w=>by simp[zdL]at h
 |.store ..,x,h,w=>by simp[zdL]at h
 |.new ..,x,h,w=>by simp[zdL]at h
 |.shape ..,x,h,w=>by simp[zdL]at h
 |.freeze ..,x,h,w=>by simp[zdL]at h
 |.frozen ..,x,h,w=>by simp[zdL]at h
 |.getObj ..,x,h,w=>by simp[zdL]at h
 |.setObj ..,x,h,w=>by simp[zdL]at h
 |.choose ..,x,h,w=>by simp[zdL]at h
 |.sys ..,x,h,w=>by simp[zdL]at h
 |.halt ..,x,h,w=>by simp[zdL]at h
theorem zgZ{α:Type}{f:α->Bool}:∀{l:List α},allL f l=true->∀a∈l,f a=true
 |[],_,a,h=>by cases h
 |b::l,h,a,hm=>by
   simp only[allL,zaO]at h
   cases za4.1 hm with
   |inl e=>subst e;exact h.1
   |inr e=>exact zgZ h.2 a e
theorem one_sound{a:AV}{x:Value}(h:a.one=true)(hr:VRel S κ D w a x):x.oneCell'=true:=by
 cases a<;>simp[AV.one]at h
 case v=>rw[hr.v_inv];exact h
 case sl=>have:=hr.sl_inv;cases this;rfl
 case fp=>have:=hr.fp_inv;cases this;rfl
 case loc=>obtain⟨_,_,_,_,rfl⟩:=hr.loc_inv;rfl
 case row=>cases hr with
  |c h=>cases h
  |row0=>rfl
  |row=>rfl
 case fn=>obtain⟨_,rfl,_⟩:=hr.fn_inv;rfl
 case map=>obtain⟨_,_,_,_,rfl⟩:=hr.map_inv;rfl
 case mp=>have:=hr.mp_inv;cases this;rfl
 case fa=>obtain⟨_,_,e,_⟩:=hr.fa_inv.fa_data;rw[e];rfl
theorem zkY:∀(k:Nat) {a:AV} {x:Value},a.isC k=true->VRel S κ D w a x->CRel S w a x
 |0,a,x,h,_=>by simp[AV.isC]at h
 |k+1,a,x,h,hr=>by
   cases a<;>simp[AV.isC]at h
   case v=>rw[hr.v_inv];exact .v _
   case sl=>exact hr.sl_inv
   case fp=>exact hr.fp_inv
   case mp=>exact hr.mp_inv
   case fa=>exact hr.fa_inv
   case agg cs=>obtain⟨vs,rfl,hl,h1,hp⟩:=hr.agg_inv;exact .agg cs vs hl h1 λj c x hc hx=>zkY k (zgZ h c (zaq hc)) (hp j c x hc hx)
   case fn f cs=>obtain⟨vs,rfl,hl,hp⟩:=hr.fn_inv;exact .fn f cs vs hl λj c x hc hx=>zkY k (zgZ h c (zaq hc)) (hp j c x hc hx)
theorem zwl{a:AV}{x:Value}(h1:allL AV.one a.cells=true)(hr:VRel S κ D w a x):x.cells.size=a.cells.length/\(∀y∈x.cells,y.oneCell'=true)/\∀(j:Nat) (c:AV) (y:Value),a.cells[j]?=some c->x.cells[j]?=some y->VRel S κ D w c y:=by
 have other:a.cells=[a]->x.cells.size=a.cells.length/\(∀y∈x.cells,y.oneCell'=true)/\∀(j:Nat) (c:AV) (y:Value),a.cells[j]?=some c->x.cells[j]?=some y->VRel S κ D w c y:=by
  intro e;have hx:x.oneCell'=true:=one_sound (zgZ h1 a (by rw[e];simp)) hr;have hc:x.cells=#[x]:=by cases x<;>first|rfl|(simp[Value.oneCell']at hx)
  rw[e,hc];refine⟨rfl,by simpa using hx,λj c y h h'=>?_⟩
  cases j with
  |zero=>simp_all
  |succ j=>simp at h
 cases a with
 |agg cs=>obtain⟨vs,rfl,hl,h1,hp⟩:=hr.agg_inv;exact⟨hl,h1,hp⟩
 |_=>exact other rfl
theorem CRel.nil_sl(z:Nat):CRel S w (.sl z []) (.slice none 0 0):=
 .sl z [] none 0 0 (λ_ _=>undef) rfl (zaX _) (λ_ h=>by cases h) (.inl rfl) (λi j cs c h=>by simp at h)
theorem zyA(P:Program)(t:TypeId)(a:AV):nrm1 P t a=a\/(a=.v (.slice none 0 0)/\∃z,nrm1 P t a=.sl z []):=by
 unfold nrm1
 grind
theorem zs3{P:Program}{t:TypeId}{a:AV}{x:Value}(h:CRel S w a x):CRel S w (nrm1 P t a) x:=by
 rcases zyA P t a with e|⟨rfl,z,e⟩
 ·rw[e];exact h
 ·rw[e];cases h;exact CRel.nil_sl z
theorem nrm1_rel{P:Program}{t:TypeId}{a:AV}{x:Value}(h:VRel S κ D w a x):VRel S κ D w (nrm1 P t a) x:=by
 rcases zyA P t a with e|⟨rfl,z,e⟩
 ·rw[e];exact h
 ·rw[e,h.v_inv];exact .c (CRel.nil_sl z)
theorem zlD(P:Program):∀(ts:List TypeId) (l:List AV),(nrmL P ts l).length=l.length
 |[],l=>by cases l<;>rfl
 |t::ts,[]=>rfl
 |t::ts,a::r=>by simp[nrmL,zlD P ts r]
theorem zst(P:Program):∀(ts:List TypeId) (l:List AV) (j:Nat) (c:AV),(nrmL P ts l)[j]?=some c->∃a,l[j]?=some a/\(c=a\/∃t,c=nrm1 P t a)
 |[],l,j,c,h=>by
   have:nrmL P [] l=l:=by cases l<;>rfl
   simp_all
 |t::ts,[],j,c,h=>by simp[nrmL]at h
 |t::ts,a::r,j,c,h=>by
   cases j with
   |zero=>simp[nrmL]at h;grind
   |succ j=>simp[nrmL]at h ⊢;exact zst P ts r j c h
theorem zuu{P:Program}{t:TypeId}{a:AV}{x:Value}(h:VRel S κ D w a x):VRel S κ D w (nrm P t a) x:=by
 unfold nrm;split
 · rename_i cs;obtain⟨vs,rfl,hl,h1,hr⟩:=h.agg_inv;refine .agg _ vs (by rw[zlD];exact hl) h1 (λj c x hj hx=>?_);obtain⟨a,ha,hc⟩:=zst P _ _ j c hj;rcases hc with rfl|⟨t',rfl⟩
   ·exact hr j _ x ha hx
   ·exact nrm1_rel (hr j _ x ha hx)
 ·exact nrm1_rel h
theorem nrmP_rel{P:Program}{t:TypeId}{a:AV}{x:Value}(h:VRel S κ D w a x):VRel S κ D w (nrmP P t a) x:=by
 unfold nrmP;split
 ·exact zuu h
 ·exact h
theorem nrmS_rel{P:Program}{L:Nat->Option Ent}{t:TypeId}{b a:AV}{x:Value}(h:VRel S κ D w a x):VRel S κ D w (nrmS P L t b a) x:=by
 unfold nrmS
 repeat' split
 all_goals first|exact h|exact zuu h
theorem zlC(P:Program):∀(ts:List TypeId) (l:List AV),(nrmA P ts l).length=l.length
 |[],l=>by cases l<;>rfl
 |t::ts,[]=>rfl
 |t::ts,a::r=>by simp[nrmA,zlC P ts r]
theorem zyB(P:Program):∀(ts:List TypeId) (l:List AV) (j:Nat) (c:AV),(nrmA P ts l)[j]?=some c->∃a,l[j]?=some a/\(c=a\/∃t,c=nrm P t a)
 |[],l,j,c,h=>by
   have:nrmA P [] l=l:=by cases l<;>rfl
   simp_all
 |t::ts,[],j,c,h=>by simp[nrmA]at h
 |t::ts,a::r,j,c,h=>by
   cases j with
   |zero=>simp[nrmA]at h;grind
   |succ j=>simp[nrmA]at h ⊢;exact zyB P ts r j c h
theorem nrmA_rel{P:Program}{ts:List TypeId}{l:List AV}{vs:Array Value}(hr:∀(j:Nat) (c:AV) (x:Value),l[j]?=some c->vs[j]?=some x->VRel S κ D w c x)
  (j:Nat) (c:AV) (x:Value) (hj:(nrmA P ts l)[j]?=some c) (hx:vs[j]?=some x):VRel S κ D w c x:=by
 obtain⟨a,ha,hc⟩:=zyB P ts l j c hj;rcases hc with rfl|⟨t,rfl⟩
 ·exact hr j _ x ha hx
 ·exact zuu (hr j _ x ha hx)
theorem nrm1_ids(P:Program)(t:TypeId)(L:Nat->Option Ent)(k:Nat)(a:AV):(nrm1 P t a).ids L k=a.ids L k:=by
 rcases zyA P t a with e|⟨rfl,z,e⟩
 ·rw[e]
 ·rw[e];cases k<;>rfl
theorem nrmL_ids(P:Program)(L:Nat->Option Ent)(k:Nat):∀(ts:List TypeId) (l:List AV),(nrmL P ts l).flatMap (AV.ids L k)=l.flatMap (AV.ids L k)
 |[],l=>by cases l<;>rfl
 |t::ts,[]=>rfl
 |t::ts,a::r=>by simp only[nrmL,zhn,nrm1_ids,nrmL_ids P L k ts r]
theorem nrm_ids(P:Program)(t:TypeId)(L:Nat->Option Ent)(k:Nat)(a:AV):(nrm P t a).ids L k=a.ids L k:=by
 unfold nrm;split
 · cases k with
   |zero=>rfl
   |succ k=>simp only[AV.ids,nrmL_ids]
 ·exact nrm1_ids P t L k a
end inv
end Go.Ab
end
