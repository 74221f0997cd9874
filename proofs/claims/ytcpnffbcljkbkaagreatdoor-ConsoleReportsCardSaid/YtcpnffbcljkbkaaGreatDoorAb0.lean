/- An abstract interpreter over structural data for the model's code: its definitions. -/
import Derived.Orders
import Derived.Below
import Derived.Maps.AppendAt
import Derived.KernelRfl
import Derived.DeepKeys
import Derived.Laws.CopyRow
import Derived.Laws.MakeOwn
import Derived.Deep.Slices
set_option linter.all false
noncomputable section
namespace Go.Ab
abbrev zav:=@Nat.le_refl
abbrev za5:=@Nat.le_trans
abbrev zbI:=@List.getElem?_cons_zero
abbrev zaf:=@Option.some.injEq
abbrev zal:=@List.getElem?_eq_some_iff
abbrev zaN:=@Array.getElem?_eq_getElem
abbrev zaU:=@Bool.and_eq_true
abbrev zat:=@List.mem_cons
abbrev zau:=@List.mem_of_getElem?
abbrev zem:=@List.flatMap_cons
abbrev zaa:=@List.getElem?_eq_getElem
abbrev zab:=@List.length_map
abbrev zdT:=@List.length_range
abbrev zb6:=@List.getElem?_drop
abbrev zgR:=@Nat.add_assoc
abbrev zdz:=@Nat.add_mul
abbrev zcw:=@List.getElem?_take
abbrev zcs:=@Nat.lt_or_ge
abbrev zdL:=@List.foldl_cons
abbrev zfe:=@Nat.add_zero
abbrev zgj:=@Array.mem_iff_getElem?
abbrev zfb:=@Array.mem_of_getElem?
abbrev zce:=@List.getElem?_append
abbrev zc6:=@Nat.mod_eq_of_lt
abbrev zdD:=@List.getElem?_cons_succ
abbrev zej:=@Nat.mod_lt
abbrev zdd:=@Array.getElem?_eq_some_iff
abbrev zdm:=@List.mem_iff_getElem?
abbrev zg7:=@Nat.succ_mul
abbrev zbB:=@Nat.mul_le_mul_right
abbrev zfA:=@Array.getElem_mem
abbrev zeK:=@Nat.le_mul_of_pos_right
abbrev zaI:=@Nat.zero_add
abbrev zeE:=@Nat.mul_le_mul_left
abbrev zho:=@Int.toNat_of_nonneg
abbrev zgk:=@Int.le_refl
abbrev zeV:=@List.eq_of_mem_replicate
abbrev zgt:=@List.getElem?_replicate
abbrev zcX:=@Array.length_toList
abbrev zef:=@Nat.mul_comm
abbrev zb9:=@List.length_replicate
abbrev zcH:=@List.length_take
abbrev zdk:=@List.length_drop
abbrev zdV:=@Nat.div_eq_of_lt
abbrev zdE:=@List.mem_or_eq_of_mem_set
abbrev zaq:=@List.getElem_mem
abbrev zaW:=@List.length_append
abbrev zcr:=@List.eq_nil_of_length_eq_zero
abbrev zcT:=@Nat.zero_le
abbrev zbO:=@Nat.lt_of_lt_of_le
abbrev zaX:=@List.mem_append
abbrev zb7:=@List.mem_of_mem_take
abbrev zcA:=@List.append_assoc
abbrev zbM:=@List.mem_flatMap
abbrev zdW:=@List.mem_of_mem_drop
abbrev za0:=@Bool.false_eq_true
abbrev zi5:=@Nat.zero_mul
abbrev zan:=@Prod.mk.injEq
abbrev zbv:=@List.getElem?_map
abbrev zcM:=@Option.map_some
abbrev zbG:=@List.mem_cons_of_mem
abbrev zbx:=@List.map_cons
abbrev zfd:=@List.nodup_cons
abbrev zbd:=@List.all_eq_true
abbrev zdy:=@List.mem_cons_self
abbrev zaS:=@Bool.not_true
abbrev zbf:=@List.mem_map
abbrev zaT:=@Option.isSome_iff_exists
abbrev zdS:=@Bool.or_eq_true
abbrev zcG:=@List.mem_of_find?_eq_some
abbrev zel:=@List.find?_some
abbrev zbb:=@Option.some.inj
abbrev zci:=@Option.getD_some
abbrev ziA:=@List.all_cons
abbrev zd6:=@List.length_eq_zero_iff
abbrev zad:=@Option.bind_some
abbrev zfv:=@Array.getElem?_modify
abbrev zfw:=@Array.getElem?_toList
abbrev zdc:=@Array.toArray_toList
abbrev zgY:=@Array.getElem?_append
abbrev zed:=@Bool.not_eq_true'
abbrev zjn:=@Function.comp_def
abbrev zfq:=@List.drop_zero
abbrev zek:=@Bool.eq_iff_iff
abbrev zc2:=@List.map_congr_left
abbrev zbX:=@Array.mem_toList_iff
abbrev zcW:=@Array.getD_eq_getD_getElem?
abbrev zaJ:=@List.length_cons
abbrev ziI:=@List.range'_succ
abbrev zhp:=@List.map_id
abbrev zgq:=@List.mem_range
abbrev zdH:=@Option.map_eq_some_iff
abbrev zeN:=@List.map_nil
abbrev zap:=@List.cons.injEq
abbrev zdK:=@Bool.true_and
abbrev zeW:=@Bool.false_and
abbrev zbE:=@List.drop_eq_getElem_cons
abbrev zfR:=@Prod.ext
abbrev zgi:=@Array.getElem?_eq_none
abbrev zfQ:=@List.cons_append
abbrev zd2:=@List.cons.inj
abbrev ziz:=@Bool.and_true
abbrev zi4:=@Nat.pow_succ
abbrev zdX:=@Nat.pow_le_pow_right
abbrev zeJ:=@List.getElem?_append_left
abbrev zgZ:=@List.take_append_drop
abbrev zh7:=@List.take_zero
abbrev zc0:=@List.drop_eq_nil_of_le
abbrev zhm:=@Int.natCast_add
abbrev zeU:=@List.mem_iff_getElem
abbrev zjo:=@Nat.lt_trichotomy
abbrev zae:=@Int.toNat_natCast
abbrev zar:=@List.take_of_length_le
abbrev zct:=@List.map_append
abbrev zba:=@List.length_nil
abbrev zd5:=@Int.tmod_lt_of_pos
abbrev zee:=@List.length_pos_iff
abbrev zbh:=@List.not_mem_nil
abbrev zgB:=@List.mem_replicate
abbrev zbN:=@List.length_set
abbrev zdh:=@List.getElem_append_left
abbrev zf1:=@List.getElem_append_right
abbrev zbs:=@List.mem_singleton
abbrev zhl:=@Int.add_mul
abbrev zd3:=@List.map_take
abbrev zbn:=@List.take_length
abbrev ze5:=@List.map_drop
abbrev zb5:=@Nat.div_le_self
abbrev zfY:=@Nat.and_two_pow_sub_one_eq_mod
abbrev zbe:=@Bool.not_false
abbrev zi3:=@Nat.gcd_comm
abbrev zhr:=@Nat.le_of_dvd
abbrev zeA:=@Nat.gcd_dvd_right
abbrev zgl:=@Nat.mul_pos
abbrev zh6:=@Int.natAbs_mul
abbrev zdo:=@Int.natAbs_natCast
abbrev zhn:=@Int.neg_mul
abbrev zeO:=@List.pairwise_cons
abbrev zf2:=@List.pairwise_iff_getElem
abbrev zh8:=@Rat.mkRat_self
abbrev zdi:=@List.take_add_one
abbrev zjB:=@List.getElem_map
abbrev zgs:=@Int.mul_tdiv_add_tmod
abbrev ziK:=@Option.toList_some
abbrev zeR:=@Int.mul_le_mul_of_nonneg_right
abbrev zeX:=@Int.mul_le_mul_of_nonneg_left
abbrev zdp:=@List.getElem_of_mem
abbrev zf0:=@List.append_nil
abbrev zeY:=@List.singleton_append
abbrev zfl:=@Int.tdiv_eq_ediv_of_nonneg
abbrev zhq:=@List.nil_append
abbrev ziJ:=@Option.isSome_some
abbrev zg6:=@Int.add_zero
abbrev zfX:=@List.map_map
abbrev zcF:=@List.mem_nil_iff
abbrev zeu:=@Nat.lt_of_le_of_lt
abbrev zif:=@List.flatMap_append
abbrev zgh:=@List.take_succ_eq_append_getElem
abbrev zB:=@And.intro
abbrev zU:=zB @beq_eq_false_iff_ne.{0} @ne_eq.{1}
inductive AV where
 |bot
 |v (x:Value)
 |sl (z:Nat) (es:List (List AV))
 |agg (cs:List AV)
 |tup (vs:List AV)
 |fp (cs:List AV)
 |loc (b z i o:Nat)
 |row (b z off n:Nat)
 |fn (f:FuncId) (cap:List AV)
 |new (z:Nat) (e:TypeId) (es:List (List AV))
 |newp (z:Nat) (e:TypeId) (cs:List AV)
 |map (b:Nat)
 |mp (es:List (List AV))
 |newm (e:TypeId) (es:List (List AV))
 |fa (z:Nat) (es:List (List AV))
instance:Inhabited AV:=⟨.bot⟩
structure Ent where
 z:Nat
 e:TypeId
 es:List (List AV)
 box:Bool
abbrev Tab:=List (Nat×AV)
abbrev Mem:=List (Nat×Ent)
abbrev aD:=Nat->Prop
abbrev aK:=Nat->Option Ent
abbrev aN:=List AV
abbrev aO:=List Nat
abbrev aQ:=List Int
abbrev aS:=List (List AV)
abbrev aT:=Array Oper
abbrev aV:=Array Value
abbrev aX:=Exit->Act->World->Prop
abbrev aY:=List Prop
abbrev aZ:=Option Nat
abbrev aa:=Operand->AV
abbrev ac:=List (Nat×Nat)
abbrev af:=List Value
abbrev ag:=Option (Nat×Nat)
abbrev ah:=List (Nat×Ent)
abbrev ai:=Option (AV×Mem)
abbrev aj:=Act->World->Prop
abbrev ak:=Operand->Value
structure St where
 t:Tab
 m:Mem
def get:Tab->Nat->AV
 |[],_=>.bot
 |(j,a)::r,k=>if k=j then a else get r k
def look:Mem->Nat->Option Ent
 |[],_=>none
 |(j,a)::r,k=>if k=j then some a else look r k
def ev(t:Tab):Operand->AV
 |.tmp k=>get t k
 |.const x=>.v x
 |.func f=>.fn f []
 |.global _=>.bot
def zdb{α:Type}(p:Program):Sem α->Option α
 |.pure a=>some a
 |.program k=>zdb p (k p)
 |.mark _ k=>zdb p k
 |_=>none
def mapO{α β:Type}(f:α->Option β):List α->Option (List β)
 |[]=>some []
 |a::r=>match f a with
   |none=>none
   |some b=>match mapO f r with
     |none=>none
     |some l=>some (b::l)
def AV.scal:AV->Option Value
 |.v x=>some x
 |_=>none
def AV.toVal:AV->Option Value
 |.v x=>some x
 |.agg cs=>match mapO AV.scal cs with
   |some l=>some (.agg l.toArray)
   |none=>none
 |.fn f []=>some (.func (.func f) #[] #[])
 |_=>none
def AV.one:AV->Bool
 |.v x=>x.oneCell'
 |.sl ..|.fp ..|.loc ..|.row ..|.fn ..|.map ..|.mp ..|.fa ..=>true
 |_=>false
def allL{α:Type}(f:α->Bool):List α->Bool
 |[]=>true
 |a::r=>f a&&allL f r
def AV.isC:Nat->AV->Bool
 |0,_=>false
 |k+1,a=>match a with
   |.v _|.sl ..|.fp ..|.mp ..|.fa ..=>true
   |.agg cs=>allL (AV.isC k) cs
   |.fn _ cs=>allL (AV.isC k) cs
   |_=>false
def AV.cells:AV->List AV
 |.agg cs=>cs
 |a=>[a]
def AV.flat:Nat->AV->Bool
 |0,_=>false
 |k+1,a=>match a with
   |.v _=>true
   |.agg cs=>allL (AV.flat k) cs
   |.tup cs=>allL (AV.flat k) cs
   |_=>false
def ofVal(x:Value):Option AV:=
 match x with
 |.tuple vs=>if allL Value.oneCell' vs.toList then some (.tup (vs.toList.map .v))else none
 |x=>if x.oneCell' then some (.v x)else none
def enters(P:Program)(f:FuncId):Bool:=
 match P.funcs[f]? with
 |some fn=>fn.body.isSome&&!(fn.name == "runtime.NumGoroutine")
 |none=>false
def bare(P:Program)(f:FuncId):Bool:=
 match P.funcs[f]? with
 |some fn=>fn.body.isNone
 |none=>false
def AV.kill(b:Nat):Nat->AV->AV
 |0,_=>.bot
 |k+1,a=>match a with
   |.loc c z i o=>if c=b then .bot else .loc c z i o
   |.row c z o n=>if c=b then .bot else .row c z o n
   |.agg cs=>.agg (cs.map (AV.kill b k))
   |.tup cs=>.tup (cs.map (AV.kill b k))
   |.fn f cs=>.fn f (cs.map (AV.kill b k))
   |.v x=>.v x
   |.sl z es=>.sl z es
   |.fp cs=>.fp cs
   |.map c=>if c=b then .bot else .map c
   |.mp es=>.mp es
   |.fa z es=>.fa z es
   |_=>.bot
def killT(b:Nat):Tab->Tab
 |[]=>[]
 |(j,a)::r=>(j,a.kill b 4)::killT b r
def delM(b:Nat):Mem->Mem
 |[]=>[]
 |(j,e)::r=>if j=b then delM b r else
   (j,if e.box then{ e with es:=e.es.map λcs=>cs.map (AV.kill b 4) }else e)::delM b r
def del(b:Nat)(st:St):St:={ t:=killT b st.t,m:=delM b st.m }
def zyA(es:aS)(i o:Nat):List AV:=
 match i,o with
 |0,0=>es.flatten
 |i,o=>(es.drop i).flatten.drop o
def zLm(es:aS)(i o:Nat):zyA es i o=(es.drop i).flatten.drop o:=by
 unfold zyA
 grind
def snap(L:aK):Nat->AV->Option AV
 |0,_=>none
 |k+1,a=>match a with
   |.v x=>some (.v x)
   |.sl z es=>some (.sl z es)
   |.fp cs=>some (.fp cs)
   |.agg cs=>match mapO (snap L k) cs with
     |some l=>some (.agg l)
     |none=>none
   |.fn f cs=>match mapO (snap L k) cs with
     |some l=>some (.fn f l)
     |none=>none
   |.tup cs=>match mapO (snap L k) cs with
     |some l=>some (.tup l)
     |none=>none
   |.row b z off n=>match L b with
     |some ent=>if ent.z=z/\ent.box=false/\0<z/\off+n<=ent.es.length then some (.sl z ((ent.es.drop off).take n))else none
     |none=>none
   |.loc b z i o=>match L b with
     |some ent=>if ent.z=z/\(ent.box=true\/0<ent.z)then(match ent.es[i]? with
       |some cs=>if ent.box then(match mapO (snap L k) (cs.drop o)with
         |some l=>some (.fp l)
         |none=>none)else if i=0/\o=0 then some (.fa z ent.es)else some (.fp (zyA ent.es i o))
       |none=>none)else none
     |none=>none
   |.mp es=>some (.mp es)
   |.fa z es=>some (.fa z es)
   |.map b=>match L b with
     |some ent=>if ent.z=0/\ent.box=false then some (.mp ent.es)else none
     |none=>none
   |_=>none
def AV.ids(L:aK):Nat->AV->List Nat
 |0,_=>[]
 |k+1,a=>match a with
   |.agg cs=>cs.flatMap (AV.ids L k)
   |.tup cs=>cs.flatMap (AV.ids L k)
   |.fn _ cs=>cs.flatMap (AV.ids L k)
   |.row b _ _ _=>[b]
   |.loc b _ i o=>b::(match L b with
     |some ent=>if ent.box then(match ent.es[i]? with
       |some cs=>(cs.drop o).flatMap (AV.ids L k)
       |none=>[])else[]
     |none=>[])
   |.map b=>[b]
   |_=>[]
structure Res where
 val:AV
 set:List (Nat×Ent):=[]
 kill:Option Nat:=none
 frz:List Nat:=[]
 re:List Nat:=[]
abbrev zcR:=FuncId->List AV->Mem->Option (AV×Mem)
def isAggB(P:Program)(t:TypeId):Option Bool:=
 match P.underlying t with
 |some (.struct _)|some (.array _ _)=>some true
 |some _=>some false
 |none=>none
def szB(P:Program)(t:TypeId):Option Nat:=(P.info? t).map (·.size)
def zeroB(P:Program)(t:TypeId):Option (List AV):=
 match(P.info? t).bind (·.zero)with
 |some z=>some (z.cells.toList.map .v)
 |none=>none
def zjS(P:Program):Nat->TypeId->List TypeId
 |0,_=>[]
 |k+1,t=>match P.underlying t with
   |some (.struct fs)=>fs.toList.flatMap λf=>zjS P k f.type
   |some (.array n e)=>(List.replicate n e).flatMap λe=>zjS P k e
   |_=>[t]
def nrm1(P:Program)(t:TypeId)(a:AV):AV:=
 match a with
 |.v (.slice none 0 0)=>(match P.underlying t with
   |some (.slice e)=>match szB P e with
     |some z=>.sl z []
     |none=>.v (.slice none 0 0)
   |_=>.v (.slice none 0 0))
 |a=>a
def nrmL(P:Program):List TypeId->List AV->List AV
 |t::ts,a::r=>nrm1 P t a::nrmL P ts r
 |_,l=>l
def nrm(P:Program)(t:TypeId)(a:AV):AV:=
 match a with
 |.agg cs=>.agg (nrmL P (zjS P 8 t) cs)
 |a=>nrm1 P t a
def nrmA(P:Program):List TypeId->List AV->List AV
 |t::ts,a::r=>nrm P t a::nrmA P ts r
 |_,l=>l
def nrmS(P:Program)(L:aK)(t:TypeId)(a x:AV):AV:=
 match a with
 |.loc b _ _ _=>match L b with
   |some ent=>if ent.box then x else nrm P t x
   |none=>x
 |_=>x
def nrmP(P:Program)(t:TypeId)(a:AV):AV:=
 match P.underlying t with
 |some (.slice e)=>nrm P e a
 |_=>a
def splice(cs:aN)(o:Nat)(new:aN):List AV:=cs.take o++new++cs.drop (o+new.length)
def readAt(P:Program)(t:TypeId)(cs:aN):Option AV:=
 match isAggB P t,szB P t with
 |some true,some n=>if n<=cs.length then some (.agg (cs.take n))else none
 |some false,_=>cs[0]?
 |_,_=>none
def aLoad(P:Program)(L:aK)(t:TypeId):AV->Option Res
 |.fp cs=>match readAt P t cs with
   |some a=>some { val:=a }
   |none=>none
 |.loc b z i o=>match L b with
   |some ent=>if ent.z=z/\(ent.box=true\/0<ent.z)then(match ent.es[i]? with
     |some cs=>match readAt P t (cs.drop o)with
       |some a=>some { val:=a }
       |none=>none
     |none=>none)else none
   |none=>none
 |_=>none
def aStore(P:Program)(L:aK)(t:TypeId)(x:AV):AV->Option Res
 |.loc b z i o=>match L b,szB P t with
   |some ent,some n=>if(ent.z=z/\(ent.box=true\/0<ent.z))/\x.cells.length=n/\allL AV.one x.cells=true/\(ent.box=true\/allL (AV.isC 4) x.cells=true)then
     (match ent.es[i]? with
     |some cs=>if o+n<=cs.length then some { val:=.bot,set:=[(b,{ ent with es:=ent.es.set i (splice cs o x.cells) })] }else none
     |none=>none)else none
   |_,_=>none
 |_=>none
def aField(P:Program)(s:TypeId)(f:Nat)(a:AV):Option Res:=
 match P.underlying s with
 |some (.struct fields)=>match fields[f]? with
   |some fd=>match szB P fd.type with
     |some (_+1)=>(match a with
       |.fp cs=>some { val:=.fp (cs.drop fd.offset) }
       |.loc b z i o=>some { val:=.loc b z i (o+fd.offset) }
       |.v (.pointer (some ⟨g,n,none⟩))=>some { val:=.v (.pointer (some ⟨g,n+fd.offset,none⟩)) }
       |_=>none)
     |_=>none
   |none=>none
 |_=>none
def aIndex(P:Program)(t:TypeId)(x ix:AV):Option Res:=
 match ix with
 |.v (.int _ n)=>match P.underlying t with
   |some (.slice e)=>match szB P e,x with
     |some sz,.sl z es=>if z=sz/\0<=n then(match es[n.toNat]? with
       |some cs=>some { val:=.fp cs }
       |none=>none)else none
     |some sz,.row b z off len=>if z=sz/\0<=n/\n<(len:Int)then some { val:=.loc b z (off+n.toNat) 0 }else none
     |_,_=>none
   |some (.array len e)=>if 0<=n/\n<(len:Int)then(match szB P e,x with
     |some sz,.fp cs=>some { val:=.fp ((cs.drop (n.toNat*sz)).take sz) }
     |some sz,.fa z es=>if z=sz then(match es[n.toNat]? with
       |some cs=>some { val:=.fp cs }
       |none=>none)else none
     |some sz,.loc b z i o=>if z=sz/\o=0 then some { val:=.loc b z (i+n.toNat) 0 }else some { val:=.loc b z i (o+n.toNat*sz) }
     |_,_=>none)else none
   |_=>none
 |_=>none
def natOf(d:Nat):Option AV->Option Nat
 |none=>some d
 |some (.v (.int _ n))=>if 0<=n then some n.toNat else none
 |_=>none
def aSlice(P:Program)(t:TypeId)(x:AV)(lo hi:Option AV):Option Res:=
 match P.underlying t with
 |some (.slice e)=>match szB P e,x with
   |some sz,.sl z es=>match natOf 0 lo,natOf es.length hi with
     |some l,some h=>if z=sz/\l<=h/\h<=es.length then some { val:=.sl z ((es.take h).drop l) }else none
     |_,_=>none
   |some sz,.row b z off n=>match natOf 0 lo,natOf n hi with
     |some l,some h=>if z=sz/\l<=h/\h<=n then some { val:=.row b z (off+l) (h-l) }else none
     |_,_=>none
   |_,_=>none
 |_=>none
def fillL(place:Nat->Option (Nat×Nat)):List (Nat×AV)->List AV->Option (List AV)
 |[],cs=>some cs
 |(i,a)::r,cs=>match place i with
   |some (off,sz)=>if a.cells.length=sz/\off+sz<=cs.length/\allL AV.one a.cells=true then fillL place r (splice cs off a.cells)else none
   |none=>none
def places(P:Program)(fs:Array Field)(i:Nat):Option (Nat×Nat):=
 match fs[i]? with
 |some f=>match szB P f.type with
   |some n=>some (f.offset,n)
   |none=>none
 |none=>none
def allSz(P:Program):List Field->Bool
 |[]=>true
 |f::r=>(szB P f.type).isSome&&allSz P r
def aBuild(P:Program)(t:TypeId)(ps:List (Nat×AV)):Option Res:=
 match zeroB P t,P.underlying t with
 |some zero,some (.struct fs)=>if allSz P fs.toList=true/\allL AV.one zero=true then(match fillL (places P fs) ps zero with
   |some cs=>some { val:=.agg cs }
   |none=>none)else none
 |some zero,some (.array _ e)=>if allL AV.one zero=true then(match szB P e with
   |some sz=>match fillL (λi=>some (i*sz,sz)) ps zero with
     |some cs=>some { val:=.agg cs }
     |none=>none
   |none=>none)else none
 |_,_=>none
def chunk(z:Nat):Nat->List AV->List (List AV)
 |0,_=>[]
 |n+1,cs=>cs.take z::chunk z n (cs.drop z)
def repL(zero:aN):Nat->List AV
 |0=>[]
 |n+1=>zero++repL zero n
def zpv(P:Program)(d:Nat)(t:TypeId)(len:Nat)(ps:List (Nat×AV)):Option Res:=
 match P.underlying t with
 |some (.slice e)=>match szB P e,zeroB P e with
   |some sz,some zero=>if 0<sz/\zero.length=sz/\len*sz<=65536/\allL AV.one zero=true then
     (match fillL (λi=>some (i*sz,sz)) ps (repL zero len)with
     |some cs=>if allL (AV.isC 4) cs=true then
       some { val:=.row d sz 0 len,set:=[(d,{ z:=sz,e:=e,es:=chunk sz len cs,box:=false })] }else none
     |none=>none)else none
   |_,_=>none
 |_=>none
def aLit(P:Program)(t:TypeId)(len:Nat)(ps:List (Nat×AV)):Option Res:=
 match P.underlying t with
 |some (.slice e)=>match szB P e,zeroB P e with
   |some sz,some zero=>if 0<sz/\zero.length=sz/\len*sz<=65536/\allL AV.one zero=true then
     (match fillL (λi=>some (i*sz,sz)) ps (repL zero len)with
     |some cs=>if allL (AV.isC 4) cs=true then some { val:=.sl sz (chunk sz len cs) }else none
     |none=>none)else none
   |_,_=>none
 |_=>none
def aMake(P:Program)(d:Nat)(t:TypeId)(l c:AV):Option Res:=
 match l,c with
 |.v (.int _ n),.v (.int _ n')=>match P.underlying t with
   |some (.slice e)=>match szB P e,zeroB P e,P.info? e with
     |some sz,some zero,some i=>if n=n'/\0<=n/\0<sz/\zero.length=sz/\allL AV.one zero=true/\n.toNat*(i.bytes+1)<=1099511627776 then
       some { val:=.row d sz 0 (List.replicate n.toNat (nrmL P (zjS P 8 e) zero)).length,set:=[(d,{ z:=sz,e:=e,es:=List.replicate n.toNat (nrmL P (zjS P 8 e) zero),box:=false })] }else none
     |_,_,_=>none
   |_=>none
 |_,_=>none
def aMakeL(P:Program)(t:TypeId)(l c:AV):Option Res:=
 match l,c with
 |.v (.int _ n),.v (.int _ n')=>match P.underlying t with
   |some (.slice e)=>match szB P e,zeroB P e,P.info? e with
     |some sz,some zero,some i=>if n=n'/\0<=n/\0<sz/\zero.length=sz/\allL AV.one zero=true/\n.toNat*(i.bytes+1)<=1099511627776 then
       some { val:=.sl sz (List.replicate n.toNat (nrmL P (zjS P 8 e) zero)) }else none
     |_,_,_=>none
   |_=>none
 |_,_=>none
def srcOf(L:aK)(z:Nat):AV->Option (List (List AV))
 |.v (.slice none 0 0)=>some []
 |.sl z' es=>if z'=z then some es else none
 |.row b z' off n=>match L b with
   |some ent=>if ent.z=z/\z'=z/\ent.box=false/\0<z/\off+n<=ent.es.length then some ((ent.es.drop off).take n)else none
   |none=>none
 |_=>none
def znh(P:Program)(L:aK)(d:Nat)(t:TypeId)(s x:AV):Option Res:=
 match P.underlying t with
 |some (.slice e)=>match P.info? e,zeroB P e with
   |some i,some zero=>if 0<i.size/\zero.length=i.size then(match srcOf L i.size x with
     |some new=>(match s with
       |.v (.slice none 0 0)=>if new.length*(i.bytes+1)<=1099511627776 then
         some { val:=.row d i.size 0 new.length,set:=[(d,{ z:=i.size,e:=e,es:=new,box:=false })] }else none
       |.row b z off n=>match L b with
         |some ent=>if b<1000/\b≠d/\ent.z=i.size/\z=i.size/\ent.e=e/\ent.box=false/\off=0/\n=ent.es.length/\(ent.es.length+new.length)*(i.bytes+1)<=1099511627776 then
           some { val:=.row d i.size 0 (ent.es++new).length,set:=[(d,{ z:=i.size,e:=e,es:=ent.es++new,box:=false })],kill:=some b }else none
         |none=>none
       |_=>none)
     |none=>none)else none
   |_,_=>none
 |_=>none
def aCopy(P:Program)(L:aK)(t:TypeId)(s x:AV):Option Res:=
 match P.underlying t with
 |some (.slice e)=>match szB P e,s with
   |some sz,.row b z off n=>match L b,srcOf L sz x with
     |some ent,some new=>if 0<sz/\z=sz/\ent.z=sz/\ent.box=false/\off+n<=ent.es.length then
       some { val:=.v (.int .i64 (min new.length n:Nat)),set:=[(b,{ ent with es:=ent.es.take off++(new.take n)++ent.es.drop (off+min new.length n) })] }else none
     |_,_=>none
   |_,_=>none
 |_=>none
def aClear(P:Program)(L:aK)(t:TypeId)(s:AV):Option Res:=
 match P.underlying t with
 |some (.slice e)=>match szB P e,zeroB P e,s with
   |some sz,some zero,.row b z off n=>match L b with
     |some ent=>if 0<sz/\z=sz/\ent.z=sz/\ent.box=false/\zero.length=sz/\allL AV.one zero=true/\off+n<=ent.es.length then
       some { val:=.tup [],set:=[(b,{ ent with es:=ent.es.take off++List.replicate n (nrmL P (zjS P 8 e) zero)++ent.es.drop (off+n) })] }else none
     |none=>none
   |_,_,_=>none
 |_=>none
def aLen:AV->Option Res
 |.sl _ es=>some { val:=.v (.int .i64 es.length) }
 |.row _ _ _ n=>some { val:=.v (.int .i64 n) }
 |_=>none
structure Cfg where
 wrt:FuncId->List Nat
 orc:zcR:=λ_ _ _=>none
 dp:FuncId->Option Nat:=λ_=>none
 raw:FuncId->Bool:=λ_=>false
def rawT(C:Cfg)(f:FuncId)(ts:Array TypeId):List TypeId:=if C.raw f=true then[]else ts.toList
def AV.data:AV->Bool
 |.sl ..=>true
 |_=>false
def zsH:AV->Option (Nat×Nat×(Nat->AV))
 |.agg [.loc b z 0 o,.v c]=>some (b,z,λm=>.agg [.loc m z 0 o,.v c])
 |.agg [.v c,.loc b z 0 o]=>some (b,z,λm=>.agg [.v c,.loc m z 0 o])
 |_=>none
def zet(L:aK)(wrt:aO):Nat->List AV->Option (List AV×Mem×List (Nat×Nat)×List Nat)
 |_,[]=>some ([],[],[],[])
 |k,a::r=>match zet L wrt (k+1) r with
   |none=>none
   |some (bc,ms,bk,fz) =>
     if(wrt.contains k&&!a.data)=true then(match a with
      |.loc b z 0 0=>match L b with
        |some ent=>if ent.z=z/\ent.box=true/\allL (λcs=>allL (AV.isC 4) cs) ent.es=true/\bk.all (λp=>p.1≠b)=true then
          some (.loc (1000+k) z 0 0::bc,(1000+k,ent)::ms,(b,1000+k)::bk,fz)else none
        |none=>none
      |.row b z off n=>match L b with
        |some ent=>if ent.z=z/\ent.box=false/\0<z/\bk.all (λp=>p.1≠b)=true then
          some (.row (1000+k) z off n::bc,(1000+k,ent)::ms,(b,1000+k)::bk,fz)else none
        |none=>none
      |.map b=>match L b with
        |some ent=>if ent.z=0/\ent.box=false/\bk.all (λp=>p.1≠b)=true then
          some (.map (1000+k)::bc,(1000+k,ent)::ms,(b,1000+k)::bk,fz)else none
        |none=>none
      |a=>match zsH a with
        |some (b,z,f)=>match L b with
          |some ent=>if ent.z=z/\ent.box=true/\allL (λcs=>allL (AV.isC 4) cs) ent.es=true/\bk.all (λp=>p.1≠b)=true then
            some (f (1000+k)::bc,(1000+k,ent)::ms,(b,1000+k)::bk,fz)else none
          |none=>none
        |none=>none)
     else if wrt.contains (100+k)then(match a with
      |.row b z 0 n=>match L b with
        |some ent=>if ent.z=z/\ent.box=false/\0<z/\n=ent.es.length/\b<1000/\k<50/\bk.all (λp=>p.1≠b)=true then
          some (.row (950+k) z 0 n::bc,(950+k,ent)::ms,(b,950+k)::bk,fz)else none
        |none=>none
      |_=>none)
     else match snap L 5 a with
      |some a'=>some (a'::bc,ms,bk,a.ids L 5++fz)
      |none=>none
def Ent.shut(e:Ent):Bool:=!e.box||allL (λcs=>allL (AV.isC 4) cs) e.es
def backOf(ms:Mem):List (Nat×Nat)->Option (List (Nat×Ent))
 |[]=>some []
 |(b,k)::r=>match look ms k,backOf ms r with
   |some ent,some l=>if ent.shut=true then some ((b,ent)::l)else none
   |_,_=>none
def nest(L:aK):Nat->List AV->Option (List AV×Mem×List (Nat×Nat))
 |_,[]=>some ([],[],[])
 |q,a::r=>if a.isC 4=true then(match nest L q r with
   |some (cs,ms,bk)=>some (a::cs,ms,bk)
   |none=>none)
   else match a with
    |.row c z 0 n=>match L c,nest L (q+1) r with
      |some ent,some (cs,ms,bk)=>if ent.z=z/\ent.box=false/\0<z/\n=ent.es.length/\c<1000/\q<950/\bk.all (λp=>p.1≠c)=true then
        some (.row q z 0 n::cs,(q,ent)::ms,(c,q)::bk)else none
      |_,_=>none
    |.map c=>match L c,nest L (q+1) r with
      |some ent,some (cs,ms,bk)=>if ent.z=0/\ent.box=false/\c<1000/\q<950/\bk.all (λp=>p.1≠c)=true then
        some (.map q::cs,(q,ent)::ms,(c,q)::bk)else none
      |_,_=>none
    |_=>none
def dArgs(L:aK)(k0:Nat)(x:AV):Nat->List AV->Option (List AV×List Nat)
 |_,[]=>some ([],[])
 |k,a::r=>match dArgs L k0 x (k+1) r with
   |none=>none
   |some (bc,fz)=>if k=k0 then some (x::bc,fz)else match snap L 5 a with
     |some a'=>some (a'::bc,a.ids L 5++fz)
     |none=>none
def zye(bk:ac):List AV->Option (List AV)
 |[]=>some []
 |a::r=>match zye bk r with
   |none=>none
   |some cs=>if a.isC 4=true then some (a::cs)else match a with
     |.row q z 0 n=>match bk.find? (λp=>p.2==q)with
       |some p=>some (.row p.1 z 0 n::cs)
       |none=>none
     |.map q=>match bk.find? (λp=>p.2==q)with
       |some p=>some (.map p.1::cs)
       |none=>none
     |_=>none
def backN(ms:Mem):List (Nat×Nat)->Option (List (Nat×Ent))
 |[]=>some []
 |(c,q)::r=>match look ms q,backN ms r with
   |some ent,some l=>if ent.box=false then some ((c,ent)::l)else none
   |_,_=>none
def dRes(b:Nat)(fz:aO)(nbk:ac)(r:AV)(ms':Mem):Option Res:=
 if r.flat 4=true then(match look ms' 1000,backN ms' nbk with
  |some ent1,some back=>(match ent1.box,ent1.es with
    |true,[cs1]=>match zye nbk cs1 with
      |some cs2=>some { val:=r,set:=(b,{ ent1 with es:=[cs2] })::back,frz:=fz,re:=nbk.map (·.1) }
      |none=>none
    |_,_=>none)
  |_,_=>none)else none
def aDeep(call:zcR)(L:aK)(f:FuncId)(k0:Nat)(args:aN):Option Res:=
 match args[k0]? with
 |some (.loc b z 0 0)=>match L b with
   |some ent=>if ent.box=true then(match ent.es with
     |[cs]=>match nest L 900 cs,dArgs L k0 (.loc 1000 z 0 0) 0 args with
       |some (cs',nms,nbk),some (bc,fz) =>
         if ent.z=z/\ent.box=true/\nbk.all (λp=>p.1≠b)=true/\fz.all (λc=>decide (c<1000)&&(c !=b&&nbk.all (λp=>p.1≠c)))=true then
          match call f bc ((1000,{ ent with es:=[cs'] })::nms)with
          |some (r,ms')=>dRes b fz nbk r ms'
          |none=>none
         else none
       |_,_=>none
     |_=>none)else none
   |none=>none
 |_=>none
def AV.newTup:AV->Bool
 |.tup [.new ..,.v _]=>true
 |_=>false
def flatC:AV->Bool
 |.v _=>true
 |.sl _ []=>true
 |_=>false
def flatR(es:aS):Bool:=es.all λcs=>cs.all flatC
def frzOf(r:AV)(bk:ac)(fz:aO):List Nat:=if(r.flat 4||r.newTup)&&bk.isEmpty then[]else fz
def zqO(back:ah)(bk:ac)(fz:aO)(r:AV)(d:aZ):Option Res:=
 match r,d with
 |.new z e es,some d=>some { val:=.row d z 0 es.length,set:=(d,{ z,e,es,box:=false })::back,frz:=fz }
 |.newp z e cs,some d=>some { val:=.loc d z 0 0,set:=(d,{ z,e,es:=[cs],box:=true })::back,frz:=fz }
 |.newm e es,some d=>some { val:=.map d,set:=(d,{ z:=0,e,es,box:=false })::back,frz:=fz }
 |.tup [.new z e es,.v c],some d=>if flatR es=true then some { val:=.tup [.row d z 0 es.length,.v c],set:=(d,{ z,e,es,box:=false })::back,frz:=fz }else none
 |.new ..,none=>none
 |.newp ..,none=>none
 |.newm ..,none=>none
 |.tup [.new ..,.v _],none=>none
 |.row b z off n,_=>match bk.find? (λp=>p.2==b)with
   |some p=>some { val:=.row p.1 z off n,set:=back,frz:=fz }
   |none=>none
 |.loc b z i o,_=>match bk.find? (λp=>p.2==b)with
   |some p=>some { val:=.loc p.1 z i o,set:=back,frz:=fz }
   |none=>none
 |.map _,_=>none
 |r,_=>some { val:=r,set:=back,frz:=fz }
def zig:List (Nat×Nat)->List (Nat×Nat)
 |[]=>[]
 |(b,k)::r=>if k<1000 then zig r else(b,k)::zig r
def zg9:List (Nat×Nat)->List Nat
 |[]=>[]
 |(b,k)::r=>if k<1000 then b::zg9 r else zg9 r
def zy7(g:aO)(r:Res):Option Res:=
 match g with
 |[]=>some r
 |[b]=>some { r with kill:=some b }
 |_=>none
def aCall(C:Cfg)(call:zcR)(L:aK)(d:aZ)(f:FuncId)(args:aN):Option Res:=
 match zet L (C.wrt f) 0 args with
 |none=>none
 |some (bc,ms,bk,fz) =>
   if bk.all (λp=>fz.all (λb=>b≠p.1))=true then
    match call f bc ms with
    |none=>none
    |some (r,ms')=>match backOf ms' (zig bk)with
      |none=>none
      |some back =>
        if(frzOf r bk fz).all (λb=>decide (b<1000))=true then
         match zqO back (zig bk) (frzOf r bk fz) r d with
         |some res=>zy7 (zg9 bk) res
         |none=>none
        else none
   else none
def toKill(k:Bool)(r:Res):Option Res:=
 match k,r.frz,r.kill with
 |true,b::rest,none=>if rest.all (λc=>c==b)=true/\r.set.all (λp=>p.1 !=b)=true/\r.re.isEmpty=true then some { r with frz:=[],kill:=some b }else none
 |_,_,_=>some r
def aPure(P:Program)(o:Oper)(E:aa):Option Res:=
 if o.op.operands.toList.all (λx=>(E x).toVal.isSome)then
  match zdb P (execOp (λx=>((E x).toVal).getD undef) o)with
  |some (.value x)=>match ofVal x with
    |some a=>some { val:=a }
    |none=>none
  |_=>none
 else none
def eqAnd:Option Bool->Option Bool->Option Bool
 |some a,some b=>some (a&&b)
 |_,_=>none
def eqFs(P:Program)(rec_:TypeId->List Value->List Value->Option Bool)(xs ys:af):List Field->Option Bool
 |[]=>some true
 |f::r=>if f.name ≠ "_" then(match szB P f.type with
   |some n=>eqAnd (rec_ f.type ((xs.drop f.offset).take n) ((ys.drop f.offset).take n)) (eqFs P rec_ xs ys r)
   |none=>none)else eqFs P rec_ xs ys r
def eqIs(n:Nat)(rec_:List Value->List Value->Option Bool)(xs ys:af):List Nat->Option Bool
 |[]=>some true
 |i::r=>eqAnd (rec_ ((xs.drop (i*n)).take n) ((ys.drop (i*n)).take n)) (eqIs n rec_ xs ys r)
def eqV(P:Program):Nat->TypeId->List Value->List Value->Option Bool
 |0,_,_,_=>none
 |k+1,t,xs,ys=>match P.underlying t with
   |some .bool=>(match xs,ys with
     |[.bool a],[.bool b]=>some (a==b)
     |_,_=>none)
   |some (.int _)=>(match xs,ys with
     |[.int q a],[.int q' b]=>if q=q' then some (a==b)else none
     |_,_=>none)
   |some .string=>(match xs,ys with
     |[.string a],[.string b]=>some (a==b)
     |_,_=>none)
   |some (.struct fs)=>if P.stoodInHeld t then none else eqFs P (eqV P k) xs ys fs.toList
   |some (.array n e)=>(match szB P e with
     |some c=>eqIs c (eqV P k e) xs ys (List.range n)
     |none=>none)
   |_=>none
def aEq(P:Program)(op:BinOp)(t:TypeId)(cs ds:aN):Option Res:=
 match mapO AV.scal cs,mapO AV.scal ds with
 |some xs,some ys=>if P.eqGuardType P.depth t then none else(match isAggB P t,eqV P 20 t xs ys,op with
   |some true,some b,.eql=>some { val:=.v (.bool b) }
   |some true,some b,.neq=>some { val:=.v (.bool (!b)) }
   |_,_,_=>none)
 |_,_=>none
def aArr(P:Program)(d:Nat)(t:TypeId)(zero:aN):Option Res:=
 match P.underlying t with
 |some (.array len e)=>match szB P e with
   |some sz=>if 0<sz/\zero.length=len*sz/\len<=65536 then some { val:=.loc d sz 0 0,set:=[(d,{ z:=sz,e:=t,es:=chunk sz len zero,box:=false })] }else none
   |none=>none
 |_=>none
def bitsB:Value->Value->Option Bool
 |.int k a,.int k' b=>if k=k' then some (a==b)else none
 |.string a,.string b=>some (a==b)
 |.bool a,.bool b=>some (a==b)
 |_,_=>none
def bitsL:List Value->List Value->Option Bool
 |[],[]=>some true
 |x::r,y::s=>eqAnd (bitsB x y) (bitsL r s)
 |_,_=>none
def agree:Option Bool->Option Bool->Option Bool
 |some a,some b=>if a=b then some a else none
 |_,_=>none
def scalT(P:Program)(t:TypeId):Bool:=
 match P.underlying t with
 |some (.int _)|some .string|some .bool=>true
 |_=>false
def keyEq(P:Program)(t:TypeId)(a b:AV):Option Bool:=
 match a,b with
 |.v x,.v y=>match P.underlying t with
   |some td=>Instr.sameNow td x y
   |none=>none
 |.agg cs,.agg ds=>match mapO AV.scal cs,mapO AV.scal ds with
   |some xs,some ys=>match isAggB P t with
     |some true=>agree (eqV P 20 t xs ys) (bitsL xs ys)
     |_=>none
   |_,_=>none
 |_,_=>none
def mlook(P:Program)(t:TypeId)(k:AV):List (List AV)->Option (Option AV)
 |[]=>some none
 |[ka,va]::r=>match keyEq P t k ka with
   |some true=>some (some va)
   |some false=>mlook P t k r
   |none=>none
 |_=>none
def mset(P:Program)(t:TypeId)(k v:AV):List (List AV)->Option (List (List AV))
 |[]=>some [[k,v]]
 |[ka,va]::r=>match keyEq P t k ka with
   |some true=>some ([k,v]::r)
   |some false=>match mset P t k v r with
     |some l=>some ([ka,va]::l)
     |none=>none
   |none=>none
 |_=>none
def mdel(P:Program)(t:TypeId)(k:AV):List (List AV)->Option (List (List AV))
 |[]=>some []
 |[ka,va]::r=>match keyEq P t k ka with
   |some true=>some r
   |some false=>match mdel P t k r with
     |some l=>some ([ka,va]::l)
     |none=>none
   |none=>none
 |_=>none
def keyAV(P:Program)(t:TypeId)(k:AV):Bool:=
 match k with
 |.v x=>scalT P t&&x.oneCell'
 |.agg cs=>match mapO AV.scal cs,P.underlying t with
   |some xs,some (.struct fs)=>allL AV.one cs&&fs.toList.all λf=>scalT P f.type&&decide (f.offset<xs.length)
   |some xs,some (.array n e)=>allL AV.one cs&&(scalT P e&&((szB P e==some 1)&&decide (n<=xs.length)))
   |_,_=>false
 |_=>false
def mesOf(L:aK):AV->Option (List (List AV))
 |.v (.map none)=>some []
 |.mp es=>some es
 |.map b=>match L b with
   |some ent=>if ent.z=0/\ent.box=false then some ent.es else none
   |none=>none
 |_=>none
def zeroA(P:Program)(t:TypeId):Option AV:=
 match(P.info? t).bind (·.zero)with
 |some (.agg cs)=>if allL AV.one (cs.toList.map AV.v)=true then some (nrm P t (.agg (cs.toList.map .v)))else none
 |some x=>if x.oneCell'=true then some (nrm P t (.v x))else none
 |none=>none
def aMkMap(P:Program)(d:Nat)(t:TypeId):Option Res:=
 match P.underlying t with
 |some (.map _ _)=>some { val:=.map d,set:=[(d,{ z:=0,e:=t,es:=[],box:=false })] }
 |_=>none
def mres(ok:Bool)(a:AV)(b:Bool):AV:=if ok then .tup [a,.v (.bool b)]else a
def aMLook(P:Program)(L:aK)(t:TypeId)(m k:AV)(ok:Bool):Option Res:=
 match P.underlying t with
 |some (.map kt et)=>match mesOf L m,zeroA P et with
   |some es,some z=>if keyAV P kt k=true then(match mlook P kt k es with
     |some (some a)=>some { val:=mres ok a true }
     |some none=>some { val:=mres ok z false }
     |none=>none)else none
   |_,_=>none
 |_=>none
def aMSet(P:Program)(L:aK)(t:TypeId)(m k x:AV):Option Res:=
 match P.underlying t with
 |some (.map kt et)=>match m with
   |.map b=>match L b with
     |some ent=>if ent.z=0/\ent.box=false/\keyAV P kt k=true/\(x.ids L 5).all (λc=>decide (c<1000)&&(c !=b))=true then
       (match snap L 5 (nrm P et x)with
       |some x'=>if x'.isC 4=true then(match mset P kt k x' ent.es with
         |some es=>some { val:=.bot,set:=[(b,{ ent with es:=es })],frz:=x.ids L 5 }
         |none=>none)else none
       |none=>none)else none
     |none=>none
   |_=>none
 |_=>none
def aMDel(P:Program)(L:aK)(t:TypeId)(m k:AV):Option Res:=
 match P.underlying t with
 |some (.map kt _)=>match m with
   |.map b=>match L b with
     |some ent=>if ent.z=0/\ent.box=false/\keyAV P kt k=true then(match mdel P kt k ent.es with
       |some es=>some { val:=.tup [],set:=[(b,{ ent with es:=es })] }
       |none=>none)else none
     |none=>none
   |_=>none
 |_=>none
def aMLen(L:aK)(m:AV):Option Res:=
 match mesOf L m with
 |some es=>some { val:=.v (.int .i64 es.length) }
 |none=>none
def nilOp:BinOp->Option Res
 |.eql=>some { val:=.v (.bool false) }
 |.neq=>some { val:=.v (.bool true) }
 |_=>none
def nilCmp(P:Program)(op:BinOp)(t:TypeId)(a b:AV):Option Res:=
 match P.underlying t,a,b with
 |some (.pointer _),.fp _,.v (.pointer none)|some (.pointer _),.fa _ _,.v (.pointer none)|some (.pointer _),.loc _ _ _ _,.v (.pointer none)=>nilOp op
 |_,_,_=>none
def dstOut(L:aK):Option Nat->Bool
 |some d=>(L d).isNone
 |none=>true
def byte1(n:Int):ByteArray:=ByteArray.empty.push (UInt8.ofNat n.toNat)
def aop(P:Program)(C:Cfg)(M:aO)(call:zcR)(o:Oper)(E:aa)(L:aK):Option Res:=
 match o.op with
 |.move x|.assign x=>some { val:=E x }
 |.pick c a b=>match E c with
   |.v (.bool t)=>some { val:=if t then E a else E b }
   |_=>none
 |.alloc t=>match o.dst,zeroB P t,szB P t with
   |some d,some zero,some n=>if zero.length=n/\allL AV.one zero=true/\(L d).isNone=true then(if M.contains d then aArr P d t zero else some { val:=.loc d n 0 0,set:=[(d,{ z:=n,e:=t,es:=[zero],box:=true })] })else none
   |_,_,_=>none
 |.box t x=>match o.dst with
   |some d=>if allL AV.one (E x).cells=true/\(L d).isNone=true then some { val:=.loc d (E x).cells.length 0 0,set:=[(d,{ z:=(E x).cells.length,e:=t,es:=[(E x).cells],box:=true })] }else none
   |none=>none
 |.build t ps=>aBuild P t (ps.toList.map λp=>(p.1,E p.2))
 |.buildSlice t len ps=>match o.dst with
   |some d=>if M.contains d then(if(L d).isNone=true then zpv P d t len (ps.toList.map λp=>(p.1,nrmP P t (E p.2)))else none)
     else aLit P t len (ps.toList.map λp=>(p.1,nrmP P t (E p.2)))
   |none=>none
 |.load t a=>aLoad P L t (E a)
 |.store t a x=>aStore P L t (nrmS P L t (E a) (E x)) (E a)
 |.nilCheck x=>match E x with
   |.fp cs=>some { val:=.fp cs }
   |.loc b z i o=>some { val:=.loc b z i o }
   |.fa z es=>some { val:=.fa z es }
   |.v (.pointer (some q))=>some { val:=.v (.pointer (some q)) }
   |_=>none
 |.extract x i=>match E x with
   |.tup vs=>match vs[i]? with
     |some a=>some { val:=a }
     |none=>none
   |_=>none
 |.fieldAddr s x f=>aField P s f (E x)
 |.field s x f=>match E x,P.underlying s with
   |.agg cs,some (.struct fs)=>match fs[f]? with
     |some fd=>match readAt P fd.type (cs.drop fd.offset)with
       |some a=>some { val:=a }
       |none=>none
     |none=>none
   |_,_=>none
 |.indexAddr t x ix=>aIndex P t (E x) (E ix)
 |.index t x ix=>match E x,E ix,P.underlying t with
   |.agg cs,.v (.int _ n),some (.array len e)=>match szB P e with
     |some sz=>if 0<=n/\n<(len:Int)then(match readAt P e (cs.drop (n.toNat*sz))with
       |some a=>some { val:=a }
       |none=>none)else none
     |none=>none
   |_,_,_=>(aPure P o E)
 |.slice t x lo hi none=>match E x with
   |.v _=>(aPure P o E)
   |a=>aSlice P t a (lo.map E) (hi.map E)
 |.makeFunc (.func f) first cap=>if first.size=0 then some { val:=.fn f (cap.toList.map E) }else none
 |.makeSlice t l c=>match o.dst with
   |some d=>if(L d).isNone=true then(if M.contains d then aMakeL P t (E l) (E c)else aMake P d t (E l) (E c))else none
   |none=>none
 |.call { callee:=.builtin .append,args,argTypes }=>match o.dst,args.toList,argTypes.toList with
   |some d,[s,x],[t,t']=>if t=t'/\(L d).isNone=true then znh P L d t (E s) (E x)else none
   |_,_,_=>none
 |.call { callee:=.builtin .copy,args,argTypes }=>match args.toList,argTypes.toList with
   |[s,x],t::_=>aCopy P L t (E s) (E x)
   |_,_=>none
 |.call { callee:=.builtin .clear,args,argTypes }=>match args.toList,argTypes.toList with
   |[s],t::_=>aClear P L t (E s)
   |_,_=>none
 |.call { callee:=.builtin .len,args,argTypes }=>match args.toList,argTypes.toList with
   |[s],[t]=>(match E s,P.underlying t with
     |.v _,_=>(aPure P o E)
     |a,some (.slice _)=>aLen a
     |a,some (.map _ _)=>aMLen L a
     |_,_=>none)
   |_,_=>none
 |.call { callee:=.builtin .delete,args,argTypes }=>match args.toList,argTypes.toList with
   |[m,k],t::_=>aMDel P L t (E m) (E k)
   |_,_=>none
 |.makeMap t none=>match o.dst with
   |some d=>if(L d).isNone=true then aMkMap P d t else none
   |none=>none
 |.lookup t m k ok=>aMLook P L t (E m) (E k) ok
 |.mapUpdate t m k x=>aMSet P L t (E m) (E k) (E x)
 |.insert t m k x=>aMSet P L t (E m) (E k) (E x)
 |.call { callee:=.value g,args,argTypes }=>match E g with
   |.fn f cap=>if bare P f then(aPure P o E)else match C.dp f with
     |some k0=>if dstOut L o.dst then aDeep call L f k0 (nrmA P (rawT C f argTypes) (args.toList.map E)++cap)else none
     |none=>match o.dst with
       |some d=>if(L d).isNone=true then(match aCall C call L (some d) f (nrmA P (rawT C f argTypes) (args.toList.map E)++cap)with
         |some r=>toKill (M.contains d) r
         |none=>none)else none
       |none=>aCall C call L none f (nrmA P (rawT C f argTypes) (args.toList.map E)++cap)
   |_=>none
 |.convert u t x=>match E x with
   |.sl 1 [[.v (.int .u8 n)]]=>match P.underlying u,P.underlying t with
     |some (.slice e),some .string=>match P.underlying e with
       |some (.int .u8)=>some { val:=.v (.string (byte1 n)) }
       |_=>none
     |_,_=>none
   |_=>aPure P o E
 |.binOp op t x y _=>match E x,E y with
   |.agg cs,.agg ds=>aEq P op t cs ds
   |a,b=>match nilCmp P op t a b with
     |some r=>some r
     |none=>aPure P o E
 |.select ..=>none
 |_=>aPure P o E
def Oper.looks(ops:aT)(o:Oper):List Nat:=
 (o.op.operands.toList.filterMap λ|.tmp t=>some t|_=>none) ++
 (match o.guard with
  |some (g,_)=>((ops[g]?).bind (·.dst)).toList
  |none=>[])
def zuZ(ops:aT)(o:Oper)(t:Tab):Option Bool:=
 match o.guard with
 |none=>some true
 |some (j,want)=>match(ops[j]?).bind (·.dst)with
   |some d=>match get t d with
     |.v (.bool b)=>some (b==want)
     |.v (.tuple _)=>some false
     |_=>none
   |none=>none
def repM(p:Nat×Ent):Mem->Mem
 |[]=>[]
 |q::r=>if p.1=q.1 then p::r else q::repM p r
def setM(p:Nat×Ent)(m:Mem):Mem:=
 match look m p.1 with
 |some _=>repM p m
 |none=>p::m
def setAll:List (Nat×Ent)->Mem->Mem
 |[],m=>m
 |p::r,m=>setM p (setAll r m)
def zeQ(bs:aO)(L:aK):Nat->AV->AV
 |0,_=>.bot
 |k+1,a=>match a with
   |.loc c z i o=>if bs.contains c then(if((AV.loc c z i o).ids L 5).all bs.contains then(snap L 5 (.loc c z i o)).getD .bot else .bot)else .loc c z i o
   |.row c z o n=>if bs.contains c then(snap L 5 (.row c z o n)).getD .bot else .row c z o n
   |.agg cs=>.agg (cs.map (zeQ bs L k))
   |.tup cs=>.tup (cs.map (zeQ bs L k))
   |.fn f cs=>.fn f (cs.map (zeQ bs L k))
   |.v x=>.v x
   |.sl z es=>.sl z es
   |.fp cs=>.fp cs
   |.map c=>if bs.contains c then(snap L 5 (.map c)).getD .bot else .map c
   |.mp es=>.mp es
   |.fa z es=>.fa z es
   |_=>.bot
def zqP(bs:aO)(L:aK):Tab->Tab
 |[]=>[]
 |(j,a)::r=>(j,zeQ bs L 4 a)::zqP bs L r
def znl(bs:aO)(L:aK):Mem->Mem
 |[]=>[]
 |(j,e)::r=>if bs.contains j then znl bs L r else
   (j,if e.box then{ e with es:=e.es.map λcs=>cs.map (zeQ bs L 4) }else e)::znl bs L r
def zd8(bs:aO)(st:St):St:=
 match bs with
 |[]=>st
 |bs=>{ t:=zqP bs (look st.m) st.t,m:=znl bs (look st.m) st.m }
def putO(d:aZ)(a:AV)(t:Tab):Tab:=
 match d with
 |some d=>(d,a)::t
 |none=>t
def delAll:List Nat->St->St
 |[],st=>st
 |b::r,st=>delAll r (del b st)
def applyR(dst:aZ)(r:Res)(st:St):St:=
 let st1:=zd8 r.frz st
 let st2:=match r.kill with
  |some b=>del b st1
  |none=>st1
 let st3:=delAll r.re st2
 { t:=putO dst r.val st3.t,m:=setAll r.set st3.m }
def dstOk(N:Nat):Option Nat->Bool
 |some d=>decide (d<N)
 |none=>true
def aStep(P:Program)(C:Cfg)(M:aO)(call:zcR)(N:Nat)(ops:aT)(o:Oper)(st:St):Option (Res×St):=
 if dstOk N o.dst then
  match zuZ ops o st.t with
  |some true=>match aop P C M call o (ev st.t) (look st.m)with
    |some r=>some (r,applyR o.dst r st)
    |none=>none
  |some false=>some ({ val:=.v undef },applyR o.dst { val:=.v undef } st)
  |none=>none
 else none
def makes:Op->Bool
 |.alloc _|.box ..|.buildSlice ..|.makeSlice ..|.makeMap ..=>true
 |.call { callee:=.builtin .append,.. }=>true
 |.call { callee:=.value _,.. }=>true
 |_=>false
def preDel:List Oper->St->St
 |[],st=>st
 |o::r,st=>preDel r (match o.dst with
   |some d=>if makes o.op&&(look st.m d).isSome then del d st else st
   |none=>st)
def stills:Op->Bool
 |.move _|.assign _|.pick ..|.nilCheck _|.extract ..|.fieldAddr ..|.field ..|.indexAddr ..=>true
 |_=>false
def zpd(o:Oper)(E:aa)(L:aK):List Nat:=
 o.dst.toList++if stills o.op then[]else o.op.operands.toList.flatMap λx=>(E x).ids L 6
def preds(ops:aT):Nat->Nat->List Nat
 |0,_=>[]
 |k+1,i=>match ops[i]? with
   |some o=>o.after.toList.flatMap λe=>if Region.binds .any e then e.on::preds ops k e.on else[]
   |none=>[]
def disj(a b:aO):Bool:=a.all λx=>b.all λy=>x !=y
structure Mk where
 i:Nat
 o:Oper
 res:Res
 touch:List Nat
 pre:St
def bar(m:Mk):Bool:=!m.res.frz.isEmpty||!m.res.re.isEmpty
def AV.inert(b:Nat):Nat->AV->Bool
 |0,a=>match a with
   |.bot=>true
   |_=>false
 |k+1,a=>match a with
   |.loc c _ _ _=>c !=b
   |.row c _ _ _=>c !=b
   |.agg cs=>cs.all (AV.inert b k)
   |.tup cs=>cs.all (AV.inert b k)
   |.fn _ cs=>cs.all (AV.inert b k)
   |.v _=>true
   |.sl _ _=>true
   |.fp _=>true
   |.bot=>true
   |.map c=>c !=b
   |.mp _=>true
   |.fa _ _=>true
   |_=>false
def Ent.inert(b:Nat)(e:Ent):Bool:=if e.box then e.es.all λcs=>cs.all (AV.inert b 4)else true
def quiet(ops:aT)(c:aZ)(m:Mk)(pre:St):Bool:=
 match c with
 |none=>true
 |some c=>m.res.val.inert c 4&&m.res.set.all (λp=>p.1 !=c&&p.2.inert c) &&
   m.touch.all (λb=>b !=c&&(match look pre.m b with
    |some e=>e.inert c
    |none=>true)) &&
   (Oper.looks ops m.o).all (λj=>(get pre.t j).inert c 4)
def indep(ops:aT)(a b:Mk):Bool:=
 !bar a&&!bar b&&(a.res.kill.isNone||b.res.kill.isNone)&&quiet ops a.res.kill b a.pre&&quiet ops b.res.kill a a.pre &&
 disj a.o.dst.toList (Oper.looks ops b.o)&&disj b.o.dst.toList (Oper.looks ops a.o)&&disj a.o.dst.toList b.o.dst.toList &&
 disj (a.res.set.map (·.1)) b.touch&&disj (b.res.set.map (·.1)) a.touch&&disj (a.res.set.map (·.1)) (b.res.set.map (·.1))
def runOps(P:Program)(C:Cfg)(M:aO)(call:zcR)(N:Nat)(ops:aT):Nat->List Oper->St->Option (List Mk×St)
 |_,[],st=>some ([],st)
 |i,o::r,st=>match aStep P C M call N ops o st with
   |none=>none
   |some (res,st')=>match runOps P C M call N ops (i+1) r st' with
     |none=>none
     |some (l,st'')=>some ({ i,o,res,touch:=zpd o (ev st.t) (look st.m),pre:=st }::l,st'')
def drawOk(ops:aT):List Mk->Bool
 |[]=>true
 |a::r=>r.all (λb=>(preds ops b.i b.i).contains a.i||indep ops a b)&&drawOk ops r
def zqN:Nat->List Oper->Bool
 |_,[]=>true
 |i,o::r=>o.after.toList.all (λe=>!Region.binds .any e||decide (e.on<i))&&zqN (i+1) r
def zl3(P:Program)(C:Cfg)(M:aO)(call:zcR)(N:Nat)(ops:aT)(draw:Bool)(st:St):Option St:=
 match runOps P C M call N ops 0 ops.toList (preDel ops.toList st)with
 |none=>none
 |some (l,st')=>if !draw||(drawOk ops l&&zqN 0 ops.toList&&P.follows .mixedOrders)then some st' else none
inductive Ex where
 |normal
 |exit (id:Nat)
 |ret
structure Ann where
 lits:List Nat
 live:Nat->Option (List Nat)
 own:Nat->List (Nat×Nat×TypeId)
 frz:Bool:=false
 cel:Nat->List (Nat×Nat×Nat×Nat×TypeId):=λ_=>[]
 fz:Nat->List Nat:=λ_=>[]
def keep(l:aO):Tab->Tab
 |[]=>[]
 |(j,a)::r=>if l.contains j then(j,a)::keep l r else keep l r
def zlj:List Nat->Tab->Tab
 |[],_=>[]
 |k::r,t=>match get t k with
   |.bot=>zlj r t
   |a=>(k,a)::zlj r t
def AV.ren(b s:Nat):Nat->AV->AV
 |0,_=>.bot
 |k+1,a=>match a with
   |.loc c z i o=>.loc (if c=b then s else c) z i o
   |.row c z o n=>.row (if c=b then s else c) z o n
   |.agg cs=>.agg (cs.map (AV.ren b s k))
   |.tup cs=>.tup (cs.map (AV.ren b s k))
   |.fn f cs=>.fn f (cs.map (AV.ren b s k))
   |.v x=>.v x
   |.sl z es=>.sl z es
   |.fp cs=>.fp cs
   |.map c=>.map (if c=b then s else c)
   |.mp es=>.mp es
   |.fa z es=>.fa z es
   |_=>.bot
def renE(b s:Nat)(e:Ent):Ent:=if e.box then{ e with es:=e.es.map λcs=>cs.map (AV.ren b s 4) }else e
def renT(b s:Nat):Tab->Tab
 |[]=>[]
 |(j,a)::r=>(j,a.ren b s 4)::renT b s r
def renM(b s:Nat):Mem->Mem
 |[]=>[]
 |(j,e)::r=>(if j=b then s else j,renE b s e)::renM b s r
def renS(b s:Nat)(st:St):St:={ t:=renT b s st.t,m:=renM b s st.m }
def own1(s z:Nat)(e:TypeId)(st:St):St:=
 if s<1000/\0<z then
  match get st.t s with
  |.v (.slice none 0 0) =>
    let st':=del s st
    { t:=(s,.row s z 0 0)::st'.t,m:=(s,{ z,e,es:=[],box:=false })::st'.m }
  |.row b z' off n=>if b=s then st else match look st.m b with
    |some ent=>if b<1000/\off=0/\n=ent.es.length/\ent.box=false/\z'=ent.z then
      let st':=del b (del s st)
      { t:=(s,.row s z' 0 n)::st'.t,m:=(s,ent)::st'.m }
      else st
    |none=>st
  |.map b=>if b=s then st else if b<1000 then renS b s (del s st)else st
  |_=>st
 else st
def ownAll:List (Nat×Nat×TypeId)->St->St
 |[],st=>st
 |(s,z,e)::r,st=>ownAll r (own1 s z e st)
def cell1(B j s z:Nat)(e:TypeId)(st:St):St:=
 if s<1000/\B≠s/\0<z then
  match look st.m B with
  |some ent=>match ent.box,ent.es with
    |true,[cs]=>match cs[j]? with
      |some (.row b _ _ _)=>if b=s then st else if b<1000 then renS b s (del s st)else st
      |some (.map b)=>if b=s then st else if b<1000 then renS b s (del s st)else st
      |some (.v (.slice none 0 0)) =>
        let st':=del s st
        match look st'.m B with
        |some ent'=>match ent'.box,ent'.es with
          |true,[cs']=>match cs'[j]? with
            |some (.v (.slice none 0 0))=>{ t:=st'.t,m:=(s,{ z,e,es:=[],box:=false })::repM (B,{ ent' with es:=[cs'.set j (.row s z 0 0)] }) st'.m }
            |_=>st
          |_,_=>st
        |none=>st
      |_=>st
    |_,_=>st
  |none=>st
 else if s=1000 then
  match look st.m B with
  |some ent=>match ent.box,ent.es with
    |true,[cs]=>match cs[j]? with
      |some (.v (.slice none 0 0))=>{ t:=st.t,m:=repM (B,{ ent with es:=[cs.set j (.sl z [])] }) st.m }
      |_=>st
    |_,_=>st
  |none=>st
 else st
def zsm:List (Nat×Nat×Nat×Nat×TypeId)->St->St
 |[],st=>st
 |(B,j,s,z,e)::r,st=>zsm r (cell1 B j s z e st)
def deadIds(st:St):List Nat:=
 let r:=(st.t.flatMap λp=>p.2.ids (look st.m) 5)++(st.m.flatMap λp=>if decide (1000<=p.1)&&p.2.box then p.2.es.flatMap λcs=>cs.flatMap λa=>a.ids (look st.m) 4 else[])
 (st.m.map (·.1)).filter λb=>decide (b<1000)&&!r.contains b
def insM(p:Nat×Ent):Mem->Mem
 |[]=>[p]
 |q::r=>if p.1<=q.1 then p::q::r else q::insM p r
def sortM:Mem->Mem
 |[]=>[]
 |p::r=>insM p (sortM r)
def fzIds(l:aO)(st:St):List Nat:=l.flatMap λs=>(get st.t s).ids (look st.m) 5
def znm(l:aO)(st:St):St:=
 match l with
 |[]=>st
 |l=>if(fzIds l st).all (λb=>decide (b<1000)&&(look st.m b).isSome)=true then zd8 (fzIds l st) st else st
def tidy(A:Ann)(id:Nat)(st:St):St:=
 match A.live id with
 |some l =>
   let st:=zsm (A.cel id) (ownAll (A.own id) (znm (A.fz id) st))
   let st':St:={ st with t:=zlj l st.t }
   let st':=delAll (deadIds st') st'
   { st' with m:=sortM st'.m }
 |none=>zsm (A.cel id) (ownAll (A.own id) (znm (A.fz id) st))
abbrev Loop:=(St->Option (Ex×St))->St->Option (Ex×St)
def aeval(P:Program)(C:Cfg)(A:Ann)(N:Nat)(call:zcR)(it:Loop):Code->St->Option (Ex×St)
 |.skip,st=>some (.normal,st)
 |.region id ops draw,st=>match zl3 P C A.lits call N ops draw (znm (A.fz (id+1000)) st)with
   |some st'=>some (.normal,tidy A id st')
   |none=>none
 |.seq a b,st=>match aeval P C A N call it a st with
   |some (.normal,st')=>aeval P C A N call it b st'
   |r=>r
 |.cond c x y,st=>match ev st.t c with
   |.v (.bool b)=>if b then aeval P C A N call it x st else aeval P C A N call it y st
   |_=>none
 |.block id c,st=>match aeval P C A N call it c st with
   |some (.exit j,st')=>if j=id then some (.normal,st')else some (.exit j,st')
   |r=>r
 |.loop c,st=>it (aeval P C A N call it c) st
 |.exit id,st=>some (.exit id,st)
 |.ret,st=>some (.ret,st)
 |_,_=>none
def iter:Nat->Loop
 |0,_,_=>none
 |n+1,step,st=>match step st with
   |some (.normal,st')=>iter n step st'
   |r=>r
def outOf(frz:Bool)(m:Mem)(a:AV):Option AV:=
 let L:Nat->Option Ent:=λb=>if b<1000 then look m b else none
 match a with
 |.row b z off n=>if 1000<=b then(if frz=false/\(look m b).isSome=true then some (.row b z off n)else none)else match L b with
   |some ent=>if frz=false/\ent.z=z/\off=0/\n=ent.es.length/\ent.box=false/\0<z then some (.new z ent.e ent.es)else snap L 5 a
   |none=>none
 |.loc b z i o=>if 1000<=b then(if(look m b).isSome=true then some (.loc b z i o)else none)else match L b with
   |some ent=>if ent.z=z/\ent.box=true/\i=0/\o=0 then(match ent.es with
     |[cs]=>if allL (AV.isC 4) cs=true then some (.newp z ent.e cs)else none
     |_=>none)else none
   |none=>none
 |.map b=>if 1000<=b then none else match L b with
   |some ent=>if frz=false/\ent.z=0/\ent.box=false then some (.newm ent.e ent.es)else snap L 5 a
   |none=>none
 |a=>snap L 5 a
def resVar(P:Program)(st:St):ResultVar->Option AV
 |.tmp t=>match get st.t t with
   |.bot=>none
   |a=>some a
 |.cell a t=>match aLoad P (look st.m) t (get st.t a)with
   |some r=>some r.val
   |none=>none
def out1(P:Program)(frz:Bool)(t:TypeId)(m:Mem)(a:AV):Option AV:=
 match a,frz with
 |.v (.slice none 0 0),false=>(match P.underlying t with
   |some (.slice e)=>(match szB P e with
     |some z=>if 0<z then some (.new z e [])else none
     |none=>none)
   |_=>none)
 |a,frz=>outOf frz m (nrm P t a)
def outN(P:Program)(t:TypeId)(m:Mem)(a b:AV):Option AV:=
 match a,b with
 |.v (.slice none 0 0),.v c=>(match P.underlying t with
   |some (.slice e)=>(match szB P e with
     |some z=>if 0<z then some (.tup [.new z e [],.v c])else none
     |none=>none)
   |_=>none)
 |.row b z 0 n,.v c=>if b<1000 then(match look m b with
   |some ent=>if ent.z=z/\n=ent.es.length/\ent.box=false/\0<z then some (.tup [.new z ent.e ent.es,.v c])else none
   |none=>none)else none
 |_,_=>none
def zoI(P:Program)(frz:Bool)(fn:Func)(st:St):Option AV:=
 match mapO (resVar P st) fn.results.toList with
 |some [a]=>out1 P frz (fn.resultTypes.getD 0 0) st.m a
 |some [a,b]=>if frz=true then outN P (fn.resultTypes.getD 0 0) st.m a b else outOf frz st.m (.tup (nrmA P fn.resultTypes.toList [a,b]))
 |some l=>outOf frz st.m (.tup (nrmA P fn.resultTypes.toList l))
 |none=>none
def argTab:Nat->List AV->Tab
 |_,[]=>[]
 |k,a::r=>(k,a)::argTab (k+1) r
def nref(is:aO):AV->Bool
 |.row c _ 0 _=>decide (900<=c)&&(decide (c<950)&&is.contains c)
 |.map c=>decide (900<=c)&&(decide (c<950)&&is.contains c)
 |_=>false
def zj2(is:aO)(m:Mem):Mem->Option Mem
 |[]=>some []
 |(k,_)::r=>if k<1000 then(if 900<=k/\k<950 then(match look m k,zj2 is m r with
   |some ent,some l=>if ent.box=false then some ((k,ent)::l)else none
   |_,_=>none)else zj2 is m r)else match look m k,zj2 is m r with
   |some ent,some l=>if ent.box=false\/allL (λcs=>allL (λa=>a.isC 4||nref is a) cs) ent.es=true then some ((k,ent)::l)else none
   |_,_=>none
def zoV(m ms:Mem):Option Mem:=zj2 (ms.map (·.1)) m ms
def zxV(r:AV)(ms:Mem):Option (AV×Mem):=if(ms.all (λp=>decide (1000<=p.1))||r.flat 4)=true then some (r,ms)else none
abbrev AnnF:=FuncId->Ann
section
open Go.RowKit
class Dr where
 on:Prop
 ok:(Nat->Prop)->World->Prop:=λ_ _=>True
 keep:∀{S S':aD} {w w':World},ok S w->(∀g,S g->S' g)->(∀g,S g->w'.heap[g]?=w.heap[g]?)->ok S' w':=by intros;trivial
instance (priority:=low) drOff:Dr:={ on:=False }
def OutD[Dr](w w':World):Prop:=w'.output=w.output/\(Dr.on->w.drawn<=w'.drawn)
def OutD.of[Dr]{w w':World}(h:w'.output=w.output:=by rfl)(h2:w.drawn<=w'.drawn:=by first|exact zav _|exact Nat.le_add_right _ _|simp):OutD w w':=⟨h,λ_=>h2⟩
def OutD.trans[Dr]{a b c:World}(h:OutD a b)(h':OutD b c):OutD a c:=⟨h'.1.trans h.1,λd=>za5 (h.2 d) (h'.2 d)⟩
inductive CRel(S:aD)(w:World):AV->Value->Prop
 |v (x:Value):CRel S w (.v x) x
 |sl (z:Nat) (es:aS) (A:Option Addr) (len cap:Nat) (u:Nat->Nat->Value) (hlen:len=es.length) (hcap:len<=cap)
   (hz:∀cs∈es,cs.length=z) (ha:es=[]\/∃a,A=some a/\S a.block/\∀(i j:Nat) (cs:aN) (c:AV),es[i]?=some cs->cs[j]?=some c->w.cell? (a.add (i*z+j))=some (u i j)/\(u i j).oneCell'=true)
   (hr:∀(i j:Nat) (cs:aN) (c:AV),es[i]?=some cs->cs[j]?=some c->CRel S w c (u i j)):CRel S w (.sl z es) (.slice A len cap)
 |agg (cs:aN) (vs:aV) (hlen:vs.size=cs.length) (h1:∀x∈vs,x.oneCell'=true)
   (hr:∀(j:Nat) (c:AV) (x:Value),cs[j]?=some c->vs[j]?=some x->CRel S w c x):CRel S w (.agg cs) (.agg vs)
 |tup (cs:aN) (vs:aV) (hlen:vs.size=cs.length)
   (hr:∀(j:Nat) (c:AV) (x:Value),cs[j]?=some c->vs[j]?=some x->CRel S w c x):CRel S w (.tup cs) (.tuple vs)
 |fp (cs:aN) (a:Addr) (u:Nat->Value) (hS:S a.block) (hc:∀(j:Nat) (c:AV),cs[j]?=some c->w.cell? (a.add j)=some (u j)/\(u j).oneCell'=true)
   (hr:∀(j:Nat) (c:AV),cs[j]?=some c->CRel S w c (u j)):CRel S w (.fp cs) (.pointer (some a))
 |fn (f:FuncId) (cs:aN) (vs:aV) (hlen:vs.size=cs.length)
   (hr:∀(j:Nat) (c:AV) (x:Value),cs[j]?=some c->vs[j]?=some x->CRel S w c x):CRel S w (.fn f cs) (.func (.func f) #[] vs)
 |fa (z:Nat) (es:aS) (a:Addr) (u:Nat->Nat->Value) (hz:∀cs∈es,cs.length=z) (hS:S a.block)
   (hc:∀(i j:Nat) (cs:aN) (c:AV),es[i]?=some cs->cs[j]?=some c->w.cell? (a.add (i*z+j))=some (u i j)/\(u i j).oneCell'=true)
   (hr:∀(i j:Nat) (cs:aN) (c:AV),es[i]?=some cs->cs[j]?=some c->CRel S w c (u i j)):CRel S w (.fa z es) (.pointer (some a))
 |mp (es:aS) (g:Nat) (en:Array MapEntry) (clock:Nat) (hS:S g) (hg:w.heap[g]?=some (.map en clock)) (hlen:en.size=es.length)
   (hb:∀(i:Nat) (e:MapEntry),en[i]?=some e->e.born<clock) (hi:∀(i j:Nat) (e f:MapEntry),i<j->en[i]?=some e->en[j]?=some f->e.born<f.born)
   (h2:∀cs∈es,∃k v,cs=[k,v])
   (hk:∀(i:Nat) (k v:AV) (e:MapEntry),es[i]?=some [k,v]->en[i]?=some e->CRel S w k e.key)
   (hv:∀(i:Nat) (k v:AV) (e:MapEntry),es[i]?=some [k,v]->en[i]?=some e->CRel S w v e.val):CRel S w (.mp es) (.map (some g))
 |bx (x:AV) (g:Nat) (u:Value) (hS:S g) (hc:w.cell? ⟨g,0,none⟩=some u/\u.oneCell'=true) (hr:CRel S w x u):CRel S w (.fa 0 [[x]]) (.pointer (some ⟨g,0,none⟩))
def CRel.fa_data{S:aD}{w:World}{z:Nat}{es:aS}{y:Value}(h:CRel S w (.fa z es) y):∃(a:Addr) (u:Nat->Nat->Value),y=.pointer (some a)/\S a.block/\(∀(i j:Nat) (cs:aN) (c:AV),es[i]?=some cs->cs[j]?=some c->w.cell? (a.add (i*z+j))=some (u i j)/\(u i j).oneCell'=true)/\∀(i j:Nat) (cs:aN) (c:AV),es[i]?=some cs->cs[j]?=some c->CRel S w c (u i j):=by
 cases h with
 |fa _ _ a u hz hS hc hr=>exact⟨a,u,rfl,hS,hc,hr⟩
 |bx x g u hS hc hr =>
   refine⟨⟨g,0,none⟩,λ_ _=>u,rfl,hS,λi j cs c hi hj=>?_,λi j cs c hi hj=>?_⟩
   all_goals
    match i,hi with
    |0,hi =>
      simp only[zbI,zaf]at hi;subst hi
      match j,hj with
      |0,hj =>
        simp only[zbI,zaf]at hj;subst hj
        first|exact hc|exact hr
abbrev Kap:=Nat->Option (Nat×Nat)
inductive VRel(S:aD)(κ:Kap)(D:aD)(w:World):AV->Value->Prop
 |bot (x:Value):VRel S κ D w .bot x
 |c {a:AV} {x:Value} (h:CRel S w a x):VRel S κ D w a x
 |loc (b z i o g c:Nat) (hd:D b) (hk:κ b=some (g,c)):VRel S κ D w (.loc b z i o) (.pointer (some ⟨g,i*z+o,none⟩))
 |row0 (b z:Nat) (hd:D b) (hk:κ b=none):VRel S κ D w (.row b z 0 0) (.slice none 0 0)
 |row (b z off n g c off' cap:Nat) (hd:D b) (hk:κ b=some (g,c)) (hn:n<=cap) (ho:off'=off*z\/(n=0/\off≠0)) (hc:off=0->cap=c) :
   VRel S κ D w (.row b z off n) (.slice (some ⟨g,off',none⟩) n cap)
 |map (b g c:Nat) (hd:D b) (hk:κ b=some (g,c)):VRel S κ D w (.map b) (.map (some g))
 |agg (cs:aN) (vs:aV) (hlen:vs.size=cs.length) (h1:∀x∈vs,x.oneCell'=true)
   (hr:∀(j:Nat) (c:AV) (x:Value),cs[j]?=some c->vs[j]?=some x->VRel S κ D w c x):VRel S κ D w (.agg cs) (.agg vs)
 |tup (cs:aN) (vs:aV) (hlen:vs.size=cs.length)
   (hr:∀(j:Nat) (c:AV) (x:Value),cs[j]?=some c->vs[j]?=some x->VRel S κ D w c x):VRel S κ D w (.tup cs) (.tuple vs)
 |fn (f:FuncId) (cs:aN) (vs:aV) (hlen:vs.size=cs.length)
   (hr:∀(j:Nat) (c:AV) (x:Value),cs[j]?=some c->vs[j]?=some x->VRel S κ D w c x):VRel S κ D w (.fn f cs) (.func (.func f) #[] vs)
def zmq(a:Addr)(n:Nat):(a.add n).block=a.block:=by unfold Addr.add;split<;>rfl
def CRel.mono{S S':aD}{w w':World}(hS:∀g,S g->S' g)(hw:∀g,S g->w'.heap[g]?=w.heap[g]?){a:AV}{x:Value}(h:CRel S w a x):CRel S' w' a x:=by
 have hcell:∀p:Addr,S p.block->w'.cell? p=w.cell? p:=λp hp=>World.cell?_of_block (hw _ hp)
 induction h with
 |v x=>exact .v x
 |sl z es A len cap u hlen hcap hz ha hr ih =>
   refine .sl z es A len cap u hlen hcap hz ?_ ih;rcases ha with h0|⟨a,hA,hs,hc⟩
   .exact .inl h0
   . refine .inr ⟨a,hA,hS _ hs,λi j cs c h1 h2=>?_⟩;rw[hcell _ (by rw[zmq];exact hs)]
     grind
 |agg cs vs hlen h1 hr ih=>exact .agg cs vs hlen h1 ih
 |tup cs vs hlen hr ih=>exact .tup cs vs hlen ih
 |fp cs a u hs hc hr ih=>refine .fp cs a u (hS _ hs) (λj c h=>?_) ih;rw[hcell _ (by rw[zmq];exact hs)];exact hc j c h
 |fn f cs vs hlen hr ih=>exact .fn f cs vs hlen ih
 |fa z es a u hz hs hc hr ih =>
   refine .fa z es a u hz (hS _ hs) (λi j cs c h1 h2=>?_) ih;rw[hcell _ (by rw[zmq];exact hs)]
   grind
 |mp es g en clock hs hg hlen hb hi h2 hk hv ihk ihv=>exact .mp es g en clock (hS _ hs) ((hw _ hs).trans hg) hlen hb hi h2 ihk ihv
 |bx x g u hs hc hr ih=>exact .bx x g u (hS _ hs) (by rw[hcell _ hs];exact hc) ih
def VRel.mono{S S':aD}{κ κ':Kap}{D D':aD}{w w':World}(hS:∀g,S g->S' g)(hw:∀g,S g->w'.heap[g]?=w.heap[g]?)
  (hD:∀b,D b->D' b) (hκ:∀b,D b->κ' b=κ b) {a:AV} {x:Value} (h:VRel S κ D w a x):VRel S' κ' D' w' a x:=by
 induction h with
 |bot x=>exact .bot x
 |c h=>exact .c (h.mono hS hw)
 |loc b z i o g c hd hk=>exact .loc b z i o g c (hD _ hd) ((hκ _ hd).trans hk)
 |row0 b z hd hk=>exact .row0 b z (hD _ hd) ((hκ _ hd).trans hk)
 |row b z off n g c off' cap hd hk hn ho hc=>exact .row b z off n g c off' cap (hD _ hd) ((hκ _ hd).trans hk) hn ho hc
 |map b g c hd hk=>exact .map b g c (hD _ hd) ((hκ _ hd).trans hk)
 |agg cs vs hlen h1 hr ih=>exact .agg cs vs hlen h1 ih
 |tup cs vs hlen hr ih=>exact .tup cs vs hlen ih
 |fn f cs vs hlen hr ih=>exact .fn f cs vs hlen ih
section
variable{S:aD}{κ:Kap}{D:aD}{w:World}
def VRel.v_inv{x y:Value}(h:VRel S κ D w (.v x) y):y=x:=by
 cases h with
 |c h=>cases h;rfl
def VRel.agg_inv{cs:aN}{y:Value}(h:VRel S κ D w (.agg cs) y):∃vs,y=.agg vs/\vs.size=cs.length/\(∀x∈vs,x.oneCell'=true)/\∀(j:Nat) (c:AV) (x:Value),cs[j]?=some c->vs[j]?=some x->VRel S κ D w c x:=by
 cases h with
 |c h=>cases h with|agg _ vs hlen h1 hr=>exact⟨vs,rfl,hlen,h1,λj c x a b=>.c (hr j c x a b)⟩
 |agg _ vs hlen h1 hr=>grind
def VRel.tup_inv{cs:aN}{y:Value}(h:VRel S κ D w (.tup cs) y):∃vs,y=.tuple vs/\vs.size=cs.length/\∀(j:Nat) (c:AV) (x:Value),cs[j]?=some c->vs[j]?=some x->VRel S κ D w c x:=by
 cases h with
 |c h=>cases h with|tup _ vs hlen hr=>exact⟨vs,rfl,hlen,λj c x a b=>.c (hr j c x a b)⟩
 |tup _ vs hlen hr=>grind
def VRel.fn_inv{f:FuncId}{cs:aN}{y:Value}(h:VRel S κ D w (.fn f cs) y):∃vs,y=.func (.func f) #[] vs/\vs.size=cs.length/\∀(j:Nat) (c:AV) (x:Value),cs[j]?=some c->vs[j]?=some x->VRel S κ D w c x:=by
 cases h with
 |c h=>cases h with|fn _ _ vs hlen hr=>exact⟨vs,rfl,hlen,λj c x a b=>.c (hr j c x a b)⟩
 |fn _ _ vs hlen hr=>grind
def VRel.sl_inv{z:Nat}{es:aS}{y:Value}(h:VRel S κ D w (.sl z es) y):CRel S w (.sl z es) y:=by
 cases h with
 |c h=>exact h
def VRel.fp_inv{cs:aN}{y:Value}(h:VRel S κ D w (.fp cs) y):CRel S w (.fp cs) y:=by
 cases h with
 |c h=>exact h
def VRel.loc_inv{b z i o:Nat}{y:Value}(h:VRel S κ D w (.loc b z i o) y):∃g c,D b/\κ b=some (g,c)/\y=.pointer (some ⟨g,i*z+o,none⟩):=by
 cases h with
 |c h=>cases h
 |loc _ _ _ _ g c hd hk=>simp_all
def VRel.fa_inv{z:Nat}{es:aS}{y:Value}(h:VRel S κ D w (.fa z es) y):CRel S w (.fa z es) y:=by
 cases h with
 |c h=>exact h
def VRel.mp_inv{es:aS}{y:Value}(h:VRel S κ D w (.mp es) y):CRel S w (.mp es) y:=by
 cases h with
 |c h=>exact h
def VRel.map_inv{b:Nat}{y:Value}(h:VRel S κ D w (.map b) y):∃g c,D b/\κ b=some (g,c)/\y=.map (some g):=by
 cases h with
 |c h=>cases h
 |map _ g c hd hk=>simp_all
def zyO{a:AV}{x y:Value}(h:a.scal=some x)(hr:VRel S κ D w a y):y=x:=by cases a<;>simp[AV.scal]at h;subst h;exact hr.v_inv
def zms{α β:Type}{f:α->Option β}:∀{l:List α} {r:List β},mapO f l=some r->r.length=l.length/\∀(j:Nat) (a:α),l[j]?=some a->∃b,r[j]?=some b/\f a=some b
 |[],r,h=>by simp[mapO]at h;subst h;simp
 |a::l,r,h=>by
   simp only[mapO]at h
   cases hf:f a with
   |none=>simp[hf]at h
   |some b =>
     simp only[hf]at h
     cases hm:mapO f l with
     |none=>simp[hm]at h
     |some l' =>
       simp only[hm,zaf]at h;subst h;obtain⟨h1,h2⟩:=zms hm
       grind
def zCU{a:AV}{x y:Value}(h:a.toVal=some x)(hr:VRel S κ D w a y):y=x:=by
 cases a<;>simp[AV.toVal]at h
 case v=>subst h;exact hr.v_inv
 case agg cs =>
  cases hm:mapO AV.scal cs with
  |none=>simp[hm]at h
  |some l =>
    simp only[hm,zaf]at h;subst h;obtain⟨vs,rfl,hlen,_,hp⟩:=hr.agg_inv;obtain⟨hl,hs⟩:=zms hm;congr 1;apply Array.ext_getElem?;intro j
    cases hj:cs[j]? with
    |none=>simp_all
    |some c =>
      obtain⟨b,hb,hc⟩:=hs j c hj;have hlt:j<vs.size:=by have:=(zal.1 hj).1;omega
      have hv:vs[j]?=some vs[j]:=zaN hlt;rw[hv];have:=zyO hc (hp j c _ hj hv);simp[hb,this]
 case fn f cs =>
  cases cs with
  |nil =>
    simp at h;subst h;obtain⟨vs,rfl,hlen,_⟩:=hr.fn_inv
    simp_all
  |cons _ _=>simp at h
def zLv{x:Value}{a:AV}(h:ofVal x=some a):CRel S w a x:=by
 unfold ofVal at h;split at h
 . split at h<;>simp at h;subst h;refine .tup _ _ (by simp) λj c y hc hy=>?_
   simp at hc;obtain⟨q,hq,rfl⟩:=hc;rw[hq]at hy;injection hy with hy;subst hy;exact .v _
 .split at h<;>simp at h;subst h;exact .v _
def ztX{α:Type}(P:Program):∀(s:Sem α) (x:α),zdb P s=some x->∀w,s.run P w=.ok x w
 |.pure a,x,h,w=>by simp[zdb]at h;subst h;rfl
 |.program k,x,h,w=>by simp only[zdb]at h;exact ztX P (k P) x h w
 |.mark m k,x,h,w=>by simp only[zdb]at h;exact ztX P k x h w
 |.load ..,x,h,w=>by simp[zdb]at h
 |.store ..,x,h,w=>by simp[zdb]at h
 |.new ..,x,h,w=>by simp[zdb]at h
 |.shape ..,x,h,w=>by simp[zdb]at h
 |.freeze ..,x,h,w=>by simp[zdb]at h
 |.frozen ..,x,h,w=>by simp[zdb]at h
 |.getObj ..,x,h,w=>by simp[zdb]at h
 |.setObj ..,x,h,w=>by simp[zdb]at h
 |.choose ..,x,h,w=>by simp[zdb]at h
 |.sys ..,x,h,w=>by simp[zdb]at h
 |.halt ..,x,h,w=>by simp[zdb]at h
def zfO{α:Type}{f:α->Bool}:∀{l:List α},allL f l=true->∀a∈l,f a=true
 |[],_,a,h=>by cases h
 |b::l,h,a,hm=>by
   simp only[allL,zaU]at h
   cases zat.1 hm with
   |inl e=>subst e;exact h.1
   |inr e=>exact zfO h.2 a e
def one_sound{a:AV}{x:Value}(h:a.one=true)(hr:VRel S κ D w a x):x.oneCell'=true:=by
 cases a<;>simp[AV.one]at h
 case v=>rw[hr.v_inv];exact h
 case sl=>have:=hr.sl_inv;cases this;rfl
 case fp=>have:=hr.fp_inv;cases this;rfl
 case loc=>obtain⟨_,_,_,_,rfl⟩:=hr.loc_inv;rfl
 case row=>cases hr with
  |c h=>cases h
  |row0=>rfl
  |row=>rfl
 case fn=>obtain⟨_,rfl,_⟩:=hr.fn_inv;rfl
 case map=>obtain⟨_,_,_,_,rfl⟩:=hr.map_inv;rfl
 case mp=>have:=hr.mp_inv;cases this;rfl
 case fa=>obtain⟨_,_,e,_⟩:=hr.fa_inv.fa_data;rw[e];rfl
def zkX:∀(k:Nat) {a:AV} {x:Value},a.isC k=true->VRel S κ D w a x->CRel S w a x
 |0,a,x,h,_=>by simp[AV.isC]at h
 |k+1,a,x,h,hr=>by
   cases a<;>simp[AV.isC]at h
   case v=>rw[hr.v_inv];exact .v _
   case sl=>exact hr.sl_inv
   case fp=>exact hr.fp_inv
   case mp=>exact hr.mp_inv
   case fa=>exact hr.fa_inv
   case agg cs=>obtain⟨vs,rfl,hl,h1,hp⟩:=hr.agg_inv;exact .agg cs vs hl h1 λj c x hc hx=>zkX k (zfO h c (zau hc)) (hp j c x hc hx)
   case fn f cs=>obtain⟨vs,rfl,hl,hp⟩:=hr.fn_inv;exact .fn f cs vs hl λj c x hc hx=>zkX k (zfO h c (zau hc)) (hp j c x hc hx)
def zw9{a:AV}{x:Value}(h1:allL AV.one a.cells=true)(hr:VRel S κ D w a x):x.cells.size=a.cells.length/\(∀y∈x.cells,y.oneCell'=true)/\∀(j:Nat) (c:AV) (y:Value),a.cells[j]?=some c->x.cells[j]?=some y->VRel S κ D w c y:=by
 have other:a.cells=[a]->x.cells.size=a.cells.length/\(∀y∈x.cells,y.oneCell'=true)/\∀(j:Nat) (c:AV) (y:Value),a.cells[j]?=some c->x.cells[j]?=some y->VRel S κ D w c y:=by
  intro e;have hx:x.oneCell'=true:=one_sound (zfO h1 a (by rw[e];simp)) hr;have hc:x.cells=#[x]:=by cases x<;>first|rfl|(simp[Value.oneCell']at hx)
  rw[e,hc];refine⟨rfl,by simpa using hx,λj c y h h'=>?_⟩
  cases j with
  |zero=>simp_all
  |succ j=>simp at h
 cases a with
 |agg cs=>obtain⟨vs,rfl,hl,h1,hp⟩:=hr.agg_inv;exact⟨hl,h1,hp⟩
 |_=>exact other rfl
def CRel.nil_sl(z:Nat):CRel S w (.sl z []) (.slice none 0 0):=
 .sl z [] none 0 0 (λ_ _=>undef) rfl (zav _) (λ_ h=>by cases h) (.inl rfl) (λi j cs c h=>by simp at h)
def zyI(P:Program)(t:TypeId)(a:AV):nrm1 P t a=a\/(a=.v (.slice none 0 0)/\∃z,nrm1 P t a=.sl z []):=by
 unfold nrm1
 grind
def ztd{P:Program}{t:TypeId}{a:AV}{x:Value}(h:CRel S w a x):CRel S w (nrm1 P t a) x:=by
 rcases zyI P t a with e|⟨rfl,z,e⟩
 .rw[e];exact h
 .rw[e];cases h;exact CRel.nil_sl z
def nrm1_rel{P:Program}{t:TypeId}{a:AV}{x:Value}(h:VRel S κ D w a x):VRel S κ D w (nrm1 P t a) x:=by
 rcases zyI P t a with e|⟨rfl,z,e⟩
 .rw[e];exact h
 .rw[e,h.v_inv];exact .c (CRel.nil_sl z)
def zlD(P:Program):∀(ts:List TypeId) (l:aN),(nrmL P ts l).length=l.length
 |[],l=>by cases l<;>rfl
 |t::ts,[]=>rfl
 |t::ts,a::r=>by simp[nrmL,zlD P ts r]
def zsD(P:Program):∀(ts:List TypeId) (l:aN) (j:Nat) (c:AV),(nrmL P ts l)[j]?=some c->∃a,l[j]?=some a/\(c=a\/∃t,c=nrm1 P t a)
 |[],l,j,c,h=>by
   have:nrmL P [] l=l:=by cases l<;>rfl
   simp_all
 |t::ts,[],j,c,h=>by simp[nrmL]at h
 |t::ts,a::r,j,c,h=>by
   cases j with
   |zero=>simp[nrmL]at h;grind
   |succ j=>simp[nrmL]at h ⊢;exact zsD P ts r j c h
def zuY{P:Program}{t:TypeId}{a:AV}{x:Value}(h:VRel S κ D w a x):VRel S κ D w (nrm P t a) x:=by
 unfold nrm;split
 . rename_i cs;obtain⟨vs,rfl,hl,h1,hr⟩:=h.agg_inv;refine .agg _ vs (by rw[zlD];exact hl) h1 (λj c x hj hx=>?_);obtain⟨a,ha,hc⟩:=zsD P _ _ j c hj;rcases hc with rfl|⟨t',rfl⟩
   .exact hr j _ x ha hx
   .exact nrm1_rel (hr j _ x ha hx)
 .exact nrm1_rel h
def nrmP_rel{P:Program}{t:TypeId}{a:AV}{x:Value}(h:VRel S κ D w a x):VRel S κ D w (nrmP P t a) x:=by
 unfold nrmP;split
 .exact zuY h
 .exact h
def nrmS_rel{P:Program}{L:aK}{t:TypeId}{b a:AV}{x:Value}(h:VRel S κ D w a x):VRel S κ D w (nrmS P L t b a) x:=by
 unfold nrmS
 repeat' split
 all_goals first|exact h|exact zuY h
def zlC(P:Program):∀(ts:List TypeId) (l:aN),(nrmA P ts l).length=l.length
 |[],l=>by cases l<;>rfl
 |t::ts,[]=>rfl
 |t::ts,a::r=>by simp[nrmA,zlC P ts r]
def zyJ(P:Program):∀(ts:List TypeId) (l:aN) (j:Nat) (c:AV),(nrmA P ts l)[j]?=some c->∃a,l[j]?=some a/\(c=a\/∃t,c=nrm P t a)
 |[],l,j,c,h=>by
   have:nrmA P [] l=l:=by cases l<;>rfl
   simp_all
 |t::ts,[],j,c,h=>by simp[nrmA]at h
 |t::ts,a::r,j,c,h=>by
   cases j with
   |zero=>simp[nrmA]at h;grind
   |succ j=>simp[nrmA]at h ⊢;exact zyJ P ts r j c h
def nrmA_rel{P:Program}{ts:List TypeId}{l:aN}{vs:aV}(hr:∀(j:Nat) (c:AV) (x:Value),l[j]?=some c->vs[j]?=some x->VRel S κ D w c x)
  (j:Nat) (c:AV) (x:Value) (hj:(nrmA P ts l)[j]?=some c) (hx:vs[j]?=some x):VRel S κ D w c x:=by
 obtain⟨a,ha,hc⟩:=zyJ P ts l j c hj;rcases hc with rfl|⟨t,rfl⟩
 .exact hr j _ x ha hx
 .exact zuY (hr j _ x ha hx)
def nrm1_ids(P:Program)(t:TypeId)(L:aK)(k:Nat)(a:AV):(nrm1 P t a).ids L k=a.ids L k:=by
 rcases zyI P t a with e|⟨rfl,z,e⟩
 .rw[e]
 .rw[e];cases k<;>rfl
def nrmL_ids(P:Program)(L:aK)(k:Nat):∀(ts:List TypeId) (l:aN),(nrmL P ts l).flatMap (AV.ids L k)=l.flatMap (AV.ids L k)
 |[],l=>by cases l<;>rfl
 |t::ts,[]=>rfl
 |t::ts,a::r=>by simp only[nrmL,zem,nrm1_ids,nrmL_ids P L k ts r]
def nrm_ids(P:Program)(t:TypeId)(L:aK)(k:Nat)(a:AV):(nrm P t a).ids L k=a.ids L k:=by
 unfold nrm;split
 . cases k with
   |zero=>rfl
   |succ k=>simp only[AV.ids,nrmL_ids]
 .exact nrm1_ids P t L k a
end
end
section
open Go.RowKit
def Ent.cap(_:Ent):Nat:=maxLen
def Ent.cap_le(e:Ent):e.cap<=maxLen:=zav _
def CellAt(S:aD)(κ:Kap)(D:aD)(w:World)(kb:ag)(ent:Ent):Prop:=
 (∀cs∈ent.es,cs.length=ent.z)/\match kb with
 |none=>ent.es=[]/\ent.box=false
 |some (g,c)=>∃cells:Array Value,w.heap[g]?=some (.cells cells ent.e (0,0))/\cells.size=c*ent.z/\ent.es.length<=c/\c<=ent.cap/\¬S g /\
   ∀(i j:Nat) (cs:aN) (a:AV),ent.es[i]?=some cs->cs[j]?=some a->∃u,cells[i*ent.z+j]?=some u/\u.oneCell'=true/\(ent.box=true->VRel S κ D w a u)/\(ent.box=false->CRel S w a u)
def MapAt(S:aD)(w:World)(kb:ag)(es:aS):Prop:=
 ∃g c en clock,kb=some (g,c)/\¬S g/\w.heap[g]?=some (.map en clock)/\en.size=es.length/\(∀(i:Nat) (e:MapEntry),en[i]?=some e->e.born<clock)/\(∀(i j:Nat) (e f:MapEntry),i<j->en[i]?=some e->en[j]?=some f->e.born<f.born)/\(∀cs∈es,∃k v,cs=[k,v])/\∀(i:Nat) (k v:AV) (e:MapEntry),es[i]?=some [k,v]->en[i]?=some e->CRel S w k e.key/\CRel S w v e.val
def Ent.cell(ent:Ent):Prop:=ent.box=true\/0<ent.z
def EntAt(S:aD)(κ:Kap)(D:aD)(w:World)(kb:ag)(ent:Ent):Prop:=
 (ent.cell->CellAt S κ D w kb ent)/\(¬ent.cell->MapAt S w kb ent.es)
def EntAt.of{S:aD}{κ:Kap}{D:aD}{w:World}{kb:ag}{ent:Ent}(hc:ent.cell)(h:CellAt S κ D w kb ent):EntAt S κ D w kb ent:=⟨λ_=>h,λq=>absurd hc q⟩
def EntAt.ofMap{S:aD}{κ:Kap}{D:aD}{w:World}{kb:ag}{ent:Ent}(h1:ent.z=0)(h2:ent.box=false)(h:MapAt S w kb ent.es):EntAt S κ D w kb ent:=
 ⟨λq=>by unfold Ent.cell at q;simp_all,λ_=>h⟩
def zxU{ent:Ent}(h1:ent.z=0)(h2:ent.box=false):¬ent.cell:=by unfold Ent.cell;rw[h1,h2];simp
def MapAt.mono{S S':aD}{w w':World}{kb:ag}{es:aS}(h:MapAt S w kb es)(hS:∀g,S g->S' g)(hw:∀g,S g->w'.heap[g]?=w.heap[g]?)
  (hb:∀g c,kb=some (g,c)->w'.heap[g]?=w.heap[g]?/\¬S' g):MapAt S' w' kb es:=by
 obtain⟨g,c,en,clock,hk,hn,hg,hl,h1,h2,h3,h4⟩:=h;obtain⟨e1,e2⟩:=hb g c hk;exact⟨g,c,en,clock,hk,e2,e1.trans hg,hl,h1,h2,h3,λi k v e hi he=>⟨(h4 i k v e hi he).1.mono hS hw,(h4 i k v e hi he).2.mono hS hw⟩⟩
def CellAt.mono{S S':aD}{κ κ':Kap}{D D':aD}{w w':World}{kb:ag}{ent:Ent}(h:CellAt S κ D w kb ent)
  (hS:∀g,S g->S' g) (hw:∀g,S g->w'.heap[g]?=w.heap[g]?) (hD:∀b,D b->D' b) (hκ:∀b,D b->κ' b=κ b)
  (hb:∀g c,kb=some (g,c)->w'.heap[g]?=w.heap[g]?/\¬S' g):CellAt S' κ' D' w' kb ent:=by
 refine⟨h.1,?_⟩;have h2:=h.2
 cases kb with
 |none=>exact h2
 |some gc=>obtain⟨g,c⟩:=gc;obtain⟨cells,h1,h3,h4,h5,_,h7⟩:=h2;obtain⟨e1,e2⟩:=hb g c rfl;refine⟨cells,e1.trans h1,h3,h4,h5,e2,λi j cs a hi hj=>?_⟩;obtain⟨u,q1,q2,q3,q4⟩:=h7 i j cs a hi hj;exact⟨u,q1,q2,λhb=>(q3 hb).mono hS hw hD hκ,λhb=>(q4 hb).mono hS hw⟩
def EntAt.mono{S S':aD}{κ κ':Kap}{D D':aD}{w w':World}{kb:ag}{ent:Ent}(h:EntAt S κ D w kb ent)
  (hS:∀g,S g->S' g) (hw:∀g,S g->w'.heap[g]?=w.heap[g]?) (hD:∀b,D b->D' b) (hκ:∀b,D b->κ' b=κ b)
  (hb:∀g c,kb=some (g,c)->w'.heap[g]?=w.heap[g]?/\¬S' g):EntAt S' κ' D' w' kb ent:=
 ⟨λq=>(h.1 q).mono hS hw hD hκ hb,λq=>(h.2 q).mono hS hw hb⟩
def EntAt.notS{S:aD}{κ:Kap}{D:aD}{w:World}{g c:Nat}{ent:Ent}(h:EntAt S κ D w (some (g,c)) ent):¬S g:=by
 by_cases hc:ent.cell
 .obtain⟨_,cells,_,_,_,_,hn,_⟩:=h.1 hc;exact hn
 .obtain⟨g',c',en,clock,e,hn,_⟩:=h.2 hc;cases e;exact hn
def EntAt.lt{S:aD}{κ:Kap}{D:aD}{w:World}{g c:Nat}{ent:Ent}(h:EntAt S κ D w (some (g,c)) ent):g<w.heap.size:=by
 by_cases hc:ent.cell
 . obtain⟨_,cells,hg,_⟩:=h.1 hc
   grind
 . obtain⟨g',c',en,clock,e,hn,hg,_⟩:=h.2 hc
   grind
def EntAt.handed{S S':aD}{κ κ':Kap}{D D':aD}{w:World}{kb:ag}{ent:Ent}(h:EntAt S κ D w kb ent)(hS:∀g,S g->S' g)
  (hn:∀g c,kb=some (g,c)->¬S' g) (hcl:ent.box=true->∀cs∈ent.es,∀a∈cs,a.isC 4=true):EntAt S' κ' D' w kb ent:=by
 refine⟨λhc=>?_,λhc=>?_⟩
 . obtain⟨q1,q2⟩:=h.1 hc;refine⟨q1,?_⟩
   cases kb with
   |none=>exact q2
   |some gc=>obtain⟨g,c⟩:=gc;obtain⟨cells,c1,c2,c3,c4,c5,c6⟩:=q2;refine⟨cells,c1,c2,c3,c4,hn g c rfl,λi j cs a hi hj=>?_⟩;obtain⟨u,u1,u2,u3,u4⟩:=c6 i j cs a hi hj;exact⟨u,u1,u2,λhbx=>.c ((zkX 4 (hcl hbx cs (zau hi) a (zau hj)) (u3 hbx)).mono hS (λ_ _=>rfl)),λhbx=>(u4 hbx).mono hS (λ_ _=>rfl)⟩
 .exact(h.2 hc).mono hS (λ_ _=>rfl) (λg c hk=>⟨rfl,hn g c hk⟩)
section
variable{P:Program}{S:aD}{κ:Kap}{D:aD}{w:World}
def zoy{t:TypeId}{b:Bool}(h:isAggB P t=some b):(isAgg t).run P w=.ok b w:=by
 unfold isAggB at h
 cases hu:P.underlying t with
 |none=>simp[hu]at h
 |some d=>simp only[hu]at h;simp only[isAgg,Sem.run_bind,run_underlying hu,Result.andThen_ok];cases d<;>simp at h<;>subst h<;>rfl
def zdY{t:TypeId}{n:Nat}(h:szB P t=some n):(sizeOf t).run P w=.ok n w:=by
 unfold szB at h
 cases hi:P.info? t with
 |none=>simp[hi]at h
 |some i=>simp[hi]at h;subst h;simp[sizeOf,typeInfo,hi]
def range_get{u:Nat->Value}{n j:Nat}{x:Value}(h:((List.range n).map u)[j]?=some x):j<n/\u j=x:=by grind
def zzt{t:TypeId}{a:Addr}{cs:aN}{av:AV}{u:Nat->Value}(R:AV->Value->Prop)
  (hagg:∀(l:aN) (vs:aV),vs.size=l.length->(∀x∈vs,x.oneCell'=true)->(∀(j:Nat) (c:AV) (x:Value),l[j]?=some c->vs[j]?=some x->R c x)->R (.agg l) (.agg vs))
  (hc:∀(j:Nat) (c:AV),cs[j]?=some c->w.cell? (a.add j)=some (u j)/\(u j).oneCell'=true/\R c (u j))
  (h:readAt P t cs=some av):∃x,(loadVar t a).run P w=.ok x w/\R av x:=by
 unfold readAt at h
 cases hb:isAggB P t with
 |none=>simp[hb]at h
 |some b =>
   cases b with
   |false =>
     simp only[hb]at h;obtain⟨h1,_,h3⟩:=hc 0 av h;have ha:a.add 0=a:=by simp[Addr.add]
     rw[ha]at h1;refine⟨u 0,?_,h3⟩;simp[loadVar,zoy hb,h1]
   |true =>
     simp only[hb]at h
     cases hs:szB P t with
     |none=>simp[hs]at h
     |some n =>
       simp only[hs]at h;split at h
       . rename_i hle;injection h with h;subst h
         have hl:=run_loadCells_list (P:=P) w a ((List.range n).map u) (λj x hx=>by
          obtain⟨hj,rfl⟩:=range_get hx
          exact(hc j _ (zaa (by omega))).1)
         simp only[zab,zdT]at hl;refine⟨.agg ((List.range n).map u).toArray,?_,?_⟩
         .simp[loadVar,zoy hb,zdY hs,hl]
         . refine hagg _ _ (by simp;omega) ?_ ?_
           .intro x hx;simp at hx;obtain⟨j,hj,rfl⟩:=hx;exact(hc j _ (zaa (by omega))).2.1
           grind
       .cases h
def VRel.agg_mk(l:aN)(vs:aV)(h:vs.size=l.length)(h1:∀x∈vs,x.oneCell'=true)
  (hr:∀(j:Nat) (c:AV) (x:Value),l[j]?=some c->vs[j]?=some x->VRel S κ D w c x):VRel S κ D w (.agg l) (.agg vs):=.agg l vs h h1 hr
def zw3{L:aK}{t:TypeId}{a:AV}{r:Res}{x:Value}(h:aLoad P L t a=some r)(hx:VRel S κ D w a x)
  (hL:∀b ent,L b=some ent->EntAt S κ D w (κ b) ent):∃y,(Instr.loadAt t x).run P w=.ok y w/\VRel S κ D w r.val y/\r.set=[]/\r.kill=none/\r.frz=[]/\r.re=[]:=by
 cases a<;>simp[aLoad]at h
 case fp cs =>
  have hf:=hx.fp_inv
  cases hf with
  |fp _ ad u hS hc hr =>
    cases hq:readAt P t cs with
    |none=>simp[hq]at h
    |some av=>simp only[hq,zaf]at h;subst h;obtain⟨y,h1,h2⟩:=zzt (P:=P) (w:=w) (VRel S κ D w) VRel.agg_mk (a:=ad) (u:=u) (λj c hj=>⟨(hc j c hj).1,(hc j c hj).2,.c (hr j c hj)⟩) hq;exact⟨y,by simpa[Instr.loadAt,Instr.sureAddr]using h1,h2,rfl,rfl,rfl,rfl⟩
 case loc b z i o =>
  obtain⟨g,c,hd,hk,rfl⟩:=hx.loc_inv
  cases hl:L b with
  |none=>simp[hl]at h
  |some ent =>
    simp only[hl]at h;split at h
    . rename_i hzc;obtain⟨hz,hcl⟩:=hzc
      cases hi:ent.es[i]? with
      |none=>simp[hi]at h
      |some cs =>
        simp only[hi]at h
        cases hq:readAt P t (cs.drop o)with
        |none=>simp[hq]at h
        |some av =>
          simp only[hq,zaf]at h;subst h;obtain⟨_,hent⟩:=(hL b ent hl).1 hcl;rw[hk]at hent;obtain⟨cells,hc,_,_,_,_,hcell⟩:=hent
          have hcs:∀(j:Nat) (c:AV),(cs.drop o)[j]?=some c->∃u,w.cell? ((⟨g,i*z+o,none⟩:Addr).add j)=some u/\u.oneCell'=true/\VRel S κ D w c u:=by
           intro j c hj;rw[zb6]at hj;obtain⟨u,h1,h2,h3,h4⟩:=hcell i (o+j) cs c hi hj;refine⟨u,?_,h2,?_⟩
           . have:(⟨g,i*z+o,none⟩:Addr).add j=⟨g,i*z+o+j,none⟩:=by unfold Addr.add;split<;>simp_all
             rw[this,cell_of_row w g _ cells ent.e (0,0) hc,<-h1,hz]
             grind
           . cases hbx:ent.box with
             |true=>exact h3 hbx
             |false=>exact .c (h4 hbx)
          obtain⟨y,h1,h2⟩:=zzt (P:=P) (w:=w) (VRel S κ D w) VRel.agg_mk (a:=⟨g,i*z+o,none⟩)
           (u:=λj=>(w.cell? ((⟨g,i*z+o,none⟩:Addr).add j)).getD undef) (λj c hj=>by grind) hq
          exact⟨y,by simpa[Instr.loadAt,Instr.sureAddr]using h1,h2,rfl,rfl,rfl,rfl⟩
    .cases h
def add_at(g n j:Nat):(⟨g,n,none⟩:Addr).add j=⟨g,n+j,none⟩:=by unfold Addr.add;split<;>simp_all
def fp_add{cs:aN}{a:Addr}{n:Nat}(h:CRel S w (.fp cs) (.pointer (some a))):CRel S w (.fp (cs.drop n)) (.pointer (some (a.add n))):=by
 cases h with
 |fp _ _ u hS hc hr =>
   refine .fp _ _ (λj=>u (n+j)) (by rw[zmq];exact hS) (λj c hj=>?_) (λj c hj=>?_)
   .rw[zb6]at hj;rw[Go.Deep.add_add];exact hc _ c hj
   simp_all
def fp_take{cs:aN}{a:Addr}{n:Nat}(h:CRel S w (.fp cs) (.pointer (some a))):CRel S w (.fp (cs.take n)) (.pointer (some a)):=by
 cases h with
 |fp _ _ u hS hc hr =>
   refine .fp _ _ u hS (λj c hj=>?_) (λj c hj=>?_)
   .grind
   grind
def zJg{s:TypeId}{f:Nat}{a:AV}{r:Res}{x:Value}(h:aField P s f a=some r)(hx:VRel S κ D w a x):∃y,(Instr.fieldAt s x f).run P w=.ok y w/\VRel S κ D w r.val y/\r.set=[]/\r.kill=none/\r.frz=[]/\r.re=[]:=by
 unfold aField at h;split at h
 . rename_i fields hu
   cases hf:fields[f]? with
   |none=>simp[hf]at h
   |some fd =>
     simp only[hf]at h;split at h
     . rename_i n hn;have hrun:∀ad:Addr,(fieldPlace ad fd).run P w=.ok (ad.add fd.offset) w:=λad=>by simp[fieldPlace,zdY hn]
       cases a<;>(try simp at h)
       case fp cs =>
        subst h;have hf':=hx.fp_inv
        cases hf' with
        |fp _ ad u hS hc hr=>refine⟨.pointer (some (ad.add fd.offset)),?_,.c (fp_add (CRel.fp cs ad u hS hc hr)),rfl,rfl,rfl,rfl⟩;simp[Instr.fieldAt,run_underlying hu,hf,Instr.sureAddr,hrun]
       case loc b z i o=>subst h;obtain⟨g,c,hd,hk,rfl⟩:=hx.loc_inv;refine⟨.pointer (some ⟨g,i*z+(o+fd.offset),none⟩),?_,.loc b z i (o+fd.offset) g c hd hk,rfl,rfl,rfl,rfl⟩;simp[Instr.fieldAt,run_underlying hu,hf,Instr.sureAddr,hrun,add_at,zgR]
       case v q =>
        split at h
        .rename_i e;cases e
        .rename_i e;cases e
        .rename_i e;injection e with e;subst e;injection h with h;subst h;cases hx.v_inv;refine⟨_,?_,.c (.v _),rfl,rfl,rfl,rfl⟩;simp[Instr.fieldAt,run_underlying hu,hf,Instr.sureAddr,hrun,add_at]
        .cases h
     .cases h
 .cases h
def zu8{t:TypeId}{a ix:AV}{r:Res}{x y:Value}(h:aIndex P t a ix=some r)(hx:VRel S κ D w a x)(hy:VRel S κ D w ix y):∃q,(Instr.indexAt t x y).run P w=.ok q w/\VRel S κ D w r.val q/\r.set=[]/\r.kill=none/\r.frz=[]/\r.re=[]:=by
 unfold aIndex at h;split at h
 . rename_i k n;rw[hy.v_inv];split at h
   . rename_i e hu;split at h
     . rename_i sz z es hs;split at h
       . rename_i hz;obtain⟨rfl,hn⟩:=hz
         cases he:es[n.toNat]? with
         |none=>simp[he]at h
         |some cs =>
           simp only[he,zaf]at h;subst h;have hf:=hx.sl_inv
           cases hf with
           |sl _ _ A len cap u hlen hcap hzz ha hr =>
             have hlt:n.toNat<es.length:=(zal.1 he).1;rcases ha with h0|⟨ad,rfl,hS,hc⟩
             .simp_all
             . refine⟨.pointer (some (ad.add (n.toNat*z))),?_,.c (.fp cs _ (λj=>u n.toNat j) (by rw[zmq];exact hS) (λj c hj=>?_) (λj c hj=>hr _ j cs c he hj)),rfl,rfl,rfl,rfl⟩
               . have hb:0<=n/\n<(len:Int):=by omega
                 simp[Instr.indexAt,asIntOf,run_underlying hu,zdY hs,hb]
               . rw[Go.Deep.add_add]
                 grind
       .cases h
     . rename_i sz b z off len hs;split at h
       . rename_i hz;obtain⟨rfl,hn,hlt⟩:=hz;injection h with h;subst h
         cases hx with
         |c h=>cases h
         |row0 _ _ _ _=>simp at hlt;omega
         |row _ _ _ _ g c off' cap hd hk hnc ho hc =>
           have hoff:off'=off*z:=by
            rcases ho with h|⟨h,_⟩
            .exact h
            .omega
           subst hoff;refine⟨.pointer (some ⟨g,(off+n.toNat)*z+0,none⟩),?_,.loc b z (off+n.toNat) 0 g c hd hk,rfl,rfl,rfl,rfl⟩;simp[Instr.indexAt,asIntOf,run_underlying hu,zdY hs,hn,hlt,add_at,zdz]
       .cases h
     .cases h
   . rename_i len e hu;split at h
     . rename_i hn;split at h
       . rename_i sz cs hs;injection h with h;subst h;have hf:=hx.fp_inv
         cases hf with
         |fp _ ad u hS hc hr=>refine⟨.pointer (some (ad.add (n.toNat*sz))),?_,.c (fp_take (fp_add (CRel.fp cs ad u hS hc hr))),rfl,rfl,rfl,rfl⟩;simp[Instr.indexAt,asIntOf,run_underlying hu,zdY hs,Instr.sureAddr,hn]
       . rename_i sz z es hs;split at h
         case isFalse=>cases h
         rename_i hz;subst hz
         cases he:es[n.toNat]? with
         |none=>simp[he]at h
         |some cs =>
           simp only[he,zaf]at h;subst h;obtain⟨ad,u,rfl,hS,hc,hr⟩:=hx.fa_inv.fa_data
           . refine⟨.pointer (some (ad.add (n.toNat*z))),?_,.c (.fp cs _ (λj=>u n.toNat j) (by rw[zmq];exact hS) (λj c hj=>?_) (λj c hj=>hr _ j cs c he hj)),rfl,rfl,rfl,rfl⟩
             .simp[Instr.indexAt,asIntOf,run_underlying hu,zdY hs,Instr.sureAddr,hn]
             . rw[Go.Deep.add_add]
               grind
       . rename_i sz b z i o hs;obtain⟨g,c,hd,hk,rfl⟩:=hx.loc_inv;split at h
         .rename_i hz;obtain⟨rfl,rfl⟩:=hz;injection h with h;subst h;refine⟨.pointer (some ⟨g,(i+n.toNat)*z+0,none⟩),?_,.loc b z (i+n.toNat) 0 g c hd hk,rfl,rfl,rfl,rfl⟩;simp[Instr.indexAt,asIntOf,run_underlying hu,zdY hs,Instr.sureAddr,hn,add_at,zdz]
         .injection h with h;subst h;refine⟨.pointer (some ⟨g,i*z+(o+n.toNat*sz),none⟩),?_,.loc b z i _ g c hd hk,rfl,rfl,rfl,rfl⟩;simp[Instr.indexAt,asIntOf,run_underlying hu,zdY hs,Instr.sureAddr,hn,add_at,zgR]
       .cases h
     .cases h
   .cases h
 .cases h
def zno{d:Nat}{a:Option AV}{n:Nat}{x:Option Value}(h:natOf d a=some n)(hx:(a=none/\x=none)\/∃b y,a=some b/\x=some y/\VRel S κ D w b y):(a=none/\x=none/\n=d)\/∃k,x=some (.int k n):=by
 rcases hx with⟨rfl,rfl⟩|⟨b,y,rfl,rfl,hr⟩
 .simp[natOf]at h;simp_all
 . unfold natOf at h;split at h
   .rename_i h';cases h'
   . rename_i k m h';injection h' with h';subst h';split at h
     . rename_i hm;injection h with h;rw[hr.v_inv]
       grind
     .cases h
   .cases h
def zyo{len cap l h:Nat}{lo hi:Option Value}(hl:(lo=none/\l=0)\/∃k,lo=some (.int k l))(hh:(hi=none/\h=len)\/∃k,hi=some (.int k h))
  (h1:l<=h) (h2:h<=len) (h3:len<=cap):(Instr.sliceBounds true len cap lo hi none).run P w=.ok (l,h,cap) w:=by
 have e1:∀k,(Instr.sliceBound (.int k h) cap .sliceAcap).run P w=.ok h w:=λk=>by simp[Instr.sliceBound,asIntOf];omega
 have e2:∀k,(Instr.sliceBound (.int k l) h .sliceB).run P w=.ok l w:=λk=>by simp[Instr.sliceBound,asIntOf];omega
 rcases hl with⟨rfl,rfl⟩|⟨k,rfl⟩<;>rcases hh with⟨rfl,rfl⟩|⟨k',rfl⟩<;>simp[Instr.sliceBounds,e1,e2]
def zJm{t:TypeId}{a:AV}{lo hi:Option AV}{lo' hi':Option Value}{r:Res}{x:Value}(h:aSlice P t a lo hi=some r)(hx:VRel S κ D w a x)
  (hlo:(lo=none/\lo'=none)\/∃b y,lo=some b/\lo'=some y/\VRel S κ D w b y) (hhi:(hi=none/\hi'=none)\/∃b y,hi=some b/\hi'=some y/\VRel S κ D w b y):∃q,(Instr.sliceAt t x lo' hi' none).run P w=.ok q w/\VRel S κ D w r.val q/\r.set=[]/\r.kill=none/\r.frz=[]/\r.re=[]:=by
 unfold aSlice at h;split at h
 . rename_i e hu;split at h
   . rename_i sz z es hs;split at h
     . rename_i l hh hl1 hh1;split at h
       . rename_i hz;obtain⟨rfl,h1,h2⟩:=hz;injection h with h;subst h;have hf:=hx.sl_inv
         cases hf with
         |sl _ _ A len cap u hlen hcap hzz ha hr =>
           have hb:=zyo (P:=P) (w:=w) (len:=len) (cap:=cap) (l:=l) (h:=hh) (lo:=lo') (hi:=hi')
            (by rcases zno hl1 hlo with⟨_,a,b⟩|⟨k,a⟩;exact .inl ⟨a,b⟩;exact .inr ⟨k,a⟩)
            (by rcases zno hh1 hhi with⟨_,a,b⟩|⟨k,a⟩;exact .inl ⟨a,by omega⟩;exact .inr ⟨k,a⟩) h1 (by omega) hcap
           refine⟨.slice (if cap=l then A else A.map (·.add (l*z))) (hh-l) (cap-l),?_,.c ?_,rfl,rfl,rfl,rfl⟩
           .simp[Instr.sliceAt,run_underlying hu,Instr.slice,hb,zdY hs]
           . have hget:∀(i:Nat) (cs:aN),((es.take hh).drop l)[i]?=some cs->es[l+i]?=some cs:=by
              intro i cs hi;rw[zb6,zcw]at hi;split at hi
              .exact hi
              .cases hi
             refine .sl z _ _ _ _ (λi j=>u (l+i) j) (by simp;omega) (by omega) (λcs hcs=>hzz cs ?_) ?_ (λi j cs c hi hj=>hr _ j cs c (hget i cs hi) hj)
             .grind
             . by_cases he:(es.take hh).drop l=[]
               .exact .inl he
               . refine .inr ?_;rcases ha with h0|⟨ad,rfl,hS,hc⟩
                 .subst h0;simp at he
                 . have hlt:l<hh:=by
                    rcases zcs l hh with h'|h'
                    .exact h'
                    .simp_all
                   refine⟨ad.add (l*z),by grind,by rw[zmq];exact hS,λi j cs c hi hj=>?_⟩;have:=hc (l+i) j cs c (hget i cs hi) hj;rw[Go.Deep.add_add]
                   grind
       .cases h
     .cases h
   . rename_i sz b z off n hs;split at h
     . rename_i l hh hl1 hh1;split at h
       . rename_i hz;obtain⟨rfl,h1,h2⟩:=hz;injection h with h;subst h
         cases hx with
         |c h=>cases h
         |row0 _ _ hd hk =>
           obtain rfl:hh=0:=by omega
           obtain rfl:l=0:=by omega
           have hb:=zyo (P:=P) (w:=w) (len:=0) (cap:=0) (l:=0) (h:=0) (lo:=lo') (hi:=hi')
            (by rcases zno hl1 hlo with⟨_,a,b⟩|⟨k,a⟩;exact .inl ⟨a,b⟩;exact .inr ⟨k,a⟩)
            (by rcases zno hh1 hhi with⟨_,a,b⟩|⟨k,a⟩;exact .inl ⟨a,by omega⟩;exact .inr ⟨k,a⟩) (by omega) (by omega) (by omega)
           refine⟨.slice none 0 0,?_,.row0 b z hd hk,rfl,rfl,rfl,rfl⟩;simp[Instr.sliceAt,run_underlying hu,Instr.slice,hb,zdY hs]
         |row _ _ _ _ g c off' cap hd hk hnc ho hc =>
           have hb:=zyo (P:=P) (w:=w) (len:=n) (cap:=cap) (l:=l) (h:=hh) (lo:=lo') (hi:=hi')
            (by rcases zno hl1 hlo with⟨_,a,b⟩|⟨k,a⟩;exact .inl ⟨a,b⟩;exact .inr ⟨k,a⟩)
            (by rcases zno hh1 hhi with⟨_,a,b⟩|⟨k,a⟩;exact .inl ⟨a,by omega⟩;exact .inr ⟨k,a⟩) h1 (by omega) hnc
           by_cases hcl:cap=l
           . refine⟨.slice (some ⟨g,off',none⟩) (hh-l) (cap-l),?_,.row b z (off+l) (hh-l) g c off' (cap-l) hd hk (by omega) ?_ ?_,rfl,rfl,rfl,rfl⟩
             .subst hcl;simp[Instr.sliceAt,run_underlying hu,Instr.slice,hb,zdY hs]
             .grind
             omega
           . refine⟨.slice (some ⟨g,off'+l*z,none⟩) (hh-l) (cap-l),?_,.row b z (off+l) (hh-l) g c (off'+l*z) (cap-l) hd hk (by omega) ?_ ?_,rfl,rfl,rfl,rfl⟩
             .simp[Instr.sliceAt,run_underlying hu,Instr.slice,hb,zdY hs,hcl,add_at]
             .grind
             omega
       .cases h
     .cases h
   .cases h
 .cases h
end
end
section
open Go.RowKit
variable[Dr]
def zFr{P:Program}{w w':World}{at_ k:Addr}{u:TypeId}{v:Value}{b:Bool}{l:List Addr}(h:w.viewStore P at_ u k v b=.ok (w',l)):w'.drawn=w.drawn:=by
 unfold World.viewStore at h;simp only[bind,Except.bind,pure,Except.pure]at h
 repeat' split at h
 all_goals(cases h<;>rfl)
def zAs{α:Type}:∀(q:Ask α) (w:World),w.drawn<=(w.ask q).2.drawn
 |.done _,_=>zav _
 |.ask what range k,w=>by
   unfold World.ask;simp only;split
   .exact zAs _ _
   .exact za5 (Nat.le_succ _) (zAs (k _) { w with drawn:=w.drawn+1 })
def sys_drawn(w:World)(c:Sys):w.drawn<=(w.sys c).2.drawn:=by
 have:=zAs (Kernel.perform c w.os) w;unfold World.sys
 grind
def run_drawn{P:Program}{α:Type}(m:Sem α):∀{w:World} {a:α} {w':World},m.run P w=.ok a w'->w.drawn<=w'.drawn:=by
 induction m with
 |pure a=>simp_all
 |load m a k ih =>
   intro w b w' h;simp only[Sem.run]at h
   grind
 |store m a v k ih =>
   intro w b w' h
   have key:(match w.cell? a with
   |some _=>if w.frozen? a then Result.halt (.unsupported (.unsafePointer "a write to bytes that a string shares")) w else k.run P (w.setCell a v)
   |none=>match w.farStore P a v (m==Mode.atomic)with
     |.ok (w,_)=>k.run P w
     |.error h=>.halt h w)=.ok b w'->w.drawn<=w'.drawn:=by
     intro h;split at h
     . split at h
       .cases h
       .have:=ih h;exact this
     . split at h
       . rename_i hf;have:=ih h;unfold World.farStore at hf;split at hf
         . split at hf
           .rename_i hv;injection hf with hf;rw[hf]at hv;rw[<-zFr hv];exact this
           .cases hf
         .cases hf
       .cases h
   cases v<;>simp only[Sem.run]at h<;>first|exact key h|cases h
 |new o k ih=>intro w b w' h;simp only[Sem.run]at h;grind
 |shape r k ih=>intro w b w' h;simp only[Sem.run]at h;exact ih _ h
 |freeze a n k ih =>
   intro w b w' h;simp only[Sem.run]at h;have:=ih h;unfold World.freeze at this
   grind
 |frozen a k ih=>intro w b w' h;simp only[Sem.run]at h;exact ih _ h
 |getObj r k ih =>
   intro w b w' h;simp only[Sem.run]at h
   grind
 |setObj r o k ih =>
   intro w b w' h;simp only[Sem.run]at h
   grind
 |choose q k ih =>
   intro w b w' h;simp only[Sem.run]at h
   grind
 |sys c k ih=>intro w b w' h;simp only[Sem.run]at h;exact za5 (sys_drawn w c) (ih _ h)
 |program k ih=>intro w b w' h;simp only[Sem.run]at h;exact ih _ h
 |mark m k ih=>intro w b w' h;simp only[Sem.run]at h;exact ih h
 |halt h=>simp_all
def ids(l:ah):List Nat:=l.map (·.1)
def D1(D:aD)(r:Res):Nat->Prop:=λb=>(D b/\r.kill≠some b/\b ∉ r.frz)\/b∈ids r.set
structure EffAt(S:aD)(κ:Kap)(D:aD)(w:World)(S':aD)(κ':Kap)(r:Res)(y:Value)(w':World):Prop where
 os:w'.os=w.os
 tape:w'.tape=w.tape
 output:OutD w w'
 size:w.heap.size<=w'.heap.size
 blk:∀g,g<w.heap.size->(∀b c,(b∈ids r.set\/r.kill=some b)->D b->κ b≠some (g,c))->w'.heap[g]?=w.heap[g]?
 sup:∀g,S g->S' g
 snew:∀g,S' g->S g\/w.heap.size<=g\/∃b c,(b∈r.frz\/r.kill=some b\/b∈r.re)/\D b/\κ b=some (g,c)
 slt:∀g,S' g->g<w'.heap.size
 sfrz:∀b∈r.frz,∀g c,κ b=some (g,c)->S' g
 kold:∀b,D b->b ∉ r.re->κ' b=κ b
 kout:∀b,b ∉ ids r.set->κ' b=κ b
 knew:∀b,(D b->b∈r.re)->b∈ids r.set->∀g c,κ' b=some (g,c)->w.heap.size<=g\/∃b0 c0,(r.kill=some b0\/b0∈r.re)/\D b0/\κ b0=some (g,c0)
 one:∀b b',(D b->b∈r.re)->(D b'->b'∈r.re)->b∈ids r.set->b'∈ids r.set->∀g c c',κ' b=some (g,c)->κ' b'=some (g,c')->b=b'
 res:∀b∈r.re,b∈ids r.set
 ents:∀b ent,(b,ent)∈r.set->EntAt S' κ' (D1 D r) w' (κ' b) ent
 val:VRel S' κ' (D1 D r) w' r.val y
section
variable{P:Program}{S:aD}{κ:Kap}{D:aD}{w:World}
def EffAt.still{r:Res}{y:Value}(hS:∀g,S g->g<w.heap.size)(h:VRel S κ D w r.val y)(h1:r.set=[])(h2:r.kill=none)(h3:r.frz=[])(h4:r.re=[]):EffAt S κ D w S κ r y w where
 os:=rfl
 tape:=rfl
 output:=.of
 size:=zav _
 blk:=λ_ _ _=>rfl
 sup:=λ_ h=>h
 snew:=λ_ h=>.inl h
 slt:=hS
 sfrz:=λb hb=>by grind
 kold:=λ_ _ _=>rfl
 kout:=λ_ _=>rfl
 knew:=λb _ hb=>by simp[ids,h1]at hb
 one:=λb b' _ _ hb=>by simp[ids,h1]at hb
 res:=λb hb=>by grind
 ents:=λb ent hb=>by simp[h1]at hb
 val:=h.mono (λ_ h=>h) (λ_ _=>rfl) (λb hb=>.inl ⟨hb,by simp[h2],by simp[h3]⟩) (λ_ _=>rfl)
def zmt(R:AV->Value->Prop)(cs:aN)(A:aV):Prop:=
 A.size=cs.length/\(∀x∈A,x.oneCell'=true)/\∀(j:Nat) (c:AV) (x:Value),cs[j]?=some c->A[j]?=some x->R c x
def EffAt.newBlock{d:Nat}{ent:Ent}{cells:aV}{c:Nat}{r:Res}{y:Value}(hS:∀g,S g->g<w.heap.size)(hd:¬D d)(hset:r.set=[(d,ent)])(hk:r.kill=none)(hf:r.frz=[])(hcl:ent.cell)
  (hz:∀cs∈ent.es,cs.length=ent.z) (hsz:cells.size=c*ent.z) (hc:ent.es.length<=c) (hm:c<=ent.cap)
  (hcell:∀(i j:Nat) (cs:aN) (a:AV),ent.es[i]?=some cs->cs[j]?=some a->∃u,cells[i*ent.z+j]?=some u/\u.oneCell'=true/\(ent.box=true->VRel S κ D w a u)/\(ent.box=false->CRel S w a u))
  (hv:∀(S':aD) (κ':Kap) (D':aD) (w':World),D' d->κ' d=some (w.heap.size,c)->VRel S' κ' D' w' r.val y) (hre:r.re=[]:=by rfl):EffAt S κ D w S (λb=>if b=d then some (w.heap.size,c)else κ b) r y (w.alloc (.cells cells ent.e)):=by
 have hold:∀g,g<w.heap.size->(w.alloc (.cells cells ent.e)).heap[g]?=w.heap[g]?:=λg hg=>Below.heap_alloc w _ g hg
 have hDD:∀b,D b->D1 D r b:=λb hb=>.inl ⟨hb,by simp[hk],by simp[hf]⟩
 have hkk:∀b,D b->(if b=d then some (w.heap.size,c)else κ b)=κ b:=λb hb=>if_neg (λe=>hd (by subst e;exact hb))
 exact{
  os:=rfl
  tape:=rfl
  output:=.of
  size:=by simp
  blk:=λg hg _=>hold g hg
  sup:=λ_ h=>h
  snew:=λ_ h=>.inl h
  slt:=λg hg=>by grind
  sfrz:=λb hb=>by grind
  kold:=λb hb _=>hkk b hb
  kout:=λb hb=>if_neg (λe=>hb (by simp[ids,hset,e]))
  knew:=λb _ hb g c' h=>by
   simp[ids,hset]at hb
   simp_all
  one:=λb b' _ _ h1 h2 _ _ _ _ _=>by simp[ids,hset]at h1 h2;rw[h1,h2]
  res:=λb hb=>by grind
  ents:=λb e hb=>by simp[hset]at hb;obtain⟨rfl,rfl⟩:=hb;refine EntAt.of hcl ⟨hz,?_⟩;simp only[if_true];refine⟨cells,heap_alloc_new w _,hsz,hc,hm,λh=>by have:=hS _ h;omega,λi j cs a hi hj=>?_⟩;obtain⟨u,h1,h2,h3,h4⟩:=hcell i j cs a hi hj;exact⟨u,h1,h2,λhb=>(h3 hb).mono (λ_ h=>h) (λg hg=>hold g (hS g hg)) hDD hkk,λhb=>(h4 hb).mono (λ_ h=>h) (λg hg=>hold g (hS g hg))⟩
  val:=hv _ _ _ _ (.inr (by simp[ids,hset])) (by simp) }
def ziH{t:TypeId}{zero:aN}(h:zeroB P t=some zero):∃(i:TypeInfo) (z:Value),P.info? t=some i/\i.zero=some z/\zero=z.cells.toList.map .v:=by
 unfold zeroB at h
 cases hi:P.info? t with
 |none=>simp[hi]at h
 |some i=>grind
def zh5{t:TypeId}{i:TypeInfo}{z:Value}(hi:P.info? t=some i)(hz:i.zero=some z):(zeroValue t).run P w=.ok z w:=by simp[zeroValue,typeInfo,hi,hz]
def zmY{z:Value}(h:allL AV.one (z.cells.toList.map .v)=true):zmt (CRel S w) (z.cells.toList.map .v) z.cells:=by
 refine⟨by simp,λx hx=>?_,λj c x hc hx=>?_⟩
 .exact zfO h (.v x) (by simpa using hx)
 .simp at hc;obtain⟨q,hq,rfl⟩:=hc;rw[hq]at hx;injection hx with hx;subst hx;exact .v _
def zFj{cs new:aN}{o k:Nat}(h:o+new.length<=cs.length):(splice cs o new)[k]?=if k<o then cs[k]? else if k<o+new.length then new[k-o]? else cs[k]?:=by
 unfold splice
 grind
def zqe{cs new:aN}{o:Nat}(h:o+new.length<=cs.length):(splice cs o new).length=cs.length:=by unfold splice;simp;omega
def setAllA{off:Nat}:∀(l:af) (s:Nat) (A:aV),off+s+l.length<=A.size->let B:=(l.zipIdx s).foldl (λcs (p:Value×Nat)=>cs.setIfInBounds (off+p.2) p.1) A
  B.size=A.size/\∀k,B[k]?=if off+s<=k/\k<off+s+l.length then l[k-(off+s)]? else A[k]?
 |[],s,A,_=>by simp;omega
 |x::l,s,A,h=>by
   simp only[List.zipIdx_cons,zdL];obtain⟨h1,h2⟩:=setAllA (off:=off) l (s+1) (A.setIfInBounds (off+s) x) (by simp at h ⊢;omega)
   grind
def zuJ{place:Nat->Option (Nat×Nat)}{R:AV->Value->Prop}:∀(ps:List (Nat×AV)) (vs:List (Nat×Value)) (cs cs':aN) (A:aV),fillL place ps cs=some cs'->zmt R cs A->vs.length=ps.length->(∀(k:Nat) (p:Nat×AV) (q:Nat×Value),ps[k]?=some p->vs[k]?=some q->p.1=q.1/\(allL AV.one p.2.cells=true->zmt R p.2.cells q.2.cells))->∃A',Instr.fill place A vs=some A'/\zmt R cs' A'
 |[],[],cs,cs',A,h,hA,_,_=>by simp[fillL]at h;subst h;exact⟨A,rfl,hA⟩
 |[],_::_,_,_,_,_,_,hl,_=>by simp at hl
 |_::_,[],_,_,_,_,_,hl,_=>by simp at hl
 |(i,a)::ps,(i',x)::vs,cs,cs',A,h,hA,hl,hp=>by
   obtain⟨e,hx⟩:=hp 0 (i,a) (i',x) rfl rfl;simp at e;subst e;simp only[fillL]at h;split at h
   . rename_i off sz hpl;split at h
     . rename_i hc;obtain⟨h1,h2,h3⟩:=hc;obtain⟨hxs,hx1,hxr⟩:=hx h3;simp only at hxs hx1 hxr;have hlen:off+x.cells.size<=A.size:=by rw[hA.1,hxs];omega
       have key:=setAllA (off:=off) x.cells.toList 0 A (by simpa using hlen);simp only[zfe]at key;obtain⟨k1,k2⟩:=key
       have hfill:Instr.fill place A ((i,x)::vs)=Instr.fill place ((x.cells.toList.zipIdx 0).foldl (λcs (p:Value×Nat)=>cs.setIfInBounds (off+p.2) p.1) A) vs:=by
        have hcond:(decide (x.cells.size≠sz)||decide (off+x.cells.size > A.size))=false:=by simp;omega
        simp only[Instr.fill,hpl];rw[if_neg (by simpa using hcond)];congr 1;rw[<-Array.foldl_toList];simp[Array.toList_zipIdx]
       rw[hfill];refine zuJ ps vs _ cs' _ h ⟨?_,?_,?_⟩ (by simpa using hl) (λk p q hk hq=>hp (k+1) p q (by simpa using hk) (by simpa using hq))
       .rw[k1,hA.1,zqe (by omega)]
       . intro y hy;obtain⟨k,hk⟩:=zgj.1 hy;rw[k2]at hk;split at hk
         .grind
         .exact hA.2.1 y (by grind)
       . intro j c y hj hy;rw[zFj (by omega)]at hj;rw[k2]at hy;have hxl:x.cells.toList.length=a.cells.length:=by simpa using hxs
         by_cases h4:j<off
         .rw[if_pos h4]at hj;rw[if_neg (by omega)]at hy;exact hA.2.2 j c y hj hy
         . rw[if_neg h4]at hj;by_cases h5:j<off+a.cells.length
           .grind
           .rw[if_neg h5]at hj;rw[if_neg (by omega)]at hy;exact hA.2.2 j c y hj hy
     .cases h
   .cases h
def fill_len{place:Nat->Option (Nat×Nat)}:∀{ps:List (Nat×AV)} {cs cs':aN},fillL place ps cs=some cs'->cs'.length=cs.length
 |[],cs,cs',h=>by simp[fillL]at h;rw[h]
 |(i,a)::ps,cs,cs',h=>by
   simp only[fillL]at h;split at h
   . split at h
     .rename_i hc;rw[fill_len h,zqe (by omega)]
     .cases h
   .cases h
def mapM_run{α β:Type}(f:α->Sem β)(g:α->β):∀(l:List α) ,(∀a∈l,∀w,(f a).run P w=.ok (g a) w)->(l.mapM f).run P w=.ok (l.map g) w
 |[],_=>by simp
 |a::l,h=>by simp only[List.mapM_cons,Sem.run_bind,h a (by simp),Result.andThen_ok,mapM_run f g l (λb hb=>h b (by simp[hb]))];simp
def zAr:∀{l:List Field},allSz P l=true->∀f∈l,(szB P f.type).isSome=true
 |[],_,f,h=>by cases h
 |b::l,h,f,hm=>by
   simp only[allSz,zaU]at h
   cases zat.1 hm with
   |inl e=>subst e;exact h.1
   |inr e=>exact zAr h.2 f e
def places_run{fs:Array Field}(h:allSz P fs.toList=true):(fs.mapM λ(f:Field)=>(do pure (f.offset,<-sizeOf f.type):Sem (Nat×Nat))).run P w=.ok (fs.map λ(f:Field)=>(f.offset,(szB P f.type).getD 0)) w:=by
 have hl:=mapM_run (P:=P) (w:=w) (λf:Field=>(do pure (f.offset,<-sizeOf f.type):Sem (Nat×Nat))) (λf=>(f.offset,(szB P f.type).getD 0)) fs.toList (λf hf w'=>by
  have hs:=zAr h f hf
  cases hq:szB P f.type with
  |none=>simp[hq]at hs
  |some n=>simp[zdY hq])
 obtain⟨l⟩:=fs
 simp_all
def places_eq{fs:Array Field}(h:allSz P fs.toList=true):(λi=>(fs.map λ(f:Field)=>(f.offset,(szB P f.type).getD 0))[i]?)=places P fs:=by
 funext i;simp only[places,Array.getElem?_map]
 cases hf:fs[i]? with
 |none=>rfl
 |some f =>
   have hs:=zAr h f (by grind)
   grind
def zmt.mono{R R':AV->Value->Prop}{cs:aN}{A:aV}(h:zmt R cs A)(hr:∀a x,R a x->R' a x):zmt R' cs A:=
 ⟨h.1,h.2.1,λj c x a b=>hr _ _ (h.2.2 j c x a b)⟩
def ziv(ρ:ak)(ps:Array (Nat×Operand)):Array (Nat×Value):=ps.map λ(i,x)=>(i,ρ x)
def zA5{E:aa}{ρ:ak}{ps:Array (Nat×Operand)}(h:∀p∈ps,VRel S κ D w (E p.2) (ρ p.2)):∀(k:Nat) (p:Nat×AV) (q:Nat×Value),(ps.toList.map λp=>(p.1,E p.2))[k]?=some p->(ziv ρ ps).toList[k]?=some q->p.1=q.1/\(allL AV.one p.2.cells=true->zmt (VRel S κ D w) p.2.cells q.2.cells):=by intro k p q hp hq;simp[ziv]at hp hq;obtain⟨i,x,hx,rfl⟩:=hp;obtain⟨i',x',hx',rfl⟩:=hq;rw[hx]at hx';injection hx' with hx';injection hx' with e1 e2;subst e1;subst e2;exact⟨rfl,λh1=>zw9 h1 (h (i,x) (zfb hx))⟩
def zJe{t:TypeId}{E:aa}{ρ:ak}{ps:Array (Nat×Operand)}{r:Res}(h:aBuild P t (ps.toList.map λp=>(p.1,E p.2))=some r)
  (hp:∀p∈ps,VRel S κ D w (E p.2) (ρ p.2)):∃y,(Instr.build t (ziv ρ ps)).run P w=.ok y w/\VRel S κ D w r.val y/\r.set=[]/\r.kill=none/\r.frz=[]/\r.re=[]:=by
 unfold aBuild at h;split at h
 . rename_i zero fs hz hu;split at h
   . rename_i hall;obtain⟨hall,hz1⟩:=hall;split at h
     .rename_i cs hf;injection h with h;subst h;obtain⟨i,z,hi,hzz,rfl⟩:=ziH hz;obtain⟨A',h1,h2⟩:=zuJ (R:=VRel S κ D w) _ (ziv ρ ps).toList _ cs z.cells hf ((zmY hz1).mono λ_ _ h=>.c h) (by simp[ziv]) (zA5 hp);refine⟨.agg A',?_,.agg cs A' h2.1 h2.2.1 h2.2.2,rfl,rfl,rfl,rfl⟩;simp only[Instr.build,Sem.run_bind,zh5 hi hzz,Result.andThen_ok,run_underlying hu,places_run hall,places_eq hall,h1,Sem.run_pure]
     .cases h
   .cases h
 . rename_i zero n e hz hu;split at h
   case isFalse=>cases h
   rename_i hz1;split at h
   . rename_i sz hs;split at h
     .rename_i cs hf;injection h with h;subst h;obtain⟨i,z,hi,hzz,rfl⟩:=ziH hz;obtain⟨A',h1,h2⟩:=zuJ (R:=VRel S κ D w) _ (ziv ρ ps).toList _ cs z.cells hf ((zmY hz1).mono λ_ _ h=>.c h) (by simp[ziv]) (zA5 hp);refine⟨.agg A',?_,.agg cs A' h2.1 h2.2.1 h2.2.2,rfl,rfl,rfl,rfl⟩;simp only[Instr.build,Sem.run_bind,zh5 hi hzz,Result.andThen_ok,run_underlying hu,zdY hs,h1,Sem.run_pure]
     .cases h
   .cases h
 .cases h
def zyM{zero:aN}:∀(n k:Nat),k<n*zero.length->(repL zero n)[k]?=zero[k % zero.length]?
 |0,k,h=>by simp at h
 |n+1,k,h=>by
   simp only[repL];rw[zce];split
   .rename_i hk;rw[zc6 hk]
   .rename_i hk;rw[zyM n (k-zero.length) (by grind)];congr 1;rw[Nat.mod_eq_sub_mod (a:=k) (by omega)]
def zxl{zero:aN}:∀n,(repL zero n).length=n*zero.length
 |0=>by simp[repL]
 |n+1=>by simp[repL,zxl n,zdz];omega
def zqK{z:Nat}:∀(n:Nat) (cs:aN) (i:Nat),i<n->(chunk z n cs)[i]?=some ((cs.drop (i*z)).take z)
 |0,_,_,h=>by omega
 |n+1,cs,0,_=>by simp[chunk]
 |n+1,cs,i+1,h=>by
   simp only[chunk,zdD];rw[zqK n (cs.drop z) i (by omega),List.drop_drop]
   grind
def zj4{z:Nat}:∀(n:Nat) (cs:aN),(chunk z n cs).length=n
 |0,_=>rfl
 |n+1,cs=>by simp[chunk,zj4 n]
def zDP{z:Value}{n sz:Nat}(hz:z.cells.size=sz)(hpos:0<sz)(h1:allL AV.one (z.cells.toList.map .v)=true):zmt (CRel S w) (repL (z.cells.toList.map .v) n) (madeCells z.cells (n*sz)):=by
 obtain⟨_,c1,c2⟩:=zmY (S:=S) (w:=w) h1
 have hget:∀j,j<n*sz->(madeCells z.cells (n*sz))[j]?=z.cells[j % sz]?:=by
  intro j hj;have:j % sz<z.cells.size:=by rw[hz];exact zej _ hpos
  rw[zaN this];simp[madeCells,hj,hz];exact getElem!_pos z.cells (j % sz) this
 refine⟨by rw[size_madeCells,zxl];simp[hz],λx hx=>?_,λj c x hc hx=>?_⟩
 . obtain⟨k,hk⟩:=zgj.1 hx
   have hlt:k<n*sz:=by
    have:=(zdd.1 hk).1
    rwa[size_madeCells]at this
   grind
 . have hlt:j<n*sz:=by
    have:=(zdd.1 hx).1
    rwa[size_madeCells]at this
   rw[hget j hlt]at hx;rw[zyM n j (by simpa[hz]using hlt)]at hc
   grind
def zwd{t e:TypeId}{len sz:Nat}{z:Value}{i:TypeInfo}{cs:aN}{E:aa}{ρ:ak}{ps:Array (Nat×Operand)}
  (hu:P.underlying t=some (.slice e)) (hs:szB P e=some sz) (hi:P.info? e=some i) (hzz:i.zero=some z) (hpos:0<sz) (hzs:z.cells.size=sz) (hlen:len*sz<=65536)
  (hz1:allL AV.one (z.cells.toList.map .v)=true) (hf:fillL (λi=>some (i*sz,sz)) (ps.toList.map λp=>(p.1,E p.2)) (repL (z.cells.toList.map .v) len)=some cs) (hC:allL (AV.isC 4) cs=true)
  (hp:∀p∈ps,VRel S κ D w (E p.2) (ρ p.2)):∃A':Array Value,(Instr.buildSlice t len (ziv ρ ps)).run P w=.ok (.slice (some ⟨w.heap.size,0,none⟩) len len) (w.alloc (.cells A' e))/\A'.size=len*sz/\(∀c∈chunk sz len cs,c.length=sz)/\∀(i j:Nat) (c:aN) (a:AV),(chunk sz len cs)[i]?=some c->c[j]?=some a->∃u,A'[i*sz+j]?=some u/\u.oneCell'=true/\CRel S w a u:=by
 have hmade:=zDP (S:=S) (w:=w) (n:=len) hzs hpos hz1;obtain⟨A',h1,h2⟩:=zuJ (R:=VRel S κ D w) _ (ziv ρ ps).toList _ cs (madeCells z.cells (len*sz)) hf (hmade.mono λ_ _ h=>.c h) (by simp[ziv]) (zA5 hp)
 have hcl:cs.length=len*sz:=by
  have:=(fill_len hf)
  rw[this,zxl];simp[hzs]
 refine⟨A',?_,by rw[h2.1,hcl],?_,?_⟩
 . have hn:¬(len*sz > 2 ^ 24):=by omega
   by_cases h0:len*sz=0
   . have hm0:madeCells z.cells (len*sz)=#[]:=by rw[h0];simp[madeCells]
     have hr0:∀f:Nat->Value,(Array.range 0).map f=#[]:=λf=>by grind
     rw[hm0]at h1;simp only[Instr.buildSlice,Sem.run_bind,run_underlying hu,Result.andThen_ok,zdY hs,h0,if_true,newRow];simp[hr0,h1]
   .have:(Array.range (len*sz)).map (z.cells[· % z.cells.size]!)=madeCells z.cells (len*sz):=rfl;simp only[Instr.buildSlice,Sem.run_bind,run_underlying hu,Result.andThen_ok,zdY hs,hn,if_false,h0,Sem.run_pure,zh5 hi hzz,newRow,run_newObj,this,h1];rfl
 . intro c hc;obtain⟨k,hk⟩:=zdm.1 hc
   have hklt:k<len:=by
    have:=(zal.1 hk).1
    rwa[zj4]at this
   rw[zqK len cs k hklt]at hk;injection hk with hk;subst hk
   have:k*sz+sz<=len*sz:=by rw[<-zg7];exact zbB _ hklt
   simp;omega
 . intro i j c a hi' hj
   have hklt:i<len:=by have:=(zal.1 hi').1;simpa[zj4]using this
   rw[zqK len cs i hklt]at hi';injection hi' with hi';subst hi';rw[zcw]at hj;split at hj
   case isFalse=>cases hj
   rw[zb6]at hj;have hjl:i*sz+j<A'.size:=by rw[h2.1];exact(zal.1 hj).1
   refine⟨A'[i*sz+j],zaN hjl,h2.2.1 _ (zfA hjl),?_⟩;exact zkX 4 (zfO hC a (zau hj)) (h2.2.2 _ a _ hj (zaN hjl))
def zBK{t:TypeId}{d len:Nat}{E:aa}{ρ:ak}{ps:Array (Nat×Operand)}{r:Res}(hS:∀g,S g->g<w.heap.size)(hd:¬D d)
  (h:zpv P d t len (ps.toList.map λp=>(p.1,E p.2))=some r) (hp:∀p∈ps,VRel S κ D w (E p.2) (ρ p.2)):∃y w' κ',(Instr.buildSlice t len (ziv ρ ps)).run P w=.ok y w'/\EffAt S κ D w S κ' r y w':=by
 unfold zpv at h;split at h
 case h_2=>cases h
 rename_i e hu;split at h
 case h_2=>cases h
 rename_i sz zero hs hz;split at h
 case isFalse=>cases h
 rename_i hc;obtain⟨hpos,hzl,hlen,hz1⟩:=hc;split at h
 case h_2=>cases h
 rename_i cs hf;split at h
 case isFalse=>cases h
 rename_i hC;injection h with h;subst h;obtain⟨i,z,hi,hzz,rfl⟩:=ziH hz;obtain⟨A',hrun,hsz',hcz,hcell⟩:=zwd hu hs hi hzz hpos (by simpa using hzl) hlen hz1 hf hC hp;refine⟨_,_,_,hrun,EffAt.newBlock (d:=d) (ent:={ z:=sz,e:=e,es:=chunk sz len cs,box:=false }) (c:=len) hS hd rfl rfl rfl (.inr (by show 0<sz;omega)) hcz hsz' (by simp[zj4]) ?_ ?_ ?_⟩
 .have:len<=len*sz:=zeK _ hpos;show _<=maxLen;unfold maxLen;omega
 .simp_all
 .intro S' κ' D' w' hD hk;exact .row d sz 0 len w.heap.size len 0 len hD hk (zav _) (.inl (by simp)) (λ_=>rfl)
def aLit_sound{t:TypeId}{len:Nat}{E:aa}{ρ:ak}{ps:Array (Nat×Operand)}{r:Res}(hS:∀g,S g->g<w.heap.size)
  (h:aLit P t len (ps.toList.map λp=>(p.1,E p.2))=some r) (hp:∀p∈ps,VRel S κ D w (E p.2) (ρ p.2)):∃y w' S',(Instr.buildSlice t len (ziv ρ ps)).run P w=.ok y w'/\EffAt S κ D w S' κ r y w':=by
 unfold aLit at h;split at h
 case h_2=>cases h
 rename_i e hu;split at h
 case h_2=>cases h
 rename_i sz zero hs hz;split at h
 case isFalse=>cases h
 rename_i hc;obtain⟨hpos,hzl,hlen,hz1⟩:=hc;split at h
 case h_2=>cases h
 rename_i cs hf;split at h
 case isFalse=>cases h
 rename_i hC;injection h with h;subst h;obtain⟨i,z,hi,hzz,rfl⟩:=ziH hz;obtain⟨A',hrun,hsz',hcz,hcell⟩:=zwd hu hs hi hzz hpos (by simpa using hzl) hlen hz1 hf hC hp;have hold:∀g,g<w.heap.size->(w.alloc (.cells A' e)).heap[g]?=w.heap[g]?:=λg hg=>Below.heap_alloc w _ g hg
 refine⟨_,_,λg=>S g\/g=w.heap.size,hrun,{
  os:=rfl
  tape:=rfl
  output:=.of
  size:=by simp
  blk:=λg hg _=>hold g hg
  sup:=λ_ h=>.inl h
  snew:=λg h=>h.imp id (λe=>.inl (by omega))
  slt:=λg hg=>by
   rcases hg with h|h
   .grind
   .simp;omega
  sfrz:=λb hb=>by cases hb
  kold:=λ_ _ _=>rfl
  kout:=λ_ _=>rfl
  knew:=λb _ hb=>by simp[ids]at hb
  one:=λb b' _ _ hb=>by simp[ids]at hb
  res:=λb hb=>by cases hb
  ents:=λb ent hb=>by simp at hb
  val:=.c (.sl sz _ (some ⟨w.heap.size,0,none⟩) len len (λi j=>(A'[i*sz+j]?).getD undef) (by rw[zj4]) (zav _) hcz (.inr ⟨_,rfl,.inr rfl,λi j c a hi' hj=>?_⟩) (λi j c a hi' hj=>?_)) }⟩
 .obtain⟨u,u1,u2,u3⟩:=hcell i j c a hi' hj;rw[add_at,cell_of_row _ _ _ A' e (0,0) (heap_alloc_new w _),zaI,u1];exact⟨rfl,u2⟩
 .obtain⟨u,u1,u2,u3⟩:=hcell i j c a hi' hj;rw[u1];exact u3.mono (λ_ h=>.inl h) (λg hg=>hold g (hS g hg))
def zKO{t:TypeId}{d:Nat}{l c:AV}{x y:Value}{r:Res}(hS:∀g,S g->g<w.heap.size)(hd:¬D d)(h:aMake P d t l c=some r)(hx:VRel S κ D w l x)(hy:VRel S κ D w c y):∃q w' κ',(Instr.makeSlice t x y).run P w=.ok q w'/\EffAt S κ D w S κ' r q w':=by
 unfold aMake at h;split at h
 case h_2=>cases h
 rename_i kl n kc n';rw[hx.v_inv,hy.v_inv];split at h
 case h_2=>cases h
 rename_i e hu;split at h
 case h_2=>cases h
 rename_i sz zero i hs hz hi;split at h
 case isFalse=>cases h
 rename_i hc;obtain⟨rfl,hn,hpos,hzl,hz1,hby⟩:=hc;injection h with h;subst h;obtain⟨i',z,hi',hzz,rfl⟩:=ziH hz;rw[hi]at hi';injection hi' with hi';subst hi';have hzs:z.cells.size=sz:=by simpa using hzl
 have hsz:i.size=sz:=by simpa[szB,hi]using hs
 have hby':(i.bytes:Int)*n<=281474976710656:=by have h1:n.toNat*i.bytes<=1099511627776:=za5 (zeE _ (by omega)) hby;have h2:((n.toNat*i.bytes:Nat):Int)<=((1099511627776:Nat):Int):=Int.ofNat_le.2 h1;rw[Int.natCast_mul,zho hn,Int.mul_comm]at h2;omega
 have hnb:n.toNat<=1099511627776:=za5 (zeK _ (by omega)) hby;have hrun:=run_make (P:=P) w t e i z hu hi hzz kl kc n n hn (zgk _) hby' (by omega);rw[hsz]at hrun;have hmade:=zDP (S:=S) (w:=w) (n:=n.toNat) hzs hpos hz1;refine⟨_,_,_,hrun,EffAt.newBlock (d:=d) (ent:={ z:=sz,e:=e,es:=List.replicate n.toNat (nrmL P (zjS P 8 e) (z.cells.toList.map .v)),box:=false }) (c:=n.toNat) hS hd rfl rfl rfl (.inr (by show 0<sz;omega)) ?_ ?_ ?_ ?_ ?_ ?_⟩
 .intro cs hcs;rw[zeV hcs];simpa[zlD]using hzs
 .simp[size_madeCells]
 .simp
 .show _<=maxLen;unfold maxLen;omega
 . intro k j cs a hk hj;rw[zgt]at hk;split at hk
   case isFalse=>cases hk
   rename_i hkl;injection hk with hk;subst hk;obtain⟨a0,hj0,hac⟩:=zsD P _ _ j a hj
   have hnew:∀(x:Value),CRel S w a0 x->CRel S w a x:=by
    intro x hx;rcases hac with rfl|⟨t',rfl⟩
    .exact hx
    .exact ztd hx
   have hjs:j<sz:=by have:=(zal.1 hj0).1;simpa[hzs]using this
   have hlt:k*sz+j<n.toNat*sz:=by have:(k+1)*sz<=n.toNat*sz:=zbB _ hkl;rw[zg7]at this;omega
   have hrep:(repL (z.cells.toList.map AV.v) n.toNat)[k*sz+j]?=some a0:=by
    rw[zyM _ _ (by simpa[hzs]using hlt)]
    have:(k*sz+j) % (z.cells.toList.map AV.v).length=j:=by simp only[zab,zcX,hzs];rw[zef,Nat.mul_add_mod,zc6 hjs]
    rw[this];exact hj0
   have hA:k*sz+j<(madeCells z.cells (n.toNat*sz)).size:=by rw[size_madeCells];exact hlt
   exact⟨_,zaN hA,hmade.2.1 _ (zfA hA),(λhb=>by cases hb),λ_=>hnew _ (hmade.2.2 _ a0 _ hrep (zaN hA))⟩
 .intro S' κ' D' w' hD hk;rw[zb9];exact .row d sz 0 n.toNat w.heap.size n.toNat 0 n.toNat hD hk (zav _) (.inl (by simp)) (λ_=>rfl)
def zJi{t:TypeId}{l c:AV}{x y:Value}{r:Res}(hS:∀g,S g->g<w.heap.size)(h:aMakeL P t l c=some r)(hx:VRel S κ D w l x)(hy:VRel S κ D w c y):∃q w' S',(Instr.makeSlice t x y).run P w=.ok q w'/\EffAt S κ D w S' κ r q w':=by
 unfold aMakeL at h;split at h
 case h_2=>cases h
 rename_i kl n kc n';rw[hx.v_inv,hy.v_inv];split at h
 case h_2=>cases h
 rename_i e hu;split at h
 case h_2=>cases h
 rename_i sz zero i hs hz hi;split at h
 case isFalse=>cases h
 rename_i hc;obtain⟨rfl,hn,hpos,hzl,hz1,hby⟩:=hc;injection h with h;subst h;obtain⟨i',z,hi',hzz,rfl⟩:=ziH hz;rw[hi]at hi';injection hi' with hi';subst hi';have hzs:z.cells.size=sz:=by simpa using hzl
 have hsz:i.size=sz:=by simpa[szB,hi]using hs
 have hby':(i.bytes:Int)*n<=281474976710656:=by have h1:n.toNat*i.bytes<=1099511627776:=za5 (zeE _ (by omega)) hby;have h2:((n.toNat*i.bytes:Nat):Int)<=((1099511627776:Nat):Int):=Int.ofNat_le.2 h1;rw[Int.natCast_mul,zho hn,Int.mul_comm]at h2;omega
 have hnb:n.toNat<=1099511627776:=za5 (zeK _ (by omega)) hby;have hrun:=run_make (P:=P) w t e i z hu hi hzz kl kc n n hn (zgk _) hby' (by omega);rw[hsz]at hrun;have hmade:=zDP (S:=S) (w:=w) (n:=n.toNat) hzs hpos hz1
 have hcell:∀(k j:Nat) (cs:aN) (a:AV),(List.replicate n.toNat (nrmL P (zjS P 8 e) (z.cells.toList.map .v)))[k]?=some cs->cs[j]?=some a->∃u,(madeCells z.cells (n.toNat*sz))[k*sz+j]?=some u/\u.oneCell'=true/\CRel S w a u:=by
  intro k j cs a hk hj;rw[zgt]at hk;split at hk
  case isFalse=>cases hk
  rename_i hkl;injection hk with hk;subst hk;obtain⟨a0,hj0,hac⟩:=zsD P _ _ j a hj
  have hnew:∀(x:Value),CRel S w a0 x->CRel S w a x:=by
   intro x hx;rcases hac with rfl|⟨t',rfl⟩
   .exact hx
   .exact ztd hx
  have hjs:j<sz:=by have:=(zal.1 hj0).1;simpa[hzs]using this
  have hlt:k*sz+j<n.toNat*sz:=by have:(k+1)*sz<=n.toNat*sz:=zbB _ hkl;rw[zg7]at this;omega
  have hrep:(repL (z.cells.toList.map AV.v) n.toNat)[k*sz+j]?=some a0:=by
   rw[zyM _ _ (by simpa[hzs]using hlt)]
   have:(k*sz+j) % (z.cells.toList.map AV.v).length=j:=by simp only[zab,zcX,hzs];rw[zef,Nat.mul_add_mod,zc6 hjs]
   rw[this];exact hj0
  have hA:k*sz+j<(madeCells z.cells (n.toNat*sz)).size:=by rw[size_madeCells];exact hlt
  exact⟨_,zaN hA,hmade.2.1 _ (zfA hA),hnew _ (hmade.2.2 _ a0 _ hrep (zaN hA))⟩
 have hold:∀g,g<w.heap.size->(w.alloc (.cells (madeCells z.cells (n.toNat*sz)) e)).heap[g]?=w.heap[g]?:=λg hg=>Below.heap_alloc w _ g hg
 refine⟨_,_,λg=>S g\/g=w.heap.size,hrun,{
  os:=rfl
  tape:=rfl
  output:=.of
  size:=by simp
  blk:=λg hg _=>hold g hg
  sup:=λ_ h=>.inl h
  snew:=λg h=>h.imp id (λe=>.inl (by omega))
  slt:=λg hg=>by
   rcases hg with h|h
   .grind
   .simp;omega
  sfrz:=λb hb=>by cases hb
  kold:=λ_ _ _=>rfl
  kout:=λ_ _=>rfl
  knew:=λb _ hb=>by simp[ids]at hb
  one:=λb b' _ _ hb=>by simp[ids]at hb
  res:=λb hb=>by cases hb
  ents:=λb ent hb=>by simp at hb
  val:=.c (.sl sz _ (some ⟨w.heap.size,0,none⟩) n.toNat n.toNat (λi j=>((madeCells z.cells (n.toNat*sz))[i*sz+j]?).getD undef) (by simp) (zav _) (λcs hcs=>by rw[zeV hcs];simpa[zlD]using hzs) (.inr ⟨_,rfl,.inr rfl,λi j c a hi' hj=>?_⟩) (λi j c a hi' hj=>?_)) }⟩
 .obtain⟨u,u1,u2,u3⟩:=hcell i j c a hi' hj;rw[add_at,cell_of_row _ _ _ (madeCells z.cells (n.toNat*sz)) e (0,0) (heap_alloc_new w _),zaI,u1];exact⟨rfl,u2⟩
 .obtain⟨u,u1,u2,u3⟩:=hcell i j c a hi' hj;rw[u1];exact u3.mono (λ_ h=>.inl h) (λg hg=>hold g (hS g hg))
def aArr_frz{P:Program}{d:Nat}{t:TypeId}{zero:aN}{r:Res}(h:aArr P d t zero=some r):r.frz=[]:=by
 unfold aArr at h
 grind
def arr_sound{t:TypeId}{d:Nat}{z:Value}{r:Res}(hS:∀g,S g->g<w.heap.size)(hd:¬D d)(h1:allL AV.one (z.cells.toList.map .v)=true)
  (hr:aArr P d t (z.cells.toList.map .v)=some r):∃q w' κ',(Instr.box t z).run P w=.ok q w'/\EffAt S κ D w S κ' r q w':=by
 unfold aArr at hr;split at hr
 case h_2=>cases hr
 rename_i len e hu;split at hr
 case h_2=>cases hr
 rename_i sz hs;split at hr
 case isFalse=>cases hr
 rename_i hc;obtain⟨h0,hlen,hmax⟩:=hc;injection hr with hr;subst hr;obtain⟨c1,c2,c3⟩:=zmY (S:=S) (w:=w) h1
 have hel:∀(i:Nat) (cs:aN),(chunk sz len (z.cells.toList.map .v))[i]?=some cs->i<len/\cs=((z.cells.toList.map AV.v).drop (i*sz)).take sz:=by
  intro i cs hi
  have hlt:i<len:=by
   have:=(zal.1 hi).1
   rwa[zj4]at this
  rw[zqK len _ i hlt]at hi;injection hi with hi;exact⟨hlt,hi.symm⟩
 refine⟨.pointer (some ⟨w.heap.size,0,none⟩),w.alloc (.cells z.cells t),_,?_,EffAt.newBlock (d:=d) (ent:={ z:=sz,e:=t,es:=chunk sz len (z.cells.toList.map .v),box:=false }) (c:=len) hS hd rfl rfl rfl (.inr (by show 0<sz;omega)) ?_ ?_ ?_ ?_ ?_ ?_⟩
 .simp[Instr.box,newVar,newRow]
 . intro cs hcs;obtain⟨i,hi⟩:=zdm.1 hcs;obtain⟨hlt,rfl⟩:=hel i cs hi;rw[zcH,zdk,hlen];have h2:(i+1)*sz<=len*sz:=zbB _ hlt
   grind
 .rw[c1,hlen]
 .simp[zj4]
 .show _<=maxLen;unfold maxLen;omega
 .grind
 .intro S' κ' D' w' hD hk;have:=VRel.loc (S:=S') (w:=w') d sz 0 0 w.heap.size len hD hk;simpa using this
def zGi{t:TypeId}{d:Nat}{a:AV}{x:Value}{r:Res}(hS:∀g,S g->g<w.heap.size)(hd:¬D d)(h1:allL AV.one a.cells=true)
  (hr:r={ val:=.loc d a.cells.length 0 0,set:=[(d,{ z:=a.cells.length,e:=t,es:=[a.cells],box:=true })] }) (hx:VRel S κ D w a x):∃q w' κ',(Instr.box t x).run P w=.ok q w'/\EffAt S κ D w S κ' r q w':=by
 subst hr;obtain⟨c1,c2,c3⟩:=zw9 h1 hx;refine⟨.pointer (some ⟨w.heap.size,0,none⟩),w.alloc (.cells x.cells t),_,?_,EffAt.newBlock (d:=d) (ent:={ z:=a.cells.length,e:=t,es:=[a.cells],box:=true }) (c:=1) hS hd rfl rfl rfl (.inl rfl) ?_ ?_ ?_ ?_ ?_ ?_⟩
 .simp[Instr.box,newVar,newRow]
 .intro cs hcs;simp at hcs;rw[hcs]
 .simp[c1]
 .simp
 .unfold Ent.cap maxLen;simp
 . intro i j cs av hi hj
   cases i with
   |succ i=>simp at hi
   |zero =>
     simp at hi;subst hi;have hlt:j<x.cells.size:=by rw[c1];exact(zal.1 hj).1
     exact⟨x.cells[j],by simp[hlt],c2 _ (zfA hlt),λ_=>c3 j av _ hj (zaN hlt),(λhb=>by cases hb)⟩
 .intro S' κ' D' w' hD hk;have:=VRel.loc (S:=S') (w:=w') d a.cells.length 0 0 w.heap.size 1 hD hk;simpa using this
end
end
section
open Go.RowKit
variable[Dr]
section
variable{P:Program}{S:aD}{κ:Kap}{D:aD}{w:World}
def EffAt.update{b g c:Nat}{ent:Ent}{cur cells:aV}{r:Res}{y:Value}(hS:∀g,S g->g<w.heap.size)(hd:D b)(hκ:κ b=some (g,c))(hset:r.set=[(b,ent)])(hk:r.kill=none)(hf:r.frz=[])(hcl:ent.cell)
  (hg:w.heap[g]?=some (.cells cur ent.e (0,0))) (hnS:¬S g)
  (hz:∀cs∈ent.es,cs.length=ent.z) (hsz:cells.size=c*ent.z) (hc:ent.es.length<=c) (hm:c<=ent.cap)
  (hcell:∀(i j:Nat) (cs:aN) (a:AV),ent.es[i]?=some cs->cs[j]?=some a->∃u,cells[i*ent.z+j]?=some u/\u.oneCell'=true/\(ent.box=true->VRel S κ D w a u)/\(ent.box=false->CRel S w a u))
  (hv:VRel S κ D w r.val y) (hre:r.re=[]:=by rfl):EffAt S κ D w S κ r y (w.setRow g cells):=by
 have hSw:∀g',S g'->(w.setRow g cells).heap[g']?=w.heap[g']?:=λg' h=>setRow_other w g g' cells (λe=>hnS (by rw[<-e];exact h))
 have hDD:∀b,D b->D1 D r b:=λb hb=>.inl ⟨hb,by simp[hk],by simp[hf]⟩
 exact{
  os:=rfl
  tape:=rfl
  output:=.of
  size:=by simp
  blk:=λg' hg' hb=>setRow_other w g g' cells (λe=>hb b c (.inl (by simp[ids,hset])) hd (by rw[e];exact hκ))
  sup:=λ_ h=>h
  snew:=λ_ h=>.inl h
  slt:=λg' h=>by simpa using hS g' h
  sfrz:=λb' hb=>by grind
  kold:=λ_ _ _=>rfl
  kout:=λ_ _=>rfl
  knew:=λb' h hb=>by
   simp[ids,hset]at hb
   simp_all
  one:=λb' b'' h _ hb=>by
   simp[ids,hset]at hb
   simp_all
  res:=λb hb=>by grind
  ents:=λb' e hb=>by simp[hset]at hb;obtain⟨rfl,rfl⟩:=hb;refine EntAt.of hcl ⟨hz,?_⟩;rw[hκ];refine⟨cells,setRow_heap w g cur cells _ (0,0) hg,hsz,hc,hm,hnS,λi j cs a hi hj=>?_⟩;obtain⟨u,h1,h2,h3,h4⟩:=hcell i j cs a hi hj;exact⟨u,h1,h2,λhb=>(h3 hb).mono (λ_ h=>h) hSw hDD (λ_ _=>rfl),λhb=>(h4 hb).mono (λ_ h=>h) hSw⟩
  val:=hv.mono (λ_ h=>h) hSw hDD (λ_ _=>rfl) }
def zBD{A:aV}{o k:Nat}{vs:af}(h:o+vs.length<=A.size):(A.toList.take o++vs++A.toList.drop (o+vs.length)).toArray[k]?=if k<o then A[k]? else if k<o+vs.length then vs[k-o]? else A[k]?:=by grind
def idx_lt{i j n z:Nat}(hi:i<n)(hj:j<z):i*z+j<n*z:=by
 have:(i+1)*z<=n*z:=zbB _ hi
 grind
def idx_inj{i i' j j' z:Nat}(hj:j<z)(hj':j'<z)(h:i*z+j=i'*z+j'):i=i'/\j=j':=by
 have hz:0<z:=by omega
 have h1:(i*z+j) / z=i:=by rw[zef,Nat.mul_add_div hz,zdV hj,zfe]
 have h2:(i'*z+j') / z=i':=by rw[zef,Nat.mul_add_div hz,zdV hj',zfe]
 simp_all
def zJn{L:aK}{t:TypeId}{x a:AV}{r:Res}{vx va:Value}(hS:∀g,S g->g<w.heap.size)(h:aStore P L t x a=some r)
  (hx:VRel S κ D w x vx) (ha:VRel S κ D w a va) (hL:∀b ent,L b=some ent->EntAt S κ D w (κ b) ent):∃w',(Instr.storeAt t va vx).run P w=.ok () w'/\∀y,EffAt S κ D w S κ r y w':=by
 unfold aStore at h;split at h
 case h_2=>cases h
 rename_i b z i o;obtain⟨g,c,hd,hk,rfl⟩:=ha.loc_inv;split at h
 case h_2=>cases h
 rename_i ent n hl hs;split at h
 case isFalse=>cases h
 rename_i hc;obtain⟨⟨rfl,hce⟩,hlen,h1,hcl⟩:=hc;split at h
 case h_2=>cases h
 rename_i cs hi;split at h
 case isFalse=>cases h
 rename_i hon;injection h with h;subst h;obtain⟨hz,hent⟩:=(hL b ent hl).1 hce;rw[hk]at hent;obtain⟨cells,hcells,hsz,hle,hm,hnS,hcell⟩:=hent;obtain⟨c1,c2,c3⟩:=zw9 h1 hx;have hcsl:cs.length=ent.z:=hz cs (zau hi);have hilt:i<ent.es.length:=(zal.1 hi).1
 have hb:i*ent.z+o+vx.cells.toList.length<=cells.size:=by rw[hsz];have:(i+1)*ent.z<=c*ent.z:=zbB _ (by omega);rw[zg7]at this;simp[c1];omega
 have hrun:=run_storeCells_at P g (i*ent.z+o) ent.e vx.cells.toList 0 cells w hcells (by simpa using hb) (by simpa using c2);simp only[zfe]at hrun;refine⟨_,?_,λy=>EffAt.update (b:=b) (g:=g) (c:=c) (ent:={ ent with es:=ent.es.set i (splice cs o x.cells) }) (cells:=(cells.toList.take (i*ent.z+o)++vx.cells.toList++cells.toList.drop (i*ent.z+o+vx.cells.toList.length)).toArray) hS hd hk rfl rfl rfl hce hcells hnS ?_ ?_ ?_ hm ?_ (.bot y)⟩
 . have hne:¬(vx.cells.size≠n):=by simp;omega
   simp only[Instr.storeAt,Instr.sureAddr,storeVar,Sem.run_bind,Sem.run_pure,Result.andThen_ok,zdY hs,hne,if_false];exact hrun
 . intro cs' hcs';rcases zdE hcs' with h'|h'
   .exact hz cs' h'
   .rw[h',zqe (by omega)];exact hcsl
 .grind
 .simpa using hle
 . intro i' j cs' av hi' hj;simp only at hi' ⊢;rw[List.getElem?_set]at hi';have hxl:vx.cells.toList.length=x.cells.length:=by simpa using c1
   by_cases hii:i=i'
   . subst hii;simp[hilt]at hi';subst hi';have hjl:j<cs.length:=by have:=(zal.1 hj).1;rwa[zqe (by omega)]at this
     rw[zFj (by omega)]at hj;rw[zBD (by omega)];by_cases h4:j<o
     .simp_all
     . rw[if_neg h4]at hj;by_cases h5:j<o+x.cells.length
       . rw[if_pos h5]at hj;rw[if_neg (by omega),if_pos (by omega)];have hlt:j-o<vx.cells.size:=by omega
         have he:i*ent.z+j-(i*ent.z+o)=j-o:=by omega
         rw[he];refine⟨vx.cells[j-o],by simp[hlt],c2 _ (zfA hlt),λ_=>c3 _ av _ hj (zaN hlt),λhb=>?_⟩;rcases hcl with h|h
         .rw[h]at hb;cases hb
         .exact zkX 4 (zfO h av (zau hj)) (c3 _ av _ hj (zaN hlt))
       grind
   . rw[if_neg hii]at hi';have hjl:j<ent.z:=by rw[<-hz cs' (zau hi')];exact(zal.1 hj).1
     rw[zBD (by omega)];have hout:∀q,o<=q->q<o+x.cells.length->i'*ent.z+j≠i*ent.z+q:=λq h6 h7 e=>hii ((idx_inj hjl (show q<ent.z by omega) e).1.symm)
     by_cases h4:i'*ent.z+j<i*ent.z+o
     .simp_all
     . rw[if_neg h4];rw[if_neg]
       .simp_all
       .intro h5;exact hout (i'*ent.z+j-i*ent.z) (by omega) (by omega) (by omega)
def zG5{L:aK}{z:Nat}{x:AV}{new:aS}{vx:Value}(hz:0<z)(h:srcOf L z x=some new)(hx:VRel S κ D w x vx)(hL:∀b ent,L b=some ent->EntAt S κ D w (κ b) ent):∃(A:Option Addr) (c:Nat) (news:af),vx=.slice A new.length c/\news.length=new.length*z/\(∀u∈news,u.oneCell'=true)/\(A=none->new=[])/\(∀a,A=some a->∀j u,news[j]?=some u->w.cell? (a.add j)=some u)/\(∀cs∈new,cs.length=z)/\∀(i j:Nat) (cs:aN) (c:AV),new[i]?=some cs->cs[j]?=some c->∃u,news[i*z+j]?=some u/\CRel S w c u:=by
 unfold srcOf at h;split at h
 . injection h with h;subst h;rw[hx.v_inv]
   simp_all
 . rename_i z' es;split at h
   case isFalse=>cases h
   rename_i hzz;subst hzz;injection h with h;subst h;have hf:=hx.sl_inv
   cases hf with
   |sl _ _ A len cap u hlen hcap hzz ha hr =>
     have hget:∀k,k<es.length*z'->∃cs c,es[k / z']?=some cs/\cs[k % z']?=some c:=by
      intro k hk;have h1:k / z'<es.length:=by rw[Nat.div_lt_iff_lt_mul hz];exact hk
      have h2:k % z'<es[k / z'].length:=by rw[hzz _ (zaq h1)];exact zej _ hz
      exact⟨_,_,zaa h1,zaa h2⟩
     have hdm:∀k,k / z'*z'+k % z'=k:=λk=>by rw[zef];exact Nat.div_add_mod k z'
     refine⟨A,cap,(List.range (es.length*z')).map λk=>u (k / z') (k % z'),by rw[hlen],by simp,?_,?_,?_,hzz,?_⟩
     .grind
     .grind
     .grind
     . intro i j cs c hi hj;have h1:i<es.length:=(zal.1 hi).1;have h2:j<z':=by rw[<-hzz cs (zau hi)];exact(zal.1 hj).1
       have hlt:=idx_lt h1 h2
       grind
 . rename_i b z' off n;split at h
   case h_2=>cases h
   rename_i ent hl;split at h
   case isFalse=>cases h
   rename_i hc;obtain⟨rfl,rfl,hbx,hzp,hle⟩:=hc;injection h with h;subst h;obtain⟨hzz,hent⟩:=(hL b ent hl).1 (.inr hzp);have hlen:((ent.es.drop off).take n).length=n:=by simp;omega
   cases hx with
   |c h=>cases h
   |row0 _ _ hd hk=>simp_all
   |row _ _ _ _ g c off' cap hd hk hnc ho hc =>
     rw[hk]at hent;obtain⟨cells,hcells,hsz,hle2,hm,hnS,hcell⟩:=hent
     have hall:off*ent.z+n*ent.z<=cells.size:=by rw[hsz,<-zdz];exact zbB _ (by omega)
     have hget:∀k u,((cells.toList.drop (off*ent.z)).take (n*ent.z))[k]?=some u->k<n*ent.z/\cells[off*ent.z+k]?=some u:=by
      intro k u hk;rw[zcw]at hk;split at hk
      .simp_all
      .cases hk
     refine⟨some ⟨g,off',none⟩,cap,(cells.toList.drop (off*ent.z)).take (n*ent.z),by rw[hlen],by rw[hlen];simp;omega,?_,by simp,?_,?_,?_⟩
     . intro q hq;obtain⟨k,hk'⟩:=zdm.1 hq;obtain⟨hlt,hq'⟩:=hget k q hk';have h1:k / ent.z<n:=by rw[Nat.div_lt_iff_lt_mul hz];exact hlt
       have h1':off+k / ent.z<ent.es.length:=by omega
       have h2:k % ent.z<ent.es[off+k / ent.z].length:=by rw[hzz _ (zaq h1')];exact zej _ hz
       obtain⟨u,e1,e2,_⟩:=hcell _ _ _ _ (zaa h1') (zaa h2)
       have:(off+k / ent.z)*ent.z+k % ent.z=off*ent.z+k:=by rw[zdz,zgR,zef (k / ent.z),Nat.div_add_mod]
       simp_all
     . intro a hA j u hu;injection hA with hA;subst hA;obtain⟨hlt,hq⟩:=hget j u hu
       have hoff:off'=off*ent.z:=by
        rcases ho with h|⟨h,_⟩
        .exact h
        .subst h;simp at hlt
       rw[add_at,cell_of_row w g _ cells ent.e (0,0) hcells,hoff];exact hq
     .grind
     . intro i j cs c hi hj;rw[zcw]at hi;split at hi
       case isFalse=>cases hi
       rename_i hin;rw[zb6]at hi;have h2:j<ent.z:=by rw[<-hzz cs (zau hi)];exact(zal.1 hj).1
       obtain⟨u,e1,e2,_,e4⟩:=hcell _ _ cs c hi hj;refine⟨u,?_,e4 hbx⟩;rw[zcw,if_pos (idx_lt hin h2),zb6]
       grind
 .cases h
def zGf{t ty e:TypeId}{i:TypeInfo}{size n c base:Nat}{v:Value}{xs:af}(ht:P.underlying t=some (.slice e))(hi:P.info? e=some i)
  (hown:w.ownsRow base e size v n xs):(Builtin.append_ #[t,t] ty #[v,.slice none 0 c]).run P w=.ok v w:=by
 rcases hown.2 with⟨rfl,rfl⟩|⟨g,cap,cur,rfl,_,_,hnc,_⟩
 .simp[Builtin.append_,run_underlying ht,sizeOf,typeInfo,hi,Builtin.lenOf,Builtin.firstCells]
 .simp[Builtin.append_,run_underlying ht,sizeOf,typeInfo,hi,Builtin.lenOf,Builtin.firstCells,hnc,storeCells]
def zHt{L:aK}{t ty:TypeId}{d:Nat}{s x:AV}{r:Res}{vs vx:Value}(hS:∀g,S g->g<w.heap.size)(hd:¬D d)
  (h:znh P L d t s x=some r) (hs:VRel S κ D w s vs) (hx:VRel S κ D w x vx) (hL:∀b ent,L b=some ent->EntAt S κ D w (κ b) ent):∃y w' κ',(Builtin.append_ #[t,t] ty #[vs,vx]).run P w=.ok y w'/\EffAt S κ D w S κ' r y w':=by
 unfold znh at h;split at h
 case h_2=>cases h
 rename_i e hu;split at h
 case h_2=>cases h
 rename_i i zero hi hz;split at h
 case isFalse=>cases h
 rename_i hpos;obtain⟨hpos,hzl⟩:=hpos;obtain⟨i',zv,hi',hzz,rfl⟩:=ziH hz;rw[hi]at hi';injection hi' with hi';subst hi';have hzs:zv.cells.size=i.size:=by simpa using hzl
 split at h
 case h_2=>cases h
 rename_i new hsrc;obtain⟨A,c,news,rfl,hnl,hn1,hA0,hAc,hnz,hncell⟩:=zG5 hpos hsrc hx hL
 have main:∀(old:aS) (xs:af) (kill:aZ) (kb:ag),w.ownsRow 0 e i.size vs old.length xs->(∀cs∈old,cs.length=i.size)->(∀(i' j:Nat) (cs:aN) (c:AV),old[i']?=some cs->cs[j]?=some c->∃u,xs[i'*i.size+j]?=some u/\u.oneCell'=true/\CRel S w c u)->(old.length+new.length)*(i.bytes+1)<=1099511627776->(∀g,vs.ownBlock=some g->¬S g/\∃b c,kill=some b/\D b/\κ b=some (g,c))->kill≠some d->r={ val:=.row d i.size 0 (old++new).length,set:=[(d,{ z:=i.size,e:=e,es:=old++new,box:=false })],kill:=kill }->∃y w' κ',(Builtin.append_ #[t,t] ty #[vs,.slice A new.length c]).run P w=.ok y w'/\EffAt S κ D w S κ' r y w':=by
  intro old xs kill kb hown hoz hocell hby hob hkd hr;rw[zaW]at hr;have hnb:old.length+new.length<=1099511627776:=za5 (zeK _ (by omega)) hby;have hby':(old.length+new.length)*i.bytes<=140737488355328:=za5 (za5 (zeE _ (by omega)) hby) (by omega)
  obtain⟨y,w',hrun,hown',hgrow,hyb⟩:∃y w',(Builtin.append_ #[t,t] ty #[vs,.slice A new.length c]).run P w=.ok y w'/\w'.ownsRow 0 e i.size y (old.length+new.length) (xs++news)/\w.grownBy w' vs.ownBlock/\(y.ownBlock=vs.ownBlock\/y.ownBlock=some w.heap.size):=by
   cases A with
   |none=>have hn0:=hA0 rfl;subst hn0;have:news=[]:=zcr (by simpa using hnl);subst this;exact⟨vs,w,zGf hu hi hown,by simpa using hown,⟨rfl,rfl,rfl,zav _,λ_ _ _=>rfl⟩,.inl rfl⟩
   |some ad =>
     obtain⟨y,w',h1,h2,h3,_,h5⟩:=run_append_own_at (P:=P) w 0 t ty e i zv i.size i.bytes hu hi hzz rfl rfl hzs hpos vs old.length xs hown ad new.length c news hnl (hAc ad rfl) hn1 (by unfold maxLen;omega) hby' (zcT _)
     grind
  have hSne:∀g,S g->some g≠vs.ownBlock:=λg hg e=>(hob g e.symm).1 hg
  have hSw:∀g,S g->w'.heap[g]?=w.heap[g]?:=λg hg=>hgrow.block g (hS g hg) (hSne g hg)
  have hyS:∀g,y.ownBlock=some g->¬S g:=by
   intro g hg hs';rcases hyb with h|h
   .simp_all
   .grind
  have hxsl:xs.length=old.length*i.size:=hown.1
  obtain⟨kd,hkd1,hkd2,hkd3⟩:∃kd:Option (Nat×Nat),(∀(S':aD) (κ':Kap) (D':aD) (w'':World),D' d->κ' d=kd->VRel S' κ' D' w'' (.row d i.size 0 (old.length+new.length)) y)/\(∀g c,kd=some (g,c)->y.ownBlock=some g)/\(match kd with
    |none=>old++new=[]
    |some (g,c)=>∃cells:Array Value,w'.heap[g]?=some (.cells cells e (0,0))/\cells.size=c*i.size/\(old++new).length<=c/\c<=maxLen/\cells.toList.take ((old.length+new.length)*i.size)=xs++news):=by
   rcases hown'.2 with⟨rfl,h0⟩|⟨g,cap,cur,rfl,_,hh,hn,hcm,hcs,htake⟩
   . refine⟨none,λS' κ' D' w'' hD hk=>?_,by simp,?_⟩
     .rw[h0];exact .row0 d i.size hD hk
     simp_all
   .refine⟨some (g,cap),λS' κ' D' w'' hD hk=>.row d i.size 0 _ g cap 0 cap hD hk hn (.inl (by simp)) (λ_=>rfl),?_,cur,hh,hcs,by simpa using hn,hcm,htake⟩;intro g' c' he;injection he with he;injection he with e1 e2;simp[Value.ownBlock,e1]
  refine⟨y,w',λb=>if b=d then kd else κ b,hrun,?_⟩;subst hr
  exact{
   os:=hgrow.os
   tape:=hgrow.tape
   output:=.of hgrow.output (run_drawn _ hrun)
   size:=hgrow.size
   blk:=λg hg hb=>hgrow.block g hg (λe=>by grind)
   sup:=λ_ h=>h
   snew:=λ_ h=>.inl h
   slt:=λg hg=>zbO (hS g hg) hgrow.size
   sfrz:=λb hb=>by cases hb
   kold:=λb hb _=>if_neg (λe=>hd (by subst e;exact hb))
   kout:=λb hb=>if_neg (λe=>hb (by simp[ids,e]))
   knew:=λb _ hb g c' hk=>by
    simp[ids]at hb
    grind
   one:=λb b' _ _ h1 h2 _ _ _ _ _=>by simp[ids]at h1 h2;rw[h1,h2]
   res:=λb hb=>by cases hb
   ents:=λb ent hb=>by
    simp at hb;obtain⟨rfl,rfl⟩:=hb;refine EntAt.of (.inr (by show 0<i.size;omega)) ⟨λcs hcs=>?_,?_⟩
    .grind
    . simp only[if_true]
      cases kd with
      |none=>grind
      |some gc =>
        obtain⟨g,cap⟩:=gc;obtain⟨cells,q1,q2,q3,q4,q5⟩:=hkd3;refine⟨cells,q1,q2,q3,q4,hyS g (hkd2 g cap rfl),λi' j cs a hi' hj=>?_⟩;have hil:i'<old.length+new.length:=by have:=(zal.1 hi').1;simpa using this
        have hcz:cs.length=i.size:=by
         rcases zaX.1 (zau hi')with h'|h'
         .exact hoz cs h'
         .exact hnz cs h'
        have hjl:j<i.size:=by rw[<-hcz];exact(zal.1 hj).1
        have hq:cells[i'*i.size+j]?=(xs++news)[i'*i.size+j]?:=by rw[<-q5,zcw,if_pos (idx_lt hil hjl)];simp
        rw[hq,zce];rw[zce]at hi';by_cases hlt:i'<old.length
        .rw[if_pos hlt]at hi';rw[if_pos (by grind)];obtain⟨u,u1,u2,u3⟩:=hocell i' j cs a hi' hj;exact⟨u,u1,u2,(λhb=>by cases hb),λ_=>u3.mono (λ_ h=>h) hSw⟩
        . rw[if_neg hlt]at hi';have hge:old.length*i.size<=i'*i.size:=zbB _ (by omega);rw[if_neg (by rw[hxsl];omega)];obtain⟨u,u1,u2⟩:=hncell (i'-old.length) j cs a hi' hj;have he:i'*i.size+j-xs.length=(i'-old.length)*i.size+j:=by rw[hxsl,Nat.sub_mul];omega
          rw[he];exact⟨u,u1,hn1 u (zau u1),(λhb=>by cases hb),λ_=>u2.mono (λ_ h=>h) hSw⟩
   val:=hkd1 _ _ _ _ (.inr (by simp[ids])) (by simp) }
 split at h
 . rename_i hsv;split at h
   case isFalse=>cases h
   rename_i hby;injection h with h;have hv:=hs.v_inv;subst hv;exact main [] [] none none ⟨by simp,.inl ⟨rfl,rfl⟩⟩ (by simp) (by simp) (by simpa using hby) (λg hg=>by simp[Value.ownBlock]at hg) (by simp) (by rw[<-h];simp)
 . rename_i b z off n;split at h
   case h_2=>cases h
   rename_i ent hl;split at h
   case isFalse=>cases h
   rename_i hc;obtain⟨hb1,hbd,hz1,hz2,he,hbx,ho0,hnl',hby⟩:=hc;injection h with h;subst hz2;subst he;obtain⟨hzz',hent⟩:=(hL b ent hl).1 (.inr (by omega));rw[hz1]at hzz'
   cases hs with
   |c h=>cases h
   |row0 _ _ hdb hk=>rw[hk]at hent;have h0:=hent.1;clear hnl';exact main ent.es [] (some b) none ⟨by rw[h0];simp,.inl ⟨rfl,by rw[h0];rfl⟩⟩ hzz' (by rw[h0];simp) hby (λg hg=>by simp[Value.ownBlock]at hg) (by simpa using hbd) h.symm
   |row _ _ _ _ g cp off' cap hdb hk hnc ho hcc =>
     subst ho0;subst hnl';rw[hk]at hent;obtain⟨cells,hcells,hsz,hle2,hm,hnS,hcell⟩:=hent;have hcap:cap=cp:=hcc rfl;subst hcap
     have hoff:off'=0:=by
      rcases ho with h|⟨_,h⟩
      .simpa using h
      .exact absurd rfl h
     subst hoff;rw[hz1]at hsz;have hbig:ent.es.length*i.size<=cells.size:=by rw[hsz];exact zbB _ hle2
     refine main ent.es (cells.toList.take (ent.es.length*i.size)) (some b) (some (g,cap)) ⟨by simp;omega,.inr ⟨g,cap,cells,rfl,zcT _,hcells,hle2,za5 hm ent.cap_le,hsz,rfl⟩⟩ hzz' ?_ hby ?_ (by simpa using hbd) h.symm
     . intro i' j cs a hi' hj;obtain⟨u,u1,u2,_,u4⟩:=hcell i' j cs a hi' hj;rw[hz1]at u1;have hjl:j<i.size:=by rw[<-hzz' cs (zau hi')];exact(zal.1 hj).1
       refine⟨u,?_,u2,u4 hbx⟩;rw[zcw,if_pos (idx_lt (zal.1 hi').1 hjl)];simpa using u1
     . intro g' hg';simp[Value.ownBlock]at hg'
       simp_all
 .cases h
def zKI{L:aK}{t ty:TypeId}{ts:Array TypeId}{s x:AV}{r:Res}{vs vx:Value}(hS:∀g,S g->g<w.heap.size)(hts:ts[0]?=some t)
  (h:aCopy P L t s x=some r) (hs:VRel S κ D w s vs) (hx:VRel S κ D w x vx) (hL:∀b ent,L b=some ent->EntAt S κ D w (κ b) ent):∃y w',(Builtin.copy_ ts ty #[vs,vx]).run P w=.ok y w'/\EffAt S κ D w S κ r y w':=by
 unfold aCopy at h;split at h
 case h_2=>cases h
 rename_i e hu;split at h
 case h_2=>cases h
 rename_i sz b z off n hsz;split at h
 case h_2=>cases h
 rename_i ent new hl hsrc;split at h
 case isFalse=>cases h
 rename_i hc;obtain⟨hpos,rfl,hez,hbx,hle⟩:=hc;injection h with h;subst h;obtain⟨A,c,news,rfl,hnl,hn1,hA0,hAc,hnz,hncell⟩:=zG5 hpos hsrc hx hL;have hce:ent.cell:=.inr (by omega);obtain⟨hzz,hent⟩:=(hL b ent hl).1 hce;have hk:(min new.length n)*z<=news.length:=by rw[hnl];exact zbB _ (Nat.min_le_left _ _)
 have hfirst:(Builtin.firstCells z (min new.length n) (.slice A new.length c)).run P w=.ok (news.take (min new.length n*z)).toArray w:=by
  cases A with
  |none=>have:=hA0 rfl;subst this;have:news=[]:=zcr (by simpa using hnl);subst this;simp[Builtin.firstCells]
  |some ad =>
    have:=run_loadCells_list (P:=P) w ad (news.take (min new.length n*z)) (λj u hu=>by grind)
    rw[zcH,Nat.min_eq_left hk]at this;simpa[Builtin.firstCells]using this
 have hpre:∀base:Option Addr,∀cap:Nat,(Builtin.copy_ ts ty #[.slice base n cap,.slice A new.length c]).run P w =
   ((match base with|some a=>storeCells a (news.take (min new.length n*z))|none=>pure ():Sem Unit).run P w).andThen λ_ w'=>.ok (goInt (min new.length n:Nat)) w':=by
  intro base cap;have hm:Nat.min new.length n=min new.length n:=rfl;cases base<;>simp[Builtin.copy_,hts,run_underlying hu,Builtin.lenOf,zdY hsz,hm,hfirst]
 cases hs with
 |c h=>cases h
 |row0 _ _ hd hkk =>
   rw[hkk]at hent;refine⟨goInt (min new.length 0:Nat),w,by rw[hpre];simp,?_⟩;have h0:=hent.1
   exact{
    os:=rfl
    tape:=rfl
    output:=.of
    size:=zav _
    blk:=λ_ _ _=>rfl
    sup:=λ_ h=>h
    snew:=λ_ h=>.inl h
    slt:=hS
    sfrz:=λb' hb=>by cases hb
    kold:=λ_ _ _=>rfl
    kout:=λ_ _=>rfl
    knew:=λb' h hb=>by
     simp[ids]at hb
     simp_all
    one:=λb' b'' h _ hb=>by
     simp[ids]at hb
     simp_all
    res:=λb hb=>by cases hb
    ents:=λb' en hb=>by
     simp at hb;obtain⟨rfl,rfl⟩:=hb;refine EntAt.of hce ⟨by simp[h0],?_⟩
     simp_all
    val:=.c (.v _) }
 |row _ _ _ _ g cp off' cap hd hkk hnc ho hcc =>
   rw[hkk]at hent;obtain⟨cells,hcells,hcsz,hle2,hm,hnS,hcell⟩:=hent;rw[hez]at hcsz;have hl1:(news.take (min new.length n*z)).length=min new.length n*z:=by simp_all
   have hin:off*z+min new.length n*z<=cells.size:=by rw[hcsz,<-zdz];exact zbB _ (by omega)
   have hrun:(storeCells ⟨g,off',none⟩ (news.take (min new.length n*z))).run P w=.ok () (w.setRow g (cells.toList.take (off*z)++news.take (min new.length n*z)++cells.toList.drop (off*z+min new.length n*z)).toArray):=by
    rcases ho with h|⟨h,_⟩
    . have:=run_storeCells_at P g (off*z) ent.e (news.take (min new.length n*z)) 0 cells w hcells (by omega) (λu hu=>hn1 u (zb7 hu))
      simp_all
    .subst h;simp[storeCells,setRow_self w g cells ent.e (0,0) hcells]
   refine⟨goInt (min new.length n:Nat),_,by rw[hpre];simp only[hrun,Result.andThen_ok];rfl,EffAt.update (b:=b) (g:=g) (c:=cp)
    (ent:={ ent with es:=ent.es.take off++(new.take n)++ent.es.drop (off+min new.length n) }) hS hd hkk rfl rfl rfl hce hcells hnS ?_ ?_ ?_ hm ?_ (.c (.v _))⟩
   .grind
   .grind
   .simp;omega
   . intro i j cs a hi hj;simp only at hi ⊢;rw[hez]
     have hcz:cs.length=z:=by
      rcases zaX.1 (zau hi)with h|h
      .grind
      .grind
     have hjl:j<z:=by rw[<-hcz];exact(zal.1 hj).1
     have hsg:=zBD (A:=cells) (o:=off*z) (k:=i*z+j) (vs:=news.take (min new.length n*z)) (by rw[hl1];exact hin);rw[hl1]at hsg;rw[hsg];have ha1:(ent.es.take off).length=off:=by simp;omega
     have ha2:(new.take n).length=min new.length n:=by simp[Nat.min_comm]
     rw[zcA,zce,ha1]at hi;by_cases h1:i<off
     . rw[if_pos h1,zcw,if_pos h1]at hi;have:i*z+j<off*z:=idx_lt h1 hjl
       simp_all
     . have hge:off*z<=i*z:=zbB _ (by omega);rw[if_neg h1,zce,ha2]at hi;rw[if_neg (by omega)];by_cases h2:i-off<min new.length n
       . rw[if_pos h2,zcw,if_pos (by omega)]at hi;have hlt:(i-off)*z+j<min new.length n*z:=idx_lt h2 hjl;have he:i*z+j-off*z=(i-off)*z+j:=by rw[Nat.sub_mul];omega
         grind
       . rw[if_neg h2,zb6]at hi;have hge2:(off+min new.length n)*z<=i*z:=zbB _ (by omega);rw[zdz]at hge2;rw[if_neg (by omega)];have hii:off+min new.length n+(i-off-min new.length n)=i:=by omega
         simp_all
def zJf{L:aK}{t ty:TypeId}{ts:Array TypeId}{s:AV}{r:Res}{vs:Value}(hS:∀g,S g->g<w.heap.size)(hts:ts[0]?=some t)
  (h:aClear P L t s=some r) (hs:VRel S κ D w s vs) (hL:∀b ent,L b=some ent->EntAt S κ D w (κ b) ent):∃y w',(Builtin.clear_ ts ty #[vs]).run P w=.ok y w'/\EffAt S κ D w S κ r y w':=by
 unfold aClear at h;split at h
 case h_2=>cases h
 rename_i e hu;split at h
 case h_2=>cases h
 rename_i sz zero b z off n hsz hzero;split at h
 case h_2=>cases h
 rename_i ent hl;split at h
 case isFalse=>cases h
 rename_i hc;obtain⟨hpos,rfl,hez,hbx,hzl,hz1,hle⟩:=hc;injection h with h;subst h;obtain⟨i,zv,hi,hzz0,rfl⟩:=ziH hzero;have hzs:zv.cells.size=z:=by simpa using hzl
 have hzr:=zmY (S:=S) (w:=w) hz1;have hce:ent.cell:=.inr (by omega);obtain⟨hzz,hent⟩:=(hL b ent hl).1 hce;have hnl:(Builtin.zeroCells zv.cells n).toList.length=n*z:=by simp[Builtin.zeroCells,hzs]
 have hnget:∀k,k<n*z->∃(u:Value),(Builtin.zeroCells zv.cells n).toList[k]?=some u/\zv.cells[k % z]?=some u:=by
  intro k hk;have hm:k % z<zv.cells.size:=by rw[hzs];exact zej _ hpos
  refine⟨zv.cells[k % z],?_,zaN hm⟩;simp[Builtin.zeroCells,hzs,hk]
  grind
 have hn1:∀u∈(Builtin.zeroCells zv.cells n).toList,u.oneCell'=true:=by
  intro u hu';obtain⟨k,hk⟩:=List.getElem?_of_mem hu';have hlt:k<n*z:=by rw[<-hnl];exact(zal.1 hk).1
  obtain⟨u',h1,h2⟩:=hnget k hlt;rw[hk]at h1;injection h1 with h1;subst h1;exact hzr.2.1 _ (zfb h2)
 have hv:VRel S κ D w (.tup []) (.tuple #[]):=.c (.tup [] #[] rfl (λj c x hj=>by simp at hj))
 cases hs with
 |c h=>cases h
 |row0 _ _ hd hkk =>
   rw[hkk]at hent;refine⟨.tuple #[],w,by simp[Builtin.clear_,hts,run_underlying hu],?_⟩;have h0:=hent.1
   exact{
    os:=rfl
    tape:=rfl
    output:=.of
    size:=zav _
    blk:=λ_ _ _=>rfl
    sup:=λ_ h=>h
    snew:=λ_ h=>.inl h
    slt:=hS
    sfrz:=λb' hb=>by cases hb
    kold:=λ_ _ _=>rfl
    kout:=λ_ _=>rfl
    knew:=λb' h hb=>by
     simp[ids]at hb
     simp_all
    one:=λb' b'' h _ hb=>by
     simp[ids]at hb
     simp_all
    res:=λb hb=>by cases hb
    ents:=λb' en hb=>by
     simp at hb;obtain⟨rfl,rfl⟩:=hb;refine EntAt.of hce ⟨by simp[h0],?_⟩
     simp_all
    val:=.c (.tup [] #[] rfl (λj c x hj=>by simp at hj)) }
 |row _ _ _ _ g cp off' cap hd hkk hnc ho hcc =>
   rw[hkk]at hent;obtain⟨cells,hcells,hcsz,hle2,hm,hnS,hcell⟩:=hent;rw[hez]at hcsz
   have hin:off*z+n*z<=cells.size:=by rw[hcsz,<-zdz];exact zbB _ (by omega)
   have hrun:(Builtin.clear_ ts ty #[.slice (some ⟨g,off',none⟩) n cap]).run P w=.ok (.tuple #[]) (w.setRow g (cells.toList.take (off*z)++(Builtin.zeroCells zv.cells n).toList++cells.toList.drop (off*z+n*z)).toArray):=by
    cases n with
    |zero =>
      have e:(Builtin.zeroCells zv.cells 0).toList=[]:=by simp[Builtin.zeroCells]
      rw[e];simp[Builtin.clear_,hts,run_underlying hu,setRow_self w g cells ent.e (0,0) hcells]
    |succ n =>
      rcases ho with h|⟨h,_⟩
      . have:=run_storeCells_at P g (off*z) ent.e (Builtin.zeroCells zv.cells (n+1)).toList 0 cells w hcells (by omega) hn1;simp only[zfe,hnl]at this;rw[h];simp[Builtin.clear_,hts,run_underlying hu,zh5 hi hzz0]
        simp_all
      .cases h
   refine⟨.tuple #[],_,hrun,EffAt.update (b:=b) (g:=g) (c:=cp)
    (ent:={ ent with es:=ent.es.take off++List.replicate n (nrmL P (zjS P 8 e) (zv.cells.toList.map .v))++ent.es.drop (off+n) }) hS hd hkk rfl rfl rfl hce hcells hnS ?_ ?_ ?_ hm ?_ hv⟩
   . intro cs hcs;simp only[hez];rcases zaX.1 hcs with h|h
     . rcases zaX.1 h with h|h
       .grind
       .rw[zeV h];simpa[zlD]using hzs
     grind
   .grind
   .simp;omega
   . intro i' j cs a hi' hj;simp only at hi' ⊢;rw[hez]
     have hcz:cs.length=z:=by
      rcases zaX.1 (zau hi')with h|h
      . rcases zaX.1 h with h|h
        .grind
        .rw[zeV h];simpa[zlD]using hzs
      .grind
     have hjl:j<z:=by rw[<-hcz];exact(zal.1 hj).1
     have hsg:=zBD (A:=cells) (o:=off*z) (k:=i'*z+j) (vs:=(Builtin.zeroCells zv.cells n).toList) (by rw[hnl];exact hin);rw[hnl]at hsg;rw[hsg];have ha1:(ent.es.take off).length=off:=by simp;omega
     rw[zcA,zce,ha1]at hi';by_cases h1:i'<off
     . rw[if_pos h1,zcw,if_pos h1]at hi';have:i'*z+j<off*z:=idx_lt h1 hjl
       simp_all
     . have hge:off*z<=i'*z:=zbB _ (by omega);rw[if_neg h1,zce,zb9]at hi';rw[if_neg (by omega)];by_cases h2:i'-off<n
       . rw[if_pos h2,zgt,if_pos h2]at hi';injection hi' with hi';subst hi';have hlt:(i'-off)*z+j<n*z:=idx_lt h2 hjl;have he:i'*z+j-off*z=(i'-off)*z+j:=by rw[Nat.sub_mul];omega
         obtain⟨u,u1,u2⟩:=hnget _ hlt;have hmod:((i'-off)*z+j) % z=j:=by rw[zef,Nat.mul_add_mod,zc6 hjl]
         rw[hmod]at u2;rw[if_pos (by omega),he];obtain⟨a0,hj0,hac⟩:=zsD P _ _ j a hj;have hcr:=hzr.2.2 j a0 u hj0 u2
         have hcr':CRel S w a u:=by
          rcases hac with rfl|⟨t',rfl⟩
          .exact hcr
          .exact ztd hcr
         grind
       . rw[if_neg h2,zb6]at hi';have hge2:(off+n)*z<=i'*z:=zbB _ (by omega);rw[zdz]at hge2;rw[if_neg (by omega)];have hii:off+n+(i'-off-n)=i':=by omega
         simp_all
end
end
section
open Go.RowKit
variable[Dr]
section
variable{S:aD}{κ:Kap}{D:aD}{w:World}
def zE1{z:Nat}:∀{es:aS} {j:Nat} {c:AV},(∀cs∈es,cs.length=z)->es.flatten[j]?=some c->∃r q cs,es[r]?=some cs/\cs[q]?=some c/\j=r*z+q
 |[],j,c,_,h=>by simp at h
 |cs::es,j,c,hz,h=>by
   rw[List.flatten_cons,zce]at h;split at h
   .exact⟨0,j,cs,rfl,h,by simp⟩
   . rename_i hlt;have hl:=hz cs (by simp);obtain⟨r,q,cs',h1,h2,h3⟩:=zE1 (λcs hcs=>hz cs (by simp[hcs])) h;refine⟨r+1,q,cs',by simpa using h1,h2,?_⟩
     grind
def zrK{L:aK}{S':aD}(hL:∀b ent,L b=some ent->EntAt S κ D w (κ b) ent)(hSS:∀g,S g->S' g):∀(k:Nat) {a a':AV} {x:Value},VRel S κ D w a x->snap L k a=some a'->(∀b∈a.ids L k,∀g c,κ b=some (g,c)->S' g)->CRel S' w a' x:=by
 intro k
 induction k with
 |zero=>intro a a' x _ h;simp[snap]at h
 |succ k ih =>
   intro a a' x hv h hids
   have lists:∀(cs l:aN) (vs:aV),mapO (snap L k) cs=some l->vs.size=cs.length->(∀(j:Nat) (c:AV) (x:Value),cs[j]?=some c->vs[j]?=some x->VRel S κ D w c x)->(∀b∈cs.flatMap (AV.ids L k),∀g c,κ b=some (g,c)->S' g)->vs.size=l.length/\∀(j:Nat) (c:AV) (x:Value),l[j]?=some c->vs[j]?=some x->CRel S' w c x:=by
    intro cs l vs hm hl hr hid;obtain⟨h1,h2⟩:=zms hm;refine⟨by omega,λj c x hj hx=>?_⟩;have hlt:j<cs.length:=by have:=(zal.1 hj).1;omega
    obtain⟨b,hb,hs⟩:=h2 j _ (zaa hlt);rw[hj]at hb;injection hb with hb;subst hb;exact ih (hr j _ x (zaa hlt) hx) hs (λb hb=>hid b (zbM.2 ⟨_,zaq hlt,hb⟩))
   cases a with
   |v y=>simp[snap]at h;subst h;rw[hv.v_inv];exact .v _
   |sl z es=>simp[snap]at h;subst h;exact hv.sl_inv.mono hSS (λ_ _=>rfl)
   |fp cs=>simp[snap]at h;subst h;exact hv.fp_inv.mono hSS (λ_ _=>rfl)
   |agg cs =>
     simp only[snap]at h;split at h
     .rename_i l hm;injection h with h;subst h;obtain⟨vs,rfl,hl,h1,hr⟩:=hv.agg_inv;obtain⟨q1,q2⟩:=lists cs l vs hm hl hr hids;exact .agg l vs q1 h1 q2
     .cases h
   |tup cs =>
     simp only[snap]at h;split at h
     .rename_i l hm;injection h with h;subst h;obtain⟨vs,rfl,hl,hr⟩:=hv.tup_inv;obtain⟨q1,q2⟩:=lists cs l vs hm hl hr hids;exact .tup l vs q1 q2
     .cases h
   |fn f cs =>
     simp only[snap]at h;split at h
     .rename_i l hm;injection h with h;subst h;obtain⟨vs,rfl,hl,hr⟩:=hv.fn_inv;obtain⟨q1,q2⟩:=lists cs l vs hm hl hr hids;exact .fn f l vs q1 q2
     .cases h
   |row b z off n =>
     simp only[snap]at h;split at h
     case h_2=>cases h
     rename_i ent hl;split at h
     case isFalse=>cases h
     rename_i hc;obtain⟨rfl,hbx,hzp,hle⟩:=hc;injection h with h;subst h;obtain⟨hzz,hent⟩:=(hL b ent hl).1 (.inr hzp);have hlen:((ent.es.drop off).take n).length=n:=by simp;omega
     cases hv with
     |c h=>cases h
     |row0 _ _ hd hk=>exact .sl _ _ none 0 0 (λ_ _=>undef) (by simp) (zav _) (by simp) (.inl (by simp)) (by simp)
     |row _ _ _ _ g c off' cap hd hk hnc ho hcc =>
       rw[hk]at hent;obtain⟨cells,hcells,hsz,hle2,hm,hnS,hcell⟩:=hent
       have hel:∀(i j:Nat) (cs:aN) (c:AV),((ent.es.drop off).take n)[i]?=some cs->cs[j]?=some c->i<n/\∃u,cells[off*ent.z+(i*ent.z+j)]?=some u/\u.oneCell'=true/\CRel S w c u:=by
        intro i j cs c hi hj;rw[zcw]at hi;split at hi
        case isFalse=>cases hi
        rename_i hin;rw[zb6]at hi;obtain⟨u,e1,e2,_,e4⟩:=hcell _ _ cs c hi hj;rw[zdz,zgR]at e1;exact⟨hin,u,e1,e2,e4 hbx⟩
       refine .sl _ _ (some ⟨g,off',none⟩) n cap (λi j=>(cells[off*ent.z+(i*ent.z+j)]?).getD undef) hlen.symm hnc (λcs hcs=>hzz cs (zdW (zb7 hcs))) ?_ ?_
       . refine .inr ⟨_,rfl,hids b (by simp[AV.ids]) g c hk,λi j cs c hi hj=>?_⟩;obtain⟨hin,u,e1,e2,_⟩:=hel i j cs c hi hj
         have hoff:off'=off*ent.z:=by
          rcases ho with h|⟨h,_⟩
          .exact h
          .omega
         rw[add_at,cell_of_row w g _ cells ent.e (0,0) hcells,hoff,e1];exact⟨rfl,e2⟩
       .intro i j cs c hi hj;obtain⟨hin,u,e1,e2,e3⟩:=hel i j cs c hi hj;rw[e1];exact e3.mono hSS (λ_ _=>rfl)
   |loc b z i o =>
     simp only[snap]at h;split at h
     case h_2=>cases h
     rename_i ent hl;split at h
     case isFalse=>cases h
     rename_i hz;obtain⟨rfl,hce⟩:=hz;split at h
     case h_2=>cases h
     rename_i cs hi;obtain⟨hzz,hent⟩:=(hL b ent hl).1 hce;obtain⟨g,c,hd,hk,rfl⟩:=hv.loc_inv;rw[hk]at hent;obtain⟨cells,hcells,hsz,hle2,hmx,hnS,hcell⟩:=hent
     have fin:∀l:List AV,(∀(j:Nat) (c:AV),l[j]?=some c->∃u,cells[i*ent.z+o+j]?=some u/\u.oneCell'=true/\CRel S' w c u)->CRel S' w (.fp l) (.pointer (some ⟨g,i*ent.z+o,none⟩)):=by
      intro l hel;refine .fp l _ (λj=>(cells[i*ent.z+o+j]?).getD undef) (hids b (by simp[AV.ids]) g c hk) (λj c hj=>?_) (λj c hj=>?_)
      .obtain⟨u,e1,e2,_⟩:=hel j c hj;rw[add_at,cell_of_row w g _ cells ent.e (0,0) hcells,e1];exact⟨rfl,e2⟩
      .grind
     cases hbx:ent.box with
     |true =>
       simp only[hbx,if_true]at h;split at h
       case h_2=>cases h
       rename_i l hm;injection h with h;subst h;obtain⟨h1,h2⟩:=zms hm;refine fin l (λj c hj=>?_);have hlt:j<(cs.drop o).length:=by have:=(zal.1 hj).1;omega
       obtain⟨b',hb',hs⟩:=h2 j _ (zaa hlt);rw[hj]at hb';injection hb' with hb';subst hb';have hget:cs[o+j]?=some (cs.drop o)[j]:=by rw[<-zb6];exact zaa hlt
       obtain⟨u,e1,e2,e3,e4⟩:=hcell i (o+j) cs _ hi hget;rw[<-zgR]at e1;refine⟨u,e1,e2,ih (e3 hbx) hs (λb' hb'=>hids b' ?_)⟩;simp only[AV.ids,hl,hbx,if_true,hi]
       grind
     |false =>
       simp only[hbx,za0,if_false]at h;split at h
       . rename_i hio;obtain⟨rfl,rfl⟩:=hio;injection h with h;subst h;refine .fa ent.z ent.es ⟨g,0*ent.z+0,none⟩ (λi j=>(cells[i*ent.z+j]?).getD undef) hzz (hids b (by simp[AV.ids]) g c hk) (λi j cs c hi hj=>?_) (λi j cs c hi hj=>?_)
         .obtain⟨u,e1,e2,_,_⟩:=hcell i j cs c hi hj;rw[add_at,cell_of_row w g _ cells ent.e (0,0) hcells,zi5,zaI,e1];exact⟨rfl,e2⟩
         .obtain⟨u,e1,e2,_,e4⟩:=hcell i j cs c hi hj;rw[e1];exact(e4 hbx).mono hSS (λ_ _=>rfl)
       injection h with h;subst h;refine fin _ (λj c hj=>?_);rw[zLm,zb6]at hj;obtain⟨r,q,cs',h1,h2,h3⟩:=zE1 (λcs hcs=>hzz cs (zdW hcs)) hj;rw[zb6]at h1;obtain⟨u,e1,e2,_,e4⟩:=hcell (i+r) q cs' c h1 h2;have:(i+r)*ent.z+q=i*ent.z+o+j:=by rw[zdz];omega
       rw[this]at e1;exact⟨u,e1,e2,(e4 hbx).mono hSS (λ_ _=>rfl)⟩
   |mp es=>simp[snap]at h;subst h;exact hv.mp_inv.mono hSS (λ_ _=>rfl)
   |fa z es=>simp[snap]at h;subst h;exact hv.fa_inv.mono hSS (λ_ _=>rfl)
   |map b =>
     simp only[snap]at h;split at h
     case h_2=>cases h
     rename_i ent hl;split at h
     case isFalse=>cases h
     rename_i hz;injection h with h;subst h;obtain⟨g,c,hd,hk,rfl⟩:=hv.map_inv;obtain⟨g',c',en,clock,hk',hn,hg,hlen,h1,h2,h3,h4⟩:=(hL b ent hl).2 (zxU hz.1 hz.2);rw[hk]at hk';simp only[zaf,zan]at hk';obtain⟨rfl,rfl⟩:=hk';exact .mp _ g en clock (hids b (by simp[AV.ids]) g c hk) hg hlen h1 h2 h3 (λi k v e hi he=>(h4 i k v e hi he).1.mono hSS (λ_ _=>rfl)) (λi k v e hi he=>(h4 i k v e hi he).2.mono hSS (λ_ _=>rfl))
   |_=>simp[snap]at h
end
def snap_ids{L:aK}:∀(k:Nat) (a a':AV),snap L k a=some a'->∀b∈a.ids L k,(L b).isSome=true:=by
 intro k
 induction k with
 |zero=>intro a a' h;simp[snap]at h
 |succ k ih =>
   intro a a' h b hb
   have lists:∀(cs l:aN),mapO (snap L k) cs=some l->b∈cs.flatMap (AV.ids L k)->(L b).isSome=true:=by intro cs l hm hb;obtain⟨c,hc,hb⟩:=zbM.1 hb;obtain⟨j,hj⟩:=zdm.1 hc;obtain⟨c',_,hs⟩:=(zms hm).2 j c hj;exact ih c c' hs b hb
   cases a with
   |agg cs =>
     simp only[snap]at h;split at h
     .rename_i l hm;exact lists cs l hm hb
     .cases h
   |tup cs =>
     simp only[snap]at h;split at h
     .rename_i l hm;exact lists cs l hm hb
     .cases h
   |fn f cs =>
     simp only[snap]at h;split at h
     .rename_i l hm;exact lists cs l hm hb
     .cases h
   |row c z off n =>
     simp only[snap]at h;simp[AV.ids]at hb
     grind
   |loc c z i o =>
     simp only[snap]at h;split at h
     case h_2=>cases h
     rename_i ent hl;simp only[AV.ids,zat,hl]at hb
     grind
   |map c =>
     simp[AV.ids]at hb;subst hb;simp only[snap]at h
     grind
   |_=>simp[AV.ids]at hb
def Mine(w0:World)(κ0:Kap)(K:aD)(g:Nat):Prop:=w0.heap.size<=g\/∃b c,b<1000/\K b/\κ0 b=some (g,c)
structure Good(w0:World)(S0:aD)(κ0:Kap)(K:aD)(N:Nat)(S:aD)(κ:Kap)(T:Nat->AV)(L:aK)(a:Act)(w:World):Prop where
 base:Dr.ok S0 w0/\∀g,S0 g->g<w0.heap.size/\∀b c,K b->κ0 b≠some (g,c)
 defers:a.defers=[]
 size:a.tmps.size=N
 os:w.os=w0.os
 tape:w.tape=w0.tape
 output:OutD w0 w
 grow:w0.heap.size<=w.heap.size
 old:∀g,g<w0.heap.size->(∀b c,K b->κ0 b≠some (g,c))->w.heap[g]?=w0.heap[g]?
 sup:∀g,S0 g->S g
 snew:∀g,S g->S0 g\/Mine w0 κ0 K g
 slt:∀g,S g->g<w.heap.size
 par:∀b,1000<=b->κ b=κ0 b
 parK:∀b,1000<=b->(L b).isSome=true->K b
 own:∀b g c,b<1000->(L b).isSome=true->κ b=some (g,c)->Mine w0 κ0 K g
 inj:∀b b' g c c',(L b).isSome=true->(L b').isSome=true->κ b=some (g,c)->κ b'=some (g,c')->b=b'
 ents:∀b ent,L b=some ent->EntAt S κ (λb=>(L b).isSome=true) w (κ b) ent
 slots:∀k,VRel S κ (λb=>(L b).isSome=true) w (T k) (a.tmps.getD k undef)
def Good.okw{w0:World}{S0:aD}{κ0:Kap}{K:aD}{N:Nat}{S:aD}{κ:Kap}{T:Nat->AV}{L:aK}{a:Act}{w:World}(h:Good w0 S0 κ0 K N S κ T L a w):Dr.ok S w:=
 Dr.keep h.base.1 h.sup λg hg=>h.old g (h.base.2 g hg).1 (h.base.2 g hg).2
def killE(b:Nat)(e:Ent):Ent:=if e.box then{ e with es:=e.es.map λcs=>cs.map (AV.kill b 4) }else e
def killL(b:Nat)(L:aK):Nat->Option Ent:=λc=>if c=b then none else(L c).map (killE b)
def zox(b:Nat):∀(t:Tab) (k:Nat),get (killT b t) k=(get t k).kill b 4
 |[],k=>rfl
 |(j,a)::r,k=>by
   simp only[killT,get];split
   .rfl
   .exact zox b r k
def ziW(b:Nat):∀(m:Mem) (c:Nat),look (delM b m) c=killL b (look m) c
 |[],c=>by simp[delM,look,killL]
 |(j,e)::r,c=>by
   have ih:=ziW b r c;simp only[delM,killL,look]at *;by_cases hj:j=b
   .simp_all
   . simp only[hj,if_false,look];by_cases hc:c=j
     .subst hc;simp[hj,killE]
     simp_all
section
variable{S:aD}{κ:Kap}{D D':aD}{w:World}
def zuL{b:Nat}(hD:∀c,D c->c≠b->D' c):∀(k:Nat) {a:AV} {x:Value},VRel S κ D w a x->VRel S κ D' w (a.kill b k) x:=by
 intro k
 induction k with
 |zero=>intro a x _;exact .bot x
 |succ k ih =>
   intro a x h
   have lists:∀(cs:aN) (vs:aV),vs.size=cs.length->(∀(j:Nat) (c:AV) (x:Value),cs[j]?=some c->vs[j]?=some x->VRel S κ D w c x)->vs.size=(cs.map (AV.kill b k)).length/\∀(j:Nat) (c:AV) (x:Value),(cs.map (AV.kill b k))[j]?=some c->vs[j]?=some x->VRel S κ D' w c x:=by
    intro cs vs hl hr;refine⟨by simpa using hl,λj c x hj hx=>?_⟩;rw[zbv]at hj
    cases hc:cs[j]? with
    |none=>simp[hc]at hj
    |some c'=>grind
   cases a with
   |bot=>exact .bot x
   |v y=>rw[h.v_inv];exact .c (.v _)
   |sl z es=>exact .c h.sl_inv
   |fp cs=>exact .c h.fp_inv
   |agg cs=>obtain⟨vs,rfl,hl,h1,hr⟩:=h.agg_inv;obtain⟨q1,q2⟩:=lists cs vs hl hr;exact .agg _ vs q1 h1 q2
   |tup cs=>obtain⟨vs,rfl,hl,hr⟩:=h.tup_inv;obtain⟨q1,q2⟩:=lists cs vs hl hr;exact .tup _ vs q1 q2
   |fn f cs=>obtain⟨vs,rfl,hl,hr⟩:=h.fn_inv;obtain⟨q1,q2⟩:=lists cs vs hl hr;exact .fn f _ vs q1 q2
   |loc c z i o =>
     obtain⟨g,cp,hd,hk,rfl⟩:=h.loc_inv;simp only[AV.kill];split
     .exact .bot _
     .rename_i hne;exact .loc c z i o g cp (hD c hd hne) hk
   |row c z o n =>
     simp only[AV.kill];split
     .exact .bot _
     . rename_i hne
       cases h with
       |c h=>cases h
       |row0 _ _ hd hk=>exact .row0 c z (hD c hd hne) hk
       |row _ _ _ _ g cp off' cap hd hk hn ho hc=>exact .row c z o n g cp off' cap (hD c hd hne) hk hn ho hc
   |map c =>
     obtain⟨g,cp,hd,hk,rfl⟩:=h.map_inv;simp only[AV.kill];split
     .exact .bot _
     .rename_i hne;exact .map c g cp (hD c hd hne) hk
   |mp es=>exact .c h.mp_inv
   |fa z es=>exact .c h.fa_inv
   |new=>exact .bot x
   |newp=>exact .bot x
   |newm=>exact .bot x
def ent_map{f:AV->AV}{kb:ag}{ent:Ent}(h:EntAt S κ D w kb ent)(hf:∀a x,VRel S κ D w a x->VRel S κ D' w (f a) x):EntAt S κ D' w kb (if ent.box then{ ent with es:=ent.es.map λcs=>cs.map f }else ent):=by
 cases hb:ent.box with
 |false =>
   simp only[za0,if_false];refine⟨λhce=>?_,h.2⟩;obtain⟨h1,h2⟩:=h.1 hce;refine⟨h1,?_⟩
   cases kb with
   |none=>exact⟨h2.1,hb⟩
   |some gc=>obtain⟨g,c⟩:=gc;obtain⟨cells,q1,q2,q3,q4,q5,q6⟩:=h2;refine⟨cells,q1,q2,q3,q4,q5,λi j cs a hi hj=>?_⟩;obtain⟨u,u1,u2,_,u4⟩:=q6 i j cs a hi hj;exact⟨u,u1,u2,(λhb'=>by rw[hb]at hb';cases hb'),u4⟩
 |true =>
   simp only[if_true];obtain⟨h1,h2⟩:=h.1 (.inl hb);refine EntAt.of (.inl rfl) ⟨λcs hcs=>?_,?_⟩
   .simp at hcs;obtain⟨cs',hcs',rfl⟩:=hcs;simpa using h1 cs' hcs'
   . cases kb with
     |none=>rw[hb]at h2;exact absurd h2.2 (by simp)
     |some gc=>obtain⟨g,c⟩:=gc;obtain⟨cells,q1,q2,q3,q4,q5,q6⟩:=h2;refine⟨cells,q1,q2,by simpa using q3,q4,q5,λi j cs a hi hj=>?_⟩;simp at hi;obtain⟨cs',hcs',rfl⟩:=hi;simp at hj;obtain⟨a',ha',rfl⟩:=hj;obtain⟨u,u1,u2,u3,_⟩:=q6 i j cs' a' hcs' ha';exact⟨u,u1,u2,λ_=>hf a' u (u3 hb),λhb'=>by cases hb'⟩
end
section
variable{w0:World}{S0:aD}{κ0:Kap}{K:aD}{N:Nat}{S:aD}{κ:Kap}{T:Nat->AV}{L:aK}{a:Act}{w:World}
def Good.del(h:Good w0 S0 κ0 K N S κ T L a w)(b:Nat):Good w0 S0 κ0 K N S κ (λk=>(T k).kill b 4) (killL b L) a w:=by
 have hsome:∀c,(killL b L c).isSome=true->(L c).isSome=true:=by
  intro c hc;simp only[killL]at hc;split at hc
  .cases hc
  .simpa using hc
 have hD:∀c,(L c).isSome=true->c≠b->(killL b L c).isSome=true:=by intro c hc hne;simp[killL,hne];exact hc
 exact{
  base:=h.base
  defers:=h.defers
  size:=h.size
  os:=h.os
  tape:=h.tape
  output:=h.output
  grow:=h.grow
  old:=h.old
  sup:=h.sup
  snew:=h.snew
  slt:=h.slt
  par:=h.par
  parK:=λc hc hs=>h.parK c hc (hsome c hs)
  own:=λc g cp hc hs=>h.own c g cp hc (hsome c hs)
  inj:=λc c' g cp cp' h1 h2=>h.inj c c' g cp cp' (hsome c h1) (hsome c' h2)
  ents:=λc ent hc=>by
   simp only[killL]at hc;split at hc
   .cases hc
   . rename_i hne
     cases hl:L c with
     |none=>simp[hl]at hc
     |some e=>simp[hl]at hc;subst hc;exact ent_map (h.ents c e hl) (λa x hx=>zuL hD 4 hx)
  slots:=λk=>zuL hD 4 (h.slots k) }
end
def frzE(bs:aO)(L:aK)(e:Ent):Ent:=if e.box then{ e with es:=e.es.map λcs=>cs.map (zeQ bs L 4) }else e
def frzL(bs:aO)(L:aK):Nat->Option Ent:=λc=>if bs.contains c then none else(L c).map (frzE bs L)
def zxi(bs:aO)(L:aK):∀(t:Tab) (k:Nat),get (zqP bs L t) k=zeQ bs L 4 (get t k)
 |[],k=>rfl
 |(j,a)::r,k=>by
   simp only[zqP,get];split
   .rfl
   .exact zxi bs L r k
def zvv(bs:aO)(L0:aK):∀(m:Mem) (c:Nat),look (znl bs L0 m) c=if bs.contains c then none else(look m c).map (frzE bs L0)
 |[],c=>by simp[znl,look]
 |(j,e)::r,c=>by
   have ih:=zvv bs L0 r c;simp only[znl,look]at *;by_cases hj:bs.contains j=true
   .grind
   . simp only[hj,if_false,look,za0];by_cases hc:c=j
     .subst hc;simp only[hj,if_true,if_false,za0,zcM,frzE]
     simp_all
section
variable{S S':aD}{κ:Kap}{D D':aD}{w:World}
def ids_D{L:aK}(hL:∀b ent,L b=some ent->EntAt S κ D w (κ b) ent):∀(k:Nat) (a:AV) (x:Value),VRel S κ D w a x->∀b∈a.ids L k,D b:=by
 intro k
 induction k with
 |zero=>intro a x _ b hb;simp[AV.ids]at hb
 |succ k ih =>
   intro a x h b hb
   have lists:∀(cs:aN) (vs:aV),vs.size=cs.length->(∀(j:Nat) (c:AV) (x:Value),cs[j]?=some c->vs[j]?=some x->VRel S κ D w c x)->b∈cs.flatMap (AV.ids L k)->D b:=by
    intro cs vs hl hr hb;obtain⟨c,hc,hb⟩:=zbM.1 hb;obtain⟨j,hj⟩:=zdm.1 hc;have hlt:j<vs.size:=by have:=(zal.1 hj).1;omega
    exact ih c _ (hr j c _ hj (zaN hlt)) b hb
   cases a with
   |agg cs=>obtain⟨vs,rfl,hl,h1,hr⟩:=h.agg_inv;exact lists cs vs hl hr hb
   |tup cs=>obtain⟨vs,rfl,hl,hr⟩:=h.tup_inv;exact lists cs vs hl hr hb
   |fn f cs=>obtain⟨vs,rfl,hl,hr⟩:=h.fn_inv;exact lists cs vs hl hr hb
   |row c z o n =>
     simp[AV.ids]at hb;subst hb
     cases h with
     |c h=>cases h
     |row0 _ _ hd _=>exact hd
     |row _ _ _ _ _ _ _ _ hd=>exact hd
   |loc c z i o =>
     obtain⟨g,cp,hd,hk,rfl⟩:=h.loc_inv;simp only[AV.ids,zat]at hb;rcases hb with rfl|hb
     .exact hd
     . cases hl:L c with
       |none=>simp[hl]at hb
       |some ent =>
         simp only[hl]at hb;split at hb
         . rename_i hbx;split at hb
           . rename_i cs hi';obtain⟨av,hav,hb⟩:=zbM.1 hb;obtain⟨j,hj⟩:=zdm.1 hav;rw[zb6]at hj;have hent:=((hL c ent hl).1 (.inl hbx)).2
             grind
           .cases hb
         .cases hb
   |map c=>simp[AV.ids]at hb;subst hb;obtain⟨g,cp,hd,hk,rfl⟩:=h.map_inv;exact hd
   |_=>simp[AV.ids]at hb
def zKk{bs:aO}{L:aK}(hL:∀b ent,L b=some ent->EntAt S κ D w (κ b) ent)(hSS:∀g,S g->S' g)(hbs:∀b∈bs,D b->∀g c,κ b=some (g,c)->S' g)
  (hD:∀c,D c->bs.contains c=false->D' c):∀(k:Nat) {a:AV} {x:Value},VRel S κ D w a x->VRel S' κ D' w (zeQ bs L k a) x:=by
 intro k
 induction k with
 |zero=>intro a x _;exact .bot x
 |succ k ih =>
   intro a x h
   have lists:∀(cs:aN) (vs:aV),vs.size=cs.length->(∀(j:Nat) (c:AV) (x:Value),cs[j]?=some c->vs[j]?=some x->VRel S κ D w c x)->vs.size=(cs.map (zeQ bs L k)).length/\∀(j:Nat) (c:AV) (x:Value),(cs.map (zeQ bs L k))[j]?=some c->vs[j]?=some x->VRel S' κ D' w c x:=by
    intro cs vs hl hr;refine⟨by simpa using hl,λj c x hj hx=>?_⟩;rw[zbv]at hj
    cases hc:cs[j]? with
    |none=>simp[hc]at hj
    |some c'=>grind
   have snp:∀{a:AV},VRel S κ D w a x->(∀b∈a.ids L 5,bs.contains b=true)->VRel S' κ D' w ((snap L 5 a).getD .bot) x:=by
    intro a ha hall
    cases hs:snap L 5 a with
    |none=>exact .bot x
    |some a'=>refine .c (zrK hL hSS 5 ha hs (λb hb g c hk=>?_));exact hbs b (by simpa using hall b hb) (ids_D hL 5 a x ha b hb) g c hk
   cases a with
   |bot=>exact .bot x
   |v y=>rw[h.v_inv];exact .c (.v _)
   |sl z es=>exact .c (h.sl_inv.mono hSS (λ_ _=>rfl))
   |fp cs=>exact .c (h.fp_inv.mono hSS (λ_ _=>rfl))
   |agg cs=>obtain⟨vs,rfl,hl,h1,hr⟩:=h.agg_inv;obtain⟨q1,q2⟩:=lists cs vs hl hr;exact .agg _ vs q1 h1 q2
   |tup cs=>obtain⟨vs,rfl,hl,hr⟩:=h.tup_inv;obtain⟨q1,q2⟩:=lists cs vs hl hr;exact .tup _ vs q1 q2
   |fn f cs=>obtain⟨vs,rfl,hl,hr⟩:=h.fn_inv;obtain⟨q1,q2⟩:=lists cs vs hl hr;exact .fn f _ vs q1 q2
   |loc c z i o =>
     simp only[zeQ];split
     . split
       .simp_all
       .exact .bot _
     .rename_i hne;obtain⟨g,cp,hd,hk,rfl⟩:=h.loc_inv;exact .loc c z i o g cp (hD c hd (by simpa using hne)) hk
   |row c z o n =>
     simp only[zeQ];split
     .rename_i hin;exact snp h (λb hb=>by simp[AV.ids]at hb;rw[hb];exact hin)
     . rename_i hne
       cases h with
       |c h=>cases h
       |row0 _ _ hd hk=>exact .row0 c z (hD c hd (by simpa using hne)) hk
       |row _ _ _ _ g cp off' cap hd hk hn ho hc=>exact .row c z o n g cp off' cap (hD c hd (by simpa using hne)) hk hn ho hc
   |map c =>
     simp only[zeQ];split
     .rename_i hin;exact snp h (λb hb=>by simp[AV.ids]at hb;rw[hb];exact hin)
     .rename_i hne;obtain⟨g,cp,hd,hk,rfl⟩:=h.map_inv;exact .map c g cp (hD c hd (by simpa using hne)) hk
   |mp es=>exact .c (h.mp_inv.mono hSS (λ_ _=>rfl))
   |fa z es=>exact .c (h.fa_inv.mono hSS (λ_ _=>rfl))
   |new=>exact .bot x
   |newp=>exact .bot x
   |newm=>exact .bot x
end
end
section
open Go.RowKit
variable[Dr]
def Dm(m:Mem):Nat->Prop:=λb=>(look m b).isSome=true
def noK:Kap:=λ_=>none
def noD:Nat->Prop:=λ_=>False
abbrev EntC(S:aD)(w:World)(kb:ag)(ent:Ent):Prop:=EntAt S noK noD w kb ent
def RRel(S:aD)(κ:Kap)(D:aD)(B:aD)(w:World)(r:AV)(x:Value):Prop:=
 match r with
 |.row b z off n=>VRel S κ D w (.row b z off n) x
 |.loc b z i o=>VRel S κ D w (.loc b z i o) x
 |.new z e es=>0<z/\((x=.slice none 0 0/\es=[])\/∃g c,B g/\x=.slice (some ⟨g,0,none⟩) es.length c/\EntC S w (some (g,c)) { z,e,es,box:=false })
 |.newm e es=>∃g c,B g/\x=.map (some g)/\EntC S w (some (g,c)) { z:=0,e,es,box:=false }
 |.newp z e cs=>∃g c,B g/\x=.pointer (some ⟨g,0,none⟩)/\EntC S w (some (g,c)) { z,e,es:=[cs],box:=true }
 |.tup [.new z e es,.v u]=>∃y,x=.tuple #[y,u]/\0<z/\((y=.slice none 0 0/\es=[])\/∃g c,B g/\y=.slice (some ⟨g,0,none⟩) es.length c/\EntC S w (some (g,c)) { z,e,es,box:=false })
 |r=>CRel S w r x
def RRel.plain{S:aD}{κ:Kap}{D B:aD}{w:World}{cs:aN}{x:Value}(hn:(AV.tup cs).newTup=false)(hr:RRel S κ D B w (.tup cs) x):CRel S w (.tup cs) x:=by
 unfold RRel at hr;split at hr
 all_goals first
  |exact hr
  |(rename_i he;cases he;done)
  |(rename_i he;injection he with he;subst he;simp[AV.newTup]at hn)
def zLo{a:AV}(h:a.flat 4=true):a.newTup=false:=by
 unfold AV.newTup;split
 .simp[AV.flat,allL]at h
 .rfl
def Left(S:aD)(κ:Kap)(ms ms':Mem)(r:AV)(w:World)(e:Ending)(w':World):Prop:=
 ∃(x:Value) (S':aD) (κ':Kap),e=.returned x/\w'.os=w.os/\w'.tape=w.tape/\OutD w w'/\w.heap.size<=w'.heap.size/\(∀g,g<w.heap.size->(∀b c,Dm ms b->κ b≠some (g,c))->w'.heap[g]?=w.heap[g]?)/\(∀g,S g->S' g)/\(∀g,S' g->S g\/Mine w κ (Dm ms) g)/\(∀g,S' g->g<w'.heap.size)/\(∀b,1000<=b->κ' b=κ b)/\(∀b g c,b<1000->Dm ms' b->κ' b=some (g,c)->Mine w κ (Dm ms) g)/\(∀b b' g c c',Dm ms' b->Dm ms' b'->κ' b=some (g,c)->κ' b'=some (g,c')->b=b')/\(∀b ent,look ms' b=some ent->Dm ms b/\EntAt S' κ' (Dm ms') w' (κ' b) ent)/\RRel S' κ (Dm ms) (Mine w κ (Dm ms)) w' r x
def CallOK(P:Program)(call:zcR):Prop:=
 ∀f args ms r ms',call f args ms=some (r,ms')->enters P f=true/\∀(w:World) (S:aD) (κ:Kap) (vals:aV),vals.size=args.length->(∀g,S g->g<w.heap.size)->Dr.ok S w->(∀(k:Nat) (a:AV) (x:Value),args[k]?=some a->vals[k]?=some x->VRel S κ (Dm ms) w a x)->(∀b ent,look ms b=some ent->EntAt S κ (Dm ms) w (κ b) ent)->(∀b b' g c c',Dm ms b->Dm ms b'->κ b=some (g,c)->κ b'=some (g,c')->b=b')->Calls P f vals w (Left S κ ms ms' r w)
def zoD:∀{m:Mem} {b:Nat} {ent:Ent},look m b=some ent->(b,ent)∈m
 |[],b,ent,h=>by simp[look]at h
 |(j,e)::r,b,ent,h=>by
   simp only[look]at h;split at h
   .simp_all
   .exact zbG _ (zoD h)
def zlB:∀{m:Mem} {b:Nat},b∈ids m->(look m b).isSome=true
 |[],b,h=>by simp[ids]at h
 |(j,e)::r,b,h=>by
   simp only[look];split
   .rfl
   . rename_i hne;simp[ids]at h;rcases h with h|⟨a,h⟩
     .exact absurd h hne
     .exact zlB (by simp[ids];exact⟨a,h⟩)
section
variable{S:aD}{κ:Kap}{D:aD}{w:World}{L:aK}
def zIZ{a:AV}{b z:Nat}{f:Nat->AV}(h:zsH a=some (b,z,f)){x:Value}(hx:VRel S κ D w a x):D b/\∀(m:Nat) (S':aD) (κ':Kap) (D':aD),D' m/\κ' m=κ b->VRel S' κ' D' w (f m) x:=by
 unfold zsH at h;split at h
 . injection h with h;injection h with h1 h;injection h with h2 h3;subst h1;subst h2;subst h3;obtain⟨vs,rfl,hl,h1,hr⟩:=hx.agg_inv;have hl2:vs.size=2:=hl;obtain⟨x0,e0⟩:∃x0,vs[0]?=some x0:=⟨_,zaN (show 0<vs.size by omega)⟩
   obtain⟨x1,e1⟩:∃x1,vs[1]?=some x1:=⟨_,zaN (show 1<vs.size by omega)⟩
   obtain⟨g,c,hd,hk,e⟩:=(hr 0 _ _ rfl e0).loc_inv;have ev:=(hr 1 _ _ rfl e1).v_inv;refine⟨hd,λm S' κ' D' hm=>.agg _ vs hl h1 λj c y hj hy=>?_⟩
   match j,hj with
   |0,hj=>injection hj with hj;subst hj;rw[e0]at hy;injection hy with hy;rw[<-hy,e];exact .loc _ _ _ _ _ _ hm.1 (hm.2.trans hk)
   |1,hj=>injection hj with hj;subst hj;rw[e1]at hy;injection hy with hy;rw[<-hy,ev];exact .c (.v _)
   |j+2,hj=>simp at hj
 . injection h with h;injection h with h1 h;injection h with h2 h3;subst h1;subst h2;subst h3;obtain⟨vs,rfl,hl,h1,hr⟩:=hx.agg_inv;have hl2:vs.size=2:=hl;obtain⟨x0,e0⟩:∃x0,vs[0]?=some x0:=⟨_,zaN (show 0<vs.size by omega)⟩
   obtain⟨x1,e1⟩:∃x1,vs[1]?=some x1:=⟨_,zaN (show 1<vs.size by omega)⟩
   obtain⟨g,c,hd,hk,e⟩:=(hr 1 _ _ rfl e1).loc_inv;have ev:=(hr 0 _ _ rfl e0).v_inv;refine⟨hd,λm S' κ' D' hm=>.agg _ vs hl h1 λj c y hj hy=>?_⟩
   match j,hj with
   |0,hj=>injection hj with hj;subst hj;rw[e0]at hy;injection hy with hy;rw[<-hy,ev];exact .c (.v _)
   |1,hj=>injection hj with hj;subst hj;rw[e1]at hy;injection hy with hy;rw[<-hy,e];exact .loc _ _ _ _ _ _ hm.1 (hm.2.trans hk)
   |j+2,hj=>simp at hj
 .cases h
def Num(k m b:Nat):Prop:=1000+k<=m\/(950+k<=m/\m<1000/\b<1000)
def zGe{wr:aO}(hL:∀b ent,L b=some ent->EntAt S κ D w (κ b) ent):∀(args:aN) (k:Nat) (bc:aN) (ms:Mem) (bk:ac) (fz:aO),zet L wr k args=some (bc,ms,bk,fz)->∀vals:List Value,vals.length=args.length->(∀(j:Nat) (a:AV) (x:Value),args[j]?=some a->vals[j]?=some x->VRel S κ D w a x)->bc.length=args.length/\(∀b∈fz,D b)/\(∀p∈bk,D p.1/\Num k p.2 p.1)/\(bk.map (·.1)).Nodup/\(bk.map (·.2)).Nodup/\bk.map (·.2)=ms.map (·.1)/\(∀p∈ms,∃b,(b,p.1)∈bk/\L b=some p.2/\(p.2.box=true->∀cs∈p.2.es,∀a∈cs,a.isC 4=true))/\∀(S':aD) (κ':Kap) (D':aD),(∀g,S g->S' g)->(∀b∈fz,∀g c,κ b=some (g,c)->S' g)->(∀p∈bk,D' p.2/\κ' p.2=κ p.1)->∀(j:Nat) (a:AV) (x:Value),bc[j]?=some a->vals[j]?=some x->VRel S' κ' D' w a x:=by
 intro args
 induction args with
 |nil=>intro k bc ms bk fz h vals _ _;simp[zet]at h;obtain⟨rfl,rfl,rfl,rfl⟩:=h;simp
 |cons a r ih =>
   intro k bc ms bk fz h vals hvl hv
   cases vals with
   |nil=>simp at hvl
   |cons x vals =>
     simp only[zet]at h
     cases hr:zet L wr (k+1) r with
     |none=>simp[hr]at h
     |some q =>
       obtain⟨as0,ms0,bk0,fz0⟩:=q;simp only[hr]at h;have ihr:=ih (k+1) as0 ms0 bk0 fz0 hr vals (by simpa using hvl) (λj a x hj hx=>hv (j+1) a x (by simpa using hj) (by simpa using hx));obtain⟨i1,i2,i3,i4,i5,i6,i7,i8⟩:=ihr;have hax:=hv 0 a x rfl rfl
       have fresh:∀m,m=1000+k\/(m=950+k/\k<50)->m ∉ bk0.map (·.2):=by intro m hmk hm;simp at hm;obtain⟨b,hb⟩:=hm;have:=(i3 _ hb).2;simp only[Num]at this;omega
       have wr_case:∀(m:Nat) (b:Nat) (ent:Ent) (av:AV),(m=1000+k\/(m=950+k/\k<50/\b<1000))->L b=some ent->D b->(bk0.all (λp=>p.1≠b))=true->(ent.box=true->∀cs∈ent.es,∀a∈cs,a.isC 4=true)->(∀(S':aD) (κ':Kap) (D':aD),(D' m/\κ' m=κ b)->VRel S' κ' D' w av x)->bc=av::as0->ms=(m,ent)::ms0->bk=(b,m)::bk0->fz=fz0->bc.length=(a::r).length/\(∀b∈fz,D b)/\(∀p∈bk,D p.1/\Num k p.2 p.1)/\(bk.map (·.1)).Nodup/\(bk.map (·.2)).Nodup/\bk.map (·.2)=ms.map (·.1)/\(∀p∈ms,∃b,(b,p.1)∈bk/\L b=some p.2/\(p.2.box=true->∀cs∈p.2.es,∀a∈cs,a.isC 4=true))/\∀(S':aD) (κ':Kap) (D':aD),(∀g,S g->S' g)->(∀b∈fz,∀g c,κ b=some (g,c)->S' g)->(∀p∈bk,D' p.2/\κ' p.2=κ p.1)->∀(j:Nat) (a:AV) (y:Value),bc[j]?=some a->(x::vals)[j]?=some y->VRel S' κ' D' w a y:=by
        intro m b ent av hm hl hd hall hcl hvr e1 e2 e3 e4;subst e1;subst e2;subst e3;subst e4;refine⟨by simp[i1],i2,?_,?_,?_,by simp[i6],?_,?_⟩
        . intro p hp;rcases zat.1 hp with rfl|hp
          .refine⟨hd,?_⟩;simp only[Num];omega
          .have:=i3 p hp;refine⟨this.1,?_⟩;have:=this.2;simp only[Num]at this ⊢;omega
        .simp only[zbx,zfd];refine⟨?_,i4⟩;intro hm;simp at hm;obtain⟨c,hc⟩:=hm;have:=zbd.1 hall _ hc;simp at this
        .simp only[zbx,zfd];exact⟨fresh m (by omega),i5⟩
        . intro p hp;rcases zat.1 hp with rfl|hp
          .exact⟨b,zdy,hl,hcl⟩
          .obtain⟨b',h1,h2,h3⟩:=i7 p hp;exact⟨b',zbG _ h1,h2,h3⟩
        . intro S' κ' D' hSS hfz hbk j a y hj hy
          cases j with
          |zero=>simp at hj hy;subst hj;subst hy;exact hvr S' κ' D' (hbk (b,m) zdy)
          |succ j=>exact i8 S' κ' D' hSS hfz (λp hp=>hbk p (zbG _ hp)) j a y (by simpa using hj) (by simpa using hy)
       split at h<;>rename_i hcnd<;>clear hcnd
       . split at h
         . rename_i b z
           cases hl:L b with
           |none=>simp[hl]at h
           |some ent =>
             simp only[hl]at h;split at h
             case isFalse=>cases h
             rename_i hc;obtain⟨hz,hbx,hcl,hall⟩:=hc;simp only[zaf,zan]at h;obtain⟨e1,e2,e3,e4⟩:=h;obtain⟨g,c,hd,hk,rfl⟩:=hax.loc_inv;refine wr_case (1000+k) b ent _ (.inl rfl) hl hd hall (λ_ cs hcs a ha=>zfO (zfO hcl cs hcs) a ha) ?_ e1.symm e2.symm e3.symm e4.symm;intro S' κ' D' hh;exact .loc (1000+k) z 0 0 g c hh.1 (hh.2.trans hk)
         . rename_i b z off n
           cases hl:L b with
           |none=>simp[hl]at h
           |some ent =>
             simp only[hl]at h;split at h
             case isFalse=>cases h
             rename_i hc;obtain⟨hz,hbx,hzp,hall⟩:=hc;simp only[zaf,zan]at h;obtain⟨e1,e2,e3,e4⟩:=h
             cases hax with
             |c h=>cases h
             |row0 _ _ hd hk=>refine wr_case (1000+k) b ent _ (.inl rfl) hl hd hall (λhb=>by rw[hbx]at hb;cases hb) ?_ e1.symm e2.symm e3.symm e4.symm;intro S' κ' D' hh;exact .row0 (1000+k) z hh.1 (hh.2.trans hk)
             |row _ _ _ _ g c off' cap hd hk hn ho hcc=>refine wr_case (1000+k) b ent _ (.inl rfl) hl hd hall (λhb=>by rw[hbx]at hb;cases hb) ?_ e1.symm e2.symm e3.symm e4.symm;intro S' κ' D' hh;exact .row (1000+k) z off n g c off' cap hh.1 (hh.2.trans hk) hn ho hcc
         . rename_i b
           cases hl:L b with
           |none=>simp[hl]at h
           |some ent =>
             simp only[hl]at h;split at h
             case isFalse=>cases h
             rename_i hc;obtain⟨hz,hbx,hall⟩:=hc;simp only[zaf,zan]at h;obtain⟨e1,e2,e3,e4⟩:=h;obtain⟨g,c,hd,hk,rfl⟩:=hax.map_inv;refine wr_case (1000+k) b ent _ (.inl rfl) hl hd hall (λhb=>by rw[hbx]at hb;cases hb) ?_ e1.symm e2.symm e3.symm e4.symm;intro S' κ' D' hh;exact .map (1000+k) g c hh.1 (hh.2.trans hk)
         . split at h
           case h_2=>cases h
           rename_i b z f hsl
           cases hl:L b with
           |none=>simp[hl]at h
           |some ent =>
             simp only[hl]at h;split at h
             case isFalse=>cases h
             rename_i hc;obtain⟨hz,hbx,hcl,hall⟩:=hc;simp only[zaf,zan]at h;obtain⟨e1,e2,e3,e4⟩:=h;obtain⟨hd,hvr⟩:=zIZ hsl hax;exact wr_case (1000+k) b ent _ (.inl rfl) hl hd hall (λ_ cs hcs a ha=>zfO (zfO hcl cs hcs) a ha) (hvr _) e1.symm e2.symm e3.symm e4.symm
       . split at h
         . split at h
           case h_2=>cases h
           rename_i b z n
           cases hl:L b with
           |none=>simp[hl]at h
           |some ent =>
             simp only[hl]at h;split at h
             case isFalse=>cases h
             rename_i hc;obtain⟨hz,hbx,hzp,hn,hb1,hk5,hall⟩:=hc;simp only[zaf,zan]at h;obtain⟨e1,e2,e3,e4⟩:=h
             cases hax with
             |c h=>cases h
             |row0 _ _ hd hk=>refine wr_case (950+k) b ent _ (.inr ⟨rfl,hk5,hb1⟩) hl hd hall (λhb=>by rw[hbx]at hb;cases hb) ?_ e1.symm e2.symm e3.symm e4.symm;intro S' κ' D' hh;exact .row0 (950+k) z hh.1 (hh.2.trans hk)
             |row _ _ _ _ g c off' cap hd hk hn ho hcc=>refine wr_case (950+k) b ent _ (.inr ⟨rfl,hk5,hb1⟩) hl hd hall (λhb=>by rw[hbx]at hb;cases hb) ?_ e1.symm e2.symm e3.symm e4.symm;intro S' κ' D' hh;exact .row (950+k) z 0 n g c off' cap hh.1 (hh.2.trans hk) hn ho hcc
         cases hs:snap L 5 a with
         |none=>simp[hs]at h
         |some a' =>
           simp only[hs,zaf,zan]at h;obtain⟨rfl,rfl,rfl,rfl⟩:=h;refine⟨by simp[i1],?_,λp hp=>⟨(i3 p hp).1,by have:=(i3 p hp).2;simp only[Num]at this ⊢;omega⟩,i4,i5,i6,i7,?_⟩
           . intro b hb;rcases zaX.1 hb with h|h
             .exact ids_D hL 5 a x hax b h
             .exact i2 b h
           . intro S' κ' D' hSS hfz hbk j c y hj hy
             cases j with
             |zero=>simp at hj hy;subst hj;subst hy;exact .c (zrK hL hSS 5 hax hs (λb hb=>hfz b (List.mem_append_left _ hb)))
             |succ j=>exact i8 S' κ' D' hSS (λb hb=>hfz b (List.mem_append_right _ hb)) hbk j c y (by simpa using hj) (by simpa using hy)
def zym{ms:Mem}:∀{bk:ac} {back:ah},backOf ms bk=some back->ids back=bk.map (·.1)/\∀p∈back,∃k,(p.1,k)∈bk/\look ms k=some p.2/\p.2.shut=true
 |[],back,h=>by simp[backOf]at h;subst h;simp[ids]
 |(b,k)::r,back,h=>by
   simp only[backOf]at h;split at h
   . rename_i ent l hl hr;split at h
     case isFalse=>cases h
     rename_i hsh;injection h with h;subst h;obtain⟨h1,h2⟩:=zym hr;refine⟨by simp[ids]at h1 ⊢;exact h1,λp hp=>?_⟩
     grind
   .cases h
def shut_spec{ent:Ent}(h:ent.shut=true):ent.box=true->∀cs∈ent.es,∀a∈cs,a.isC 4=true:=by unfold Ent.shut at h;intro hb;rw[hb]at h;simp only[zaS,Bool.false_or]at h;exact λcs hcs a ha=>zfO (zfO h cs hcs) a ha
def zuK{S':aD}{w':World}:∀(k:Nat) {a:AV} {x:Value},a.flat k=true->CRel S w a x->CRel S' w' a x
 |0,a,x,h,_=>by simp[AV.flat]at h
 |k+1,a,x,h,hr=>by
   cases a<;>simp[AV.flat]at h
   case v=>cases hr;exact .v _
   case agg cs =>
    cases hr with
    |agg _ vs hl h1 hp=>exact .agg cs vs hl h1 λj c x hc hx=>zuK k (zfO h c (zau hc)) (hp j c x hc hx)
   case tup cs =>
    cases hr with
    |tup _ vs hl hp=>exact .tup cs vs hl λj c x hc hx=>zuK k (zfO h c (zau hc)) (hp j c x hc hx)
def kapOf(κ:Kap)(bk:ac):Kap:=λk=>match bk.find? (λp=>p.2==k)with
 |some p=>κ p.1
 |none=>none
def zlA:∀{bk:ac},(bk.map (·.2)).Nodup->∀p∈bk,kapOf κ bk p.2=κ p.1
 |[],_,p,hp=>by cases hp
 |q::r,hn,p,hp=>by
   simp only[zbx,zfd]at hn;unfold kapOf;rw[List.find?_cons];rcases zat.1 hp with rfl|hp'
   .simp
   . have hne:(q.2==p.2)=false:=by rw[beq_eq_false_iff_ne];intro e;exact hn.1 (by simp_all)
     simp only[hne];exact zlA hn.2 p hp'
def zgS{p:Nat×Nat}:∀{bk:ac},p∈zig bk↔p∈bk/\1000<=p.2
 |[]=>by simp[zig]
 |(b,k)::r=>by
   simp only[zig];split
   . rename_i h;rw[zgS,zat]
     grind
   . rename_i h;rw[zat,zgS,zat]
     grind
def znn{b:Nat}:∀{bk:ac},b∈zg9 bk↔∃k,(b,k)∈bk/\k<1000
 |[]=>by simp[zg9]
 |(c,k)::r=>by
   simp only[zg9];split
   . rename_i h;rw[zat,znn]
     grind
   . rename_i h;rw[znn]
     grind
def zCX{g:aO}{r0 r:Res}(h:zy7 g r0=some r)(h0:r0.kill=none):r={ r0 with kill:=g.head? }/\∀b,b∈g↔g.head?=some b:=by
 unfold zy7 at h;split at h
 .injection h with h;subst h;refine⟨?_,by simp⟩;cases r0;grind
 .grind
 .cases h
def zLl{S S':aD}{w:World}{a:AV}{x:Value}(h:flatC a=true)(hr:CRel S w a x):CRel S' w a x:=by
 unfold flatC at h;split at h
 .cases hr;exact .v _
 . cases hr with
   |sl z es A len cap u hlen hcap hz ha hr=>exact .sl _ _ A len cap u hlen hcap hz (.inl rfl) (λi j cs c hi=>by simp at hi)
 .cases h
def zLn{S S':aD}{w:World}{kb:ag}{z:Nat}{e:TypeId}{es:aS}(h:flatR es=true)(hz:0<z)(hs:∀g c,kb=some (g,c)->¬S' g)(hE:EntC S w kb { z,e,es,box:=false }):EntC S' w kb { z,e,es,box:=false }:=by
 refine EntAt.of (.inr hz) ⟨(hE.1 (.inr hz)).1,?_⟩;have h2:=(hE.1 (.inr hz)).2
 cases kb with
 |none=>exact h2
 |some gc=>obtain⟨g,c⟩:=gc;obtain⟨cells,c1,c2,c3,c4,c5,c6⟩:=h2;refine⟨cells,c1,c2,c3,c4,hs g c rfl,λi j cs a hi hj=>?_⟩;obtain⟨u,u1,u2,_,u4⟩:=c6 i j cs a hi hj;exact⟨u,u1,u2,λhb=>by simp at hb,λhb=>zLl (zbd.1 (zbd.1 h cs (zau hi)) a (zau hj)) (u4 hb)⟩
def zAT{back:ah}{bk:ac}{fz:aO}{r:AV}{d:aZ}{res:Res}(h:zqO back bk fz r d=some res):res.kill=none:=by
 unfold zqO at h
 grind
def zKH{P:Program}{C:Cfg}{call:zcR}(hcall:CallOK P call){d:aZ}{f:FuncId}{args:aN}{r:Res}{vals:aV}
  (hS:∀g,S g->g<w.heap.size) (hk:Dr.ok S w) (hDL:∀b,D b↔(L b).isSome=true) (hinj:∀b b' g c c',D b->D b'->κ b=some (g,c)->κ b'=some (g,c')->b=b') (hdd:∀d',d=some d'->¬D d')
  (hL:∀b ent,L b=some ent->EntAt S κ D w (κ b) ent) (h:aCall C call L d f args=some r) (hl:vals.size=args.length)
  (hv:∀(j:Nat) (a:AV) (x:Value),args[j]?=some a->vals[j]?=some x->VRel S κ D w a x):enters P f=true/\Calls P f vals w λe w'=>∃x S' κ',e=.returned x/\EffAt S κ D w S' κ' r x w'/\∀b∈r.frz,D b/\b ∉ ids r.set/\r.kill≠some b:=by
 unfold aCall at h
 cases hp:zet L (C.wrt f) 0 args with
 |none=>simp[hp]at h
 |some q =>
   obtain⟨bc,ms,bk,fz⟩:=q;simp only[hp]at h;split at h
   case isFalse=>cases h
   rename_i hdis;split at h
   .cases h
   . rename_i rv ms' hc;split at h
     .cases h
     . rename_i back hback;obtain⟨p1,p2,p3,p4,p5,p6,p7,p8⟩:=zGe hL args 0 bc ms bk fz hp vals.toList (by simpa using hl) (λj a x hj hx=>hv j a x hj (by simpa using hx));obtain⟨hb,hcalls⟩:=hcall f bc ms rv ms' hc;refine⟨hb,?_⟩;obtain⟨b1,b2'⟩:=zym hback
       have b2:∀p∈back,∃k,(p.1,k)∈bk/\look ms' k=some p.2/\1000<=k/\p.2.shut=true:=λp hp=>by obtain⟨k,q1,q2,q3⟩:=b2' p hp;exact⟨k,(zgS.1 q1).1,q2,(zgS.1 q1).2,q3⟩
       split at h
       case isFalse=>cases h
       split at h
       case h_2=>cases h
       rename_i _ res hres0;obtain⟨hkr,hgk⟩:=zCX h (zAT hres0);subst hkr;clear h;have h:=hres0;clear hres0
       let Sc:Nat->Prop:=λg=>S g\/∃b c,b∈fz/\κ b=some (g,c)
       have hbk:∀p∈bk,Dm ms p.2/\kapOf κ bk p.2=κ p.1:=λp hp=>⟨zlB (by
        have:p.2∈bk.map (·.2):=zbf.2 ⟨p,hp,rfl⟩;rw[p6]at this
        exact this),zlA p5 p hp⟩
       have hms:∀k ent,look ms k=some ent->∃b,(b,k)∈bk/\L b=some ent/\(ent.box=true->∀cs∈ent.es,∀a∈cs,a.isC 4=true):=λk ent hk=>p7 (k,ent) (zoD hk)
       have hdisj:∀p∈bk,∀b∈fz,b≠p.1:=λp hp b hb=>by have h1:=zbd.1 hdis p hp;have h2:=zbd.1 h1 b hb;simpa using h2
       have hScne:∀p∈bk,∀g c,κ p.1=some (g,c)->¬S g->¬Sc g:=by
        intro p hp g c hk hn hs;rcases hs with h|⟨b,c',hb,hk'⟩
        .exact hn h
        .exact hdisj p hp b hb (hinj b p.1 g c' c (p2 b hb) (p3 p hp).1 hk' hk)
       refine(hcalls w Sc (kapOf κ bk) vals (by rw[hl,p1]) ?_ (Dr.keep hk (λ_ h=>.inl h) (λ_ _=>rfl)) ?_ ?_ ?_).mono ?_
       . intro g hg;rcases hg with h|⟨b,c,hb,hk⟩
         .exact hS g h
         .have hdb:=p2 b hb;obtain⟨ent,hent⟩:=zaT.1 ((hDL b).1 hdb);have:=hL b ent hent;rw[hk]at this;exact this.lt
       .exact λk a x hk hx=>p8 Sc (kapOf κ bk) (Dm ms) (λg h=>.inl h) (λb hb g c hk=>.inr ⟨b,c,hb,hk⟩) hbk k a x hk (by simpa using hx)
       .intro k ent hk;obtain⟨b,hbk',hlb,hcl⟩:=hms k ent hk;rw[zlA p5 _ hbk'];exact(hL b ent hlb).handed (λ_ h=>.inl h) (λg c hkb=>hScne (b,k) hbk' g c hkb (by have:=hL b ent hlb;rw[hkb]at this;exact this.notS)) hcl
       . intro k k' g c c' hk hk' e1 e2;obtain⟨ent,hent⟩:=zaT.1 hk;obtain⟨ent',hent'⟩:=zaT.1 hk';obtain⟨b,hb,_⟩:=hms k ent hent;obtain⟨b',hb',_⟩:=hms k' ent' hent';rw[zlA p5 _ hb]at e1;rw[zlA p5 _ hb']at e2;have hbb:=hinj b b' g c c' (p3 _ hb).1 (p3 _ hb').1 e1 e2;subst hbb
         have inj1:∀(l:ac),(l.map (·.1)).Nodup->∀x y z,(x,y)∈l->(x,z)∈l->y=z:=by
          intro l hn
          induction l with
          |nil=>intro x y z h;cases h
          |cons q l ihl =>
            intro x y z h1 h2;simp only[zbx,zfd]at hn;rcases zat.1 h1 with rfl|h1'
            . rcases zat.1 h2 with h2'|h2'
              .injection h2' with _ h2';exact h2'.symm
              .exact absurd (zbf.2 ⟨_,h2',rfl⟩) hn.1
            . rcases zat.1 h2 with h2'|h2'
              .exact absurd (zbf.2 ⟨_,h1',by rw[<-h2']⟩) hn.1
              .exact ihl hn.2 x y z h1' h2'
         exact inj1 bk p4 _ _ _ hb hb'
       . rintro e w' ⟨x,S1,κ1,rfl,hos,htape,hout,hsz,hblk,hsup,hsnew,hslt,hpar,hmine,hinj1,hents,hres⟩
         have hfr:∀b∈(frzOf rv bk fz),D b/\b∈fz:=by
          intro b hb;unfold frzOf at hb;split at hb
          .cases hb
          .exact⟨p2 b hb,hb⟩
         have hMine:∀g,Mine w (kapOf κ bk) (Dm ms) g->w.heap.size<=g\/∃b c,b∈zg9 bk/\D b/\κ b=some (g,c):=by
          rintro g (h|⟨k,c,hk1,hk2,hk3⟩)
          .exact .inl h
          .obtain⟨ent,hent⟩:=zaT.1 hk2;obtain⟨b,hb,_⟩:=hms k ent hent;rw[zlA p5 _ hb]at hk3;exact .inr ⟨b,c,znn.2 ⟨k,hb,hk1⟩,(p3 _ hb).1,hk3⟩
         have hbackD:∀p∈back,D p.1:=λp hp=>by obtain⟨k,hk,_⟩:=b2 p hp;exact(p3 _ hk).1
         have hbackfz:∀b∈fz,b ∉ ids back:=by intro b hb hm;rw[b1]at hm;obtain⟨p,hp,rfl⟩:=zbf.1 hm;exact hdisj p (zgS.1 hp).1 p.1 hb rfl
         obtain⟨S2,hS2a,hS2b,hS2c,hS2d,hS2e,hS2f⟩:∃S2:Nat->Prop,(∀g,S g->S2 g)/\(∀g,S2 g->S1 g)/\(∀g,S2 g->S g\/w.heap.size<=g\/∃b c,(b∈(frzOf rv bk fz)\/b∈zg9 bk)/\D b/\κ b=some (g,c))/\(bk≠[]->S2=S1)/\(rv.flat 4=false->rv.newTup=false->S2=S1)/\(∀b∈frzOf rv bk fz,∀g c,κ b=some (g,c)->S2 g):=by
          by_cases hfl:((rv.flat 4||rv.newTup)&&bk.isEmpty)=true
          .simp only[frzOf,hfl,if_true];simp only[zaU,zdS,List.isEmpty_iff]at hfl;exact⟨S,λ_ h=>h,λg h=>hsup g (.inl h),λg h=>.inl h,λh=>absurd hfl.2 h,(λh h'=>by rw[h,h']at hfl;simp at hfl),by simp⟩
          . simp only[frzOf,hfl,if_false,za0];refine⟨S1,λg h=>hsup g (.inl h),λ_ h=>h,λg h=>?_,λ_=>rfl,λ_ _=>rfl,λb hb g c hk=>hsup g (.inr ⟨b,c,hb,hk⟩)⟩;rcases hsnew g h with h|h
            . rcases h with h|⟨b,c,hb,hk⟩
              .exact .inl h
              .exact .inr (.inr ⟨b,c,.inl hb,p2 b hb,hk⟩)
            . rcases hMine g h with h|⟨b,c,q1,q2,q3⟩
              .exact .inr (.inl h)
              .exact .inr (.inr ⟨b,c,.inr q1,q2,q3⟩)
         have hcell:∀g,S g->w'.heap[g]?=w.heap[g]?:=λg hg=>hblk g (hS g hg) (λk c hk hkk=>by
          obtain⟨ent,hent⟩:=zaT.1 hk;obtain⟨b,hb,hlb,_⟩:=hms k ent hent;rw[zlA p5 _ hb]at hkk;have:=hL b ent hlb;rw[hkk]at this
          exact this.notS hg)
         have fin:∀(newset:ah) (κ':Kap) (val:AV),(∀b,D b->κ' b=κ b)->(∀b,b ∉ ids newset->κ' b=κ b)->(∀p∈newset,¬D p.1/\(∀g c,κ' p.1=some (g,c)->w.heap.size<=g\/∃b0 c0,b0∈zg9 bk/\D b0/\κ b0=some (g,c0))/\EntC S2 w' (κ' p.1) p.2)->(∀p∈newset,∀p'∈newset,p.1=p'.1)->(∀D':Nat->Prop,(∀p∈newset,D' p.1)->(∀b∈ids back,D' b)->VRel S2 κ' D' w' val x)->EffAt S κ D w S2 κ' { val:=val,set:=newset++back,frz:=frzOf rv bk fz,kill:=(zg9 bk).head? } x w':=by
          intro newset κ' val hk1 hk2 hnew hone hval
          exact{
           os:=hos
           tape:=htape
           output:=hout
           size:=hsz
           blk:=λg hg hbb=>hblk g hg (λk c hk hkk=>by
            obtain⟨ent,hent⟩:=zaT.1 hk;obtain⟨b,hb,hlb,_⟩:=hms k ent hent;rw[zlA p5 _ hb]at hkk;by_cases hk1:k<1000
            .exact hbb b c (.inr ((hgk b).1 (znn.2 ⟨k,hb,hk1⟩))) (p3 _ hb).1 hkk
            refine hbb b c (.inl ?_) (p3 _ hb).1 hkk;have:b∈ids back:=by rw[b1];exact zbf.2 ⟨_,zgS.2 ⟨hb,by simp;omega⟩,rfl⟩
            simp[ids]at this ⊢
            exact .inr this)
           sup:=hS2a
           snew:=λg hg=>(hS2c g hg).imp id (λq=>q.imp id (λ⟨b,c,h1,h2⟩=>⟨b,c,h1.imp id (λq=>.inl ((hgk b).1 q)),h2⟩))
           slt:=λg h=>hslt g (hS2b g h)
           sfrz:=hS2f
           kold:=λb hb _=>hk1 b hb
           kout:=λb hb=>hk2 b (λhm=>hb (by simp[ids]at hm ⊢;exact .inl hm))
           res:=λb hb=>by cases hb
           knew:=λb hnd' hb g c hk=>by
            have hnd:¬D b:=λhd=>by have:=hnd' hd;cases this
            simp[ids]at hb;rcases hb with⟨en,hb⟩|⟨en,hb⟩
            . rcases(hnew _ hb).2.1 g c hk with q|⟨b0,c0,q1,q2⟩
              .exact .inl q
              .exact .inr ⟨b0,c0,.inl ((hgk b0).1 q1),q2⟩
            .exact absurd (hbackD _ hb) hnd
           one:=λb b' h1' h2' hb hb' _ _ _ _ _=>by
            have h1:¬D b:=λhd=>by have:=h1' hd;cases this
            have h2:¬D b':=λhd=>by have:=h2' hd;cases this
            simp[ids]at hb hb';rcases hb with⟨en,hb⟩|⟨en,hb⟩
            . rcases hb' with⟨en',hb'⟩|⟨en',hb'⟩
              .exact hone _ hb _ hb'
              .exact absurd (hbackD _ hb') h2
            .exact absurd (hbackD _ hb) h1
           ents:=λb ent hb=>by
            rcases zaX.1 hb with hb|hb
            .refine(hnew _ hb).2.2.mono (λ_ h=>h) (λ_ _=>rfl) (λ_ h=>h.elim) (λ_ h=>h.elim) (λg c hk=>⟨rfl,?_⟩);have:=(hnew _ hb).2.2;simp only at this hk;rw[hk]at this;exact this.notS
            . obtain⟨k,hk,hlk,hk1000,hsh⟩:=b2 _ hb;obtain⟨_,hE0⟩:=hents k ent hlk;have hE:EntC S1 w' (κ1 k) ent:=hE0.handed (λ_ h=>h) (λg c hk=>by rw[hk]at hE0;exact hE0.notS) (shut_spec hsh);rw[hpar k hk1000,zlA p5 _ hk]at hE;rw[hk1 b (p3 _ hk).1];have hne:bk≠[]:=λe=>by rw[e]at hk;cases hk
              rw[hS2d hne];simp only at hE;refine hE.mono (λ_ h=>h) (λ_ _=>rfl) (λ_ h=>h.elim) (λ_ h=>h.elim) (λg c hkk=>⟨rfl,?_⟩);rw[hkk]at hE;exact hE.notS
           val:=hval _ (λp hp=>.inr (by simp[ids];exact .inl ⟨p.2,hp⟩)) (λb hb=>.inr (by simp[ids]at hb ⊢;exact .inr hb)) }
         have dis:∀(newset:ah) (val:AV),(∀p∈newset,¬D p.1)->∀b∈({ val:=val,set:=newset++back,frz:=frzOf rv bk fz }:Res).frz,D b/\b ∉ ids (newset++back)/\(zg9 bk).head?≠some b:=by
          intro newset val hn b hb;obtain⟨h1,h2⟩:=hfr b hb;refine⟨h1,λhm=>?_,λhm=>?_⟩
          rotate_left
          .obtain⟨k,hk,_⟩:=znn.1 ((hgk b).2 hm);exact hdisj _ hk b h2 rfl
          simp[ids]at hm;rcases hm with⟨en,hm⟩|⟨en,hm⟩
          .exact hn _ hm h1
          .exact hbackfz b h2 (by simp[ids];exact⟨en,hm⟩)
         unfold zqO at h
         have plain:rv.newTup=false->CRel S1 w' rv x->res={ val:=rv,set:=back,frz:=frzOf rv bk fz }->∃x_1 S' κ',(Ending.returned x=Ending.returned x_1)/\EffAt S κ D w S' κ' { res with kill:=(zg9 bk).head? } x_1 w'/\∀b∈res.frz,D b/\b ∉ ids res.set/\(zg9 bk).head?≠some b:=by
          intro hnt hrel e;subst e
          have hrel2:CRel S2 w' rv x:=by
           by_cases hfl:rv.flat 4=true
           .exact zuK 4 hfl hrel
           .rw[hS2e (by simpa using hfl) hnt];exact hrel
          have:=fin [] κ rv (λ_ _=>rfl) (λ_ _=>rfl) (by simp) (by simp) (λD' _ _=>.c hrel2);exact⟨x,S2,κ,rfl,this,dis [] rv (by simp)⟩
         cases rv with
         |new z e es =>
           cases d with
           |none=>simp at h
           |some d =>
             simp only[zaf]at h;subst h;have hnd:=hdd d rfl;have hfl:(AV.new z e es).flat 4=false:=rfl;have hS2:=hS2e hfl rfl;subst hS2;obtain⟨hzp,hres⟩:=hres;rcases hres with⟨rfl,rfl⟩|⟨g,c,hg,rfl,hE⟩
             . refine⟨_,_,λb=>if b=d then none else κ b,rfl,fin [(d,{ z,e,es:=[],box:=false })] _ (.row d z 0 0) (λb hb=>if_neg (λe=>hnd (by subst e;exact hb))) (λb hb=>if_neg (λe=>hb (by simp[ids,e]))) ?_ (by simp) ?_,dis [(d,_)] (.row d z 0 0) (by simpa using hnd)⟩
               .intro p hp;simp at hp;subst hp;exact⟨hnd,by simp,EntAt.of (.inr hzp) (by simp[CellAt])⟩
               .intro D' hD' _;exact .row0 d z (hD' (d,{ z,e,es:=[],box:=false }) (by simp)) (by simp)
             . refine⟨_,_,λb=>if b=d then some (g,c)else κ b,rfl,fin [(d,{ z,e,es,box:=false })] _ (.row d z 0 es.length) (λb hb=>if_neg (λe=>hnd (by subst e;exact hb))) (λb hb=>if_neg (λe=>hb (by simp[ids,e]))) ?_ (by simp) ?_,dis [(d,_)] (.row d z 0 es.length) (by simpa using hnd)⟩
               .intro p hp;simp at hp;subst hp;refine⟨hnd,λg' c' hk=>?_,by simpa using hE⟩;simp at hk;obtain⟨rfl,rfl⟩:=hk;exact hMine _ hg
               .intro D' hD' _;have hle:=(hE.1 (.inr hzp)).2.choose_spec.2.2.1;exact .row d z 0 es.length g c 0 c (hD' (d,{ z,e,es,box:=false }) (by simp)) (by simp) hle (.inl (by simp)) (λ_=>rfl)
         |newp z e cs =>
           cases d with
           |none=>simp at h
           |some d =>
             simp only[zaf]at h;subst h;have hnd:=hdd d rfl;have hfl:(AV.newp z e cs).flat 4=false:=rfl;have hS2:=hS2e hfl rfl;subst hS2;obtain⟨g,c,hg,rfl,hE⟩:=hres;refine⟨_,_,λb=>if b=d then some (g,c)else κ b,rfl,fin [(d,{ z,e,es:=[cs],box:=true })] _ (.loc d z 0 0) (λb hb=>if_neg (λe=>hnd (by subst e;exact hb))) (λb hb=>if_neg (λe=>hb (by simp[ids,e]))) ?_ (by simp) ?_,dis [(d,_)] (.loc d z 0 0) (by simpa using hnd)⟩
             .intro p hp;simp at hp;subst hp;refine⟨hnd,λg' c' hk=>?_,by simpa using hE⟩;simp at hk;obtain⟨rfl,rfl⟩:=hk;exact hMine _ hg
             .intro D' hD' _;have:=VRel.loc (S:=S2) (κ:=λb=>if b=d then some (g,c)else κ b) (D:=D') (w:=w') d z 0 0 g c (hD' (d,{ z,e,es:=[cs],box:=true }) (by simp)) (by simp);simpa using this
         |newm e es =>
           cases d with
           |none=>simp at h
           |some d =>
             simp only[zaf]at h;subst h;have hnd:=hdd d rfl;have hfl:(AV.newm e es).flat 4=false:=rfl;have hS2:=hS2e hfl rfl;subst hS2;obtain⟨g,c,hg,rfl,hE⟩:=hres;refine⟨_,_,λb=>if b=d then some (g,c)else κ b,rfl,fin [(d,{ z:=0,e,es,box:=false })] _ (.map d) (λb hb=>if_neg (λe=>hnd (by subst e;exact hb))) (λb hb=>if_neg (λe=>hb (by simp[ids,e]))) ?_ (by simp) ?_,dis [(d,_)] (.map d) (by simpa using hnd)⟩
             .intro p hp;simp at hp;subst hp;refine⟨hnd,λg' c' hk=>?_,by simpa using hE⟩;simp at hk;obtain⟨rfl,rfl⟩:=hk;exact hMine _ hg
             .intro D' hD' _;exact .map d g c (hD' (d,{ z:=0,e,es,box:=false }) (by simp)) (by simp)
         |map b=>simp at h
         |row b z off n =>
           simp only at h
           cases hf:(zig bk).find? (λp=>p.2==b)with
           |none=>rw[hf]at h;cases h
           |some p =>
             rw[hf]at h;simp only[zaf]at h;subst h;have hpm':p∈zig bk:=zcG hf;have hpm:p∈bk:=(zgS.1 hpm').1;have hpb:p.2=b:=by simpa using zel hf
             have hke:kapOf κ bk b=κ p.1:=by rw[<-hpb];exact(hbk p hpm).2
             have hinb:p.1∈ids back:=by rw[b1];exact zbf.2 ⟨_,hpm',rfl⟩
             have hS2:=hS2e rfl rfl;subst hS2;refine⟨x,S2,κ,rfl,fin [] κ (.row p.1 z off n) (λ_ _=>rfl) (λ_ _=>rfl) (by simp) (by simp) ?_,dis [] (.row p.1 z off n) (by simp)⟩;intro D' _ hB;have hD':=hB p.1 hinb
             cases hres with
             |c h=>cases h
             |row0 _ _ hd hk=>exact .row0 p.1 z hD' (by rw[<-hke];exact hk)
             |row _ _ _ _ g c off' cap hd hk hn ho hc=>exact .row p.1 z off n g c off' cap hD' (by rw[<-hke];exact hk) hn ho hc
         |loc b z i o =>
           simp only at h
           cases hf:(zig bk).find? (λp=>p.2==b)with
           |none=>rw[hf]at h;cases h
           |some p =>
             rw[hf]at h;simp only[zaf]at h;subst h;have hpm':p∈zig bk:=zcG hf;have hpm:p∈bk:=(zgS.1 hpm').1;have hpb:p.2=b:=by simpa using zel hf
             have hke:kapOf κ bk b=κ p.1:=by rw[<-hpb];exact(hbk p hpm).2
             have hinb:p.1∈ids back:=by rw[b1];exact zbf.2 ⟨_,hpm',rfl⟩
             have hS2:=hS2e rfl rfl;subst hS2;refine⟨x,S2,κ,rfl,fin [] κ (.loc p.1 z i o) (λ_ _=>rfl) (λ_ _=>rfl) (by simp) (by simp) ?_,dis [] (.loc p.1 z i o) (by simp)⟩;intro D' _ hB;have hD':=hB p.1 hinb
             cases hres with
             |c h=>cases h
             |loc _ _ _ _ g c hd hk=>exact .loc p.1 z i o g c hD' (by rw[<-hke];exact hk)
         |tup cs =>
           by_cases hnt:(AV.tup cs).newTup=true
           . unfold AV.newTup at hnt;split at hnt
             case h_2=>cases hnt
             rename_i z e es u hcs;injection hcs with hcs;subst hcs
             cases d with
             |none=>simp at h
             |some d =>
               simp only at h;split at h
               case isFalse=>cases h
               rename_i hfl;injection h with h;subst h;have hnd:=hdd d rfl;obtain⟨y,rfl,hzp,hres⟩:=hres
               have pair:∀(κ':Kap) (D':aD) (n:Nat),VRel S2 κ' D' w' (.row d z 0 n) y->VRel S2 κ' D' w' (.tup [.row d z 0 n,.v u]) (.tuple #[y,u]):=by
                intro κ' D' n hy;refine .tup _ _ (by simp) λj c q hj hq=>?_
                match j,hj with
                |0,hj=>simp at hj hq;subst hj;subst hq;exact hy
                |1,hj=>simp at hj hq;subst hj;subst hq;exact .c (.v _)
                |j+2,hj=>simp at hj
               rcases hres with⟨rfl,rfl⟩|⟨g,c,hg,rfl,hE⟩
               . refine⟨_,_,λb=>if b=d then none else κ b,rfl,fin [(d,{ z,e,es:=[],box:=false })] _ (.tup [.row d z 0 0,.v u]) (λb hb=>if_neg (λe=>hnd (by subst e;exact hb))) (λb hb=>if_neg (λe=>hb (by simp[ids,e]))) ?_ (by simp) ?_,dis [(d,_)] (.tup [.row d z 0 0,.v u]) (by simpa using hnd)⟩
                 .intro p hp;simp at hp;subst hp;exact⟨hnd,by simp,EntAt.of (.inr hzp) (by simp[CellAt])⟩
                 .intro D' hD' _;exact pair _ _ _ (.row0 d z (hD' (d,{ z,e,es:=[],box:=false }) (by simp)) (by simp))
               . have hE2:EntC S2 w' (some (g,c)) { z,e,es,box:=false }:=zLn hfl hzp (λg' c' hk hs=>by injection hk with hk;injection hk with h1 h2;subst h1;exact hE.notS (hS2b _ hs)) hE;refine⟨_,_,λb=>if b=d then some (g,c)else κ b,rfl,fin [(d,{ z,e,es,box:=false })] _ (.tup [.row d z 0 es.length,.v u]) (λb hb=>if_neg (λe=>hnd (by subst e;exact hb))) (λb hb=>if_neg (λe=>hb (by simp[ids,e]))) ?_ (by simp) ?_,dis [(d,_)] (.tup [.row d z 0 es.length,.v u]) (by simpa using hnd)⟩
                 .intro p hp;simp at hp;subst hp;refine⟨hnd,λg' c' hk=>?_,by simpa using hE2⟩;simp at hk;obtain⟨rfl,rfl⟩:=hk;exact hMine _ hg
                 .intro D' hD' _;have hle:=(hE.1 (.inr hzp)).2.choose_spec.2.2.1;exact pair _ _ _ (.row d z 0 es.length g c 0 c (hD' (d,{ z,e,es,box:=false }) (by simp)) (by simp) hle (.inl (by simp)) (λ_=>rfl))
           . have hnt':(AV.tup cs).newTup=false:=by simpa using hnt
             have hres':CRel S1 w' (.tup cs) x:=RRel.plain hnt' hres;refine plain hnt' hres' ?_;split at h
             all_goals first
              |(rename_i he _;cases he;done)
              |(rename_i he;cases he;done)
              |(rename_i he _;injection he with he;subst he;simp[AV.newTup]at hnt')
              |(rename_i he;injection he with he;subst he;simp[AV.newTup]at hnt')
              |exact(zbb h).symm
         |_=>simp only[zaf]at h;exact plain rfl hres h.symm
end
end
open Go.RowKit
section
variable{P:Program}{S:aD}{κ:Kap}{D:aD}{w:World}{L:aK}
def zlt{o:Oper}{E:aa}{r:Res}{ρ:ak}(hs:∀cs b,o.op≠.select cs b)(hE:∀x∈o.op.operands,VRel S κ D w (E x) (ρ x))(h:aPure P o E=some r):∃y,(execOp ρ o).run P w=.ok (.value y) w/\VRel S κ D w r.val y/\r.set=[]/\r.kill=none/\r.frz=[]/\r.re=[]:=by
 unfold aPure at h;split at h
 case isFalse=>cases h
 rename_i hall
 have hcongr:execOp ρ o=execOp (λx=>((E x).toVal).getD undef) o:=execOp_congr o hs (λx hx=>by
  have h1:=zbd.1 hall x (by simpa using hx);obtain⟨y,hy⟩:=zaT.1 h1;simp only[hy,zci]
  exact zCU hy (hE x hx))
 split at h
 case h_2=>cases h
 rename_i x hx;split at h
 case h_2=>cases h
 rename_i av hav;injection h with h;subst h;refine⟨x,?_,.c (zLv hav),rfl,rfl,rfl,rfl⟩;rw[hcongr];exact ztX P _ _ hx w
def IsOf(P:Program)(t:TypeId)(xs:af)(x:Value):Prop:=(isAggB P t=some true/\x=.agg xs.toArray)\/(isAggB P t=some false/\xs=[x])
def aggD:TypeDesc->Bool
 |.struct _=>true
 |.array _ _=>true
 |_=>false
def zjP{t:TypeId}{td:TypeDesc}(h:P.underlying t=some td):isAggB P t=some (aggD td):=by unfold isAggB;rw[h];cases td<;>rfl
def eqV_agg{k:Nat}{t:TypeId}{xs ys:af}{r:Bool}(h:eqV P k t xs ys=some r):isAggB P t=some true\/(isAggB P t=some false/\(∃x,xs=[x])/\∃y,ys=[y]):=by
 cases k with
 |zero=>simp[eqV]at h
 |succ k =>
   unfold eqV at h;split at h
   . rename_i hu;split at h
     .exact .inr ⟨zjP hu,⟨_,rfl⟩,_,rfl⟩
     .cases h
   . rename_i hu;split at h
     .exact .inr ⟨zjP hu,⟨_,rfl⟩,_,rfl⟩
     .cases h
   . rename_i hu;split at h
     .exact .inr ⟨zjP hu,⟨_,rfl⟩,_,rfl⟩
     .cases h
   .rename_i hu;exact .inl (zjP hu)
   .rename_i hu;exact .inl (zjP hu)
   .cases h
def part_of{t:TypeId}{arr:aV}{off n:Nat}(w:World)(hn:szB P t=some n)(h:isAggB P t=some true\/(isAggB P t=some false/\∃x,(arr.toList.drop off).take n=[x])):∃y,(part t arr off).run P w=.ok y w/\IsOf P t ((arr.toList.drop off).take n) y:=by
 rcases h with h|⟨h,x,hx⟩
 . refine⟨.agg (arr.extract off (off+n)),?_,.inl ⟨h,?_⟩⟩
   .simp only[part,Sem.run_bind,zoy h,Result.andThen_ok,if_true,zdY hn,Sem.run_pure]
   . congr 1
     grind
 . have hget:arr[off]?=some x:=by
    have h0:((arr.toList.drop off).take n)[0]?=some x:=by rw[hx];rfl
    rw[zcw]at h0;split at h0
    .simp_all
    .cases h0
   refine⟨x,?_,.inr ⟨h,hx⟩⟩;simp only[part,Sem.run_bind,zoy h,Result.andThen_ok,za0,if_false,hget,Sem.run_pure]
def zuI{a b:Option Bool}{r:Bool}(h:eqAnd a b=some r):∃x y,a=some x/\b=some y/\r=(x&&y):=by
 cases a<;>cases b<;>simp[eqAnd]at h
 simp_all
def zAS:∀(k:Nat) (t:TypeId) (xs ys:af) (r:Bool),eqV P k t xs ys=some r->∀(d:Nat) (x y:Value) (w:World),IsOf P t xs x->IsOf P t ys y->(Op.equalIn (d+k) t x y).run P w=.ok r w:=by
 intro k
 induction k with
 |zero=>intro t xs ys r h;simp[eqV]at h
 |succ k ih =>
   intro t xs ys r h d x y w hx hy
   have step:∀(u:TypeId) (xs ys:af) (n off:Nat) (r1:Bool) (w:World),szB P u=some n->eqV P k u ((xs.drop off).take n) ((ys.drop off).take n)=some r1->∃a b,(part u xs.toArray off).run P w=.ok a w/\(part u ys.toArray off).run P w=.ok b w/\(Op.equalIn (d+k) u a b).run P w=.ok r1 w:=by intro u xs ys n off r1 w hn he;have hs:=eqV_agg he;obtain⟨a,ha,ia⟩:=part_of (arr:=xs.toArray) (off:=off) w hn (hs.imp id (λq=>⟨q.1,q.2.1⟩));obtain⟨b,hb,ib⟩:=part_of (arr:=ys.toArray) (off:=off) w hn (hs.imp id (λq=>⟨q.1,q.2.2⟩));exact⟨a,b,ha,hb,ih u _ _ r1 he d a b w ia ib⟩
   have one:∀{td:TypeDesc} {a b:Value},P.underlying t=some td->aggD td=false->xs=[a]->ys=[b]->x=a/\y=b:=by
    intro td a b hu hf h1 h2;have hagg:=zjP hu;rw[hf]at hagg;rcases hx with⟨q,_⟩|⟨_,q⟩
    .grind
    . rcases hy with⟨q',_⟩|⟨_,q'⟩
      .grind
      simp_all
   have two:∀{td:TypeDesc},P.underlying t=some td->aggD td=true->x=.agg xs.toArray/\y=.agg ys.toArray:=by
    intro td hu hf;have hagg:=zjP hu;rw[hf]at hagg;rcases hx with⟨_,q⟩|⟨q,_⟩
    . rcases hy with⟨_,q'⟩|⟨q',_⟩
      .exact⟨q,q'⟩
      simp_all
    .grind
   unfold eqV at h;split at h
   . rename_i hu;split at h
     .injection h with h;obtain⟨rfl,rfl⟩:=one hu rfl rfl rfl;rw[<-h];exact run_equalIn_bool' w (d+k) t _ _ hu
     .cases h
   . rename_i q hu;split at h
     . split at h
       .rename_i hq;subst hq;injection h with h;obtain⟨rfl,rfl⟩:=one hu rfl rfl rfl;rw[<-h];exact run_equalIn_int w (d+k) t _ _ _ _ hu
       .cases h
     .cases h
   . rename_i hu;split at h
     .injection h with h;obtain⟨rfl,rfl⟩:=one hu rfl rfl rfl;rw[<-h,beq_toListBytes];exact run_equalIn_string w (d+k) t _ _ hu
     .cases h
   . rename_i fs hu;split at h
     .cases h
     rename_i hst;obtain⟨rfl,rfl⟩:=two hu rfl;have hfs:P.fieldsOf t=fs:=by simp[Program.fieldsOf,hu]
     rw[show d+(k+1)=(d+k)+1 from rfl,run_equalIn_struct w (d+k) t _ _ (by rw[hfs];exact hu) (by simpa using hst),hfs];generalize fs.toList=l at h;clear hu hfs
     induction l generalizing r w with
     |nil=>simp only[eqFs]at h;injection h with h;subst h;simp[Op.eqFields]
     |cons f l ihl =>
       simp only[eqFs]at h;simp only[Op.eqFields];split at h
       . rename_i hn;rw[if_pos hn];split at h
         . rename_i n hsz;obtain⟨r1,r2,e1,e2,rfl⟩:=zuI h;obtain⟨a,b,p1,p2,p3⟩:=step f.type xs ys n f.offset r1 w hsz e1;simp only[Sem.run_bind,p1,p2,p3,Result.andThen_ok]
           cases r1 with
           |false=>simp
           |true=>grind
         .cases h
       grind
   . rename_i n e hu;split at h
     case h_2=>cases h
     rename_i c hc;obtain⟨rfl,rfl⟩:=two hu rfl
     obtain⟨i,hi⟩:∃i,P.info? e=some i:=by
      cases hq:P.info? e with
      |none=>simp[szB,hq]at hc
      |some i=>exact⟨i,rfl⟩
     have hcell:P.cellsOf e=c:=by simp only[szB]at hc;simp only[Program.cellsOf];rw[hc];rfl
     rw[show d+(k+1)=(d+k)+1 from rfl,run_equalIn_array w (d+k) _ _ hu hi,hcell];generalize List.range n=l at h;clear hu
     induction l generalizing r w with
     |nil=>simp only[eqIs]at h;injection h with h;subst h;simp[Op.eqItems]
     |cons j l ihl =>
       simp only[eqIs]at h;simp only[Op.eqItems];obtain⟨r1,r2,e1,e2,rfl⟩:=zuI h;obtain⟨a,b,p1,p2,p3⟩:=step e xs ys c (j*c) r1 w hc e1;simp only[Sem.run_bind,p1,p2,p3,Result.andThen_ok]
       cases r1 with
       |false=>simp
       |true=>grind
   .cases h
def znu{cs:aN}{l:af}{v:Value}(h:mapO AV.scal cs=some l)(hr:VRel S κ D w (.agg cs) v):v=.agg l.toArray:=by
 have:(AV.agg cs).toVal=some (.agg l.toArray):=by simp[AV.toVal,h]
 exact zCU this hr
def aEq_sound{o:Oper}{op:BinOp}{t u:TypeId}{x y:Operand}{cs ds:aN}{r:Res}{ρ:ak}(ho:o.op=.binOp op t x y u)(h:aEq P op t cs ds=some r)
  (hx:VRel S κ D w (.agg cs) (ρ x)) (hy:VRel S κ D w (.agg ds) (ρ y)):∃b,(execOp ρ o).run P w=.ok (.value (.bool b)) w/\r={ val:=.v (.bool b) }:=by
 unfold aEq at h;split at h
 case h_2=>cases h
 rename_i xs ys h1 h2;split at h
 .cases h
 rename_i hg;have ex:=znu h1 hx;have ey:=znu h2 hy;have hg':P.eqGuardType P.depth t=false:=by simpa using hg
 split at h
 . rename_i b ha he;injection h with h;refine⟨b,?_,h.symm⟩;have:=zAS (P:=P) 20 t xs ys b he 9980 _ _ w (.inl ⟨ha,rfl⟩) (.inl ⟨ha,rfl⟩);simp only[execOp,ho,ex,ey,Sem.run_bind,run_eqGuard_agg w .eql t x y _ _ hg',Result.andThen_ok,run_eql_struct]
   simp_all
 . rename_i b ha he;injection h with h;refine⟨!b,?_,h.symm⟩;have:=zAS (P:=P) 20 t xs ys b he 9980 _ _ w (.inl ⟨ha,rfl⟩) (.inl ⟨ha,rfl⟩);simp only[execOp,ho,ex,ey,Sem.run_bind,run_eqGuard_agg w .neq t x y _ _ hg',Result.andThen_ok,run_neq_struct]
   simp_all
 .cases h
def zLk{t e:TypeId}{p:Addr}(hu:P.underlying t=some (.pointer e))(d:Nat):(Op.equalIn (d+1) t (.pointer (some p)) (.pointer none)).run P w=.ok false w:=by simp only[Op.equalIn,Sem.run_bind,run_underlying hu,Result.andThen_ok,Sem.run_pure]
def nil_run{o:Oper}{op:BinOp}{t u e:TypeId}{x y:Operand}{p:Addr}{r:Res}{ρ:ak}(ho:o.op=.binOp op t x y u)(hu:P.underlying t=some (.pointer e))(e1:ρ x=.pointer (some p))(e2:ρ y=.pointer none)
  (h:nilOp op=some r):∃q,(execOp ρ o).run P w=.ok (.value (.bool q)) w/\r={ val:=.v (.bool q) }:=by
 have heq:(Op.equal t (.pointer (some p)) (.pointer none)).run P w=.ok false w:=zLk (P:=P) (w:=w) (p:=p) hu 9999;cases op<;>simp only[nilOp,zaf,reduceCtorEq]at h
 .refine⟨false,?_,h.symm⟩;simp[execOp,ho,e1,e2,eqGuard,binOp,heq]
 .refine⟨true,?_,h.symm⟩;simp[execOp,ho,e1,e2,eqGuard,binOp,heq]
def zKl{o:Oper}{op:BinOp}{t u:TypeId}{x y:Operand}{a b:AV}{r:Res}{ρ:ak}(ho:o.op=.binOp op t x y u)(h:nilCmp P op t a b=some r)
  (hx:VRel S κ D w a (ρ x)) (hy:VRel S κ D w b (ρ y)):∃q,(execOp ρ o).run P w=.ok (.value (.bool q)) w/\r={ val:=.v (.bool q) }:=by
 unfold nilCmp at h;split at h
 . rename_i e cs hu;have e2:=hy.v_inv;generalize hv:ρ x=v at hx
   cases hx.fp_inv with
   |fp _ p _ _ _ _=>exact nil_run ho hu hv e2 h
 .rename_i e z es hu;have e2:=hy.v_inv;obtain⟨p,_,hv,_⟩:=hx.fa_inv.fa_data;exact nil_run ho hu hv e2 h
 .rename_i e b0 z i o0 hu;have e2:=hy.v_inv;obtain⟨g,c,_,_,e1⟩:=hx.loc_inv;exact nil_run ho hu e1 e2 h
 .cases h
def zFe{t:TypeId}{cs:aN}{arr:aV}{off:Nat}{av:AV}(hl:arr.size=cs.length)(h1:∀x∈arr,x.oneCell'=true)
  (hr:∀(j:Nat) (c:AV) (x:Value),cs[j]?=some c->arr[j]?=some x->VRel S κ D w c x) (h:readAt P t (cs.drop off)=some av):∃y,(part t arr off).run P w=.ok y w/\VRel S κ D w av y:=by
 unfold readAt at h
 cases hb:isAggB P t with
 |none=>simp[hb]at h
 |some b =>
   cases b with
   |false =>
     simp only[hb]at h;rw[zb6,zfe]at h;have hlt:off<arr.size:=by have:=(zal.1 h).1;omega
     exact⟨arr[off],by simp[part,zoy hb,hlt],hr off av _ h (zaN hlt)⟩
   |true =>
     simp only[hb]at h
     cases hs:szB P t with
     |none=>simp[hs]at h
     |some n =>
       simp only[hs]at h;split at h
       case isFalse=>cases h
       rename_i hle;injection h with h;subst h;simp at hle;refine⟨.agg (arr.extract off (off+n)),by simp[part,zoy hb,zdY hs],.agg _ _ ?_ ?_ ?_⟩
       .simp;omega
       . intro x hx;obtain⟨j,hj⟩:=zgj.1 hx
         grind
       grind
def Dis(D:aD)(r:Res):Prop:=∀b∈r.frz,D b/\b ∉ ids r.set/\r.kill≠some b
end
end Go.Ab
end
