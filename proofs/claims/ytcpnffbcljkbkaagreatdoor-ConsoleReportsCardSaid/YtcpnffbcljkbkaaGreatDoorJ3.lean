/- What parts of a body do: printed by a program, checked by the kernel. -/
import Derived.Test.YtcpnffbcljkbkaaGreatDoorXAnn
import Derived.Test.YtcpnffbcljkbkaaGreatDoorXCs
import Derived.Test.YtcpnffbcljkbkaaGreatDoorAb2
import Derived.Shelf.Strings.BuilderF
import Derived.Shelf.Strings.OnBuilder
import Derived.Lib.BufferOwn
import Derived.Test.YtcpnffbcljkbkaaGreatDoorJ1
import Derived.Test.YtcpnffbcljkbkaaGreatDoorJ2
import Derived.Test.YtcpnffbcljkbkaaGreatDoorK2
set_option linter.all false
noncomputable section
namespace Go.Proofs.YtcpnffbcljkbkaaGreatDoor
open Go.Ab
abbrev tyB:Nat:=128
set_option maxRecDepth 100000
abbrev nl:ByteArray:={ data:={ toList:=[10] } }
abbrev fnV(g:Nat):AV:=.v (.func (.func 34) #[] #[.pointer (some ⟨g,0,none⟩)])
def rc0(l:List zbo)(g:Nat):tReg zcq zT 0 ⟨[(0,sI l),(1,AV.v (.pointer (some ⟨g,0,none⟩)))],[]⟩=(some ⟨[(1,AV.v (.pointer (some ⟨g,0,none⟩))),(5,sI l),(6,I ((↑(mJ l).length:Int))),(7,I 0)],[]⟩):=by kernel_rfl
def rc1(l:List zbo)(g:Nat)(n:Int)(i:Int):tReg zcq zT 1 ⟨[(1,AV.v (.pointer (some ⟨g,0,none⟩))),(5,sI l),(6,I n),(7,I i)],[]⟩=(some ⟨[(1,AV.v (.pointer (some ⟨g,0,none⟩))),(5,sI l),(6,I n),(7,I i),(8,B (decide (i<n)))],[]⟩):=by kernel_rfl
def rc2(l:List zbo)(g:Nat)(n:Int)(i:Int):tReg zcq zT 2 ⟨[(1,AV.v (.pointer (some ⟨g,0,none⟩))),(5,sI l),(6,I n),(7,I i)],[]⟩=(chk ((0:Int)<=i)<|
 elemD zd7 (mJ l) i.toNat λ(c0:zbo) =>
 some ⟨[(1,AV.v (.pointer (some ⟨g,0,none⟩))),(4,bA 4 5),(5,sI l),(6,I n),(7,I i)],[(4,gB c0)]⟩):=by kernel_rfl
def rc3(l:List zbo)(g:Nat)(n:Int)(i:Int)(o:zbo):tSeg zcq zT 3 0 3 ⟨[(1,AV.v (.pointer (some ⟨g,0,none⟩))),(4,bA 4 5),(5,sI l),(6,I n),(7,I i)],[(4,gB o)]⟩=(callD zcg (cw 11 [pI o] []) λ(r0:ByteArray) =>
 chk (r0.size+nl.size<=9223372036854775807)<|
 some ⟨[(13,AV.v (.string (r0++nl))),(12,AV.v (.string r0)),(11,AV.agg [I o.b,I o.k,I o.R,I o.xe,I o.xn]),(1,AV.v (.pointer (some ⟨g,0,none⟩))),(4,bA 4 5),(5,sI l),(6,I n),(7,I i)],[(4,gB o)]⟩):=by kernel_rfl
def rc4(l:List zbo)(g:Nat)(n:Int)(i:Int):tReg zcq zT 4 ⟨[(1,AV.v (.pointer (some ⟨g,0,none⟩))),(5,sI l),(6,I n),(7,I i)],[]⟩=(some ⟨[(1,AV.v (.pointer (some ⟨g,0,none⟩))),(5,sI l),(6,I n),(7,I (w64 (i+1)))],[]⟩):=by kernel_rfl
def rp0(x:zcE):tReg zbp zT 0 ⟨[(0,pJ x)],[]⟩=(some ⟨[(1,bA 1 4)],[(1,gJ x)]⟩):=by kernel_rfl
def rp10(x:zcE)(g:Nat)(l:aW)(n:Int)(i:Int):tReg zbp zT 10 ⟨[(1,AV.fp (zbY x)),(3,AV.v (.pointer (some ⟨g,0,none⟩))),(4,fnV g),(32,sE l),(33,I n),(34,I i)],[]⟩=(some ⟨[(1,AV.fp (zbY x)),(3,AV.v (.pointer (some ⟨g,0,none⟩))),(4,fnV g),(32,sE l),(33,I n),(34,I i),(35,B (decide (i<n)))],[]⟩):=by kernel_rfl
def rp11(x:zcE)(g:Nat)(l:aW)(n:Int)(i:Int):tReg zbp zT 11 ⟨[(1,AV.fp (zbY x)),(3,AV.v (.pointer (some ⟨g,0,none⟩))),(4,fnV g),(32,sE l),(33,I n),(34,I i)],[]⟩=(chk ((0:Int)<=i)<|
 elemD zcU (mB l) i.toNat λ(c0:zaV) =>
 some ⟨[(1,AV.fp (zbY x)),(3,AV.v (.pointer (some ⟨g,0,none⟩))),(4,fnV g),(8,bA 8 6),(32,sE l),(33,I n),(34,I i)],[(8,⟨6,112,[zax c0],true⟩)]⟩):=by kernel_rfl
def rp12(x:zcE)(g:Nat)(l:aW)(n:Int)(i:Int)(e:zaV):tReg zbp zT 12 ⟨[(1,AV.fp (zbY x)),(3,AV.v (.pointer (some ⟨g,0,none⟩))),(4,fnV g),(8,bA 8 6),(32,sE l),(33,I n),(34,I i)],[(8,⟨6,112,[zax e],true⟩)]⟩=(some ⟨[(1,AV.fp (zbY x)),(3,AV.v (.pointer (some ⟨g,0,none⟩))),(4,fnV g),(8,bA 8 6),(9,bA 9 5),(32,sE l),(33,I n),(34,I i)],[(8,⟨6,112,[zax e],true⟩),(9,gC e.a)]⟩):=by kernel_rfl
def rp13(x:zcE)(g:Nat)(l:aW)(n:Int)(i:Int)(e:zaV)(c:zbH):tReg zbp zT 13 ⟨[(1,AV.fp (zbY x)),(3,AV.v (.pointer (some ⟨g,0,none⟩))),(4,fnV g),(8,bA 8 6),(9,bA 9 5),(32,sE l),(33,I n),(34,I i)],[(8,⟨6,112,[zax e],true⟩),(9,gC c)]⟩=(some ⟨[(1,AV.fp (zbY x)),(3,AV.v (.pointer (some ⟨g,0,none⟩))),(4,fnV g),(9,bA 9 5),(32,sE l),(33,I n),(34,I i),(42,B (e.k==0))],[(9,gC c)]⟩):=by kernel_rfl
def rp14(x:zcE)(g:Nat)(l:aW)(n:Int)(i:Int)(c:zbH):tSeg zbp zT 14 0 13 ⟨[(1,AV.fp (zbY x)),(3,AV.v (.pointer (some ⟨g,0,none⟩))),(4,fnV g),(9,bA 9 5),(32,sE l),(33,I n),(34,I i)],[(9,gC c)]⟩=(callD zcg (cw 36 [AV.v (.string ({ data:={ toList:=[105,115,115,117,101] } })),AV.sl 1 (List.map zaj ([c.ID,c.b,c.R,c.p,c.K]))] []) λ(r0:ByteArray) =>
 chk (r0.size+nl.size<=9223372036854775807)<|
 some ⟨[(55,AV.v (.string (r0++nl))),(54,AV.v (.string r0)),(53,AV.sl 1 ([[I c.ID],[I c.b],[I c.R],[I c.p],[I c.K]])),(52,I c.K),(51,AV.loc 9 5 0 (0+4)),(50,I c.p),(49,AV.loc 9 5 0 (0+3)),(48,I c.R),(47,AV.loc 9 5 0 (0+2)),(46,I c.b),(45,AV.loc 9 5 0 (0+1)),(44,I c.ID),(43,AV.loc 9 5 0 (0+0)),(1,AV.fp (zbY x)),(3,AV.v (.pointer (some ⟨g,0,none⟩))),(4,fnV g),(9,bA 9 5),(32,sE l),(33,I n),(34,I i)],[(9,gC c)]⟩):=by kernel_rfl
def rp15(x:zcE)(g:Nat)(l:aW)(n:Int)(i:Int)(c:zbH):tSeg zbp zT 15 0 7 ⟨[(1,AV.fp (zbY x)),(3,AV.v (.pointer (some ⟨g,0,none⟩))),(4,fnV g),(9,bA 9 5),(32,sE l),(33,I n),(34,I i)],[(9,gC c)]⟩=(callD zcg (cw 36 [AV.v (.string ({ data:={ toList:=[114,101,118,111,107,101] } })),AV.sl 1 (List.map zaj ([c.ID,c.p]))] []) λ(r0:ByteArray) =>
 chk (r0.size+nl.size<=9223372036854775807)<|
 some ⟨[(63,AV.v (.string (r0++nl))),(62,AV.v (.string r0)),(61,AV.sl 1 ([[I c.ID],[I c.p]])),(60,I c.p),(59,AV.loc 9 5 0 (0+3)),(58,I c.ID),(57,AV.loc 9 5 0 (0+0)),(1,AV.fp (zbY x)),(3,AV.v (.pointer (some ⟨g,0,none⟩))),(4,fnV g),(9,bA 9 5),(32,sE l),(33,I n),(34,I i)],[(9,gC c)]⟩):=by kernel_rfl
def rp16(x:zcE)(g:Nat)(l:aW)(n:Int)(i:Int):tReg zbp zT 16 ⟨[(1,AV.fp (zbY x)),(3,AV.v (.pointer (some ⟨g,0,none⟩))),(4,fnV g),(32,sE l),(33,I n),(34,I i)],[]⟩=(some ⟨[(1,AV.fp (zbY x)),(3,AV.v (.pointer (some ⟨g,0,none⟩))),(4,fnV g),(32,sE l),(33,I n),(34,I (w64 (i+1)))],[]⟩):=by kernel_rfl
def rp18(x:zcE)(g:Nat):tSeg zbp zT 18 0 3 ⟨[(1,AV.fp (zbY x)),(3,AV.v (.pointer (some ⟨g,0,none⟩))),(4,fnV g)],[]⟩=(some ⟨[(69,sI x.y),(68,AV.fp [sI x.y,sE x.xj,sF x.xC]),(67,fnV g),(1,AV.fp (zbY x)),(3,AV.v (.pointer (some ⟨g,0,none⟩))),(4,fnV g)],[]⟩):=by kernel_rfl
def rp19(s:ByteArray):tSeg zbp zT 19 1 1 ⟨[(71,AV.v (.string s))],[]⟩=(some ⟨[(2,AV.v (.string s)),(71,AV.v (.string s))],[]⟩):=by kernel_rfl
def rp2(x:zcE)(g:Nat):tReg zbp zT 2 ⟨[(1,AV.fp (zbY x)),(3,AV.v (.pointer (some ⟨g,0,none⟩)))],[]⟩=(some ⟨[(1,AV.fp (zbY x)),(3,AV.v (.pointer (some ⟨g,0,none⟩))),(4,AV.fn 34 [AV.v (.pointer (some ⟨g,0,none⟩))])],[]⟩):=by kernel_rfl
def rp3(x:zcE)(g:Nat):tReg zbp zT 3 ⟨[(1,AV.fp (zbY x)),(3,AV.v (.pointer (some ⟨g,0,none⟩))),(4,fnV g)],[]⟩=(some ⟨[(1,AV.fp (zbY x)),(3,AV.v (.pointer (some ⟨g,0,none⟩))),(4,fnV g),(12,sN x.s),(13,I ((↑(mV x.s).length:Int))),(14,I 0)],[]⟩):=by kernel_rfl
def rp4(x:zcE)(g:Nat)(l:List zc8)(n:Int)(i:Int):tReg zbp zT 4 ⟨[(1,AV.fp (zbY x)),(3,AV.v (.pointer (some ⟨g,0,none⟩))),(4,fnV g),(12,sN l),(13,I n),(14,I i)],[]⟩=(some ⟨[(1,AV.fp (zbY x)),(3,AV.v (.pointer (some ⟨g,0,none⟩))),(4,fnV g),(12,sN l),(13,I n),(14,I i),(15,B (decide (i<n)))],[]⟩):=by kernel_rfl
def rp5(x:zcE)(g:Nat)(l:List zc8)(n:Int)(i:Int):tReg zbp zT 5 ⟨[(1,AV.fp (zbY x)),(3,AV.v (.pointer (some ⟨g,0,none⟩))),(4,fnV g),(12,sN l),(13,I n),(14,I i)],[]⟩=(chk ((0:Int)<=i)<|
 elemD zgd (mV l) i.toNat λ(c0:zc8) =>
 some ⟨[(1,AV.fp (zbY x)),(3,AV.v (.pointer (some ⟨g,0,none⟩))),(4,fnV g),(6,bA 6 3),(12,sN l),(13,I n),(14,I i)],[(6,gI c0)]⟩):=by kernel_rfl
def rp6(x:zcE)(g:Nat)(l:List zc8)(n:Int)(i:Int)(p:zc8):tSeg zbp zT 6 0 7 ⟨[(1,AV.fp (zbY x)),(3,AV.v (.pointer (some ⟨g,0,none⟩))),(4,fnV g),(6,bA 6 3),(12,sN l),(13,I n),(14,I i)],[(6,gI p)]⟩=(callD zcg (cw 36 [AV.v (.string ({ data:={ toList:=[112,117,98,108,105,115,104,101,100] } })),AV.sl 1 (List.map zaj ([p.At,p.p]))] []) λ(r0:ByteArray) =>
 chk (r0.size+nl.size<=9223372036854775807)<|
 some ⟨[(24,AV.v (.string (r0++nl))),(23,AV.v (.string r0)),(22,AV.sl 1 ([[I p.At],[I p.p]])),(21,I p.p),(20,AV.loc 6 3 0 (0+1)),(19,I p.At),(18,AV.loc 6 3 0 (0+0)),(1,AV.fp (zbY x)),(3,AV.v (.pointer (some ⟨g,0,none⟩))),(4,fnV g),(6,bA 6 3),(12,sN l),(13,I n),(14,I i)],[(6,gI p)]⟩):=by kernel_rfl
def rp7(x:zcE)(g:Nat)(l:List zc8)(n:Int)(i:Int)(p:zc8):tSeg zbp zT 7 0 3 ⟨[(1,AV.fp (zbY x)),(3,AV.v (.pointer (some ⟨g,0,none⟩))),(4,fnV g),(6,bA 6 3),(12,sN l),(13,I n),(14,I i)],[(6,gI p)]⟩=(some ⟨[(28,sI p.y),(27,AV.loc 6 3 0 (0+2)),(26,fnV g),(1,AV.fp (zbY x)),(3,AV.v (.pointer (some ⟨g,0,none⟩))),(4,fnV g),(6,bA 6 3),(12,sN l),(13,I n),(14,I i)],[(6,gI p)]⟩):=by kernel_rfl
def rp8(x:zcE)(g:Nat)(l:List zc8)(n:Int)(i:Int):tReg zbp zT 8 ⟨[(1,AV.fp (zbY x)),(3,AV.v (.pointer (some ⟨g,0,none⟩))),(4,fnV g),(12,sN l),(13,I n),(14,I i)],[]⟩=(some ⟨[(1,AV.fp (zbY x)),(3,AV.v (.pointer (some ⟨g,0,none⟩))),(4,fnV g),(12,sN l),(13,I n),(14,I (w64 (i+1)))],[]⟩):=by kernel_rfl
def rp9(x:zcE)(g:Nat):tReg zbp zT 9 ⟨[(1,AV.fp (zbY x)),(3,AV.v (.pointer (some ⟨g,0,none⟩))),(4,fnV g)],[]⟩=(some ⟨[(1,AV.fp (zbY x)),(3,AV.v (.pointer (some ⟨g,0,none⟩))),(4,fnV g),(32,sE x.xj),(33,I ((↑(mB x.xj).length:Int))),(34,I 0)],[]⟩):=by kernel_rfl
end Go.Proofs.YtcpnffbcljkbkaaGreatDoor
namespace Go.Proofs.YtcpnffbcljkbkaaGreatDoor
open Go.Ab
open Go.Shelf Go.RowKit Go.Lib
section
variable{P:Program}{ρ:Ren}
def own_append(w:World)(base:Nat)(t u ty e:TypeId)(i:TypeInfo)(ht:P.underlying t=some (.slice e))(hu:P.underlying u=some .string)(hi:P.info? e=some i)(hz:i.zero=some (.int .u8 0))
  (hsize:i.size=1) (hby:i.bytes=1) (v:Value) (n:Nat) (xs:af) (hown:w.ownsRowF base e 1 v n xs) (s:ByteArray)
  (h63:n+s.size<=maxLen) (hbytes:n+s.size<=140737488355328) (hbase:base<=w.heap.size):∃v' w',(Builtin.append_ #[t,u] ty #[v,.string s]).run P w=.ok v' w'/\w'.ownsRowF base e 1 v' (n+s.size) (xs++strCells s)/\w.grownBy w' v.ownBlock/\∀k,v'.ownBlock=some k->v.ownBlock=some k\/w.heap.size<=k:=by
 rcases hown.2 with⟨rfl,rfl⟩|⟨g,cap,cur,fz,rfl,hbg,hg,hfz,hnc,hcm,hcs,htake⟩
 .obtain⟨v',w',h1,h2,h3,h4⟩:=run_append_own_string (P:=P) w w.heap.size t u ty e i ht hu hi hz hsize hby (.slice none 0 0) 0 xs ⟨hown.1,.inl ⟨rfl,rfl⟩⟩ s h63 hbytes (zav _);have h5:=World.ownsRowF_of h2;refine⟨v',w',h1,⟨h5.1,h5.2.imp id (λ⟨g,c,cur,fz,e1,e2,r⟩=>⟨g,c,cur,fz,e1,za5 hbase e2,r⟩)⟩,h3,λk hk=>.inr (h5.lt k hk).1⟩
 . have hsmall:n+s.size<=9223372036854775807:=by simp only[maxLen]at h63;omega
   have hxl:xs.length=n:=by simpa using hown.1
   have hlen:(xs++strCells s).length=(n+s.size)*1:=by rw[zaW,hxl,strCells_length,Nat.mul_one]
   by_cases hroom:n+s.size<=cap
   . have hcs':cur.size=cap:=by simpa using hcs
     have hr:=run_append_room_stringF (P:=P) w t u ty e i ht hu hi hsize g n cap cur fz hg (by simpa using hfz) s hroom (by omega);refine⟨_,_,hr,⟨hlen,.inr ⟨g,cap,_,fz,rfl,hbg,setRow_heap w g cur _ e _ hg,by omega,hroom,hcm,?_,?_⟩⟩,⟨rfl,rfl,rfl,by simp,λk _ hk=>setRow_other w g k _ (λe=>hk (by simp[Value.ownBlock,e]))⟩,λk hk=>.inl hk⟩
     .simp only[List.size_toArray,zaW,zcH,zdk,zcX,strCells_length];omega
     . have ht':cur.toList.take n=xs:=by simpa using htake
       rw[ht',<-hlen];exact List.take_left
   . have holds:∀j u,xs[j]?=some u->w.cell? ((⟨g,0,none⟩:Addr).add j)=some u:=hown.cells (g:=g) rfl;have hr:=run_append_grow_string (P:=P) w t u ty e i (.int .u8 0) ht hu hi hz ⟨g,0,none⟩ n cap xs (by rw[hsize];simpa using hxl) holds s (by omega) (by omega) (by rw[hby];exact growslice_fits (by omega) (by omega));have hge:=grownCap_ge w (n+s.size) cap e;have hcm2:grownCap w (n+s.size) cap e<=maxLen:=grownCap_le_maxLen w (n+s.size) cap e h63;refine⟨_,_,hr,⟨hlen,.inr ⟨w.heap.size,_,_,(0,0),rfl,hbase,heap_alloc_new w.drew _,zcT _,hge,hcm2,?_,?_⟩⟩,⟨rfl,rfl,rfl,by simp,λk hk _=>heap_alloc_old w.drew _ hk⟩,λk hk=>.inr (by simp[Value.ownBlock]at hk;omega)⟩
     .have hz1:(Value.int IntKind.u8 0).cells.size=1:=rfl;simp only[Array.size_append,List.size_toArray,size_zeroCells,hz1,hxl,strCells_length];omega
     .simp only[Array.toList_append,zcA];rw[<-zcA,<-hlen];exact List.take_left
def zI0(w:World){ops:aT}{rest:List Oper}{o:Oper}{a:Act}{Q:aX}(hgd:o.guard=none)(sl x:Operand)(t u:TypeId)
  (ho:o.op=.call { callee:=.builtin .append,args:=#[sl,x],argTypes:=#[t,u] })
  (base:Nat) (e:TypeId) (i:TypeInfo) (ht:P.underlying t=some (.slice e)) (hu:P.underlying u=some .string) (hi:P.info? e=some i) (hz:i.zero=some (.int .u8 0))
  (hsize:i.size=1) (hby:i.bytes=1)
  (v:Value) (n:Nat) (xs:af) (hs:a.eval sl=v) (hown:w.ownsRowF base e 1 v n xs) (s:ByteArray) (hx:a.eval x=.string s)
  (h63:n+s.size<=maxLen) (hbytes:n+s.size<=140737488355328) (hbase:base<=w.heap.size)
  (h:∀v' w',w'.ownsRowF base e 1 v' (n+s.size) (xs++strCells s)->w.grownBy w' v.ownBlock->(∀k,v'.ownBlock=some k->v.ownBlock=some k\/w.heap.size<=k)->wpList P ops Q rest (a.put o.dst v') w'):wpList P ops Q (o::rest) a w:=by
 refine wpList_plain hgd λK hK=>?_
 obtain⟨v',w',hr,h2,h3,h4⟩:=own_append (P:=P) w base t u o.type e i ht hu hi hz hsize hby v n xs hown s h63 hbytes hbase;unfold Oper.wp execOp;simp only[ho,resolve,invoke,builtin,Sem.run_bind,Sem.run_pure,Result.andThen_ok,List.map_toArray,zbx,zeN,hs,hx,hr];exact hK _ _ (h v' w' h2 h3 h4)
structure Bld(T e:TypeId)(w:World)(g:Nat)(l:List UInt8)(v:Value):Prop where
 at_:∃p,(p=.pointer none\/p=.pointer (some ⟨g,0,none⟩))/\w.heap[g]?=some (.cells #[p,v] T (0,0))
 own:w.ownsRowF 0 e 1 v l.length (byteCells l)
 ne:v.ownBlock≠some g
def Bld.isF{T e:TypeId}{w:World}{g:Nat}{l:List UInt8}{v:Value}(h:Bld T e w g l v):IsBuilderF T e 0 g (byteCells l) w:=by
 obtain⟨p,hp,hg⟩:=h.at_;have:BuilderAtF T e 0 g p (byteCells l) w:=⟨zcT _,v,hg,by rw[byteCells_length];exact h.own,h.ne⟩
 rcases hp with rfl|rfl
 .exact .inl this
 .exact .inr this
def check_call(L:Lays.n240 P ρ)(X:Builder.X72 P ρ){w:World}{g:Nat}{l:List UInt8}{v:Value}(h:Bld (ρ.t 72) (ρ.t 5) w g l v):Calls P (ρ.f 240) #[.pointer (some ⟨g,0,none⟩)] w λe w'=>e=.returned (.tuple #[])/\Bld (ρ.t 72) (ρ.t 5) w' g l v/\w.grownBy w' (some g)/\w'.heap[g]?=some (.cells #[.pointer (some ⟨g,0,none⟩),v] (ρ.t 72) (0,0))/\w'.heap.size=w.heap.size:=by
 have hF:=h.isF;obtain⟨p,hp,hg⟩:=h.at_;rcases hF with hf|hf
 . refine(Any.Builder_copyCheck_fresh L X g w hf.cell0 hf.shape hf.frozen0).mono ?_
   rintro e w' ⟨rfl,rfl⟩
   have hh:(w.setCell ⟨g,0,none⟩ (.pointer (some ⟨g,0,none⟩))).heap[g]?=some (.cells #[.pointer (some ⟨g,0,none⟩),v] (ρ.t 72) (0,0)):=by simp[World.setCell,zfv,hg]
   have hgr:w.grownBy (w.setCell ⟨g,0,none⟩ (.pointer (some ⟨g,0,none⟩))) (some g):=grownBy_setCell w g 0 _;exact⟨rfl,⟨⟨_,.inr rfl,hh⟩,h.own.kept hgr (.inr h.ne),h.ne⟩,hgr,hh,by simp[World.setCell]⟩
 . refine(Any.Builder_copyCheck_used L X g w hf.cell0).mono ?_
   rintro e w' ⟨rfl,rfl⟩
   have e0:=hf.cell0;rw[Lib.cell_of_heap hg]at e0;have e1:p=.pointer (some ⟨g,0,none⟩):=by simpa using e0
   exact⟨rfl,h,⟨rfl,rfl,rfl,zav _,λ_ _ _=>rfl⟩,by rw[hg,e1],rfl⟩
structure Wrote(T e:TypeId)(w w':World)(g:Nat)(l s:List UInt8)(v v':Value):Prop where
 bld:Bld T e w' g (l++s) v'
 own:∀k,v'.ownBlock=some k->v.ownBlock=some k\/w.heap.size<=k
 os:w'.os=w.os
 tape:w'.tape=w.tape
 output:w'.output=w.output
 size:w.heap.size<=w'.heap.size
 block:∀k,k<w.heap.size->k≠g->v.ownBlock≠some k->w'.heap[k]?=w.heap[k]?
set_option maxHeartbeats 2000000 in
set_option maxRecDepth 100000 in
def write_call(L:Lays.n166 P ρ)(X:Builder.Extra P ρ){w:World}{g:Nat}{l:List UInt8}{v:Value}(h:Bld (ρ.t 72) (ρ.t 5) w g l v)(s:ByteArray)(hlen:l.length+s.size<=140737488355328):Calls P (ρ.f 166) #[.pointer (some ⟨g,0,none⟩),.string s] w λe w'=>e=.returned (.tuple #[.int .i64 s.size,.nilIface])/\∃v',Wrote (ρ.t 72) (ρ.t 5) w w' g l s.data.toList v v':=by
 obtain⟨i0,hi,hz0,hz1,hz2⟩:=info_parts X.infoByte;have mixed:=L.mixed;have t72:=L.t72;have a72:=L.a72;have z72:=L.z72;have v72:=L.v72;have u72:=run_underlying L.t72;have t70:=L.t70;have a70:=L.a70;have z70:=L.z70;have v70:=L.v70;have u70:=run_underlying L.t70;have t37:=L.t37;have a37:=L.a37;have z37:=L.z37;have v37:=L.v37;have u37:=run_underlying L.t37;have t3:=L.t3;have a3:=L.a3;have z3:=L.z3;have v3:=L.v3;have u3:=run_underlying L.t3;have t9:=L.t9;have a9:=L.a9;have z9:=L.z9;have v9:=L.v9;have u9:=run_underlying L.t9;have t4:=L.t4;have a4:=L.a4;have z4:=L.z4;have v4:=L.v4;have u4:=run_underlying L.t4;have t164:=L.t164;have a164:=L.a164;have z164:=L.z164;have v164:=L.v164;have u164:=run_underlying L.t164;have t5:=X.t5;have a5:=X.a5;have z5:=X.z5;have v5:=X.v5;have u5:=run_underlying X.t5;have e240:∀args w,(callFunc (ρ.f 240) args).run P w=.ok (.enter (ρ.f 240) args) w:=enters_of L.f240 (by kernel_rfl) rfl
 go_enter L.f166,Body.n166_ntmps ρ
 go_wp2_with (go_at_fn (ρ.f 240);refine(check_call { L with } X.toX72 h).mono ?_)
 rintro e w1 ⟨rfl,h1,hb1,hbk,hsz1⟩
 have hown:=h1.own;have hne:=h1.ne;have c0:w1.cell? ⟨g,0,none⟩=some (.pointer (some ⟨g,0,none⟩)):=by rw[Lib.cell_of_heap hbk];rfl
 have c1:w1.cell? ⟨g,1,none⟩=some v:=by rw[Lib.cell_of_heap hbk];rfl
 go_wp2_with (at_builtin;refine zI0 _ rfl _ _ (ρ.t 37) (ρ.t 9) rfl 0 (ρ.t 5) i0 L.t37 L.t9 hi hz0 hz1 hz2 _ _ _ rfl hown s rfl ?c3 ?c4 ?c5 ?_)
 case c3=>unfold maxLen;omega
 case c4=>omega
 case c5=>omega
 intro v' w2 hown' hgrow hnew
 have hlt:g<w1.heap.size:=by
  rcases zcs g w1.heap.size with h'|h'
  .exact h'
  .simp[zgi h']at hbk
 have hb2:w2.heap[g]?=some (.cells #[.pointer (some ⟨g,0,none⟩),v] (ρ.t 72) (0,0)):=by rw[hgrow.block g hlt (λe=>hne e.symm)];exact hbk
 have d0:w2.cell? ⟨g,0,none⟩=some (.pointer (some ⟨g,0,none⟩)):=by rw[Lib.cell_of_heap hb2];rfl
 have d1:w2.cell? ⟨g,1,none⟩=some v:=by rw[Lib.cell_of_heap hb2];rfl
 have f1:w2.frozen? ⟨g,1,none⟩=false:=Lib.frozen_of_heap hb2 1
 obtain⟨ao,n',cap,rfl⟩:∃ao n' cap,v'=.slice ao n' cap:=by
  rcases hown'.2 with⟨hv,_⟩|⟨g,cap,cur,fz,hv,_⟩
  .exact⟨_,_,_,hv⟩
  .exact⟨_,_,_,hv⟩
 go_wp2
 go_ret2
 have hput:=Lib.BuilderAtF.put (T:=(ρ.t 72)) (e:=(ρ.t 5)) (B:=0) (b:=g) (zcT _) hb2 (bs':=byteCells l++strCells s) (by simpa[byteCells_length,strCells_length]using hown') X.neB5;refine⟨rfl,.slice ao n' cap,?_⟩;obtain⟨_,v2,q1,q2,q3⟩:=hput;have hset:=grownBy_setCell w2 g 1 (Value.slice ao n' cap)
 have hv2:v2=.slice ao n' cap:=by
  have:(w2.setCell ⟨g,1,none⟩ (.slice ao n' cap)).heap[g]?=some (.cells #[.pointer (some ⟨g,0,none⟩),.slice ao n' cap] (ρ.t 72) (0,0)):=by simp[World.setCell,zfv,hb2]
  rw[this]at q1;injection q1 with q1;injection q1 with q1;simpa using q1.symm
 subst hv2;refine⟨⟨⟨_,.inr rfl,q1⟩,?_,q3⟩,λk hk=>(hnew k hk).imp id (λq=>by omega),?_,?_,?_,?_,λk hk hkg hkv=>?_⟩
 . have e1:byteCells (l++s.data.toList)=byteCells l++strCells s:=by simp[byteCells,strCells]
   rw[e1];have e2:(byteCells l++strCells s).length=(l++s.data.toList).length:=by simp[byteCells,strCells]
   rw[<-e2];exact q2
 .exact hset.os.trans (hgrow.os.trans hb1.os)
 .exact hset.tape.trans (hgrow.tape.trans hb1.tape)
 .exact hset.output.trans (hgrow.output.trans hb1.output)
 .exact za5 (by omega) (za5 hgrow.size hset.size)
 .rw[hset.block k (zbO (by omega) hgrow.size) (λe=>hkg (by injection e)),hgrow.block k (by omega) (λe=>hkv e.symm),hb1.block k hk (λe=>hkg (by injection e))]
end
def bxW:Builder.Extra zP zew where
 sizeBuilder:=by kernel_rfl
 liesBuilder:=by kernel_rfl
 t5:=Tryz.underlying5
 a5:=Tryz.isAgg5
 z5:=Tryz.sizeOf5
 v5:=Tryz.zeroValue5
 infoByte:=by kernel_rfl
 cellsByte:=by kernel_rfl
 sizeByte:=by kernel_rfl
 neB5:=by decide
def bxS:Builder.Extra zP zE6 where
 sizeBuilder:=by kernel_rfl
 liesBuilder:=by kernel_rfl
 t5:=Tryz.underlying5
 a5:=Tryz.isAgg5
 z5:=Tryz.sizeOf5
 v5:=Tryz.zeroValue5
 infoByte:=by kernel_rfl
 cellsByte:=by kernel_rfl
 sizeByte:=by kernel_rfl
 neB5:=by decide
end Go.Proofs.YtcpnffbcljkbkaaGreatDoor
namespace Go.Proofs.YtcpnffbcljkbkaaGreatDoor
open Go.Ab Go.Shelf Go.RowKit Go.Lib
section
variable{P:Program}{ρ:Ren}
structure Same1(w w':World)(v:Value):Prop where
 os:w'.os=w.os
 tape:w'.tape=w.tape
 output:w'.output=w.output
 size:w'.heap.size=w.heap.size
 block:∀k,v.ownBlock≠some k->w'.heap[k]?=w.heap[k]?
def Same1.freeze(w:World)(g n:Nat){v:Value}(hv:v.ownBlock=some g):Same1 w (w.drew.freeze ⟨g,0,none⟩ n) v:=by
 unfold World.freeze;split
 .exact⟨rfl,rfl,rfl,rfl,λ_ _=>rfl⟩
 .refine⟨rfl,rfl,rfl,by simp,λk hk=>?_⟩;simp only[zfv];rw[if_neg (λe=>hk (by rw[hv];exact congrArg some e))];rfl
set_option maxHeartbeats 2000000 in
set_option maxRecDepth 100000 in
def str_call(L:Lays.n169 P ρ)(X:Builder.Extra P ρ){w:World}{b:Nat}{l:List UInt8}{v:Value}(h:Bld (ρ.t 72) (ρ.t 5) w b l v)(hnil:l=[]->v=.slice none 0 0):Calls P (ρ.f 169) #[.pointer (some ⟨b,0,none⟩)] w λe w'=>e=.returned (.string ⟨l.toArray⟩)/\Same1 w w' v:=by
 obtain⟨p,hp,hbk⟩:=h.at_;have mixed:=L.mixed;have t72:=L.t72;have a72:=L.a72;have z72:=L.z72;have v72:=L.v72;have u72:=run_underlying L.t72;have t70:=L.t70;have a70:=L.a70;have z70:=L.z70;have v70:=L.v70;have u70:=run_underlying L.t70;have t37:=L.t37;have a37:=L.a37;have z37:=L.z37;have v37:=L.v37;have u37:=run_underlying L.t37;have t127:=L.t127;have a127:=L.a127;have z127:=L.z127;have v127:=L.v127;have u127:=run_underlying L.t127;have t3:=L.t3;have a3:=L.a3;have z3:=L.z3;have v3:=L.v3;have u3:=run_underlying L.t3;have t9:=L.t9;have a9:=L.a9;have z9:=L.z9;have v9:=L.v9;have u9:=run_underlying L.t9;have t5:=X.t5;have a5:=X.a5;have z5:=X.z5;have v5:=X.v5;have u5:=run_underlying X.t5;by_cases h0:l=[]
 . have hv:=hnil h0;subst h0;subst hv;have hUS:=Any.unsafeString_none L X
   have c1:w.drew.cell? ⟨b,1,none⟩=some (.slice none 0 0):=by have:w.drew.heap[b]?=some (.cells #[p,.slice none 0 0] (ρ.t 72) (0,0)):=hbk;rw[Lib.cell_of_heap this];rfl
   have hSD:(Builtin.unsafeSliceData_ #[(ρ.t 37)] (ρ.t 127) #[.slice none 0 0]).run P w.drew=.ok (.pointer none) w.drew:=rfl
   go_enter L.f169,Body.n169_ntmps ρ
   go_wp2
   go_region_o
   all_goals(go_wp2;go_ret;exact⟨rfl,rfl,rfl,rfl,rfl,λ_ _=>rfl⟩)
 . have hl0:l.length≠0:=by simpa using h0
   obtain⟨g,cap,cur,fz,rfl,hbg,hg,hfz,hnc,hcm,hcs,htake⟩:∃g cap cur fz,v=.slice (some ⟨g,0,none⟩) l.length cap/\0<=g/\w.heap[g]?=some (.cells cur (ρ.t 5) fz)/\fz.2<=l.length*1/\l.length<=cap/\cap<=maxLen/\cur.size=cap*1/\cur.toList.take (l.length*1)=Lib.byteCells l:=by
    rcases h.own.2 with⟨_,hz⟩|⟨g,cap,cur,fz,hv,r⟩
    .exact absurd hz hl0
    .exact⟨g,cap,cur,fz,hv,r⟩
   have c1:w.drew.cell? ⟨b,1,none⟩=some (.slice (some ⟨g,0,none⟩) l.length cap):=by have:w.drew.heap[b]?=some (.cells #[p,.slice (some ⟨g,0,none⟩) l.length cap] (ρ.t 72) (0,0)):=hbk;rw[Lib.cell_of_heap this];rfl
   have hSD:(Builtin.unsafeSliceData_ #[(ρ.t 37)] (ρ.t 127) #[.slice (some ⟨g,0,none⟩) l.length cap]).run P w.drew=.ok (.pointer (some ⟨g,0,none⟩)) w.drew:=
    Lib.run_unsafeSliceData_row _ _ _ _ _ _ (by omega)
   have hUS:(Builtin.unsafeString_ #[(ρ.t 127),(ρ.t 3)] (ρ.t 9) #[.pointer (some ⟨g,0,none⟩),.int .i64 l.length]).run P w.drew=.ok (.string ⟨l.toArray⟩) (w.drew.freeze ⟨g,0,none⟩ l.length):=by refine Lib.run_unsafeString_row w.drew (ρ.t 127) (ρ.t 3) (ρ.t 9) (ρ.t 5) L.t127 X.cellsByte g cur.size (by have hg':w.drew.heap[g]?=some (.cells cur (ρ.t 5) fz):=hg;simp[World.shape?,hg']) l h0 (by omega) (by unfold maxLen at hcm;omega) ?_;intro j x hx;have:=h.own.cells (g:=g) rfl j (.int .u8 x.toNat) (by simp[Lib.byteCells,hx]);exact this
   have hsame:Same1 w (w.drew.freeze ⟨g,0,none⟩ l.length) (.slice (some ⟨g,0,none⟩) l.length cap):=Same1.freeze w g _ rfl
   go_enter L.f169,Body.n169_ntmps ρ
   go_wp2
   go_region_o
   all_goals(go_wp2;go_ret;exact⟨rfl,hsame⟩)
end
end Go.Proofs.YtcpnffbcljkbkaaGreatDoor
namespace Go.Ab
open Go.Proofs.YtcpnffbcljkbkaaGreatDoor
def NowP.val[Dr]{w0:World}{S0:aD}{κ0:Kap}{K:aD}{N:Nat}{a:Act}{w:World}{st:St}{X:Sat2}(h:NowP w0 S0 κ0 K N X st a w){k:Nat}{x:Value}(hk:get st.t k=.v x):a.eval (.tmp k)=x:=by obtain⟨S,κ,h1,_⟩:=h;have:=h1.slots k;rw[hk]at this;exact this.v_inv
end Go.Ab
namespace Go.Proofs.YtcpnffbcljkbkaaGreatDoor
open Go.Ab Go.Shelf Go.RowKit Go.Lib
def Bld.keep{T e:TypeId}{w w':World}{g:Nat}{l:List UInt8}{v:Value}(h:Bld T e w g l v)(h1:w'.heap[g]?=w.heap[g]?)(h2:∀k,v.ownBlock=some k->w'.heap[k]?=w.heap[k]?):Bld T e w' g l v:=by
 obtain⟨p,hp,hg⟩:=h.at_;refine⟨⟨p,hp,h1.trans hg⟩,⟨h.own.1,?_⟩,h.ne⟩;rcases h.own.2 with hn|⟨k,cap,cur,fz,rfl,hb,hgg,rest⟩
 .exact .inl hn
 .exact .inr ⟨k,cap,cur,fz,rfl,hb,(h2 k rfl).trans hgg,rest⟩
def Bd(w0:World)(κ0:Kap)(K:aD)(g:Nat)(l:List UInt8):Sat2:=λS κ L w=>∃v,Bld (zew.t 72) (zew.t 5) w g l v/\(l=[]->v=.slice none 0 0)/\(Far S κ L w g/\Mine w0 κ0 K g)/\∀k,v.ownBlock=some k->Far S κ L w k/\Mine w0 κ0 K k
def Bd.stable{w0:World}{κ0:Kap}{K:aD}{g:Nat}{l:List UInt8}:Stable (Bd w0 κ0 K g l):=by
 have far:∀{S:aD} {κ κ':Kap} {L L':aK} {w:World} {g:Nat},(∀b g c,(L' b).isSome=true->κ' b=some (g,c)->∃b0 c0,(L b0).isSome=true/\κ b0=some (g,c0))->Far S κ L w g->Far S κ' L' w g:=λh1 hf=>⟨hf.1,hf.2.1,λb c hl hb=>by
  obtain⟨b0,c0,e1,e2⟩:=h1 b _ c hl hb
  exact hf.2.2 b0 c0 e1 e2⟩
 refine⟨λh h1 h2 h3=>?_,λh h1=>?_⟩
 .obtain⟨v,hb,hn,hg,ho⟩:=h;exact⟨v,hb.keep (h2 g hg.1).1 (λk hk=>(h2 k (ho k hk).1).1),hn,⟨(h2 g hg.1).2,hg.2⟩,λk hk=>⟨(h2 k (ho k hk).1).2,(ho k hk).2⟩⟩
 .obtain⟨v,hb,hn,hg,ho⟩:=h;exact⟨v,hb,hn,⟨far h1 hg.1,hg.2⟩,λk hk=>⟨far h1 (ho k hk).1,(ho k hk).2⟩⟩
section
variable{w0:World}{S0:aD}{κ0:Kap}{K:aD}{N:Nat}{a:Act}{w:World}{st:St}
def zBp{P:Program}{ops:aT}{Q:aX}{i:Nat}{o:Oper}{K':aj}{f:FuncId}{fo:Operand}{args:Array Operand}{ts:Array TypeId}{caps:aV}{Q':Ending->World->Prop}
  (hi:ops[i]?=some o) (hg:o.guard=none) (ho:o.op=.call { callee:=.value fo,args:=args,argTypes:=ts }) (hf:a.eval fo=.func (.func f) #[] caps) (he:enters P f=true)
  (hc:Calls P f (args.map a.eval++caps) w Q') (hQ:∀e w',Q' e w'->∃x,e=.returned x/\K' (a.put o.dst x) w'):wpOp P ops Q i K' a w:=by
 unfold enters at he;split at he
 case h_2=>cases he
 rename_i fn hfn;simp only[zaU,zed]at he;have hbody:¬fn.body=none:=by cases hq:fn.body<;>simp_all
 have hname:¬fn.name = "runtime.NumGoroutine":=by simpa using he.2
 have hrun:(execOp a.eval o).run P w=.ok (.enter f (args.map a.eval++caps)) w:=by simp[execOp,ho,resolve,hf,Deferred.ofValue,invoke,callFunc,hfn,hbody,hname]
 unfold wpOp;simp only[hi];rw[if_pos (by unfold Region.wanted;rw[hg])];left;unfold Oper.wp;rw[hrun];simp only[Oper.upon];refine hc.mono ?_;intro e w' hq;obtain⟨x,rfl,hk⟩:=hQ e w' hq;exact hk
def ws_op{ops:aT}{Q:aX}{i d x:Nat}{y:Operand}{ts:Array TypeId}{g:Nat}{l:List UInt8}{s:ByteArray}{K':aj}
  (ho:opIs ops i d (.call { callee:=.value (.func 35),args:=#[.tmp x,y],argTypes:=ts })) (hd:d<N) (h:NowP w0 S0 κ0 K N (Bd w0 κ0 K g l) st a w)
  (hx:get st.t x=.v (.pointer (some ⟨g,0,none⟩))) (hy:a.eval y=.string s) (hl:l.length+s.size<=140737488355328) (hs:s.size≠0)
  (hK:∀a' w',NowP w0 S0 κ0 K N (Bd w0 κ0 K g (l++s.data.toList)) { st with t:=(d,.tup [I s.size,.v .nilIface])::st.t } a' w'->K' a' w'):wpOp zP ops Q i K' a w:=by
 obtain⟨o,o1,o2,o3,o4⟩:=ho.get;have ex:=h.val hx;obtain⟨S,κ,h1,v,hb,hn,hg,hown⟩:=h;have hc:=write_call (P:=zP) layWs bxW hb s hl
 refine zBp (f:=35) (caps:=#[]) (Q':=λe w'=>e=.returned (.tuple #[.int .i64 s.size,.nilIface])/\∃v',Wrote (zew.t 72) (zew.t 5) w w' g l s.data.toList v v') o1 o4 o3 rfl (by kernel_rfl) (by
  rw[show(#[.tmp x,y]:Array Operand).map a.eval++#[]=#[.pointer (some ⟨g,0,none⟩),.string s]by simp[ex,hy]]
  exact hc) ?_
 rintro e w' ⟨rfl,v',hw⟩
 refine⟨_,rfl,?_⟩;rw[o2];have hgood:GoodS w0 S0 κ0 K N S κ st a w':=h1.world hw.os hw.tape ⟨hw.output,λq=>q.elim⟩ hw.size (λk hk hq=>hw.block k hk (λe=>hq (e▸hg)) (λe=>hq (hown k e)));refine hK _ _ ⟨S,κ,hgood.put hd _ _ (.c (.tup _ _ rfl (λj c u hj hu=>?_))),v',hw.bld,λe=>?_,⟨⟨zbO hg.1.1 hw.size,hg.1.2⟩,hg.2⟩,λk hk=>?_⟩
 . match j with
   |0=>simp at hj hu;subst hj;subst hu;exact .v _
   |1=>simp at hj hu;subst hj;subst hu;exact .v _
   |j+2=>simp at hj
 .have:s.data.toList=[]:=(List.append_eq_nil_iff.1 e).2;exact absurd (by rw[<-zcX,this];rfl:s.data.size=0) hs
 . rcases hw.own k hk with q|q
   .exact⟨⟨zbO (hown k q).1.1 hw.size,(hown k q).1.2⟩,(hown k q).2⟩
   . refine⟨⟨(hw.bld.own.lt k hk).2,λhS=>?_,λb c hl hkb=>?_⟩,.inl (za5 h1.grow q)⟩
     .exact absurd (h1.slt k hS) (Nat.not_lt.2 q)
     .obtain⟨ent,he⟩:=zaT.1 hl;have hE:=h1.ents b ent he;rw[hkb]at hE;exact absurd hE.lt (Nat.not_lt.2 q)
def str_op{ops:aT}{Q:aX}{i d x:Nat}{ts:Array TypeId}{g:Nat}{l:List UInt8}{K':aj}
  (ho:opIs ops i d (.call { callee:=.value (.func 37),args:=#[.tmp x],argTypes:=ts })) (hd:d<N) (h:NowP w0 S0 κ0 K N (Bd w0 κ0 K g l) st a w)
  (hx:get st.t x=.v (.pointer (some ⟨g,0,none⟩)))
  (hK:∀a' w',NowP w0 S0 κ0 K N (λ_ _ _ _=>True) { st with t:=(d,.v (.string (tx l)))::st.t } a' w'->K' a' w'):wpOp zP ops Q i K' a w:=by
 obtain⟨o,o1,o2,o3,o4⟩:=ho.get;have ex:=h.val hx;obtain⟨S,κ,h1,v,hb,hn,hg,hown⟩:=h;have hc:=str_call (P:=zP) layStr bxS hb hn
 refine zBp (f:=37) (caps:=#[]) (Q':=λe w'=>e=.returned (.string ⟨l.toArray⟩)/\Same1 w w' v) o1 o4 o3 rfl (by kernel_rfl) (by
  rw[show(#[.tmp x]:Array Operand).map a.eval++#[]=#[.pointer (some ⟨g,0,none⟩)]by simp[ex]]
  exact hc) ?_
 rintro e w' ⟨rfl,hw⟩
 refine⟨_,rfl,?_⟩;rw[o2];have hgood:GoodS w0 S0 κ0 K N S κ st a w':=h1.world hw.os hw.tape ⟨hw.output,λq=>q.elim⟩ (by rw[hw.size];exact zav _) (λk hk hq=>hw.block k (λe=>hq (hown k e)));exact hK _ _ ⟨S,κ,hgood.put hd _ _ (.c (.v _)),trivial⟩
end
section
variable{w0:World}{S0:aD}{κ0:Kap}{K:aD}{N:Nat}{a:Act}{w:World}{st:St}
def zero131:(zP.info? (zew.t 72)).bind (·.zero)=some (.agg #[.pointer none,.slice none 0 0]):=by kernel_rfl
def new_op{ops:aT}{Q:aX}{i d:Nat}{K':aj}(ho:opIs ops i d (.alloc (zew.t 72)))(hd:d<N)(h:NowP w0 S0 κ0 K N (λ_ _ _ _=>True) st a w)
  (hK:∀g a' w',NowP w0 S0 κ0 K N (Bd w0 κ0 K g []) { st with t:=(d,.v (.pointer (some ⟨g,0,none⟩)))::st.t } a' w'->K' a' w'):wpOp zP ops Q i K' a w:=by
 obtain⟨o,o1,o2,o3,o4⟩:=ho.get;obtain⟨S,κ,h1,_⟩:=h
 obtain⟨i0,hi,hz⟩:∃i0,zP.info? (zew.t 72)=some i0/\i0.zero=some (.agg #[.pointer none,.slice none 0 0]):=by
  have:=zero131
  cases hi:zP.info? (zew.t 72)with
  |none=>rw[hi]at this;cases this
  |some i0=>rw[hi]at this;exact⟨i0,rfl,this⟩
 have hrun:(execOp a.eval o).run zP w=.ok (.value (.pointer (some ⟨w.heap.size,0,none⟩))) (w.alloc (.cells #[.pointer none,.slice none 0 0] (zew.t 72) (0,0))):=by simp only[execOp,o3,Instr.alloc,Sem.run_bind,zh5 hi hz,Result.andThen_ok];simp[newVar,newRow,Value.cells]
 refine zuU o1 o4 hrun ?_;rw[o2];have hold:∀k,k<w.heap.size->(w.alloc (.cells #[.pointer none,.slice none 0 0] (zew.t 72) (0,0))).heap[k]?=w.heap[k]?:=λk hk=>heap_alloc_old w _ hk
 have hgood:GoodS w0 S0 κ0 K N S κ st a (w.alloc (.cells #[.pointer none,.slice none 0 0] (zew.t 72) (0,0))):=h1.world rfl rfl .of (by simp) (λk hk _=>hold k hk)
 have hat:(w.alloc (.cells #[.pointer none,.slice none 0 0] (zew.t 72) (0,0))).heap[w.heap.size]?=some (.cells #[.pointer none,.slice none 0 0] (zew.t 72) (0,0)):=by show(w.heap.push _)[w.heap.size]?=_;rw[Array.getElem?_push,if_pos rfl]
 refine hK w.heap.size _ _ ⟨S,κ,hgood.put hd _ _ (.c (.v _)),.slice none 0 0,⟨⟨_,.inl rfl,hat⟩,World.ownsRowF_nil _ _ _ _,by simp[Value.ownBlock]⟩,λ_=>rfl,⟨⟨by simp,λhS=>?_,λb c hl hkb=>?_⟩,.inl h1.grow⟩,λk hk=>by simp[Value.ownBlock]at hk⟩
 .exact absurd (h1.slt _ hS) (Nat.lt_irrefl _)
 .obtain⟨ent,he⟩:=zaT.1 hl;have hE:=h1.ents b ent he;rw[hkb]at hE;exact absurd hE.lt (Nat.lt_irrefl _)
end
end Go.Proofs.YtcpnffbcljkbkaaGreatDoor
namespace Go.Proofs.YtcpnffbcljkbkaaGreatDoor
open Go.Ab Go.Str
set_option maxRecDepth 100000
section
variable{w0:World}{S0:aD}{κ0:Kap}{K:aD}{a:Act}{w:World}
end
set_option maxRecDepth 100000
def rcC:Code:=(zcq.fn.body).getD .skip
def rcO(j:Nat):Array Oper:=opsAt j rcC
def rcD(j:Nat):Bool:=zBy j rcC
def rc_hb:zcq.fn.body=some rcC:=by kernel_rfl
def rc_shape:rcC=(.seq (.region 0 (rcO 0) (rcD 0)) (.block 0 (.loop (.seq (.region 1 (rcO 1) (rcD 1)) (.seq (.cond (.tmp 8) .skip (.exit 0)) (.seq (.block 1 (.seq (.region 2 (rcO 2) (rcD 2)) (.region 3 (rcO 3) false))) (.region 4 (rcO 4) (rcD 4)))))))):=by kernel_rfl
def rc_r0:regOf 0 rcC=some (.region 0 (rcO 0) (rcD 0)):=by kernel_rfl
def rc_r1:regOf 1 rcC=some (.region 1 (rcO 1) (rcD 1)):=by kernel_rfl
def rc_r2:regOf 2 rcC=some (.region 2 (rcO 2) (rcD 2)):=by kernel_rfl
def rc_r3:regOf 3 rcC=some (.region 3 (rcO 3) false):=by kernel_rfl
def rc_r4:regOf 4 rcC=some (.region 4 (rcO 4) (rcD 4)):=by kernel_rfl
def rc_n:zcq.fn.ntmps<=1000:=by decide
section
variable{w0:World}{S0:aD}{κ0:Kap}{K:aD}{a:Act}{w:World}
def rcStep{X:Sat2}(hX:Stable X){j:Nat}{st st':St}(hr:regOf j rcC=some (.region j (rcO j) (rcD j)))(ht:tReg zcq zT j st=some st')
  (h:NowP w0 S0 κ0 K zcq.fn.ntmps X st a w) {Q:aX} (hQ:∀a' w',NowP w0 S0 κ0 K zcq.fn.ntmps X st' a' w'->Q .normal a' w'):(Code.region j (rcO j) (rcD j)).wp zcq.P Q a w:=stepP hX rc_hb rc_n hr ht h hQ
abbrev stC(l:List zbo)(g:Nat)(i:Int):St:=⟨[(1,AV.v (.pointer (some ⟨g,0,none⟩))),(5,sI l),(6,I l.length),(7,I i)],[]⟩
def outs_succ{l:List zbo}{k:Nat}(h:k<l.length):outsS (l.take (k+1))=outsS (l.take k)++(outS l[k]++[10]):=by unfold outsS;rw[zdi,zif,zaa h];simp
def outs_len:∀{l:List zbo},(∀o∈l,OutW o)->(outsS l).length<=201*l.length
 |[],_=>by simp[outsS]
 |o::r,h=>by have h1:=zDS (h o (by simp));have h2:=outs_len (l:=r) (λq hq=>h q (by simp[hq]));unfold outsS at h2 ⊢;rw[zem];simp only[zM]at h2 ⊢;omega
def rc_body{l:List zbo}{g:Nat}{t:List UInt8}(hl:∀o∈l,OutW o)(hc:l.length<=1000000000)(ht:t.length+201*l.length<=140737488355328)
  (h:NowP w0 S0 κ0 K zcq.fn.ntmps (Bd w0 κ0 K g t) ⟨[(0,sI l),(1,AV.v (.pointer (some ⟨g,0,none⟩)))],[]⟩ a w) {Q:aX}
  (hQ:∀st' a' w',NowP w0 S0 κ0 K zcq.fn.ntmps (Bd w0 κ0 K g (t++outsS l)) st' a' w'->Q .normal a' w'):rcC.wp zcq.P Q a w:=by
 rw[rc_shape];refine wp_seq (rcStep Bd.stable rc_r0 (rc0 l g) h (λa1 w1 h1=>?_));rw[zab]at h1;refine wp_block (wp_loop (λa w=>∃k:Nat,k<=l.length/\NowP w0 S0 κ0 K zcq.fn.ntmps (Bd w0 κ0 K g (t++outsS (l.take k))) (stC l g k) a w) (λa _=>l.length-cnt a 7) ⟨0,zcT _,by simpa[outsS]using h1⟩ ?_)
 rintro a w ⟨k,hk,hn⟩
 have hc0:cnt a 7=k:=by rw[hn.cnt (n:=(k:Int)) rfl];simp
 refine wp_seq (rcStep Bd.stable rc_r1 (rc1 l g l.length k) hn (λa8 w8 h8=>?_));refine wp_seq (wp_cond (h8.bool (b:=decide ((k:Int)<l.length)) rfl) ?_);by_cases hlt:k<l.length
 rotate_left
 . rw[decide_eq_false (by omega),iNs];have hkl:k=l.length:=by omega
   rw[hkl,zbn]at h8;exact wp_exit (hQ _ _ _ h8)
 rw[decide_eq_true (by omega),if_pos rfl];refine wp_skip ?_;have h9:=h8.trim Bd.stable [1,5,6,7] [] (st':=stC l g k) (by kernel_rfl);have t2:=rc2 l g l.length k;rw[cPQ,zjT,show((k:Nat):Int).toNat=k from rfl,zaa hlt,zad]at t2;refine wp_seq (wp_block (wp_seq (rcStep Bd.stable rc_r2 t2 h9 (λaA wA hA=>?_))));have hoW:OutW l[k]:=hl _ (zaq hlt);have hol:=zDS hoW;have htk:=outs_len (l:=l.take k) (λq hq=>hl q (zb7 hq));rw[zcH,Nat.min_eq_left (by omega)]at htk;have t3:=rc3 l g l.length k l[k];rw[zs2 hoW,zcC,zam (by rw[zdI];show(outS l[k]).length+1<=_;omega),show tx (outS l[k])++nl=tx (outS l[k]++[10])from zqX _ [10]]at t3;have z3:(rcO 3).size=4:=by kernel_rfl
 refine wp_region ?_;rw[z3,show List.range 4=List.range' 0 3++[3]from rfl];refine segP Bd.stable rc_hb rc_n rc_r3 t3 (by rw[z3];decide) hA (λaE wE hE=>?_);rw[wpOps_cons];refine ws_op (ts:=#[tyB,9]) (d:=14) (x:=1) (y:=.tmp 13) (s:=tx (outS l[k]++[10])) (by unfold opIs;kernel_rfl) (by decide) hE rfl (hE.val rfl) (by rw[zdI];simp only[zM];omega) (by rw[zdI,zaW];simp) (λaF wF hF=>?_);rw[zhV,zcA,<-outs_succ hlt]at hF;have hG:=hF.trim Bd.stable [1,5,6,7] [4] (st':=stC l g k) (by kernel_rfl);show Exit.inBlock 1 _ .normal aF wF;refine rcStep Bd.stable rc_r4 (rc4 l g l.length k) hG (λaH wH hH=>?_);rw[w6Q]at hH;refine⟨⟨k+1,hlt,by exact_mod_cast hH⟩,?_⟩;have:cnt aH 7=k+1:=by rw[hH.cnt (n:=(k:Int)+1) rfl];omega
 show l.length-cnt aH 7<l.length-cnt a 7;omega
def bdK(g:Nat)(v:Value):Kap:=λb=>if b=1 then some (g,0)else if b=2 then v.ownBlock.map λk=>(k,0)else none
def bdN:Nat->Prop:=λb=>b=1\/b=2
def bdK_at{g:Nat}{v:Value}{b k c:Nat}(hb:bdN b)(h:bdK g v b=some (k,c)):k=g\/v.ownBlock=some k:=by
 unfold bdK at h;rcases hb with rfl|rfl
 .simp at h;exact .inl h.1.symm
 .rw[if_neg (by decide),if_pos rfl]at h;obtain⟨q,h1,h2⟩:=zdH.1 h;injection h2 with h2;subst h2;exact .inr h1
def out_call{S:aD}{g:Nat}{t:List UInt8}{v x:Value}{l:List zbo}(hb:Bld (zew.t 72) (zew.t 5) w g t v)(hn:t=[]->v=.slice none 0 0)
  (hS:∀k,S k->k<w.heap.size) (hk:varsOk S w) (hg:¬S g) (ho:∀k,v.ownBlock=some k->¬S k) (hx:CRel S w (.sl 5 (mJ l)) x) (hl:∀o∈l,OutW o) (hc:l.length<=1000000000) (ht:t.length+201*l.length<=140737488355328):Calls zP 34 #[x,.pointer (some ⟨g,0,none⟩)] w λe w'=>e=.returned (.tuple #[])/\∃v',Wrote (zew.t 72) (zew.t 5) w w' g t (outsS l) v v'/\(t++outsS l=[]->v'=.slice none 0 0):=by
 have hf:zcq.P.funcs[34]?=some zcq.fn:=by kernel_rfl
 refine calls_of_wp hf rc_hb ?_
 have hgt:g<w.heap.size:=by obtain⟨p,_,h1⟩:=hb.at_;exact(zdd.1 h1).1
 have hfar:∀k,k<w.heap.size->¬S k->Far S (bdK g v) (Ab.look []) w k:=λk h1 h2=>⟨h1,h2,λb c hl=>by simp[Ab.look]at hl⟩
 have hstart:NowP w S (bdK g v) bdN zcq.fn.ntmps (Bd w (bdK g v) bdN g t) ⟨[(0,sI l),(1,AV.v (.pointer (some ⟨g,0,none⟩)))],[]⟩
   { tmps:=#[x,.pointer (some ⟨g,0,none⟩)]++Array.replicate (zcq.fn.ntmps-(#[x,.pointer (some ⟨g,0,none⟩)]:Array Value).size) undef,defers:=[] } w:=by
  refine⟨S,bdK g v,?_,v,hb,hn,⟨hfar g hgt hg,.inr ⟨1,0,by decide,.inl rfl,rfl⟩⟩,λk hk'=>⟨hfar k (hb.own.lt k hk').2 (ho k hk'),.inr ⟨2,0,by decide,.inr rfl,by simp[bdK,hk']⟩⟩⟩
  have hs:=GoodS.start (w:=w) (S:=S) (κ:=bdK g v) (args:=[sI l,AV.v (.pointer (some ⟨g,0,none⟩))]) (vals:=#[x,.pointer (some ⟨g,0,none⟩)]) (ms:=[]) (N:=zcq.fn.ntmps) rfl (show 2<=zcq.fn.ntmps by decide) hS hk (λk a u ha hu=>by
   match k,ha,hu with
   |0,ha,hu=>injection ha with ha;injection hu with hu;subst ha;subst hu;exact .c hx
   |1,ha,hu=>injection ha with ha;injection hu with hu;subst ha;subst hu;exact .c (.v _)
   |k+2,ha,hu=>simp at ha) (λb e h=>by simp[Ab.look]at h) (λb b' k c c' h=>by simp[Dm,Ab.look]at h)
  exact{ hs with
   base:=⟨hk,λk hSk=>⟨hS k hSk,λb c hbn hbk=>by
    rcases bdK_at hbn hbk with rfl|q
    .exact hg hSk
    .exact ho k q hSk⟩⟩
   old:=λ_ _ _=>rfl
   snew:=λ_ h=>.inl h
   parK:=λb _ h=>by simp[Ab.look]at h
   own:=λb k c _ h=>by simp[Ab.look]at h }
 refine rc_body hl hc ht hstart (λst' a' w' hn'=>?_);obtain⟨S',κ',hg',v',hb',hn2,hgf,hof⟩:=hn';refine⟨hg'.defers,.tuple #[],by kernel_rfl,rfl,v',⟨hb',λk hk'=>?_,hg'.os,hg'.tape,hg'.output.1,hg'.grow,λk hk1 hk2 hk3=>hg'.old k hk1 (λb c hbn hbk=>?_)⟩,hn2⟩
 . rcases(hof k hk').2 with q|⟨b,c,_,hbn,hbk⟩
   .exact .inr q
   . rcases bdK_at hbn hbk with rfl|q
     .exact absurd hk' hb'.ne
     .exact .inl q
 . rcases bdK_at hbn hbk with rfl|q
   .exact hk2 rfl
   .exact hk3 q
end
end Go.Proofs.YtcpnffbcljkbkaaGreatDoor
namespace Go.Proofs.YtcpnffbcljkbkaaGreatDoor
open Go.Ab Go.Str Go.RowKit
set_option maxRecDepth 100000
def rpC:Code:=(zbp.fn.body).getD .skip
def rpO(j:Nat):Array Oper:=opsAt j rpC
def rpD(j:Nat):Bool:=zBy j rpC
def rp_hb:zbp.fn.body=some rpC:=by kernel_rfl
def rp_shape:rpC=(.seq (.region 0 (rpO 0) (rpD 0)) (.seq (.region 1 (rpO 1) false) (.seq (.region 2 (rpO 2) (rpD 2)) (.seq (.seq (.region 3 (rpO 3) (rpD 3)) (.block 0 (.loop (.seq (.region 4 (rpO 4) (rpD 4)) (.seq (.cond (.tmp 15) .skip (.exit 0)) (.seq (.block 1 (.seq (.region 5 (rpO 5) (rpD 5)) (.seq (.region 6 (rpO 6) false) (.region 7 (rpO 7) false)))) (.region 8 (rpO 8) (rpD 8)))))))) (.seq (.seq (.region 9 (rpO 9) (rpD 9)) (.block 2 (.loop (.seq (.region 10 (rpO 10) (rpD 10)) (.seq (.cond (.tmp 35) .skip (.exit 2)) (.seq (.block 3 (.seq (.region 11 (rpO 11) (rpD 11)) (.seq (.region 12 (rpO 12) (rpD 12)) (.seq (.region 13 (rpO 13) (rpD 13)) (.cond (.tmp 42) (.region 14 (rpO 14) false) (.region 15 (rpO 15) false)))))) (.region 16 (rpO 16) (rpD 16)))))))) (.seq (.region 17 (rpO 17) false) (.seq (.region 18 (rpO 18) false) (.seq (.region 19 (rpO 19) false) .ret)))))))):=by kernel_rfl
def rp_r0:regOf 0 rpC=some (.region 0 (rpO 0) (rpD 0)):=by kernel_rfl
def rp_r2:regOf 2 rpC=some (.region 2 (rpO 2) (rpD 2)):=by kernel_rfl
def rp_r3:regOf 3 rpC=some (.region 3 (rpO 3) (rpD 3)):=by kernel_rfl
def rp_r4:regOf 4 rpC=some (.region 4 (rpO 4) (rpD 4)):=by kernel_rfl
def rp_r5:regOf 5 rpC=some (.region 5 (rpO 5) (rpD 5)):=by kernel_rfl
def rp_r6:regOf 6 rpC=some (.region 6 (rpO 6) false):=by kernel_rfl
def rp_r7:regOf 7 rpC=some (.region 7 (rpO 7) false):=by kernel_rfl
def rp_r8:regOf 8 rpC=some (.region 8 (rpO 8) (rpD 8)):=by kernel_rfl
def rp_r9:regOf 9 rpC=some (.region 9 (rpO 9) (rpD 9)):=by kernel_rfl
def rp_r10:regOf 10 rpC=some (.region 10 (rpO 10) (rpD 10)):=by kernel_rfl
def rp_r11:regOf 11 rpC=some (.region 11 (rpO 11) (rpD 11)):=by kernel_rfl
def rp_r12:regOf 12 rpC=some (.region 12 (rpO 12) (rpD 12)):=by kernel_rfl
def rp_r13:regOf 13 rpC=some (.region 13 (rpO 13) (rpD 13)):=by kernel_rfl
def rp_r14:regOf 14 rpC=some (.region 14 (rpO 14) false):=by kernel_rfl
def rp_r15:regOf 15 rpC=some (.region 15 (rpO 15) false):=by kernel_rfl
def rp_r16:regOf 16 rpC=some (.region 16 (rpO 16) (rpD 16)):=by kernel_rfl
def rp_r18:regOf 18 rpC=some (.region 18 (rpO 18) false):=by kernel_rfl
def rp_r19:regOf 19 rpC=some (.region 19 (rpO 19) false):=by kernel_rfl
def rp_n:zbp.fn.ntmps<=1000:=by decide
def rp_enters:enters zbp.P 10=true:=by kernel_rfl
def zG7{α:Type}(f:α->List UInt8)(l:List α)(k:Nat):((l.take k).flatMap f).length<=(l.flatMap f).length:=by
 have:l.flatMap f=(l.take k).flatMap f++(l.drop k).flatMap f:=by rw[<-zif,zgZ]
 rw[this,zaW];omega
def zGl{α:Type}(f:α->List UInt8){l:List α}{k:Nat}(h:k<l.length):(l.take (k+1)).flatMap f=(l.take k).flatMap f++f l[k]:=by rw[zdi,zif,zaa h];simp
section
variable{w0:World}{S0:aD}{κ0:Kap}{K:aD}{a:Act}{w:World}
def rpStep{X:Sat2}(hX:Stable X){j:Nat}{st st':St}(hr:regOf j rpC=some (.region j (rpO j) (rpD j)))(ht:tReg zbp zT j st=some st')
  (h:NowP w0 S0 κ0 K zbp.fn.ntmps X st a w) {Q:aX} (hQ:∀a' w',NowP w0 S0 κ0 K zbp.fn.ntmps X st' a' w'->Q .normal a' w'):(Code.region j (rpO j) (rpD j)).wp zbp.P Q a w:=stepP hX rp_hb rp_n hr ht h hQ
def clo_op{N:Nat}{st:St}{ops:aT}{Q:aX}{i d f y:Nat}{ts:Array TypeId}{g:Nat}{t:List UInt8}{l:List zbo}{K':aj}
  (ho:opIs ops i d (.call { callee:=.value (.tmp f),args:=#[.tmp y],argTypes:=ts })) (hd:d<N) (h:NowP w0 S0 κ0 K N (Bd w0 κ0 K g t) st a w)
  (hf:get st.t f=fnV g) (hy:get st.t y=.sl 5 (mJ l)) (hl:∀o∈l,OutW o) (hc:l.length<=1000000000) (ht:t.length+201*l.length<=140737488355328)
  (hK:∀a' w',NowP w0 S0 κ0 K N (Bd w0 κ0 K g (t++outsS l)) { st with t:=(d,.tup [])::st.t } a' w'->K' a' w'):wpOp zP ops Q i K' a w:=by
 obtain⟨o,o1,o2,o3,o4⟩:=ho.get;have ef:=h.val hf;obtain⟨S,κ,h1,v,hb,hn,hg,hown⟩:=h;have hvy:VRel S κ (λb=>(Ab.look st.m b).isSome=true) w (get st.t y) (a.eval (.tmp y)):=h1.slots y;rw[hy]at hvy;have hc:=out_call hb hn h1.slt (Good.okw h1) hg.1.2.1 (λk hk=>(hown k hk).1.2.1) hvy.sl_inv hl hc ht
 refine zBp (f:=34) (caps:=#[.pointer (some ⟨g,0,none⟩)]) (Q':=λe w'=>e=.returned (.tuple #[])/\∃v',Wrote (zew.t 72) (zew.t 5) w w' g t (outsS l) v v'/\(t++outsS l=[]->v'=.slice none 0 0)) o1 o4 o3 ef (by kernel_rfl) (by
  rw[show(#[.tmp y]:Array Operand).map a.eval++#[.pointer (some ⟨g,0,none⟩)]=#[a.eval (.tmp y),.pointer (some ⟨g,0,none⟩)]by simp]
  exact hc) ?_
 rintro e w' ⟨rfl,v',hw,hn'⟩
 refine⟨_,rfl,?_⟩;rw[o2];have hgood:GoodS w0 S0 κ0 K N S κ st a w':=h1.world hw.os hw.tape ⟨hw.output,λq=>q.elim⟩ hw.size (λk hk hq=>hw.block k hk (λe=>hq (e▸hg)) (λe=>hq (hown k e)));refine hK _ _ ⟨S,κ,hgood.put hd _ _ (.c (.tup _ _ rfl (λj c u hj hu=>by simp at hj))),v',hw.bld,hn',⟨⟨zbO hg.1.1 hw.size,hg.1.2⟩,hg.2⟩,λk hk=>?_⟩;rcases hw.own k hk with q|q
 .exact⟨⟨zbO (hown k q).1.1 hw.size,(hown k q).1.2⟩,(hown k q).2⟩
 . refine⟨⟨(hw.bld.own.lt k hk).2,λhS=>?_,λb c hl hkb=>?_⟩,.inl (za5 h1.grow q)⟩
   .exact absurd (h1.slt k hS) (Nat.not_lt.2 q)
   .obtain⟨ent,he⟩:=zaT.1 hl;have hE:=h1.ents b ent he;rw[hkb]at hE;exact absurd hE.lt (Nat.not_lt.2 q)
abbrev stB(x:zcE)(g:Nat):St:=⟨[(1,AV.fp (zbY x)),(3,AV.v (.pointer (some ⟨g,0,none⟩))),(4,fnV g)],[]⟩
abbrev stP(x:zcE)(g:Nat)(i:Int):St:=⟨[(1,AV.fp (zbY x)),(3,AV.v (.pointer (some ⟨g,0,none⟩))),(4,fnV g),(12,sN x.s),(13,I x.s.length),(14,I i)],[]⟩
abbrev stG(x:zcE)(g:Nat)(i:Int):St:=⟨[(1,AV.fp (zbY x)),(3,AV.v (.pointer (some ⟨g,0,none⟩))),(4,fnV g),(32,sE x.xj),(33,I x.xj.length),(34,I i)],[]⟩
def rep_len{x:zcE}(h:RepW x):(x.s.flatMap pubS).length+(x.xj.flatMap logS).length<=1000000000000:=by have:=h.size;unfold repS at this;simp only[zaW]at this;omega
def rp_pubs{x:zcE}(hx:RepW x){g:Nat}(h:NowP w0 S0 κ0 K zbp.fn.ntmps (Bd w0 κ0 K g []) (stB x g) a w){Q:aX}
  (hQ:∀a' w',NowP w0 S0 κ0 K zbp.fn.ntmps (Bd w0 κ0 K g (x.s.flatMap pubS)) (stB x g) a' w'->Q .normal a' w'):(Code.seq (.region 3 (rpO 3) (rpD 3)) (.block 0 (.loop (.seq (.region 4 (rpO 4) (rpD 4)) (.seq (.cond (.tmp 15) .skip (.exit 0)) (.seq (.block 1 (.seq (.region 5 (rpO 5) (rpD 5)) (.seq (.region 6 (rpO 6) false) (.region 7 (rpO 7) false)))) (.region 8 (rpO 8) (rpD 8)))))))).wp zbp.P Q a w:=by
 have hfew:=hx.few.1;have hsz:=rep_len hx;refine wp_seq (rpStep Bd.stable rp_r3 (rp3 x g) h (λa1 w1 h1=>?_));rw[zab]at h1;refine wp_block (wp_loop (λa w=>∃k:Nat,k<=x.s.length/\NowP w0 S0 κ0 K zbp.fn.ntmps (Bd w0 κ0 K g ((x.s.take k).flatMap pubS)) (stP x g k) a w) (λa _=>x.s.length-cnt a 14) ⟨0,zcT _,by simpa using h1⟩ ?_)
 rintro a w ⟨k,hk,hn⟩
 have hc0:cnt a 14=k:=by rw[hn.cnt (n:=(k:Int)) rfl];simp
 refine wp_seq (rpStep Bd.stable rp_r4 (rp4 x g x.s x.s.length k) hn (λa8 w8 h8=>?_));refine wp_seq (wp_cond (h8.bool (b:=decide ((k:Int)<x.s.length)) rfl) ?_);by_cases hlt:k<x.s.length
 rotate_left
 . rw[decide_eq_false (by omega),iNs];have hkl:k=x.s.length:=by omega
   rw[hkl,zbn]at h8;exact wp_exit (hQ _ _ (h8.trim Bd.stable [1,3,4] [] (by kernel_rfl)))
 rw[decide_eq_true (by omega),if_pos rfl];refine wp_skip ?_;have h9:=h8.trim Bd.stable [1,3,4,12,13,14] [] (st':=stP x g k) (by kernel_rfl);have t5:=rp5 x g x.s x.s.length k;rw[cPQ,zoj,show((k:Nat):Int).toNat=k from rfl,zaa hlt,zad]at t5;refine wp_seq (wp_block (wp_seq (rpStep Bd.stable rp_r5 t5 h9 (λaA wA hA=>?_))));have hp:=hx.pub _ (zaq hlt);have hpo:=hx.few.2.2.2 _ (zaq hlt);have htk:=zG7 pubS x.s k;have hsucc:=zGl pubS hlt;generalize x.s[k]=p at hA hp hpo hsucc
 have hns:∀n∈[p.At,p.p],W64 n:=λn hn=>by
  simp only[zH,zcF]at hn;rcases hn with rfl|rfl
  .exact hp.1
  .exact hp.2.1
 have hjl:=ziE [p.At,p.p] [112,117,98,108,105,115,104,101,100] hns;simp only[zaJ,zba]at hjl;have t6:=rp6 x g x.s x.s.length k p;rw[show(({ data:={ toList:=[112,117,98,108,105,115,104,101,100] } }:ByteArray))=tx [112,117,98,108,105,115,104,101,100]from rfl,zvb (by simp) (by simp) hns,zcC,zam (by rw[zdI];show _+1<=_;omega)]at t6;have z6:(rpO 6).size=8:=by kernel_rfl
 refine wp_seq (wp_region ?_);rw[z6,show List.range 8=List.range' 0 7++[7]from rfl];refine segP Bd.stable rp_hb rp_n rp_r6 t6 (by rw[z6];decide) hA (λaE wE hE=>?_);rw[wpOps_cons];refine ws_op (ts:=#[tyB,9]) (d:=25) (x:=3) (y:=.tmp 24) (s:=tx (zgo [112,117,98,108,105,115,104,101,100] [p.At,p.p]++[10])) (by unfold opIs;kernel_rfl) (by decide) hE rfl (hE.val rfl) (by rw[zdI];simp only[zM];omega) (by rw[zdI,zaW];simp) (λaF wF hF=>?_);rw[zhV]at hF;have hG:=hF.trim Bd.stable [1,3,4,6,12,13,14] [] (st':=⟨[(1,AV.fp (zbY x)),(3,AV.v (.pointer (some ⟨g,0,none⟩))),(4,fnV g),(6,bA 6 3),(12,sN x.s),(13,I x.s.length),(14,I k)],[(6,gI p)]⟩) (by kernel_rfl);show Code.wp _ _ _ aF wF;have z7:(rpO 7).size=4:=by kernel_rfl
 refine wp_region ?_;rw[z7,show List.range 4=List.range' 0 3++[3]from rfl];refine segP Bd.stable rp_hb rp_n rp_r7 (rp7 x g x.s x.s.length k p) (by rw[z7];decide) hG (λaH wH hH=>?_);rw[wpOps_cons];refine clo_op (ts:=#[47]) (d:=29) (f:=26) (y:=28) (by unfold opIs;kernel_rfl) (by decide) hH rfl rfl hp.2.2 hpo (by simp only[zM];omega) (λaI wI hI=>?_);have hJ:=hI.trim Bd.stable [1,3,4,12,13,14] [6] (st':=stP x g k) (by kernel_rfl);show Exit.inBlock 1 _ .normal aI wI;refine rpStep Bd.stable rp_r8 (rp8 x g x.s x.s.length k) hJ (λaL wL hL=>?_);rw[w6Q,zcA]at hL;refine⟨⟨k+1,hlt,?_⟩,?_⟩
 . rw[hsucc]
   exact_mod_cast hL
 have:cnt aL 14=k+1:=by rw[hL.cnt (n:=(k:Int)+1) rfl];omega
 show x.s.length-cnt aL 14<x.s.length-cnt a 14;omega
def rp_logs{x:zcE}(hx:RepW x){g:Nat}{t:List UInt8}(ht:t=x.s.flatMap pubS)(h:NowP w0 S0 κ0 K zbp.fn.ntmps (Bd w0 κ0 K g t) (stB x g) a w){Q:aX}
  (hQ:∀a' w',NowP w0 S0 κ0 K zbp.fn.ntmps (Bd w0 κ0 K g (t++x.xj.flatMap logS)) (stB x g) a' w'->Q .normal a' w'):(Code.seq (.region 9 (rpO 9) (rpD 9)) (.block 2 (.loop (.seq (.region 10 (rpO 10) (rpD 10)) (.seq (.cond (.tmp 35) .skip (.exit 2)) (.seq (.block 3 (.seq (.region 11 (rpO 11) (rpD 11)) (.seq (.region 12 (rpO 12) (rpD 12)) (.seq (.region 13 (rpO 13) (rpD 13)) (.cond (.tmp 42) (.region 14 (rpO 14) false) (.region 15 (rpO 15) false)))))) (.region 16 (rpO 16) (rpD 16)))))))).wp zbp.P Q a w:=by
 have hfew:=hx.few.2.1;have hsz:=rep_len hx;rw[<-ht]at hsz;refine wp_seq (rpStep Bd.stable rp_r9 (rp9 x g) h (λa1 w1 h1=>?_));rw[zab]at h1;refine wp_block (wp_loop (λa w=>∃k:Nat,k<=x.xj.length/\NowP w0 S0 κ0 K zbp.fn.ntmps (Bd w0 κ0 K g (t++(x.xj.take k).flatMap logS)) (stG x g k) a w) (λa _=>x.xj.length-cnt a 34) ⟨0,zcT _,by simpa using h1⟩ ?_)
 rintro a w ⟨k,hk,hn⟩
 have hc0:cnt a 34=k:=by rw[hn.cnt (n:=(k:Int)) rfl];simp
 refine wp_seq (rpStep Bd.stable rp_r10 (rp10 x g x.xj x.xj.length k) hn (λa8 w8 h8=>?_));refine wp_seq (wp_cond (h8.bool (b:=decide ((k:Int)<x.xj.length)) rfl) ?_);by_cases hlt:k<x.xj.length
 rotate_left
 . rw[decide_eq_false (by omega),iNs];have hkl:k=x.xj.length:=by omega
   rw[hkl,zbn]at h8;exact wp_exit (hQ _ _ (h8.trim Bd.stable [1,3,4] [] (by kernel_rfl)))
 rw[decide_eq_true (by omega),if_pos rfl];refine wp_skip ?_;have h9:=h8.trim Bd.stable [1,3,4,32,33,34] [] (st':=stG x g k) (by kernel_rfl);have t11:=rp11 x g x.xj x.xj.length k;rw[cPQ,zgD,show((k:Nat):Int).toNat=k from rfl,zaa hlt,zad]at t11;refine wp_seq (wp_block (wp_seq (rpStep Bd.stable rp_r11 t11 h9 (λaA wA hA=>?_))));have he:=hx.log _ (zaq hlt);have htk:=zG7 logS x.xj k;have hsucc:=zGl logS hlt;generalize x.xj[k]=e at hA he hsucc
 have next:∀a' w',NowP w0 S0 κ0 K zbp.fn.ntmps (Bd w0 κ0 K g (t++(x.xj.take (k+1)).flatMap logS)) (stG x g k) a' w'->(Code.region 16 (rpO 16) (rpD 16)).wp zbp.P (Exit.then (λa' w'=>(∃k:Nat,k<=x.xj.length/\NowP w0 S0 κ0 K zbp.fn.ntmps (Bd w0 κ0 K g (t++(x.xj.take k).flatMap logS)) (stG x g k) a' w')/\x.xj.length-cnt a' 34<x.xj.length-cnt a 34) (Exit.inBlock 2 Q)) a' w':=λa' w' hJ=>by
  refine rpStep Bd.stable rp_r16 (rp16 x g x.xj x.xj.length k) hJ (λaL wL hL=>?_);rw[w6Q]at hL;refine⟨⟨k+1,hlt,by exact_mod_cast hL⟩,?_⟩;have:cnt aL 34=k+1:=by rw[hL.cnt (n:=(k:Int)+1) rfl];omega
  omega
 refine wp_seq (rpStep Bd.stable rp_r12 (rp12 x g x.xj x.xj.length k e) hA (λaB wB hB=>?_));refine wp_seq (rpStep Bd.stable rp_r13 (rp13 x g x.xj x.xj.length k e e.a) hB (λaC wC hC=>?_));refine wp_cond (hC.bool (b:=(e.k==0)) rfl) ?_;have hD:=hC.trim Bd.stable [1,3,4,9,32,33,34] [] (st':=⟨[(1,AV.fp (zbY x)),(3,AV.v (.pointer (some ⟨g,0,none⟩))),(4,fnV g),(9,bA 9 5),(32,sE x.xj),(33,I x.xj.length),(34,I k)],[(9,gC e.a)]⟩) (by kernel_rfl);by_cases hk0:e.k=0
 . rw[show(e.k==0)=true from beq_iff_eq.2 hk0,if_pos rfl]
   have hns:∀n∈[e.a.ID,e.a.b,e.a.R,e.a.p,e.a.K],W64 n:=λn hn=>by
    simp only[zH,zcF]at hn;rcases hn with rfl|rfl|rfl|rfl|rfl
    .exact he.1
    .exact he.2.1
    .exact he.2.2.1
    .exact he.2.2.2.1
    .exact he.2.2.2.2
   have hjl:=ziE _ [105,115,115,117,101] hns;simp only[zaJ,zba]at hjl;have hlog:logS e=zgo [105,115,115,117,101] [e.a.ID,e.a.b,e.a.R,e.a.p,e.a.K]++[10]:=by unfold logS;rw[if_pos hk0]
   have t14:=rp14 x g x.xj x.xj.length k e.a;rw[show(({ data:={ toList:=[105,115,115,117,101] } }:ByteArray))=tx [105,115,115,117,101]from rfl,zvb (by simp) (by simp) hns,zcC,zam (by rw[zdI];show _+1<=_;omega)]at t14;have z14:(rpO 14).size=14:=by kernel_rfl
   refine wp_region ?_;rw[z14,show List.range 14=List.range' 0 13++[13]from rfl];refine segP Bd.stable rp_hb rp_n rp_r14 t14 (by rw[z14];decide) hD (λaE wE hE=>?_);rw[wpOps_cons];refine ws_op (ts:=#[tyB,9]) (d:=56) (x:=3) (y:=.tmp 55) (s:=tx (zgo [105,115,115,117,101] [e.a.ID,e.a.b,e.a.R,e.a.p,e.a.K]++[10])) (by unfold opIs;kernel_rfl) (by decide) hE rfl (hE.val rfl) (by rw[zdI];simp only[zM];omega) (by rw[zdI,zaW];simp) (λaF wF hF=>?_);rw[zhV,<-hlog,zcA,<-hsucc]at hF;exact next aF wF (hF.trim Bd.stable [1,3,4,32,33,34] [9] (by kernel_rfl))
 . rw[show(e.k==0)=false from beq_eq_false_iff_ne.2 hk0,iNs]
   have hns:∀n∈[e.a.ID,e.a.p],W64 n:=λn hn=>by
    simp only[zH,zcF]at hn;rcases hn with rfl|rfl
    .exact he.1
    .exact he.2.2.2.1
   have hjl:=ziE _ [114,101,118,111,107,101] hns;simp only[zaJ,zba]at hjl;have hlog:logS e=zgo [114,101,118,111,107,101] [e.a.ID,e.a.p]++[10]:=by unfold logS;rw[if_neg hk0]
   have t15:=rp15 x g x.xj x.xj.length k e.a;rw[show(({ data:={ toList:=[114,101,118,111,107,101] } }:ByteArray))=tx [114,101,118,111,107,101]from rfl,zvb (by simp) (by simp) hns,zcC,zam (by rw[zdI];show _+1<=_;omega)]at t15;have z15:(rpO 15).size=8:=by kernel_rfl
   refine wp_region ?_;rw[z15,show List.range 8=List.range' 0 7++[7]from rfl];refine segP Bd.stable rp_hb rp_n rp_r15 t15 (by rw[z15];decide) hD (λaE wE hE=>?_);rw[wpOps_cons];refine ws_op (ts:=#[tyB,9]) (d:=64) (x:=3) (y:=.tmp 63) (s:=tx (zgo [114,101,118,111,107,101] [e.a.ID,e.a.p]++[10])) (by unfold opIs;kernel_rfl) (by decide) hE rfl (hE.val rfl) (by rw[zdI];simp only[zM];omega) (by rw[zdI,zaW];simp) (λaF wF hF=>?_);rw[zhV,<-hlog,zcA,<-hsucc]at hF;exact next aF wF (hF.trim Bd.stable [1,3,4,32,33,34] [9] (by kernel_rfl))
abbrev stT(t:List UInt8):St:=⟨[(2,AV.v (.string (tx t)))],[]⟩
def rp_body{x:zcE}(hx:RepW x)(h:NowP w0 S0 κ0 K zbp.fn.ntmps X0 ⟨[(0,pJ x)],[]⟩ a w):rpC.wp zbp.P (PostC w0 S0 κ0 K zbp.fn.ntmps .ret (stT (repS x))) a w:=by
 have hsz:=rep_len hx;rw[rp_shape];refine wp_seq (rpStep Stable.none rp_r0 (rp0 x) h (λa1 w1 h1=>?_));have h2:=h1.freeze Stable.none rp_n [1] rfl (st':=⟨[(1,AV.fp (zbY x))],[]⟩) (by kernel_rfl);have z1:(rpO 1).size=1:=by kernel_rfl
 refine wp_seq (wp_region ?_);rw[z1,show List.range 1=[0]from rfl,wpOps_cons];refine new_op (d:=3) (by unfold opIs;kernel_rfl) (by decide) h2 (λg a3 w3 h3=>?_);show Code.wp _ _ _ a3 w3;have h4:=h3.trim Bd.stable [1,3] [] (st':=⟨[(1,AV.fp (zbY x)),(3,AV.v (.pointer (some ⟨g,0,none⟩)))],[]⟩) (by kernel_rfl);refine wp_seq (rpStep Bd.stable rp_r2 (rp2 x g) h4 (λa5 w5 h5=>?_))
 have h6:NowP w0 S0 κ0 K zbp.fn.ntmps (Bd w0 κ0 K g []) (stB x g) a5 w5:=by
  obtain⟨S,κ,hg,hb⟩:=h5;obtain⟨vs,e1,e2,e3⟩:=(hg.slots 4).fn_inv
  have ev:vs=#[.pointer (some ⟨g,0,none⟩)]:=by
   rcases vs with⟨l⟩
   match l,e2 with
   |[u],_=>have:=(e3 0 _ u rfl rfl).v_inv;rw[this]
  subst ev;have q:=GoodS.set hg 4 (fnV g) (by rw[show a5.tmps.getD 4 undef=_ from e1];exact .c (.v _));exact NowP.trim Bd.stable ⟨S,κ,q,hb⟩ [1,3,4] [] (by kernel_rfl)
 refine wp_seq (rp_pubs hx h6 (λa7 w7 h7=>?_));refine wp_seq (rp_logs hx rfl h7 (λa8 w8 h8=>?_));have z17:(rpO 17).size=1:=by kernel_rfl
 refine wp_seq (wp_region ?_);rw[z17,show List.range 1=[0]from rfl,wpOps_cons];refine ws_op (ts:=#[tyB,9]) (d:=66) (x:=3) (y:=.const (.string ⟨⟨[110,111,119,10]⟩⟩)) (s:=tx [110,111,119,10]) (by unfold opIs;kernel_rfl) (by decide) h8 rfl rfl (by rw[zdI];simp only[zM];omega) (by rw[zdI];simp) (λa9 w9 h9=>?_);rw[zhV]at h9;show Code.wp _ _ _ a9 w9;have hA:=h9.trim Bd.stable [1,3,4] [] (st':=stB x g) (by kernel_rfl);have z18:(rpO 18).size=4:=by kernel_rfl
 refine wp_seq (wp_region ?_);rw[z18,show List.range 4=List.range' 0 3++[3]from rfl];refine segP Bd.stable rp_hb rp_n rp_r18 (rp18 x g) (by rw[z18];decide) hA (λaH wH hH=>?_);rw[wpOps_cons];have hfew:=hx.few.2.2.1;refine clo_op (ts:=#[47]) (d:=70) (f:=67) (y:=69) (by unfold opIs;kernel_rfl) (by decide) hH rfl rfl hx.out hfew (by simp only[zM];omega) (λaI wI hI=>?_);show Code.wp _ _ _ aI wI;have z19:(rpO 19).size=2:=by kernel_rfl
 refine wp_seq (wp_region ?_);rw[z19,show List.range 2=0::(List.range' 1 1++[])from rfl,wpOps_cons];refine str_op (ts:=#[tyB]) (d:=71) (x:=3) (by unfold opIs;kernel_rfl) (by decide) hI rfl (λaJ wJ hJ=>?_);have hL:=hJ.trim Stable.none [71] [] (st':=⟨[(71,AV.v (.string (tx (repS x))))],[]⟩) (by unfold repS;kernel_rfl);refine segP Stable.none rp_hb rp_n rp_r19 (rp19 (tx (repS x))) (by rw[z19];decide) hL (λaM wM hM=>?_);obtain⟨S,κ,hg,_⟩:=hM.trim Stable.none [2] [] (st':=stT (repS x)) (by kernel_rfl);exact wp_ret ⟨rfl,S,κ,hg⟩
def rep_ok:CallOK zP (single 10 zOrc):=by
 refine ora (o:=oRep) (λargs=>by unfold zOrc;simp(decide:=true) only [if_false,if_true]) rp_enters (λargs r ms' hr=>?_);unfold oRep at hr;split at hr
 case h_2=>cases hr
 rename_i cs;split at hr
 case h_2=>cases hr
 rename_i x hd;split at hr
 case isFalse=>cases hr
 rename_i ho;injection hr with hr;injection hr with h1 h2;subst h1 h2;have he:=zlu.ok cs x hd;subst he;refine⟨rfl,λw S κ vals hvl hS hk hv=>?_⟩;have hf:zbp.P.funcs[10]?=some zbp.fn:=by kernel_rfl
 refine zwg (args:=[pJ x]) (ms:=[]) (frz:=false) (ex:=.ret) (st:=stT (repS x)) hf rp_hb (show 1<=zbp.fn.ntmps by decide) hvl hS hk hv (λb ent hb=>by simp[Ab.look]at hb) (λb b' g c c' hd=>by simp[Dm,Ab.look]at hd) (λid=>by simp) (λa hg=>?_) ?_ ?_ ?_
 .obtain⟨S,κ,hg⟩:=hg;exact rp_body ho ⟨S,κ,hg,trivial⟩
 .kernel_rfl
 .kernel_rfl
 .kernel_rfl
def c_Report{x:zcE}(hx:RepW x):cw 10 [.agg (zbY x)] []=some (zfz (tx (repS x))):=by
 refine zqS rep_ok ?_;have hd:zlu.dec (zbY x)=some x:=zlu.de x
 have e:oRep [.agg (zbY x)]=(match zlu.dec (zbY x)with
  |some x=>@ite _ (RepW x) (Classical.propDecidable _) (some (.v (.string (tx (repS x))),[])) none
  |none=>none):=rfl
 show oRep [.agg (zbY x)]=_;rw[e,hd];simp only;rw[if_pos hx];rfl
end
end Go.Proofs.YtcpnffbcljkbkaaGreatDoor
namespace Go.Proofs.YtcpnffbcljkbkaaGreatDoor
open Go.Ab Go.Str
set_option maxRecDepth 100000
def opA:GOp:=⟨0,⟨7,3,0⟩,⟨0,0,0,0,0,[],[]⟩,⟨⟨0,0,0⟩,0,0,0,0,0,[]⟩,⟨0,0⟩,⟨⟨0,0,0⟩,0,0,0⟩,[],0,0⟩
def opB:GOp:=⟨5,⟨0,0,0⟩,⟨0,0,0,0,0,[],[]⟩,⟨⟨0,0,0⟩,0,0,0,0,0,[]⟩,⟨0,0⟩,⟨⟨0,0,0⟩,0,0,0⟩,[70,60,50],5,0⟩
def opC:GOp:=⟨6,⟨0,0,0⟩,⟨0,0,0,0,0,[],[]⟩,⟨⟨0,0,0⟩,0,0,0,0,0,[]⟩,⟨0,0⟩,⟨⟨0,0,0⟩,0,0,0⟩,[],4,0⟩
def opD:GOp:=⟨7,⟨0,0,0⟩,⟨0,0,0,0,0,[],[]⟩,⟨⟨0,0,0⟩,0,0,0,0,0,[]⟩,⟨0,0⟩,⟨⟨0,0,0⟩,0,0,0⟩,[],5,0⟩
def s_A:parR [101,110,116,114,121,32,55,32,51,32,48]=(opA,0):=by kernel_rfl
def s_B:parR [98,111,117,110,100,115,32,53,32,55,48,44,54,48,44,53,48]=(opB,0):=by kernel_rfl
def s_E:parR [101,110,116,114,121,32,55,32,51]=(zOp,7):=by kernel_rfl
def s_R:readS [112,117,98,108,105,115,104,32,52,10,99,101,114,116,105,102,121,32,53,10]=([opC,opD],0,0):=by kernel_rfl
def itoa1{n:Nat}(h:n<10):Lib.itoa (n:Int)=[UInt8.ofNat (48+n)]:=by unfold Lib.itoa;rw[iNQ,Lib.decDigits,zae,dif_pos h]
def s_F:fmtR opA=([101,110,116,114,121,32,55,32,51,32,48],0):=by
 have h:OkO opA:=zvy ⟨by decide,by decide⟩ ⟨by decide,by decide⟩ ⟨by decide,by decide⟩
 have e:fmtS opA=some (lineS 0 opA):=by
  have hf:zfF opA=0:=zGt (by decide) rfl;unfold fmtS
  rw[hf,if_pos ⟨by decide,λp hp=>by
   simp only[zX,slotsC]at hp
   rcases hp with rfl|rfl|rfl<;>exact okN ⟨by decide,by decide⟩,rfl⟩]
 unfold fmtR;rw[e];have l:lineS 0 opA=Lib.join [kw 0,Lib.itoa (7:Nat),Lib.itoa (3:Nat),Lib.itoa (0:Nat)] [32]:=rfl;rw[l,itoa1 (by decide),itoa1 (by decide),itoa1 (by decide)];rfl
def s_O:outS ⟨3,0,1,6,0⟩=[51,32,103,114,97,100,101,32,49,32,54]:=by have l:outS ⟨3,0,1,6,0⟩=(Lib.itoa (3:Nat)++[32,103,114,97,100,101])++32::Lib.itoa (1:Nat)++32::Lib.itoa (6:Nat):=rfl;rw[l,itoa1 (by decide),itoa1 (by decide),itoa1 (by decide)];rfl
def c_sane:cw 5 [] []=some (zao true):=by
 refine zJU ?_;have hA:OpW opA:=(zvy (a:=7) (b:=3) (c:=0) ⟨by decide,by decide⟩ ⟨by decide,by decide⟩ ⟨by decide,by decide⟩).2;have w:∀{n:Int},(-1000<=n/\n<=1000)->W64 n:=λh=>by unfold W64;omega
 rw[show(zq2:ByteArray)=tx [101,110,116,114,121,32,55,32,51,32,48]from rfl,show(zv9:ByteArray)=tx [98,111,117,110,100,115,32,53,32,55,48,44,54,48,44,53,48]from rfl,show(zwa:ByteArray)=tx [101,110,116,114,121,32,55,32,51]from rfl,show(zwb:ByteArray)=tx [112,117,98,108,105,115,104,32,52,10,99,101,114,116,105,102,121,32,53,10]from rfl,show(zwc:ByteArray)=tx [51,32,103,114,97,100,101,32,49,32,54]from rfl,zBv (by decide),zki,zBv (by decide),zki,s_A,s_B];simp only;rw[c_Format hA,zyr,zBv (by decide),zki,s_E,s_F,c_Read (by decide),zAB,s_R,zs2 ⟨w (by decide),w (by decide),w (by decide),w (by decide)⟩,zcC,s_O];rfl
def zuN(n:Int):(10:UInt8) ∉ Lib.itoa n:=zAX (by decide) (by decide)
def zmh:∀(ns:aQ) (w:List UInt8),(10:UInt8) ∉ w->(10:UInt8) ∉ zgo w ns
 |[],w,h=>h
 |n::ns,w,h=>by
   rw[zvt];refine zmh ns _ ?_;intro hm;rcases zaX.1 hm with hm|hm
   .exact h hm
   . rcases zat.1 hm with hm|hm
     .cases hm
     .exact zuN n hm
def zA3{a b:List UInt8}(ha:(10:UInt8) ∉ a)(hb:(10:UInt8) ∉ b):(10:UInt8) ∉ a++b:=λhm=>(zaX.1 hm).elim ha hb
def no_nl_out(o:zbo):(10:UInt8) ∉ outS o:=by
 unfold outS;split
 .exact zmh _ _ (zA3 (zuN _) (by decide))
 split
 .exact zA3 (zuN _) (by decide)
 split
 .exact zmh _ _ (zA3 (zuN _) (by decide))
 .decide
def nlS(s:List UInt8):Nat:=s.count 10
def nl_app(a b:List UInt8):nlS (a++b)=nlS a+nlS b:=List.count_append
def nl_one{a:List UInt8}(h:(10:UInt8) ∉ a):nlS (a++[10])=1:=by rw[nl_app];unfold nlS;rw[List.count_eq_zero.2 h];rfl
def zBA{T:Type}(f:T->List UInt8)(k:T->Nat):∀l:List T,(∀x∈l,nlS (f x)=k x)->nlS (l.flatMap f)=(l.map k).sum
 |[],_=>rfl
 |x::l,h=>by rw[zem,nl_app,h x (by simp),zBA f k l (λy hy=>h y (by simp[hy]))];simp only[zbx];rw[List.sum_cons]
def zDZ{T:Type}:∀l:List T,(l.map λ_=>1).sum=l.length
 |[]=>rfl
 |x::l=>by simp only[zbx];rw[List.sum_cons,zDZ l,zaJ];omega
def nl_outs(l:List zbo):nlS (outsS l)=l.length:=by unfold outsS;rw[zBA _ (λ_=>1) l (λo _=>nl_one (no_nl_out o)),zDZ]
def nl_rep(x:zcE):nlS (repS x)=1+x.xj.length+x.y.length+(x.s.map λp=>1+p.y.length).sum:=by
 unfold repS
 have e1:nlS (x.s.flatMap pubS)=(x.s.map λp=>1+p.y.length).sum:=zBA _ _ _ (λp _=>by
  unfold pubS
  rw[nl_app,nl_one (zmh _ _ (by decide)),nl_outs])
 have e2:nlS (x.xj.flatMap logS)=x.xj.length:=by
  rw[zBA _ (λ_=>1) _ (λe _=>by
   unfold logS;refine nl_one ?_;split
   .exact zmh _ _ (by decide)
   .exact zmh _ _ (by decide)),zDZ]
 rw[nl_app,nl_app,nl_app,e1,e2,nl_outs,show nlS [110,111,119,10]=1 from rfl];omega
def out_head{o:zbo}(h:o.k=0\/o.k=1\/o.k=2):∃t,outS o=Lib.itoa o.b++32::t:=by
 have joined_head:∀(ns:aQ) (w:List UInt8) (c:List UInt8) (t:List UInt8),w=c++32::t->∃u,zgo w ns=c++32::u:=by
  intro ns
  induction ns with
  |nil=>intro w c t h;exact⟨t,h⟩
  |cons n ns ih=>intro w c t h;rw[zvt];exact ih _ c (t++32::Lib.itoa n) (by rw[h];simp)
 unfold outS;rcases h with h|h|h<;>rw[h]
 .rw[if_pos rfl];exact joined_head _ _ _ [103,114,97,100,101] rfl
 .rw[if_neg (by decide),if_pos rfl];exact⟨[97,98,115,101,110,116],rfl⟩
 .rw[if_neg (by decide),if_neg (by decide),if_pos rfl];exact joined_head _ _ _ [112,101,110,100,105,110,103] rfl
def zGj:∀(a b c d:List UInt8),(32:UInt8) ∉ a->(32:UInt8) ∉ b->a++32::c=b++32::d->a=b
 |[],[],_,_,_,_,_=>rfl
 |[],y::b,c,d,_,hb,h=>by simp only[zhq,zfQ,zap]at h;exact absurd (by simp[h.1]) hb
 |x::a,[],c,d,ha,_,h=>by simp only[zhq,zfQ,zap]at h;exact absurd (by simp[h.1]) ha
 |x::a,y::b,c,d,ha,hb,h=>by simp only[zfQ,zap]at h;rw[h.1,zGj a b c d (λhm=>ha (by simp[hm])) (λhm=>hb (by simp[hm])) h.2]
def itoa_inj{a b:Int}(ha:fits a)(hb:fits b)(h:Lib.itoa a=Lib.itoa b):a=b:=by have h1:numS (Lib.itoa a)=if fits a then some a else none:=zGL a;have h2:numS (Lib.itoa b)=if fits b then some b else none:=zGL b;rw[if_pos ha]at h1;rw[if_pos hb,<-h,h1]at h2;injection h2
def out_differ{o p:zbo}(h1:o.k=0\/o.k=1\/o.k=2)(h2:p.k=0\/p.k=1\/p.k=2)(f1:fits o.b)(f2:fits p.b)(hc:o.b≠p.b):outS o≠outS p:=by intro h;obtain⟨t,e1⟩:=out_head h1;obtain⟨u,e2⟩:=out_head h2;rw[e1,e2]at h;exact hc (itoa_inj f1 f2 (zGj _ _ _ _ (zAX (by decide) (by decide)) (zAX (by decide) (by decide)) h))
set_option maxRecDepth 100000
def zBz{T:Type}(f:T->List UInt8)(B:Nat):∀l:List T,(∀x∈l,(f x).length<=B)->(l.flatMap f).length<=B*l.length
 |[],_=>by simp
 |x::l,h=>by have h1:=h x (zdy ..);have h2:=zBz f B l (λy hy=>h y (zbG _ hy));rw[zem,zaW,zaJ,Nat.mul_add];omega
def OkU.outW{o:zbo}(h:OkU o):OutW o:=by unfold OkU at h;unfold OutW W64;omega
def outs_le{l:List zbo}(h:OkOs l):(outsS l).length<=201*60:=by
 have:=zBz (λo=>outS o++[10]) 201 l (λo ho=>by
  have:=zDS (h.2.1 o ho).outW;simp only[zM]
  omega)
 have h60:=h.1;unfold outsS;omega
def zGR{x:zcE}(h:RepOk x):RepW x:=by
 have hp:=h.pub;have hg:=h.log;have ho:=h.out;refine⟨λp hp'=>⟨(hp.2 p hp').1,(hp.2 p hp').2.1,λo ho'=>((hp.2 p hp').2.2.2.1 o ho').outW⟩,λe he=>hg.2 e he,λo ho'=>(ho.2.1 o ho').outW,?_,by have:=hp.1;omega,by have:=hg.1;omega,by have:=ho.1;omega,λp hp'=>by have:=(hp.2 p hp').2.2.1;omega⟩
 have h1:=zBz pubS 20000 x.s (λp hp'=>by
  have q:=hp.2 p hp';have h2:=outs_le q.2.2
  have h3:=ziE [p.At,p.p] [112,117,98,108,105,115,104,101,100] (λn hn=>by
   simp only[zH,zcF]at hn;rcases hn with rfl|rfl
   .exact q.1
   .exact q.2.1)
  unfold pubS;simp only[zM]at h3 ⊢
  omega)
 have h2:=zBz logS 1000 x.xj (λe he=>by
  have q:=hg.2 e he;unfold logS;split
  . have h3:=ziE [e.a.ID,e.a.b,e.a.R,e.a.p,e.a.K] [105,115,115,117,101] (λn hn=>by
     simp only[zH,zcF]at hn;rcases hn with rfl|rfl|rfl|rfl|rfl
     .exact q.1
     .exact q.2.1
     .exact q.2.2.1
     .exact q.2.2.2.1
     .exact q.2.2.2.2)
    simp only[zM]at h3 ⊢;omega
  . have h3:=ziE [e.a.ID,e.a.p] [114,101,118,111,107,101] (λn hn=>by
     simp only[zH,zcF]at hn;rcases hn with rfl|rfl
     .exact q.1
     .exact q.2.2.2.1)
    simp only[zM]at h3 ⊢
    omega)
 have h3:=outs_le ho;have h4:=hp.1;have h5:=hg.1;unfold repS;simp only[zM];have h6:20000*x.s.length<=20000*1000:=zeE _ h4;have h7:1000*x.xj.length<=1000*256:=zeE _ h5;omega
section
variable(a b:zbo)(x:zcE)(hx:RepOk x)(hA:OutW a)(hB:OutW b)
include hA hB
def k_last(n:Int)(f:Bool)(hf:f=true->a=b):zd9 a b n n f=some (zao true):=by
 refine zti ?_;rw[beq_self_eq_true,zaM,c_sane]
 cases f with
 |false=>rw[zbe,zaM,zaG];rfl
 |true=>have:=hf rfl;subst this;rw[zaS,zaB,zs2 hA,zcC,zcC,tx_beq,decide_eq_true rfl,zaM,zaG];rfl
include hx
def k_pairs(n:Int):zf7 a b (x,0) n n 0=some (zao true):=by
 have h60:=hx.out.1;have hu:=hx.out.2.1
 have asc:∀d i:Nat,∀(h:i+d+1<x.y.length),(x.y[i]'(by omega)).b<x.y[i+d+1].b:=by
  intro d
  induction d with
  |zero=>intro i h;exact hx.out.2.2 (i+1) h (by omega)
  |succ d ih=>intro i h;have h1:=ih i (by omega);have h2:=hx.out.2.2 (i+d+1+1) (by omega) (by omega);simp only[Nat.add_sub_cancel]at h2;exact Int.lt_trans h1 h2
 have loop:∀k i:Nat,i+k=x.y.length->zf7 a b (x,0) n n i=some (zao true):=by
  intro k
  induction k with
  |zero =>
    intro i hi;refine zoM ?_;rw[zaC (by rw[zab];dsimp only;omega)];have no:=k_last a b hA hB n false (λh=>by cases h)
    cases h1:a.b==b.b with
    |false=>rw[zaB];exact no
    |true =>
    cases h2:a.k==b.k with
    |false=>rw[zaM,zaB];exact no
    |true =>
    cases h3:a.R==b.R with
    |false=>rw[zaM,zaM,zaB];exact no
    |true =>
    cases h4:a.xe==b.xe with
    |false=>rw[zaM,zaM,zaM,zaB];exact no
    |true =>
    rw[zaM,zaM,zaM,zaM];refine k_last a b hA hB n _ (λh5=>?_);obtain⟨a1,a2,a3,a4,a5⟩:=a;obtain⟨b1,b2,b3,b4,b5⟩:=b;simp only[beq_iff_eq]at h1 h2 h3 h4 h5;subst h1 h2 h3 h4 h5;rfl
  |succ k ih =>
    intro i hi;have hlt:i<x.y.length:=by omega
    have nx:=ih (i+1) (by omega);rw[show((i+1:Nat):Int)=(i:Int)+1 by omega]at nx
    have inner:∀q j:Nat,j+q=i->zhz a b (x,0) n n i x.y[i] j=some (zao true):=by
     intro q
     induction q with
     |zero=>intro j hj;refine zoN ?_;rw[zaC (by omega),w6Q];exact nx
     |succ q ihq =>
       intro j hj;have hjl:j<x.y.length:=by omega
       have h:=asc (i-j-1) j (by omega);have e:j+(i-j-1)+1=i:=by omega
       simp only[e]at h;have u1:=hu _ (zaq hlt);have u2:=hu _ (zaq hjl);have hd:=out_differ (o:=x.y[i]) (p:=x.y[j]) (by unfold OkU at u1;omega) (by unfold OkU at u2;omega) (by unfold OkU at u1;unfold fits;omega) (by unfold OkU at u2;unfold fits;omega) (by omega);refine zoN ?_;rw[zaz (by omega),zs2 u1.outW,zcC,cPQ,zjT,zae];simp only;rw[zaa hjl,zad,zs2 u2.outW,zcC,tx_beq,decide_eq_false hd,zaB,w6Q,show(j:Int)+1=((j+1:Nat):Int)by omega];exact ihq (j+1) (by omega)
    refine zoM ?_;rw[zaz (by rw[zab];dsimp only;omega),cPQ,zjT,zae];simp only;rw[zaa hlt,zad];exact inner i 0 (by omega)
 exact loop x.y.length 0 (by omega)
def k_lines(n:Int)(hn:n=(nlS (repS x):Nat)):zfg a b (x,0) n (tx (repS x)) 0 0=some (zao true):=by
 have hs:=(zGR hx).size;generalize hl:repS x=l at hn hs
 have loop:∀k i:Nat,i+k=l.length->zfg a b (x,0) n (tx l) (nlS (l.take i):Nat) i=some (zao true):=by
  intro k
  induction k with
  |zero=>intro i hi;refine zoL ?_;rw[zaC (by rw[zdI];omega),zar (by omega),<-hn];exact k_pairs a b x hx hA hB n
  |succ k ih =>
    intro i hi;have hlt:i<l.length:=by omega
    have nx:=ih (i+1) (by omega)
    have hc:nlS (l.take i)<=i:=by have:=List.count_le_length (a:=(10:UInt8)) (l:=l.take i);rw[zcH]at this;unfold nlS;omega
    have hsn:nlS (l.take (i+1))=nlS (l.take i)+if l[i]=10 then 1 else 0:=by rw[zgh hlt,nl_app];unfold nlS;rw[List.count_cons,List.count_nil,zaI];congr 1;simp
    rw[hsn]at nx;refine zoL ?_;rw[zaz (by rw[zdI];omega),cPQ,zam (by rw[zdI];omega),zDY hlt];by_cases h:l[i]=10
    .rw[if_pos h]at nx;rw[h,show(((10:UInt8).toNat:Int)==10)=true from rfl,zaM,w6Q,w6Q,show((nlS (l.take i):Nat):Int)+1=((nlS (l.take i)+1:Nat):Int)by omega,show(i:Int)+1=((i+1:Nat):Int)by omega];exact nx
    . rw[if_neg h,zfe]at nx
      have:((l[i].toNat:Int)==10)=false:=by rw[beq_eq_false_iff_ne];intro hh;exact h (UInt8.toNat_inj.1 (by show l[i].toNat=10;omega))
      rw[this,zaB,w6Q,show(i:Int)+1=((i+1:Nat):Int)by omega];exact nx
 exact loop l.length 0 (by omega)
def k_want:zf6 a b (x,0) ((1+x.xj.length+x.y.length:Nat):Int) 0=some (zao true):=by
 have hp:=hx.pub;have hg:=hx.log.1;have ho:=hx.out.1
 have bd:∀l:List zc8,(∀p∈l,OkOs p.y)->(l.map λp=>1+p.y.length).sum<=61*l.length:=by
  intro l
  induction l with
  |nil=>intro _;simp
  |cons p l ih=>intro h;have h1:=(h p (zdy ..)).1;have h2:=ih (λq hq=>h q (zbG _ hq));simp only[zbx,List.sum_cons,zaJ,Nat.mul_add];omega
 have loop:∀k i:Nat,i+k=x.s.length->zf6 a b (x,0) ((1+x.xj.length+x.y.length+((x.s.take i).map λp=>1+p.y.length).sum:Nat):Int) i=some (zao true):=by
  intro k
  induction k with
  |zero=>intro i hi;refine zoK ?_;rw[zaC (by rw[zab];dsimp only;omega)];simp only;rw[c_Report (zGR hx),zcC];exact k_lines a b x hx hA hB _ (by rw[nl_rep,zar (by omega)])
  |succ k ih =>
    intro i hi;have hlt:i<x.s.length:=by omega
    have nx:=ih (i+1) (by omega);have b1:=bd (x.s.take i) (λp hp'=>(hp.2 p (zb7 hp')).2.2);rw[zcH]at b1;have b2:=(hp.2 _ (zaq hlt)).2.2.1
    have e:((x.s.take (i+1)).map λp=>1+p.y.length).sum=((x.s.take i).map λp=>1+p.y.length).sum+(1+x.s[i].y.length):=by rw[zgh hlt];simp only[zct];rw[List.sum_append];rfl
    rw[e]at nx;refine zoK ?_;rw[zaz (by rw[zab];dsimp only;omega),cPQ,zoj,zae];simp only;rw[zaa hlt,zad,zab];have hp1:=hp.1;generalize ((x.s.take i).map λp=>1+p.y.length).sum=S at b1 nx ⊢;rw[w6Q (n:=(1:Int)+(x.s[i].y.length:Nat)),w6Q,w6Q,show(i:Int)+1=((i+1:Nat):Int)by omega];have e2:((1+x.xj.length+x.y.length+S:Nat):Int)+(1+(x.s[i].y.length:Nat))=((1+x.xj.length+x.y.length+(S+(1+x.s[i].y.length)):Nat):Int):=by omega
    rw[e2];exact nx
 have:=loop x.s.length 0 (by omega);simpa using this
end
def opsS_of{l:aU}(h:OkOps l)(hl:l.length<=100):OpsS l/\∀o∈l,o.W.length<=1000:=by
 refine⟨⟨by omega,λq hq=>?_⟩,λq hq=>?_⟩
 .have h:=(h q hq).2;exact⟨(h.list 9).1,(h.list 10).1,(h.list 19).1,h.num 29,h.num 30⟩
 .exact((h q hq).2.list 28).1
def zLr(t:aQ)(a b:zbo)(hA:OutW a)(hB:OutW b):cw 3 [.sl 1 (List.map zaj t),.agg (za8 a),.agg (za8 b)] []=some (zao true):=by
 refine zxb ?_;rw[c_Light,zaG];by_cases h0:(t.length:Int)<=600
 rotate_left
 .rw[decide_eq_false h0,zbe,zaM,c_sane,zaG];rfl
 rw[decide_eq_true h0,zaS,zaB,c_Roll,zEA];have hd:DOk ⟨t,0⟩:=⟨zgk 0,by show t.length<=600;omega⟩
 obtain⟨r,d0,e0,hr,hd0⟩:=c_Rules ⟨t,0⟩ hd;obtain⟨l,d1,e1,ho1,hl1,hd1⟩:=c_Ops d0 r 10 hd0 hr (by decide);obtain⟨hs,hb⟩:=opsS_of ho1 hl1;obtain⟨⟨x,e⟩,ex,hx⟩:=s_Run r hr l hs hb;rw[e0,zxL];simp only;rw[show(10:Int)=((10:Nat):Int)from rfl,e1,zzM];simp only;rw[cPQ,zbn,ex,zEB];simp only;by_cases he:e=0
 . subst he;rw[bne_self_eq_false,zaB,zab,zab];have hg:=hx.log.1;have ho:=hx.out.1;simp only at hg ho;rw[w6Q (n:=(1:Int)+(x.xj.length:Nat)),w6Q];have:=k_want a b x hx hA hB
   rwa[show((1+x.xj.length+x.y.length:Nat):Int)=1+(x.xj.length:Int)+(x.y.length:Int)by omega]at this
 .rw[show(e !=0)=true by simpa using he,zaM,c_sane,zaG];rfl
end Go.Proofs.YtcpnffbcljkbkaaGreatDoor
end
